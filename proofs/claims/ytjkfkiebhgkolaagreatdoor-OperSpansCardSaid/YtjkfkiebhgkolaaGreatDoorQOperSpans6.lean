/- The row of a law out of its contract and its pure theorem. No condition. -/
import Derived.Laws.Cover4
import Derived.Test.YtjkfkiebhgkolaaGreatDoorRows
import Derived.Lib.LaidU8
import Derived.MakeChecks
import Derived.Test.YtjkfkiebhgkolaaGreatDoorRows
import Derived.Test.YtjkfkiebhgkolaaGreatDoorTie
import Derived.Test.YtjkfkiebhgkolaaGreatDoorCards
import Derived.LaidMore
import Derived.Lay
import Derived.Stop.Joined
import Derived.SevenTiedAt
import Derived.ProofKit
import Derived.ShutString
import Derived.ChangeOld
import Derived.Carry
import Derived.Test.YtjkfkiebhgkolaaGreatDoorQOperSpans5
section
namespace Go.Proofs.YtjkfkiebhgkolaaGreatDoor.PB
open Go.RowKit Go.Maps Go.Proofs.YtjkfkiebhgkolaaGreatDoorW.PrintWords Go.Proofs.YtjkfkiebhgkolaaGreatDoorW.PrintLast Go.Proofs.YtjkfkiebhgkolaaGreatDoorW.PrintMore
set_option maxRecDepth 100000
set_option linter.unusedVariables false
set_option linter.unusedSimpArgs false
theorem often_eq (n : Int) : oper_often.f n = some (oftenN n : Int) := by
  unfold oper_often.f
  congr 1
  unfold mn mx oftenN
  omega
theorem often_range (n : Int) : 1 ≤ oftenN n ∧ oftenN n ≤ 999 := by unfold oftenN; omega
def mayB (k : Int) : Bool := decide ((1 ≤ k ∧ k ≤ 27) ∨ (32 ≤ k ∧ k ≠ 127 ∧ Lib.validRune k = true))
theorem may_eq (k : Int) : keys_May.f k = some (mayB k) := by
  unfold keys_May.f mayB utf8_ValidRune.f
  by_cases h1 : k ≥ 1
  · rw [if_pos h1]
    by_cases h2 : k ≤ 27
    · rw [if_pos h2, decide_eq_true (.inl ⟨h1, h2⟩)]
    · rw [if_neg h2]
      by_cases h3 : k ≥ 32
      · rw [if_pos h3]
        by_cases h4 : k = 127
        · rw [if_pos h4, decide_eq_false (by rintro (h | h); exact h2 h.2; exact h.2.1 h4)]
        · rw [if_neg h4]
          show some (Lib.validRune k) = _
          cases hv : Lib.validRune k with
          | true => rw [decide_eq_true (.inr ⟨h3, h4, rfl⟩)]
          | false => rw [decide_eq_false (by rintro (h | h); exact h2 h.2; exact absurd h.2.2 (by simp))]
      · rw [if_neg h3, decide_eq_false (by rintro (h | h); exact h2 h.2; exact h3 h.1)]
  · rw [if_neg h1, if_neg (by omega), decide_eq_false (by rintro (h | h) <;> omega)]
theorem mayK_iff (k : Int) : mayK k = true ↔ mayB k = true ∧ 32 ≤ k := by
  unfold mayK mayB
  simp only [Bool.and_eq_true, decide_eq_true_eq]
  constructor
  · rintro ⟨h1, h2, h3⟩
    exact ⟨.inr ⟨h1, h2, h3⟩, h1⟩
  · rintro ⟨h | h, h2⟩
    · omega
    · exact ⟨h2, h.2.1, h.2.2⟩
def oper_Swap.f (a0_0 : ByteArray) (l0_1 : List S68) (a1 a2 a3 a4 : Int) : Option OX := if l0_1.length ≤ big then some (swapS a0_0 l0_1 a1 a2 a3 a4) else none
set_option maxHeartbeats 2000000 in
theorem oper_Swap.calls (s : ByteArray) (A : Option Addr) (c : Nat) (l : List S68) (y at_ n k : Int) (r1 : Int) (r2 : ByteArray) (r3 : List S68) (r4 : ByteArray) (r5 : List S68) (r6 : ByteArray) (r7 : List S68) (r8 r9 : Bool) (r10 r11 : Int) (w : World) (hMX : NumOk w) (hr : Kd.C k68 w A l.length l) (hc : l.length ≤ c) (h : oper_Swap.f s l y at_ n k = some (r1, r2, r3, r4, r5, r6, r7, r8, r9, r10, r11)) :
    Calls Tryz.prog 15 #[.agg #[.string s, .slice A l.length c], .int .u64 y, .int .i64 at_, .int .i64 n, .int .i32 k] w fun e w' => ∃ v2 v4 v6 : Value, e = .returned (.tuple #[.agg #[.int .i64 r1, .string r2, v2, .string r4, v4, .string r6, v6, .bool r8, .bool r9, .int .i64 r10], .int .i64 r11]) ∧ Kd.R k68 68 w' w.heap.size (fun k_ => some k_ ≠ (v4 : Value).ownBlock ∧ some k_ ≠ (v6 : Value).ownBlock) v2 r3 ∧ Kd.R k68 68 w' w.heap.size (fun k_ => some k_ ≠ (v2 : Value).ownBlock ∧ some k_ ≠ (v6 : Value).ownBlock) v4 r5 ∧ Kd.R k68 68 w' w.heap.size (fun k_ => some k_ ≠ (v2 : Value).ownBlock ∧ some k_ ≠ (v4 : Value).ownBlock) v6 r7 ∧ Below w.heap.size w w' := by
  unfold oper_Swap.f at h
  split at h
  case isFalse => cases h
  rename_i hl
  have hD := Option.some.inj h
  have hvz := view_small s l y
  obtain ⟨kv, hk⟩ := (view_ev s l hl y).rounds
  unfold swapS at hD
  generalize viewS s l y = vv at hk hD hvz
  obtain ⟨v, er⟩ := vv
  dsimp only at hD hvz
  have HRC := aM hr
  have HCC := aM hc
  have HL := aM hl
  have HF := aM hk
  have HM := aM hMX
  have HV := aM hvz
  clear h hr hc hl hk hMX hvz
  by_cases he : er = 0
  · subst he
    have HMB := aM (may_eq k)
    cases hmb : mayB k with
    | false =>
      rw [if_neg (fun hh => by have := ((mayK_iff k).1 hh.2).1; rw [hmb] at this; cases this)] at hD
      rw [hmb] at HMB
      unfold noO at hD
      simp only [Prod.mk.injEq] at hD
      obtain ⟨rfl, rfl, rfl, rfl, rfl, rfl, rfl, rfl, rfl, rfl, rfl⟩ := hD
      go_enter Tryz.func15, Tryz.ntmps15
      go_wp2_with (first
        | ((with_reducible refine gate_dst (N := 5) rfl ?_); refine box_event ?hg (N := 5) ?hd (cs := #[.string s, .slice A l.length c]) (t := 24) ?hr ?_; (case hd => rfl); (case hg => rfl); (case hr => first | (go_simp; done) | (go_simp; rfl)); intro gx hg W1 hbox hb; have Ggx := aM (show w.heap.size ≤ gx from by rw [hg]; exact Nat.le_refl _); have HB := aM hb; have BX := aM hbox; clear hb hbox hg)
        | ((with_reducible refine gate_dst (N := 10) rfl ?_); refine box_event ?hg (N := 10) ?hd (cs := #[.int .i64 0, .string ⟨#[]⟩, .slice none 0 0, .string ⟨#[]⟩, .slice none 0 0, .string ⟨#[]⟩, .slice none 0 0, .bool false, .bool false, .int .i64 0]) (t := 38) ?hr ?_; (case hd => rfl); (case hg => rfl); (case hr => first | (go_simp; done) | (go_simp; rfl)); intro go hg W2 hbox hb; have Ggo := aM (show w.heap.size ≤ go from by rw [hg]; exact HB.out.size); have Ngogx := aM (show go ≠ gx from by have := blk_lt BX.out; omega); replace HB := aM (bP HB.out hb); replace BX := aM (bB BX.out hb); have BO := aM hbox; clear hb hbox hg; replace hx0 := (bC BX.out 0).trans (rfl : _ = some (Value.string s)); replace hx1 := (bC BX.out 1).trans (rfl : _ = some (Value.slice A l.length c)))
        | ((with_reducible refine gate_callee (f := 29) rfl ?_); refine goesL_ (some 26) rfl rfl Tryz.func29 (by kernel_rfl) rfl #[.agg #[.string s, .slice A l.length c], .int .u64 y] rfl (by (try simp only [List.map_toArray, List.map_cons, List.map_nil]); first | done | rfl) ?_; (with_reducible refine (open_ok kv HL.out (cB_ HRC.out HB.out) HCC.out 0 HF.out).mono ?_); rintro e W3 ⟨g, rfl, hD0, hb⟩; have HD := aM (hD0); have LW := aM (HB.out.size); replace HB := aM (bP HB.out hb); replace BX := aM (bB BX.out hb); replace BO := aM (bB BO.out hb); refine ⟨_, rfl, ?_⟩; clear hb; replace ho0 := (bC BO.out 0).trans (rfl : _ = some (Value.int .i64 0)); replace ho1 := (bC BO.out 1).trans (rfl : _ = some (Value.string ⟨#[]⟩)); replace ho2 := (bC BO.out 2).trans (rfl : _ = some (Value.slice none 0 0)); replace ho3 := (bC BO.out 3).trans (rfl : _ = some (Value.string ⟨#[]⟩)); replace ho4 := (bC BO.out 4).trans (rfl : _ = some (Value.slice none 0 0)); replace ho5 := (bC BO.out 5).trans (rfl : _ = some (Value.string ⟨#[]⟩)); replace ho6 := (bC BO.out 6).trans (rfl : _ = some (Value.slice none 0 0)); replace ho7 := (bC BO.out 7).trans (rfl : _ = some (Value.bool false)); replace ho8 := (bC BO.out 8).trans (rfl : _ = some (Value.bool false)); replace ho9 := (bC BO.out 9).trans (rfl : _ = some (Value.int .i64 0)); replace ho0f := bF BO.out 0; replace ho1f := bF BO.out 1; replace ho2f := bF BO.out 2; replace ho3f := bF BO.out 3; replace ho4f := bF BO.out 4; replace ho5f := bF BO.out 5; replace ho6f := bF BO.out 6; replace ho7f := bF BO.out 7; replace ho8f := bF BO.out 8; replace ho9f := bF BO.out 9)
        | ((with_reducible refine gate_callee (f := 42) rfl ?_); refine gate_guard (by rfl) ?_; refine goesL_ (some 33) rfl rfl Tryz.func42 (by kernel_rfl) rfl #[.int .i32 k] rfl (by (try simp only [List.map_toArray, List.map_cons, List.map_nil]); first | done | rfl) ?_; (with_reducible refine (keys_May.calls k false _ HMB.out).mono ?_); rintro e W4 ⟨rfl, hb⟩; replace HB := aM (bP HB.out hb); replace BX := aM (bB BX.out hb); replace BO := aM (bB BO.out hb); replace HD := aM (HD.out.below hb); refine ⟨_, rfl, ?_⟩; clear hb; replace ho0 := (bC BO.out 0).trans (rfl : _ = some (Value.int .i64 0)); replace ho1 := (bC BO.out 1).trans (rfl : _ = some (Value.string ⟨#[]⟩)); replace ho2 := (bC BO.out 2).trans (rfl : _ = some (Value.slice none 0 0)); replace ho3 := (bC BO.out 3).trans (rfl : _ = some (Value.string ⟨#[]⟩)); replace ho4 := (bC BO.out 4).trans (rfl : _ = some (Value.slice none 0 0)); replace ho5 := (bC BO.out 5).trans (rfl : _ = some (Value.string ⟨#[]⟩)); replace ho6 := (bC BO.out 6).trans (rfl : _ = some (Value.slice none 0 0)); replace ho7 := (bC BO.out 7).trans (rfl : _ = some (Value.bool false)); replace ho8 := (bC BO.out 8).trans (rfl : _ = some (Value.bool false)); replace ho9 := (bC BO.out 9).trans (rfl : _ = some (Value.int .i64 0)); replace ho0f := bF BO.out 0; replace ho1f := bF BO.out 1; replace ho2f := bF BO.out 2; replace ho3f := bF BO.out 3; replace ho4f := bF BO.out 4; replace ho5f := bF BO.out 5; replace ho6f := bF BO.out 6; replace ho7f := bF BO.out 7; replace ho8f := bF BO.out 8; replace ho9f := bF BO.out 9)
        )
      clear HD
      generalize hN : ((((((((((W4.setCell ⟨go, 0, none⟩ (.int .i64 0)).setCell ⟨go, 1, none⟩ (.string ⟨#[]⟩)).setCell ⟨go, 2, none⟩ (.slice none 0 0)).setCell ⟨go, 3, none⟩ (.string ⟨#[]⟩)).setCell ⟨go, 4, none⟩ (.slice none 0 0)).setCell ⟨go, 5, none⟩ (.string ⟨#[]⟩)).setCell ⟨go, 6, none⟩ (.slice none 0 0)).setCell ⟨go, 7, none⟩ (.bool false)).setCell ⟨go, 8, none⟩ (.bool false)).setCell ⟨go, 9, none⟩ (.int .i64 0)) = W5
      have eN : W5 = putL W4 go 0 [.int .i64 0, .string ⟨#[]⟩, .slice none 0 0, .string ⟨#[]⟩, .slice none 0 0, .string ⟨#[]⟩, .slice none 0 0, .bool false, .bool false, .int .i64 0] := by rw [← hN]; simp only [putL]
      have HB' := aM (show Below w.heap.size w W5 from by rw [eN]; exact below_sets Ggo.out [.int .i64 0, .string ⟨#[]⟩, .slice none 0 0, .string ⟨#[]⟩, .slice none 0 0, .string ⟨#[]⟩, .slice none 0 0, .bool false, .bool false, .int .i64 0] 0 _ HB.out)
      have BX' := aM (show W5.heap[gx]? = some (.cells #[.string s, .slice A l.length c] 24 (0, 0)) from by rw [eN]; exact blk_sets_far Ngogx.out.symm [.int .i64 0, .string ⟨#[]⟩, .slice none 0 0, .string ⟨#[]⟩, .slice none 0 0, .string ⟨#[]⟩, .slice none 0 0, .bool false, .bool false, .int .i64 0] 0 _ BX.out)
      have BO' := aM (show W5.heap[go]? = some (.cells #[.int .i64 0, .string ⟨#[]⟩, .slice none 0 0, .string ⟨#[]⟩, .slice none 0 0, .string ⟨#[]⟩, .slice none 0 0, .bool false, .bool false, .int .i64 0] 38 (0, 0)) from by rw [eN, blk_sets [.int .i64 0, .string ⟨#[]⟩, .slice none 0 0, .string ⟨#[]⟩, .slice none 0 0, .string ⟨#[]⟩, .slice none 0 0, .bool false, .bool false, .int .i64 0] 0 _ _ BO.out]; simp only [setsL, List.setIfInBounds_toArray, List.set_cons_zero, List.set_cons_succ])
      clear hN eN  HB BX BO ho0 ho1 ho2 ho3 ho4 ho5 ho6 ho7 ho8 ho9 ho0f ho1f ho2f ho3f ho4f ho5f ho6f ho7f ho8f ho9f
      have HB := HB'
      have BX := BX'
      have BO := BO'
      clear HB' BX' BO'
      refine bodyPost_ret (results_ct rfl _ _ go 38 #[.int .i64 0, .string ⟨#[]⟩, .slice none 0 0, .string ⟨#[]⟩, .slice none 0 0, .string ⟨#[]⟩, .slice none 0 0, .bool false, .bool false, .int .i64 0] (0, 0) _ rfl BO.out Tryz.underlying38 rfl (by kernel_rfl)) rfl ?_
      exact ⟨_, _, _, rfl, Kd.R_nil _ _ _ _ _, Kd.R_nil _ _ _ _ _, Kd.R_nil _ _ _ _ _, HB.out⟩
    | true =>
      rw [hmb] at HMB
      by_cases hk : k < 32
      · rw [if_neg (fun hh => by have := ((mayK_iff k).1 hh.2).2; omega)] at hD
        have q1 : (k < 32) = True := eq_true hk
        unfold noO at hD
        simp only [Prod.mk.injEq] at hD
        obtain ⟨rfl, rfl, rfl, rfl, rfl, rfl, rfl, rfl, rfl, rfl, rfl⟩ := hD
        go_enter Tryz.func15, Tryz.ntmps15
        go_wp2_with (first
          | ((with_reducible refine gate_dst (N := 5) rfl ?_); refine box_event ?hg (N := 5) ?hd (cs := #[.string s, .slice A l.length c]) (t := 24) ?hr ?_; (case hd => rfl); (case hg => rfl); (case hr => first | (go_simp; done) | (go_simp; rfl)); intro gx hg W1 hbox hb; have Ggx := aM (show w.heap.size ≤ gx from by rw [hg]; exact Nat.le_refl _); have HB := aM hb; have BX := aM hbox; clear hb hbox hg)
          | ((with_reducible refine gate_dst (N := 10) rfl ?_); refine box_event ?hg (N := 10) ?hd (cs := #[.int .i64 0, .string ⟨#[]⟩, .slice none 0 0, .string ⟨#[]⟩, .slice none 0 0, .string ⟨#[]⟩, .slice none 0 0, .bool false, .bool false, .int .i64 0]) (t := 38) ?hr ?_; (case hd => rfl); (case hg => rfl); (case hr => first | (go_simp; done) | (go_simp; rfl)); intro go hg W2 hbox hb; have Ggo := aM (show w.heap.size ≤ go from by rw [hg]; exact HB.out.size); have Ngogx := aM (show go ≠ gx from by have := blk_lt BX.out; omega); replace HB := aM (bP HB.out hb); replace BX := aM (bB BX.out hb); have BO := aM hbox; clear hb hbox hg; replace hx0 := (bC BX.out 0).trans (rfl : _ = some (Value.string s)); replace hx1 := (bC BX.out 1).trans (rfl : _ = some (Value.slice A l.length c)))
          | ((with_reducible refine gate_callee (f := 29) rfl ?_); refine goesL_ (some 26) rfl rfl Tryz.func29 (by kernel_rfl) rfl #[.agg #[.string s, .slice A l.length c], .int .u64 y] rfl (by (try simp only [List.map_toArray, List.map_cons, List.map_nil]); first | done | rfl) ?_; (with_reducible refine (open_ok kv HL.out (cB_ HRC.out HB.out) HCC.out 0 HF.out).mono ?_); rintro e W3 ⟨g, rfl, hD0, hb⟩; have HD := aM (hD0); have LW := aM (HB.out.size); replace HB := aM (bP HB.out hb); replace BX := aM (bB BX.out hb); replace BO := aM (bB BO.out hb); refine ⟨_, rfl, ?_⟩; clear hb; replace ho0 := (bC BO.out 0).trans (rfl : _ = some (Value.int .i64 0)); replace ho1 := (bC BO.out 1).trans (rfl : _ = some (Value.string ⟨#[]⟩)); replace ho2 := (bC BO.out 2).trans (rfl : _ = some (Value.slice none 0 0)); replace ho3 := (bC BO.out 3).trans (rfl : _ = some (Value.string ⟨#[]⟩)); replace ho4 := (bC BO.out 4).trans (rfl : _ = some (Value.slice none 0 0)); replace ho5 := (bC BO.out 5).trans (rfl : _ = some (Value.string ⟨#[]⟩)); replace ho6 := (bC BO.out 6).trans (rfl : _ = some (Value.slice none 0 0)); replace ho7 := (bC BO.out 7).trans (rfl : _ = some (Value.bool false)); replace ho8 := (bC BO.out 8).trans (rfl : _ = some (Value.bool false)); replace ho9 := (bC BO.out 9).trans (rfl : _ = some (Value.int .i64 0)); replace ho0f := bF BO.out 0; replace ho1f := bF BO.out 1; replace ho2f := bF BO.out 2; replace ho3f := bF BO.out 3; replace ho4f := bF BO.out 4; replace ho5f := bF BO.out 5; replace ho6f := bF BO.out 6; replace ho7f := bF BO.out 7; replace ho8f := bF BO.out 8; replace ho9f := bF BO.out 9)
          | ((with_reducible refine gate_callee (f := 42) rfl ?_); refine gate_guard (by rfl) ?_; refine goesL_ (some 33) rfl rfl Tryz.func42 (by kernel_rfl) rfl #[.int .i32 k] rfl (by (try simp only [List.map_toArray, List.map_cons, List.map_nil]); first | done | rfl) ?_; (with_reducible refine (keys_May.calls k true _ HMB.out).mono ?_); rintro e W4 ⟨rfl, hb⟩; replace HB := aM (bP HB.out hb); replace BX := aM (bB BX.out hb); replace BO := aM (bB BO.out hb); replace HD := aM (HD.out.below hb); refine ⟨_, rfl, ?_⟩; clear hb; replace ho0 := (bC BO.out 0).trans (rfl : _ = some (Value.int .i64 0)); replace ho1 := (bC BO.out 1).trans (rfl : _ = some (Value.string ⟨#[]⟩)); replace ho2 := (bC BO.out 2).trans (rfl : _ = some (Value.slice none 0 0)); replace ho3 := (bC BO.out 3).trans (rfl : _ = some (Value.string ⟨#[]⟩)); replace ho4 := (bC BO.out 4).trans (rfl : _ = some (Value.slice none 0 0)); replace ho5 := (bC BO.out 5).trans (rfl : _ = some (Value.string ⟨#[]⟩)); replace ho6 := (bC BO.out 6).trans (rfl : _ = some (Value.slice none 0 0)); replace ho7 := (bC BO.out 7).trans (rfl : _ = some (Value.bool false)); replace ho8 := (bC BO.out 8).trans (rfl : _ = some (Value.bool false)); replace ho9 := (bC BO.out 9).trans (rfl : _ = some (Value.int .i64 0)); replace ho0f := bF BO.out 0; replace ho1f := bF BO.out 1; replace ho2f := bF BO.out 2; replace ho3f := bF BO.out 3; replace ho4f := bF BO.out 4; replace ho5f := bF BO.out 5; replace ho6f := bF BO.out 6; replace ho7f := bF BO.out 7; replace ho8f := bF BO.out 8; replace ho9f := bF BO.out 9)
          )
        clear HD
        generalize hN : ((((((((((W4.setCell ⟨go, 0, none⟩ (.int .i64 0)).setCell ⟨go, 1, none⟩ (.string ⟨#[]⟩)).setCell ⟨go, 2, none⟩ (.slice none 0 0)).setCell ⟨go, 3, none⟩ (.string ⟨#[]⟩)).setCell ⟨go, 4, none⟩ (.slice none 0 0)).setCell ⟨go, 5, none⟩ (.string ⟨#[]⟩)).setCell ⟨go, 6, none⟩ (.slice none 0 0)).setCell ⟨go, 7, none⟩ (.bool false)).setCell ⟨go, 8, none⟩ (.bool false)).setCell ⟨go, 9, none⟩ (.int .i64 0)) = W5
        have eN : W5 = putL W4 go 0 [.int .i64 0, .string ⟨#[]⟩, .slice none 0 0, .string ⟨#[]⟩, .slice none 0 0, .string ⟨#[]⟩, .slice none 0 0, .bool false, .bool false, .int .i64 0] := by rw [← hN]; simp only [putL]
        have HB' := aM (show Below w.heap.size w W5 from by rw [eN]; exact below_sets Ggo.out [.int .i64 0, .string ⟨#[]⟩, .slice none 0 0, .string ⟨#[]⟩, .slice none 0 0, .string ⟨#[]⟩, .slice none 0 0, .bool false, .bool false, .int .i64 0] 0 _ HB.out)
        have BX' := aM (show W5.heap[gx]? = some (.cells #[.string s, .slice A l.length c] 24 (0, 0)) from by rw [eN]; exact blk_sets_far Ngogx.out.symm [.int .i64 0, .string ⟨#[]⟩, .slice none 0 0, .string ⟨#[]⟩, .slice none 0 0, .string ⟨#[]⟩, .slice none 0 0, .bool false, .bool false, .int .i64 0] 0 _ BX.out)
        have BO' := aM (show W5.heap[go]? = some (.cells #[.int .i64 0, .string ⟨#[]⟩, .slice none 0 0, .string ⟨#[]⟩, .slice none 0 0, .string ⟨#[]⟩, .slice none 0 0, .bool false, .bool false, .int .i64 0] 38 (0, 0)) from by rw [eN, blk_sets [.int .i64 0, .string ⟨#[]⟩, .slice none 0 0, .string ⟨#[]⟩, .slice none 0 0, .string ⟨#[]⟩, .slice none 0 0, .bool false, .bool false, .int .i64 0] 0 _ _ BO.out]; simp only [setsL, List.setIfInBounds_toArray, List.set_cons_zero, List.set_cons_succ])
        clear hN eN  HB BX BO ho0 ho1 ho2 ho3 ho4 ho5 ho6 ho7 ho8 ho9 ho0f ho1f ho2f ho3f ho4f ho5f ho6f ho7f ho8f ho9f
        have HB := HB'
        have BX := BX'
        have BO := BO'
        clear HB' BX' BO'
        refine bodyPost_ret (results_ct rfl _ _ go 38 #[.int .i64 0, .string ⟨#[]⟩, .slice none 0 0, .string ⟨#[]⟩, .slice none 0 0, .string ⟨#[]⟩, .slice none 0 0, .bool false, .bool false, .int .i64 0] (0, 0) _ rfl BO.out Tryz.underlying38 rfl (by kernel_rfl)) rfl ?_
        exact ⟨_, _, _, rfl, Kd.R_nil _ _ _ _ _, Kd.R_nil _ _ _ _ _, Kd.R_nil _ _ _ _ _, HB.out⟩
      · rw [if_pos ⟨rfl, (mayK_iff k).2 ⟨hmb, by omega⟩⟩] at hD
        have q1 : (k < 32) = False := eq_false hk
        have HFR := aM (alignS_le v at_)
        obtain ⟨ka, hka⟩ := (galign_ev v (by have := HV.out; omega) at_).rounds
        have HKA := aM hka
        clear hka
        generalize alignS v at_ = fr at hD HKA HFR
        have HOL := aM (ofL_f v (fr : Int))
        have HLT := aM (ofL_lt v (fr : Int))
        generalize ofL v (fr : Int) = ln at hD HOL HLT
        obtain ⟨kb, hkb⟩ := (bounds_ev v (by have := HV.out; omega) ln HLT.out).rounds
        have HKB := aM hkb
        clear hkb
        have HOF := aM (often_eq n)
        have HOR := aM (often_range n)
        generalize oftenN n = m at hD HOF HOR
        generalize hS : stepsN v (lineTo v ln) m fr = R0 at hD
        have HSS := aM hS
        have HDD := aM hD
        clear hD hS
        go_enter Tryz.func15, Tryz.ntmps15
        go_wp2_with (first
          | ((with_reducible refine gate_dst (N := 5) rfl ?_); refine box_event ?hg (N := 5) ?hd (cs := #[.string s, .slice A l.length c]) (t := 24) ?hr ?_; (case hd => rfl); (case hg => rfl); (case hr => first | (go_simp; done) | (go_simp; rfl)); intro gx hg W1 hbox hb; have Ggx := aM (show w.heap.size ≤ gx from by rw [hg]; exact Nat.le_refl _); have HB := aM hb; have BX := aM hbox; clear hb hbox hg)
          | ((with_reducible refine gate_dst (N := 10) rfl ?_); refine box_event ?hg (N := 10) ?hd (cs := #[.int .i64 0, .string ⟨#[]⟩, .slice none 0 0, .string ⟨#[]⟩, .slice none 0 0, .string ⟨#[]⟩, .slice none 0 0, .bool false, .bool false, .int .i64 0]) (t := 38) ?hr ?_; (case hd => rfl); (case hg => rfl); (case hr => first | (go_simp; done) | (go_simp; rfl)); intro go hg W2 hbox hb; have Ggo := aM (show w.heap.size ≤ go from by rw [hg]; exact HB.out.size); have Ngogx := aM (show go ≠ gx from by have := blk_lt BX.out; omega); replace HB := aM (bP HB.out hb); replace BX := aM (bB BX.out hb); have BO := aM hbox; clear hb hbox hg; replace hx0 := (bC BX.out 0).trans (rfl : _ = some (Value.string s)); replace hx1 := (bC BX.out 1).trans (rfl : _ = some (Value.slice A l.length c)))
          | ((with_reducible refine gate_callee (f := 29) rfl ?_); refine goesL_ (some 26) rfl rfl Tryz.func29 (by kernel_rfl) rfl #[.agg #[.string s, .slice A l.length c], .int .u64 y] rfl (by (try simp only [List.map_toArray, List.map_cons, List.map_nil]); first | done | rfl) ?_; (with_reducible refine (open_ok kv HL.out (cB_ HRC.out HB.out) HCC.out 0 HF.out).mono ?_); rintro e W3 ⟨g, rfl, hD0, hb⟩; have HD := aM (hD0); have LW := aM (HB.out.size); replace HB := aM (bP HB.out hb); replace BX := aM (bB BX.out hb); replace BO := aM (bB BO.out hb); refine ⟨_, rfl, ?_⟩; clear hb)
          | ((with_reducible refine gate_callee (f := 42) rfl ?_); refine gate_guard (by rfl) ?_; refine goesL_ (some 33) rfl rfl Tryz.func42 (by kernel_rfl) rfl #[.int .i32 k] rfl (by (try simp only [List.map_toArray, List.map_cons, List.map_nil]); first | done | rfl) ?_; (with_reducible refine (keys_May.calls k true _ HMB.out).mono ?_); rintro e W4 ⟨rfl, hb⟩; replace HB := aM (bP HB.out hb); replace BX := aM (bB BX.out hb); replace BO := aM (bB BO.out hb); replace HD := aM (HD.out.below hb); refine ⟨_, rfl, ?_⟩; clear hb; replace hd2 := (bC HD.out.hg 2).trans (rfl : _ = some (Value.string v)))
          | ((with_reducible refine gate_callee (f := 43) rfl ?_); refine goesL_ (some 46) rfl rfl Tryz.func43 (by kernel_rfl) rfl #[.string v, .int .i64 at_] rfl (by (try simp only [List.map_toArray, List.map_cons, List.map_nil]); first | done | rfl) ?_; (with_reducible refine (glyph_Align.calls ka v at_ _ _ (HM.out.below HB.out) HKA.out).mono ?_); rintro e W5 ⟨rfl, hb⟩; replace HB := aM (bP HB.out hb); replace BX := aM (bB BX.out hb); replace BO := aM (bB BO.out hb); replace HD := aM (HD.out.below hb); refine ⟨_, rfl, ?_⟩; clear hb; replace hd2 := (bC HD.out.hg 2).trans (rfl : _ = some (Value.string v)))
          )
        clear BX hd2
        have hb := below_drew1 (Below.refl W5.heap.size W5)
        replace HB := aM (bP HB.out hb)
        replace BO := aM (bB BO.out hb)
        replace HD := aM (HD.out.below hb)
        clear hb
        refine start_ (n := 18) (S := fun W => W.cell? ⟨g, 2, none⟩ = some (.string v) ∧ W.cell? ⟨g, 2, none⟩ = some (.string v)) (ds := []) #[tF,tF,tF,tF,tF,tF,tF,tF,tF,tF,tF,tF,tF,tF,tF,tF,tF,tF] (by kernel_rfl) rfl rfl ⟨(bC HD.out.hg 2).trans rfl, (bC HD.out.hg 2).trans rfl⟩ (fun hHeld => ?_)
        generalize W5.drew = W6 at HB BO HD hHeld ⊢
        refine sv 0 48 #[tT,tF,tF,tF,tF,tF,tF,tF,tF,tF,tF,tF,tF,tF,tF,tF,tF,tF] ?_
        refine sv 1 49 #[tT,tT,tF,tF,tF,tF,tF,tF,tF,tF,tF,tF,tF,tF,tF,tF,tF,tF] ?_
        refine sv 2 50 #[tT,tT,tT,tF,tF,tF,tF,tF,tF,tF,tF,tF,tF,tF,tF,tF,tF,tF] ?_
        refine sv 4 52 #[tT,tT,tT,tF,tT,tF,tF,tF,tF,tF,tF,tF,tF,tF,tF,tF,tF,tF] ?_
        refine sv 5 53 #[tT,tT,tT,tF,tT,tT,tF,tF,tF,tF,tF,tF,tF,tF,tF,tF,tF,tF] ?_
        refine sv 6 54 #[tT,tT,tT,tF,tT,tT,tT,tF,tF,tF,tF,tF,tF,tF,tF,tF,tF,tF] ?_
        refine sv 8 56 #[tT,tT,tT,tF,tT,tT,tT,tF,tT,tF,tF,tF,tF,tF,tF,tF,tF,tF] ?_
        refine st 3 51 #[tT,tT,tT,tT,tT,tT,tT,tF,tT,tF,tF,tF,tF,tF,tF,tF,tF,tF] hHeld ?_
        refine st 7 55 #[tT,tT,tT,tT,tT,tT,tT,tT,tT,tF,tF,tF,tF,tF,tF,tF,tF,tF] hHeld ?_
        refine one_ (i := 9) (N := some 57) #[tT,tT,tT,tT,tT,tT,tT,tT,tT,tT,tF,tF,tF,tF,tF,tF,tF,tF] rfl rfl (by kernel_rfl) (by decide) (fun K hK => ?_)
        refine goes_ Tryz.func45 (by kernel_rfl) rfl #[.string v, .int .i64 (fr : Int)] (by rfl) rfl rfl (by (try simp only [List.map_toArray, List.map_cons, List.map_nil]); first | done | rfl) ?_
        clear hHeld
        (with_reducible refine (line_Of.calls v (fr : Int) _ _ HOL.out).mono ?_)
        rintro e W7 ⟨rfl, hb⟩
        replace HB := aM (bP HB.out hb)
        replace BO := aM (bB BO.out hb)
        replace HD := aM (HD.out.below hb)
        refine ⟨_, rfl, hK.out _ _ ⟨(bC HD.out.hg 2).trans rfl, (bC HD.out.hg 2).trans rfl⟩ (fun hHeld => ?_)⟩
        clear hK K hb
        refine norm_ (a' := ?_) ?_ ?_
        rotate_left
        · show Act.put _ (some 57) _ = _
          simp only [Act.put, List.setIfInBounds_toArray, List.set_cons_zero, List.set_cons_succ, i64_w, i32_w]
          rfl
        refine one_ (i := 10) (N := some 58) #[tT,tT,tT,tT,tT,tT,tT,tT,tT,tT,tT,tF,tF,tF,tF,tF,tF,tF] rfl rfl (by kernel_rfl) (by decide) (fun K hK => ?_)
        refine goes_ Tryz.func44 (by kernel_rfl) rfl #[.string v, .int .i64 (ln : Int)] (by rfl) rfl rfl (by (try simp only [List.map_toArray, List.map_cons, List.map_nil]); first | done | rfl) ?_
        clear hHeld
        (with_reducible refine (line_Bounds.calls kb v (ln : Int) _ _ _ _ HKB.out).mono ?_)
        rintro e W8 ⟨rfl, hb⟩
        replace HB := aM (bP HB.out hb)
        replace BO := aM (bB BO.out hb)
        replace HD := aM (HD.out.below hb)
        refine ⟨_, rfl, hK.out _ _ ⟨(bC HD.out.hg 2).trans rfl, (bC HD.out.hg 2).trans rfl⟩ (fun hHeld => ?_)⟩
        clear hK K hb
        refine norm_ (a' := ?_) ?_ ?_
        rotate_left
        · show Act.put _ (some 58) _ = _
          simp only [Act.put, List.setIfInBounds_toArray, List.set_cons_zero, List.set_cons_succ, i64_w, i32_w]
          rfl
        refine sv 11 47 #[tT,tT,tT,tT,tT,tT,tT,tT,tT,tT,tT,tT,tF,tF,tF,tF,tF,tF] ?_
        refine sv 12 59 #[tT,tT,tT,tT,tT,tT,tT,tT,tT,tT,tT,tT,tT,tF,tF,tF,tF,tF] ?_
        refine sv 13 60 #[tT,tT,tT,tT,tT,tT,tT,tT,tT,tT,tT,tT,tT,tT,tF,tF,tF,tF] ?_
        refine sv 14 61 #[tT,tT,tT,tT,tT,tT,tT,tT,tT,tT,tT,tT,tT,tT,tT,tF,tF,tF] ?_
        refine sv 15 15 #[tT,tT,tT,tT,tT,tT,tT,tT,tT,tT,tT,tT,tT,tT,tT,tT,tF,tF] ?_
        refine sv 16 16 #[tT,tT,tT,tT,tT,tT,tT,tT,tT,tT,tT,tT,tT,tT,tT,tT,tT,tF] ?_
        refine sv 17 17 #[tT,tT,tT,tT,tT,tT,tT,tT,tT,tT,tT,tT,tT,tT,tT,tT,tT,tT] ?_
        refine done_ (by kernel_rfl) ?_
        clear hHeld
        go_wp2_with (first
          | ((with_reducible refine gate_callee (f := 46) rfl ?_); refine goesL_ (some 64) rfl rfl Tryz.func46 (by kernel_rfl) rfl #[.int .i64 n] rfl (by (try simp only [List.map_toArray, List.map_cons, List.map_nil]); first | done | rfl) ?_; (with_reducible refine (oper_often.calls n _ _ HOF.out).mono ?_); rintro e W9 ⟨rfl, hb⟩; replace HB := aM (bP HB.out hb); replace BO := aM (bB BO.out hb); replace HD := aM (HD.out.below hb); refine ⟨_, rfl, ?_⟩; clear hb)
          )
        go_loopg [18, 65] m (fun kq v18 v65 w' => ∃ (p i : Nat), v18 = .int .i64 (p : Int) ∧ v65 = .int .i64 (i : Int) ∧ Aside0 (kq + i = m) ∧ Aside0 (stepsN v (lineTo v ln) kq p = R0) ∧ Aside0 (DeskAt W2 g A c (.slice none 0 0) w' s l v y d0) ∧ Aside0 (Below w.heap.size w w') ∧ Aside0 (w'.heap[go]? = some (.cells #[.int .i64 0, .string ⟨#[]⟩, .slice none 0 0, .string ⟨#[]⟩, .slice none 0 0, .string ⟨#[]⟩, .slice none 0 0, .bool false, .bool false, .int .i64 0] 38 (0, 0))))
        case atStart => exact ⟨fr, 0, rfl, rfl, ⟨by omega⟩, HSS, HD, HB, BO⟩
        case round =>
          clear HD HB BO
          obtain ⟨p, i, rfl, rfl, HQ, HST, HD, HB, BO⟩ := hrel
          cases gk with
          | zero =>
            have him : i = m := by have := HQ.out; omega
            subst him
            have pr1 : ((i : Int) < (i : Int)) = False := eq_false (by omega)
            have pr2 : (i < i) = False := eq_false (by omega)
            have hSS := HST.out
            rw [show stepsN v (lineTo v ln) 0 p = some p from rfl] at hSS
            subst hSS
            have hD := HDD.out
            dsimp only at hD
            generalize hu : turnD s l y (writeD y d0 (repB (Utf8.encode k) i)) (fr : Int) (p : Int) = u at hD
            have HU := aM hu
            obtain ⟨⟨u1, u2, u3, u4, u5, u6⟩, u7⟩ := u
            have hez := encode_size_le k
            have HRZ := aM (show (Utf8.encode k).size * i ≤ 140737488355328 from by have := HOR.out; exact Nat.le_trans (Nat.mul_le_mul hez this.2) (by decide))
            clear hu HST
            unfold turnO at hD
            dsimp only at hD
            by_cases h6 : u6 = 0
            · subst h6
              rw [if_pos rfl] at hD
              simp only [Prod.mk.injEq] at hD
              obtain ⟨rfl, rfl, rfl, rfl, rfl, rfl, rfl, rfl, rfl, hat, rfl⟩ := hD
              obtain ⟨m1, hm1, hm2⟩ : ∃ m1 : Nat, wrap64 ((i : Int) - 1) = (m1 : Int) ∧ m1 = i - 1 := ⟨i - 1, by have := HOR.out; rw [show (i : Int) - 1 = ((i - 1 : Nat) : Int) from by omega]; exact wrap_small (by omega) (by omega), rfl⟩
              obtain ⟨q1, hq1, hq2⟩ : ∃ q1 : Nat, wrap64 (((Utf8.encode k).size : Int) * (m1 : Int)) = (q1 : Int) ∧ q1 = (Utf8.encode k).size * m1 := ⟨_, by have := HOR.out; have hh : (Utf8.encode k).size * m1 ≤ 4 * 998 := Nat.mul_le_mul hez (by omega); rw [← Int.natCast_mul]; exact wrap_small (by omega) (by omega), rfl⟩
              obtain ⟨z1, hz1, hz2⟩ : ∃ z1 : Nat, wrap64 ((fr : Int) + (q1 : Int)) = (z1 : Int) ∧ z1 = fr + q1 := ⟨_, by have := HOR.out; have := HFR.out; have := HV.out; have hh : (Utf8.encode k).size * m1 ≤ 4 * 998 := Nat.mul_le_mul hez (by omega); rw [← Int.natCast_add]; exact wrap_small (by omega) (by omega), rfl⟩
              rw [← hm2, ← hq2, ← hz2] at hat
              subst hat
              have E1 := aM hm1
              have E2 := aM hq1
              have E3 := aM hz1
              clear hm1 hm2 hq1 hq2 hz1 hz2 hez
              go_wp2_with (first
                | ((with_reducible refine gate_callee (f := 46) rfl ?_); refine goesL_ (some 83) rfl rfl Tryz.func46 (by kernel_rfl) rfl #[.int .i64 n] rfl (by (try simp only [List.map_toArray, List.map_cons, List.map_nil]); first | done | rfl) ?_; (with_reducible refine (oper_often.calls n _ _ HOF.out).mono ?_); rintro e W11 ⟨rfl, hb⟩; replace HD := aM (HD.out.below hb); replace HB := aM (bP HB.out hb); replace BO := aM (bB BO.out hb); refine ⟨_, rfl, ?_⟩; clear hb)
                | ((with_reducible refine gate_callee (f := 49) rfl ?_); refine goesL_ (some 84) rfl rfl Tryz.func49 (by kernel_rfl) rfl #[.string (Utf8.encode k), .int .i64 (i : Int)] rfl (by (try simp only [List.map_toArray, List.map_cons, List.map_nil]); first | done | rfl) ?_; (with_reducible refine (Tryz.strings_Repeat (Utf8.encode k) i _ (by have := HOR.out; omega) HRZ.out).mono ?_); rintro e W12 ⟨rfl, hb⟩; replace HD := aM (HD.out.below hb); replace HB := aM (bP HB.out hb); replace BO := aM (bB BO.out hb); refine ⟨_, rfl, ?_⟩; clear hb)
                | ((with_reducible refine gate_callee (f := 48) rfl ?_); refine goesL_ (some 85) rfl rfl Tryz.func48 (by kernel_rfl) rfl #[.pointer (some ⟨g, 0, none⟩), .string (repB (Utf8.encode k) i)] rfl (by (try simp only [List.map_toArray, List.map_cons, List.map_nil]); first | done | rfl) ?_; (with_reducible refine (write_ok HD.out (repB (Utf8.encode k) i)).mono ?_); rintro e W13 ⟨rfl, ov13, hD, hT⟩; replace HB := aM (HB.out.trans (hT.bel.mono LW.out)); replace BO := aM (hT.blk BO.out (HD.out.apart BO.out (by decide))); replace HD := aM hD; refine ⟨_, rfl, ?_⟩; clear hD hT)
                | ((with_reducible refine gate_callee (f := 50) rfl ?_); refine goesL_ (some 90) rfl rfl Tryz.func50 (by kernel_rfl) rfl #[.pointer (some ⟨g, 0, none⟩), .int .i64 (fr : Int), .int .i64 (p : Int)] rfl (by (try simp only [List.map_toArray, List.map_cons, List.map_nil]); first | done | rfl) ?_; (with_reducible refine (turn_at HD.out (fr : Int) (p : Int) HU.out).mono ?_); rintro e W14 ⟨vo, vn, rfl, ho, hn, hb⟩; have HO := aM (rL ho (Nat.le_trans LW.out HD.out.size)); have HN := aM (rL hn (Nat.le_trans LW.out HD.out.size)); clear HD; replace HB := aM (bP HB.out hb); replace BO := aM (bB BO.out hb); clear ho hn; refine ⟨_, rfl, ?_⟩; clear hb; obtain ⟨Ao, co, rfl⟩ := Kd.R_slice HO.out; obtain ⟨An, cn, rfl⟩ := Kd.R_slice HN.out)
                | ((with_reducible refine gate_dst (N := 20) rfl ?_); refine box_event ?hg (N := 20) ?hd (cs := #[.int .i64 0, .string ⟨#[]⟩, .slice none 0 0, .string ⟨#[]⟩, .slice none 0 0]) (t := 36) ?hr ?_; (case hd => rfl); (case hg => rfl); (case hr => first | (go_simp; done) | (go_simp; rfl)); intro gt hg W15 hbox hb; have Ggt := aM (show w.heap.size ≤ gt from by rw [hg]; exact HB.out.size); have Ngtgo := aM (show gt ≠ go from by have := blk_lt BO.out; omega); replace HB := aM (bP HB.out hb); replace BO := aM (bB BO.out hb); replace HO := aM (Kd.R_below HO.out hb); replace HN := aM (Kd.R_below HN.out hb); have BT := aM hbox; clear hb hbox hg; replace ht0 := (bC BT.out 0).trans (rfl : _ = some (Value.int .i64 0)); replace ht1 := (bC BT.out 1).trans (rfl : _ = some (Value.string ⟨#[]⟩)); replace ht2 := (bC BT.out 2).trans (rfl : _ = some (Value.slice none 0 0)); replace ht3 := (bC BT.out 3).trans (rfl : _ = some (Value.string ⟨#[]⟩)); replace ht4 := (bC BT.out 4).trans (rfl : _ = some (Value.slice none 0 0)); replace ht0f := bF BT.out 0; replace ht1f := bF BT.out 1; replace ht2f := bF BT.out 2; replace ht3f := bF BT.out 3; replace ht4f := bF BT.out 4)
                )
              generalize hN : (((((W15.setCell ⟨gt, 0, none⟩ (.int .i64 u1)).setCell ⟨gt, 1, none⟩ (.string u2)).setCell ⟨gt, 2, none⟩ (.slice Ao u3.length co)).setCell ⟨gt, 3, none⟩ (.string u4)).setCell ⟨gt, 4, none⟩ (.slice An u5.length cn)) = W16
              have eN : W16 = putL W15 gt 0 [.int .i64 u1, .string u2, .slice Ao u3.length co, .string u4, .slice An u5.length cn] := by rw [← hN]; simp only [putL]
              have HB' := aM (show Below w.heap.size w W16 from by rw [eN]; exact below_sets Ggt.out [.int .i64 u1, .string u2, .slice Ao u3.length co, .string u4, .slice An u5.length cn] 0 _ HB.out)
              have BO' := aM (show W16.heap[go]? = some (.cells #[.int .i64 0, .string ⟨#[]⟩, .slice none 0 0, .string ⟨#[]⟩, .slice none 0 0, .string ⟨#[]⟩, .slice none 0 0, .bool false, .bool false, .int .i64 0] 38 (0, 0)) from by rw [eN]; exact blk_sets_far Ngtgo.out.symm [.int .i64 u1, .string u2, .slice Ao u3.length co, .string u4, .slice An u5.length cn] 0 _ BO.out)
              have HO' := aM (show Kd.R k68 68 W16 w.heap.size (fun k_ => some k_ ≠ ((.slice An u5.length cn : Value) : Value).ownBlock) (.slice Ao u3.length co : Value) u3 from by rw [eN]; exact R_sets (by decide) [.int .i64 u1, .string u2, .slice Ao u3.length co, .string u4, .slice An u5.length cn] 0 _ _ BT.out HO.out)
              have HN' := aM (show Kd.R k68 68 W16 w.heap.size (fun k_ => some k_ ≠ ((.slice Ao u3.length co : Value) : Value).ownBlock) (.slice An u5.length cn : Value) u5 from by rw [eN]; exact R_sets (by decide) [.int .i64 u1, .string u2, .slice Ao u3.length co, .string u4, .slice An u5.length cn] 0 _ _ BT.out HN.out)
              have BT' := aM (show W16.heap[gt]? = some (.cells #[.int .i64 u1, .string u2, .slice Ao u3.length co, .string u4, .slice An u5.length cn] 36 (0, 0)) from by rw [eN, blk_sets [.int .i64 u1, .string u2, .slice Ao u3.length co, .string u4, .slice An u5.length cn] 0 _ _ BT.out]; simp only [setsL, List.setIfInBounds_toArray, List.set_cons_zero, List.set_cons_succ])
              clear hN eN  HB BO HO HN BT ht0 ht1 ht2 ht3 ht4 ht0f ht1f ht2f ht3f ht4f
              have HB := HB'
              have BO := BO'
              have HO := HO'
              have HN := HN'
              have BT := BT'
              clear HB' BO' HO' HN' BT'
              have e1 := E1.out
              have e2 := E2.out
              have e3 := E3.out
              go_wp2
              have hb := below_drew1 (Below.refl W16.heap.size W16)
              replace HB := aM (bP HB.out hb)
              replace BO := aM (bB BO.out hb)
              replace HO := aM (Kd.R_below HO.out hb)
              replace HN := aM (Kd.R_below HN.out hb)
              replace BT := aM (bB BT.out hb)
              clear hb
              refine start_ (n := 12) (S := fun W => W.cell? ⟨gt, 0, none⟩ = some (.int .i64 u1) ∧ W.cell? ⟨gt, 1, none⟩ = some (.string u2) ∧ W.cell? ⟨gt, 2, none⟩ = some (.slice Ao u3.length co) ∧ W.cell? ⟨gt, 3, none⟩ = some (.string u4) ∧ W.cell? ⟨gt, 4, none⟩ = some (.slice An u5.length cn)) (ds := [10]) #[tF,tF,tF,tF,tF,tF,tF,tF,tF,tF,tF,tF] (by kernel_rfl) rfl rfl ⟨(bC BT.out 0).trans rfl, (bC BT.out 1).trans rfl, (bC BT.out 2).trans rfl, (bC BT.out 3).trans rfl, (bC BT.out 4).trans rfl⟩ (fun hHeld => ?_)
              generalize W16.drew = W17 at HB BO HO HN BT hHeld ⊢
              refine sv 1 99 #[tF,tT,tF,tF,tF,tF,tF,tF,tF,tF,tF,tF] ?_
              refine sv 2 100 #[tF,tT,tT,tF,tF,tF,tF,tF,tF,tF,tF,tF] ?_
              refine sv 3 101 #[tF,tT,tT,tT,tF,tF,tF,tF,tF,tF,tF,tF] ?_
              refine sv 4 102 #[tF,tT,tT,tT,tT,tF,tF,tF,tF,tF,tF,tF] ?_
              refine st 0 98 #[tT,tT,tT,tT,tT,tF,tF,tF,tF,tF,tF,tF] hHeld ?_
              refine one_ (i := 5) (N := some 103) #[tT,tT,tT,tT,tT,tT,tF,tF,tF,tF,tF,tF] rfl rfl (by kernel_rfl) (by decide) (fun K hK => ?_)
              refine goes_ Tryz.func46 (by kernel_rfl) rfl #[.int .i64 n] (by rfl) rfl rfl (by (try simp only [List.map_toArray, List.map_cons, List.map_nil]); first | done | rfl) ?_
              clear hHeld
              (with_reducible refine (oper_often.calls n _ _ HOF.out).mono ?_)
              rintro e W18 ⟨rfl, hb⟩
              replace HB := aM (bP HB.out hb)
              replace BO := aM (bB BO.out hb)
              replace HO := aM (Kd.R_below HO.out hb)
              replace HN := aM (Kd.R_below HN.out hb)
              replace BT := aM (bB BT.out hb)
              refine ⟨_, rfl, hK.out _ _ ⟨(bC BT.out 0).trans rfl, (bC BT.out 1).trans rfl, (bC BT.out 2).trans rfl, (bC BT.out 3).trans rfl, (bC BT.out 4).trans rfl⟩ (fun hHeld => ?_)⟩
              clear hK K hb
              refine norm_ (a' := ?_) ?_ ?_
              rotate_left
              · show Act.put _ (some 103) _ = _
                simp only [Act.put, List.setIfInBounds_toArray, List.set_cons_zero, List.set_cons_succ, i64_w, i32_w]
                rfl
              refine sv 6 104 #[tT,tT,tT,tT,tT,tT,tT,tF,tF,tF,tF,tF] ?_
              refine sv 7 105 #[tT,tT,tT,tT,tT,tT,tT,tT,tF,tF,tF,tF] ?_
              refine sv 8 106 #[tT,tT,tT,tT,tT,tT,tT,tT,tT,tF,tF,tF] ?_
              refine sv 9 107 #[tT,tT,tT,tT,tT,tT,tT,tT,tT,tT,tF,tF] ?_
              refine last_ (i := 10) (N := none) #[tT,tT,tT,tT,tT,tT,tT,tT,tT,tT,tT,tF] rfl rfl (by kernel_rfl) (by decide) (fun K hK => ?_)
              have hs0 := (bC BO.out 0).trans (rfl : _ = some (Value.int .i64 0))
              have hf0 := bF BO.out 0
              have hs1 := (bC BO.out 1).trans (rfl : _ = some (Value.string ⟨#[]⟩))
              have hf1 := bF BO.out 1
              have hs2 := (bC BO.out 2).trans (rfl : _ = some (Value.slice none 0 0))
              have hf2 := bF BO.out 2
              have hs3 := (bC BO.out 3).trans (rfl : _ = some (Value.string ⟨#[]⟩))
              have hf3 := bF BO.out 3
              have hs4 := (bC BO.out 4).trans (rfl : _ = some (Value.slice none 0 0))
              have hf4 := bF BO.out 4
              have hs5 := (bC BO.out 5).trans (rfl : _ = some (Value.string ⟨#[]⟩))
              have hf5 := bF BO.out 5
              have hs6 := (bC BO.out 6).trans (rfl : _ = some (Value.slice none 0 0))
              have hf6 := bF BO.out 6
              have hs7 := (bC BO.out 7).trans (rfl : _ = some (Value.bool false))
              have hf7 := bF BO.out 7
              have hs8 := (bC BO.out 8).trans (rfl : _ = some (Value.bool false))
              have hf8 := bF BO.out 8
              have hs9 := (bC BO.out 9).trans (rfl : _ = some (Value.int .i64 0))
              have hf9 := bF BO.out 9
              refine skip_ (w1 := ((((((((((W18.setCell ⟨go, 0, none⟩ (.int .i64 u1)).setCell ⟨go, 1, none⟩ (.string u2)).setCell ⟨go, 2, none⟩ (.slice Ao u3.length co)).setCell ⟨go, 3, none⟩ (.string u4)).setCell ⟨go, 4, none⟩ (.slice An u5.length cn)).setCell ⟨go, 5, none⟩ (.string ⟨#[]⟩)).setCell ⟨go, 6, none⟩ (.slice none 0 0)).setCell ⟨go, 7, none⟩ (.bool false)).setCell ⟨go, 8, none⟩ (.bool false)).setCell ⟨go, 9, none⟩ (.int .i64 (z1 : Int)))) (by rfl) rfl ?_ ?_
              · first | (go_simp; done) | (go_simp; rfl)
              generalize hN : ((((((((((W18.setCell ⟨go, 0, none⟩ (.int .i64 u1)).setCell ⟨go, 1, none⟩ (.string u2)).setCell ⟨go, 2, none⟩ (.slice Ao u3.length co)).setCell ⟨go, 3, none⟩ (.string u4)).setCell ⟨go, 4, none⟩ (.slice An u5.length cn)).setCell ⟨go, 5, none⟩ (.string ⟨#[]⟩)).setCell ⟨go, 6, none⟩ (.slice none 0 0)).setCell ⟨go, 7, none⟩ (.bool false)).setCell ⟨go, 8, none⟩ (.bool false)).setCell ⟨go, 9, none⟩ (.int .i64 (z1 : Int))) = W19
              have eN : W19 = putL W18 go 0 [.int .i64 u1, .string u2, .slice Ao u3.length co, .string u4, .slice An u5.length cn, .string ⟨#[]⟩, .slice none 0 0, .bool false, .bool false, .int .i64 (z1 : Int)] := by rw [← hN]; simp only [putL]
              have HB' := aM (show Below w.heap.size w W19 from by rw [eN]; exact below_sets Ggo.out [.int .i64 u1, .string u2, .slice Ao u3.length co, .string u4, .slice An u5.length cn, .string ⟨#[]⟩, .slice none 0 0, .bool false, .bool false, .int .i64 (z1 : Int)] 0 _ HB.out)
              have BO' := aM (show W19.heap[go]? = some (.cells #[.int .i64 u1, .string u2, .slice Ao u3.length co, .string u4, .slice An u5.length cn, .string ⟨#[]⟩, .slice none 0 0, .bool false, .bool false, .int .i64 (z1 : Int)] 38 (0, 0)) from by rw [eN, blk_sets [.int .i64 u1, .string u2, .slice Ao u3.length co, .string u4, .slice An u5.length cn, .string ⟨#[]⟩, .slice none 0 0, .bool false, .bool false, .int .i64 (z1 : Int)] 0 _ _ BO.out]; simp only [setsL, List.setIfInBounds_toArray, List.set_cons_zero, List.set_cons_succ])
              have HO' := aM (show Kd.R k68 68 W19 w.heap.size (fun k_ => some k_ ≠ ((.slice An u5.length cn : Value) : Value).ownBlock) (.slice Ao u3.length co : Value) u3 from by rw [eN]; exact R_sets (by decide) [.int .i64 u1, .string u2, .slice Ao u3.length co, .string u4, .slice An u5.length cn, .string ⟨#[]⟩, .slice none 0 0, .bool false, .bool false, .int .i64 (z1 : Int)] 0 _ _ BO.out HO.out)
              have HN' := aM (show Kd.R k68 68 W19 w.heap.size (fun k_ => some k_ ≠ ((.slice Ao u3.length co : Value) : Value).ownBlock) (.slice An u5.length cn : Value) u5 from by rw [eN]; exact R_sets (by decide) [.int .i64 u1, .string u2, .slice Ao u3.length co, .string u4, .slice An u5.length cn, .string ⟨#[]⟩, .slice none 0 0, .bool false, .bool false, .int .i64 (z1 : Int)] 0 _ _ BO.out HN.out)
              have BT' := aM (show W19.heap[gt]? = some (.cells #[.int .i64 u1, .string u2, .slice Ao u3.length co, .string u4, .slice An u5.length cn] 36 (0, 0)) from by rw [eN]; exact blk_sets_far Ngtgo.out [.int .i64 u1, .string u2, .slice Ao u3.length co, .string u4, .slice An u5.length cn, .string ⟨#[]⟩, .slice none 0 0, .bool false, .bool false, .int .i64 (z1 : Int)] 0 _ BT.out)
              clear hN eN hHeld hs0 hf0 hs1 hf1 hs2 hf2 hs3 hf3 hs4 hf4 hs5 hf5 hs6 hf6 hs7 hf7 hs8 hf8 hs9 hf9 HB BO HO HN BT
              have HB := HB'
              have BO := BO'
              have HO := HO'
              have HN := HN'
              have BT := BT'
              clear HB' BO' HO' HN' BT'
              refine hK.out _ _ ?_
              clear hK K
              refine sv 11 11 #[tT,tT,tT,tT,tT,tT,tT,tT,tT,tT,tT,tT] ?_
              refine done_ (by kernel_rfl) ?_
              go_wp2
              refine bodyPost_ret (results_ct rfl _ _ go 38 #[.int .i64 u1, .string u2, .slice Ao u3.length co, .string u4, .slice An u5.length cn, .string ⟨#[]⟩, .slice none 0 0, .bool false, .bool false, .int .i64 (z1 : Int)] (0, 0) _ rfl BO.out Tryz.underlying38 rfl (by kernel_rfl)) rfl ?_
              exact ⟨_, _, _, rfl, R_andnil HO.out, R_andnil HN.out, Kd.R_nil _ _ _ _ _, HB.out⟩
            · rw [if_neg h6] at hD
              unfold noO at hD
              simp only [Prod.mk.injEq] at hD
              obtain ⟨rfl, rfl, rfl, rfl, rfl, rfl, rfl, rfl, rfl, rfl, rfl⟩ := hD
              have b3 : (u6 != 0) = true := bne_iff_ne.2 h6
              have b4 : (u6 == 0) = false := beq_eq_false_iff_ne.2 h6
              clear h6 hez
              go_wp2_with (first
                | ((with_reducible refine gate_callee (f := 46) rfl ?_); refine goesL_ (some 83) rfl rfl Tryz.func46 (by kernel_rfl) rfl #[.int .i64 n] rfl (by (try simp only [List.map_toArray, List.map_cons, List.map_nil]); first | done | rfl) ?_; (with_reducible refine (oper_often.calls n _ _ HOF.out).mono ?_); rintro e W11 ⟨rfl, hb⟩; replace HD := aM (HD.out.below hb); replace HB := aM (bP HB.out hb); replace BO := aM (bB BO.out hb); refine ⟨_, rfl, ?_⟩; clear hb)
                | ((with_reducible refine gate_callee (f := 49) rfl ?_); refine goesL_ (some 84) rfl rfl Tryz.func49 (by kernel_rfl) rfl #[.string (Utf8.encode k), .int .i64 (i : Int)] rfl (by (try simp only [List.map_toArray, List.map_cons, List.map_nil]); first | done | rfl) ?_; (with_reducible refine (Tryz.strings_Repeat (Utf8.encode k) i _ (by have := HOR.out; omega) HRZ.out).mono ?_); rintro e W12 ⟨rfl, hb⟩; replace HD := aM (HD.out.below hb); replace HB := aM (bP HB.out hb); replace BO := aM (bB BO.out hb); refine ⟨_, rfl, ?_⟩; clear hb)
                | ((with_reducible refine gate_callee (f := 48) rfl ?_); refine goesL_ (some 85) rfl rfl Tryz.func48 (by kernel_rfl) rfl #[.pointer (some ⟨g, 0, none⟩), .string (repB (Utf8.encode k) i)] rfl (by (try simp only [List.map_toArray, List.map_cons, List.map_nil]); first | done | rfl) ?_; (with_reducible refine (write_ok HD.out (repB (Utf8.encode k) i)).mono ?_); rintro e W13 ⟨rfl, ov13, hD, hT⟩; replace HB := aM (HB.out.trans (hT.bel.mono LW.out)); replace BO := aM (hT.blk BO.out (HD.out.apart BO.out (by decide))); replace HD := aM hD; refine ⟨_, rfl, ?_⟩; clear hD hT)
                | ((with_reducible refine gate_callee (f := 50) rfl ?_); refine goesL_ (some 90) rfl rfl Tryz.func50 (by kernel_rfl) rfl #[.pointer (some ⟨g, 0, none⟩), .int .i64 (fr : Int), .int .i64 (p : Int)] rfl (by (try simp only [List.map_toArray, List.map_cons, List.map_nil]); first | done | rfl) ?_; (with_reducible refine (turn_at HD.out (fr : Int) (p : Int) HU.out).mono ?_); rintro e W14 ⟨vo, vn, rfl, ho, hn, hb⟩; have HO := aM (rL ho (Nat.le_trans LW.out HD.out.size)); have HN := aM (rL hn (Nat.le_trans LW.out HD.out.size)); clear HD; replace HB := aM (bP HB.out hb); replace BO := aM (bB BO.out hb); clear ho hn; refine ⟨_, rfl, ?_⟩; clear hb; obtain ⟨Ao, co, rfl⟩ := Kd.R_slice HO.out; obtain ⟨An, cn, rfl⟩ := Kd.R_slice HN.out)
                | ((with_reducible refine gate_dst (N := 20) rfl ?_); refine box_event ?hg (N := 20) ?hd (cs := #[.int .i64 0, .string ⟨#[]⟩, .slice none 0 0, .string ⟨#[]⟩, .slice none 0 0]) (t := 36) ?hr ?_; (case hd => rfl); (case hg => rfl); (case hr => first | (go_simp; done) | (go_simp; rfl)); intro gt hg W15 hbox hb; have Ggt := aM (show w.heap.size ≤ gt from by rw [hg]; exact HB.out.size); have Ngtgo := aM (show gt ≠ go from by have := blk_lt BO.out; omega); replace HB := aM (bP HB.out hb); replace BO := aM (bB BO.out hb); replace HO := aM (Kd.R_below HO.out hb); replace HN := aM (Kd.R_below HN.out hb); have BT := aM hbox; clear hb hbox hg; replace ht0 := (bC BT.out 0).trans (rfl : _ = some (Value.int .i64 0)); replace ht1 := (bC BT.out 1).trans (rfl : _ = some (Value.string ⟨#[]⟩)); replace ht2 := (bC BT.out 2).trans (rfl : _ = some (Value.slice none 0 0)); replace ht3 := (bC BT.out 3).trans (rfl : _ = some (Value.string ⟨#[]⟩)); replace ht4 := (bC BT.out 4).trans (rfl : _ = some (Value.slice none 0 0)); replace ho0 := (bC BO.out 0).trans (rfl : _ = some (Value.int .i64 0)); replace ho1 := (bC BO.out 1).trans (rfl : _ = some (Value.string ⟨#[]⟩)); replace ho2 := (bC BO.out 2).trans (rfl : _ = some (Value.slice none 0 0)); replace ho3 := (bC BO.out 3).trans (rfl : _ = some (Value.string ⟨#[]⟩)); replace ho4 := (bC BO.out 4).trans (rfl : _ = some (Value.slice none 0 0)); replace ho5 := (bC BO.out 5).trans (rfl : _ = some (Value.string ⟨#[]⟩)); replace ho6 := (bC BO.out 6).trans (rfl : _ = some (Value.slice none 0 0)); replace ho7 := (bC BO.out 7).trans (rfl : _ = some (Value.bool false)); replace ho8 := (bC BO.out 8).trans (rfl : _ = some (Value.bool false)); replace ho9 := (bC BO.out 9).trans (rfl : _ = some (Value.int .i64 0)); replace ht0f := bF BT.out 0; replace ht1f := bF BT.out 1; replace ht2f := bF BT.out 2; replace ht3f := bF BT.out 3; replace ht4f := bF BT.out 4; replace ho0f := bF BO.out 0; replace ho1f := bF BO.out 1; replace ho2f := bF BO.out 2; replace ho3f := bF BO.out 3; replace ho4f := bF BO.out 4; replace ho5f := bF BO.out 5; replace ho6f := bF BO.out 6; replace ho7f := bF BO.out 7; replace ho8f := bF BO.out 8; replace ho9f := bF BO.out 9; have hgn := Ngtgo.out; have hgn2 := hgn.symm)
                )
              generalize hN : (((((W15.setCell ⟨gt, 0, none⟩ (.int .i64 u1)).setCell ⟨gt, 1, none⟩ (.string u2)).setCell ⟨gt, 2, none⟩ (.slice Ao u3.length co)).setCell ⟨gt, 3, none⟩ (.string u4)).setCell ⟨gt, 4, none⟩ (.slice An u5.length cn)) = W16
              have eN : W16 = putL W15 gt 0 [.int .i64 u1, .string u2, .slice Ao u3.length co, .string u4, .slice An u5.length cn] := by rw [← hN]; simp only [putL]
              have HB' := aM (show Below w.heap.size w W16 from by rw [eN]; exact below_sets Ggt.out [.int .i64 u1, .string u2, .slice Ao u3.length co, .string u4, .slice An u5.length cn] 0 _ HB.out)
              have BO' := aM (show W16.heap[go]? = some (.cells #[.int .i64 0, .string ⟨#[]⟩, .slice none 0 0, .string ⟨#[]⟩, .slice none 0 0, .string ⟨#[]⟩, .slice none 0 0, .bool false, .bool false, .int .i64 0] 38 (0, 0)) from by rw [eN]; exact blk_sets_far Ngtgo.out.symm [.int .i64 u1, .string u2, .slice Ao u3.length co, .string u4, .slice An u5.length cn] 0 _ BO.out)
              have HO' := aM (show Kd.R k68 68 W16 w.heap.size (fun k_ => some k_ ≠ ((.slice An u5.length cn : Value) : Value).ownBlock) (.slice Ao u3.length co : Value) u3 from by rw [eN]; exact R_sets (by decide) [.int .i64 u1, .string u2, .slice Ao u3.length co, .string u4, .slice An u5.length cn] 0 _ _ BT.out HO.out)
              have HN' := aM (show Kd.R k68 68 W16 w.heap.size (fun k_ => some k_ ≠ ((.slice Ao u3.length co : Value) : Value).ownBlock) (.slice An u5.length cn : Value) u5 from by rw [eN]; exact R_sets (by decide) [.int .i64 u1, .string u2, .slice Ao u3.length co, .string u4, .slice An u5.length cn] 0 _ _ BT.out HN.out)
              have BT' := aM (show W16.heap[gt]? = some (.cells #[.int .i64 u1, .string u2, .slice Ao u3.length co, .string u4, .slice An u5.length cn] 36 (0, 0)) from by rw [eN, blk_sets [.int .i64 u1, .string u2, .slice Ao u3.length co, .string u4, .slice An u5.length cn] 0 _ _ BT.out]; simp only [setsL, List.setIfInBounds_toArray, List.set_cons_zero, List.set_cons_succ])
              clear hN eN  HB BO HO HN BT ht0 ht1 ht2 ht3 ht4 ho0 ho1 ho2 ho3 ho4 ho5 ho6 ho7 ho8 ho9 ht0f ht1f ht2f ht3f ht4f ho0f ho1f ho2f ho3f ho4f ho5f ho6f ho7f ho8f ho9f
              have HB := HB'
              have BO := BO'
              have HO := HO'
              have HN := HN'
              have BT := BT'
              clear HB' BO' HO' HN' BT'
              generalize hN : ((((((((((W16.setCell ⟨go, 0, none⟩ (.int .i64 0)).setCell ⟨go, 1, none⟩ (.string ⟨#[]⟩)).setCell ⟨go, 2, none⟩ (.slice none 0 0)).setCell ⟨go, 3, none⟩ (.string ⟨#[]⟩)).setCell ⟨go, 4, none⟩ (.slice none 0 0)).setCell ⟨go, 5, none⟩ (.string ⟨#[]⟩)).setCell ⟨go, 6, none⟩ (.slice none 0 0)).setCell ⟨go, 7, none⟩ (.bool false)).setCell ⟨go, 8, none⟩ (.bool false)).setCell ⟨go, 9, none⟩ (.int .i64 0)) = W17
              have eN : W17 = putL W16 go 0 [.int .i64 0, .string ⟨#[]⟩, .slice none 0 0, .string ⟨#[]⟩, .slice none 0 0, .string ⟨#[]⟩, .slice none 0 0, .bool false, .bool false, .int .i64 0] := by rw [← hN]; simp only [putL]
              have HB' := aM (show Below w.heap.size w W17 from by rw [eN]; exact below_sets Ggo.out [.int .i64 0, .string ⟨#[]⟩, .slice none 0 0, .string ⟨#[]⟩, .slice none 0 0, .string ⟨#[]⟩, .slice none 0 0, .bool false, .bool false, .int .i64 0] 0 _ HB.out)
              have BO' := aM (show W17.heap[go]? = some (.cells #[.int .i64 0, .string ⟨#[]⟩, .slice none 0 0, .string ⟨#[]⟩, .slice none 0 0, .string ⟨#[]⟩, .slice none 0 0, .bool false, .bool false, .int .i64 0] 38 (0, 0)) from by rw [eN, blk_sets [.int .i64 0, .string ⟨#[]⟩, .slice none 0 0, .string ⟨#[]⟩, .slice none 0 0, .string ⟨#[]⟩, .slice none 0 0, .bool false, .bool false, .int .i64 0] 0 _ _ BO.out]; simp only [setsL, List.setIfInBounds_toArray, List.set_cons_zero, List.set_cons_succ])
              have HO' := aM (show Kd.R k68 68 W17 w.heap.size (fun k_ => some k_ ≠ ((.slice An u5.length cn : Value) : Value).ownBlock) (.slice Ao u3.length co : Value) u3 from by rw [eN]; exact R_sets (by decide) [.int .i64 0, .string ⟨#[]⟩, .slice none 0 0, .string ⟨#[]⟩, .slice none 0 0, .string ⟨#[]⟩, .slice none 0 0, .bool false, .bool false, .int .i64 0] 0 _ _ BO.out HO.out)
              have HN' := aM (show Kd.R k68 68 W17 w.heap.size (fun k_ => some k_ ≠ ((.slice Ao u3.length co : Value) : Value).ownBlock) (.slice An u5.length cn : Value) u5 from by rw [eN]; exact R_sets (by decide) [.int .i64 0, .string ⟨#[]⟩, .slice none 0 0, .string ⟨#[]⟩, .slice none 0 0, .string ⟨#[]⟩, .slice none 0 0, .bool false, .bool false, .int .i64 0] 0 _ _ BO.out HN.out)
              have BT' := aM (show W17.heap[gt]? = some (.cells #[.int .i64 u1, .string u2, .slice Ao u3.length co, .string u4, .slice An u5.length cn] 36 (0, 0)) from by rw [eN]; exact blk_sets_far Ngtgo.out [.int .i64 0, .string ⟨#[]⟩, .slice none 0 0, .string ⟨#[]⟩, .slice none 0 0, .string ⟨#[]⟩, .slice none 0 0, .bool false, .bool false, .int .i64 0] 0 _ BT.out)
              clear hN eN  HB BO HO HN BT
              have HB := HB'
              have BO := BO'
              have HO := HO'
              have HN := HN'
              have BT := BT'
              clear HB' BO' HO' HN' BT'
              refine bodyPost_ret (results_ct rfl _ _ go 38 #[.int .i64 0, .string ⟨#[]⟩, .slice none 0 0, .string ⟨#[]⟩, .slice none 0 0, .string ⟨#[]⟩, .slice none 0 0, .bool false, .bool false, .int .i64 0] (0, 0) _ rfl BO.out Tryz.underlying38 rfl (by kernel_rfl)) rfl ?_
              exact ⟨_, _, _, rfl, Kd.R_nil _ _ _ _ _, Kd.R_nil _ _ _ _ _, Kd.R_nil _ _ _ _ _, HB.out⟩
          | succ k1 =>
            have pr1 : ((i : Int) < (m : Int)) = True := eq_true (by have := HQ.out; omega)
            have pr2 : (i < m) = True := eq_true (by have := HQ.out; omega)
            have hst := HST.out
            unfold stepsN at hst
            by_cases hpe : p < lineTo v ln
            · rw [if_pos hpe] at hst
              have pr3 : ((p : Int) ≥ (lineTo v ln : Int)) = False := eq_false (by omega)
              have pr4 : ((lineTo v ln : Int) ≤ (p : Int)) = False := eq_false (by omega)
              have pr5 : (lineTo v ln ≤ p) = False := eq_false (by omega)
              obtain ⟨kn, hkn⟩ := (gnext_ev v (by have := HV.out; omega) (p : Int)).rounds
              have HKN := aM hkn
              have HST2 := aM hst
              have E4 := aM (show wrap64 ((i : Int) + 1) = ((i + 1 : Nat) : Int) from w1n (n := 200000) (by have := HQ.out; have := HOR.out; omega) (by omega))
              clear hkn hst
              replace hd2 := (bC HD.out.hg 2).trans (rfl : _ = some (Value.string v))
              go_wp2_with (first
                | ((with_reducible refine gate_callee (f := 47) rfl ?_); refine goesL_ (some 76) rfl rfl Tryz.func47 (by kernel_rfl) rfl #[.string v, .int .i64 (p : Int)] rfl (by (try simp only [List.map_toArray, List.map_cons, List.map_nil]); first | done | rfl) ?_; (with_reducible refine (glyph_Next.calls kn v (p : Int) _ _ (HM.out.below HB.out) HKN.out).mono ?_); rintro e W11 ⟨rfl, hb⟩; replace HD := aM (HD.out.below hb); replace HB := aM (bP HB.out hb); replace BO := aM (bB BO.out hb); refine ⟨_, rfl, ?_⟩; clear hb; replace hd2 := (bC HD.out.hg 2).trans (rfl : _ = some (Value.string v)))
                )
              go_roundg k1
              case measure => exact Nat.lt_succ_self k1
              case rel => exact ⟨_, i + 1, rfl, congrArg (Value.int IntKind.i64) E4.out, ⟨by have := HQ.out; omega⟩, HST2, HD, HB, BO⟩
            · rw [if_neg hpe] at hst
              subst hst
              have hD := HDD.out
              dsimp only at hD
              unfold noO at hD
              simp only [Prod.mk.injEq] at hD
              obtain ⟨rfl, rfl, rfl, rfl, rfl, rfl, rfl, rfl, rfl, rfl, rfl⟩ := hD
              have pr3 : ((p : Int) ≥ (lineTo v ln : Int)) = True := eq_true (by omega)
              have pr4 : ((lineTo v ln : Int) ≤ (p : Int)) = True := eq_true (by omega)
              have pr5 : (lineTo v ln ≤ p) = True := eq_true (by omega)
              replace ho0 := (bC BO.out 0).trans (rfl : _ = some (Value.int .i64 0))
              replace ho1 := (bC BO.out 1).trans (rfl : _ = some (Value.string ⟨#[]⟩))
              replace ho2 := (bC BO.out 2).trans (rfl : _ = some (Value.slice none 0 0))
              replace ho3 := (bC BO.out 3).trans (rfl : _ = some (Value.string ⟨#[]⟩))
              replace ho4 := (bC BO.out 4).trans (rfl : _ = some (Value.slice none 0 0))
              replace ho5 := (bC BO.out 5).trans (rfl : _ = some (Value.string ⟨#[]⟩))
              replace ho6 := (bC BO.out 6).trans (rfl : _ = some (Value.slice none 0 0))
              replace ho7 := (bC BO.out 7).trans (rfl : _ = some (Value.bool false))
              replace ho8 := (bC BO.out 8).trans (rfl : _ = some (Value.bool false))
              replace ho9 := (bC BO.out 9).trans (rfl : _ = some (Value.int .i64 0))
              replace ho0f := bF BO.out 0
              replace ho1f := bF BO.out 1
              replace ho2f := bF BO.out 2
              replace ho3f := bF BO.out 3
              replace ho4f := bF BO.out 4
              replace ho5f := bF BO.out 5
              replace ho6f := bF BO.out 6
              replace ho7f := bF BO.out 7
              replace ho8f := bF BO.out 8
              replace ho9f := bF BO.out 9
              go_wp2
              clear HD
              generalize hN : ((((((((((wr.setCell ⟨go, 0, none⟩ (.int .i64 0)).setCell ⟨go, 1, none⟩ (.string ⟨#[]⟩)).setCell ⟨go, 2, none⟩ (.slice none 0 0)).setCell ⟨go, 3, none⟩ (.string ⟨#[]⟩)).setCell ⟨go, 4, none⟩ (.slice none 0 0)).setCell ⟨go, 5, none⟩ (.string ⟨#[]⟩)).setCell ⟨go, 6, none⟩ (.slice none 0 0)).setCell ⟨go, 7, none⟩ (.bool false)).setCell ⟨go, 8, none⟩ (.bool false)).setCell ⟨go, 9, none⟩ (.int .i64 0)) = W11
              have eN : W11 = putL wr go 0 [.int .i64 0, .string ⟨#[]⟩, .slice none 0 0, .string ⟨#[]⟩, .slice none 0 0, .string ⟨#[]⟩, .slice none 0 0, .bool false, .bool false, .int .i64 0] := by rw [← hN]; simp only [putL]
              have HB' := aM (show Below w.heap.size w W11 from by rw [eN]; exact below_sets Ggo.out [.int .i64 0, .string ⟨#[]⟩, .slice none 0 0, .string ⟨#[]⟩, .slice none 0 0, .string ⟨#[]⟩, .slice none 0 0, .bool false, .bool false, .int .i64 0] 0 _ HB.out)
              have BO' := aM (show W11.heap[go]? = some (.cells #[.int .i64 0, .string ⟨#[]⟩, .slice none 0 0, .string ⟨#[]⟩, .slice none 0 0, .string ⟨#[]⟩, .slice none 0 0, .bool false, .bool false, .int .i64 0] 38 (0, 0)) from by rw [eN, blk_sets [.int .i64 0, .string ⟨#[]⟩, .slice none 0 0, .string ⟨#[]⟩, .slice none 0 0, .string ⟨#[]⟩, .slice none 0 0, .bool false, .bool false, .int .i64 0] 0 _ _ BO.out]; simp only [setsL, List.setIfInBounds_toArray, List.set_cons_zero, List.set_cons_succ])
              clear hN eN  HB BO ho0 ho1 ho2 ho3 ho4 ho5 ho6 ho7 ho8 ho9 ho0f ho1f ho2f ho3f ho4f ho5f ho6f ho7f ho8f ho9f
              have HB := HB'
              have BO := BO'
              clear HB' BO'
              refine bodyPost_ret (results_ct rfl _ _ go 38 #[.int .i64 0, .string ⟨#[]⟩, .slice none 0 0, .string ⟨#[]⟩, .slice none 0 0, .string ⟨#[]⟩, .slice none 0 0, .bool false, .bool false, .int .i64 0] (0, 0) _ rfl BO.out Tryz.underlying38 rfl (by kernel_rfl)) rfl ?_
              exact ⟨_, _, _, rfl, Kd.R_nil _ _ _ _ _, Kd.R_nil _ _ _ _ _, Kd.R_nil _ _ _ _ _, HB.out⟩
  · rw [if_neg (fun hh => he hh.1)] at hD
    have b3 : (er != 0) = true := bne_iff_ne.2 he
    have b4 : (er == 0) = false := beq_eq_false_iff_ne.2 he
    unfold noO at hD
    simp only [Prod.mk.injEq] at hD
    obtain ⟨rfl, rfl, rfl, rfl, rfl, rfl, rfl, rfl, rfl, rfl, rfl⟩ := hD
    go_enter Tryz.func15, Tryz.ntmps15
    go_wp2_with (first
      | ((with_reducible refine gate_dst (N := 5) rfl ?_); refine box_event ?hg (N := 5) ?hd (cs := #[.string s, .slice A l.length c]) (t := 24) ?hr ?_; (case hd => rfl); (case hg => rfl); (case hr => first | (go_simp; done) | (go_simp; rfl)); intro gx hg W1 hbox hb; have Ggx := aM (show w.heap.size ≤ gx from by rw [hg]; exact Nat.le_refl _); have HB := aM hb; have BX := aM hbox; clear hb hbox hg)
      | ((with_reducible refine gate_dst (N := 10) rfl ?_); refine box_event ?hg (N := 10) ?hd (cs := #[.int .i64 0, .string ⟨#[]⟩, .slice none 0 0, .string ⟨#[]⟩, .slice none 0 0, .string ⟨#[]⟩, .slice none 0 0, .bool false, .bool false, .int .i64 0]) (t := 38) ?hr ?_; (case hd => rfl); (case hg => rfl); (case hr => first | (go_simp; done) | (go_simp; rfl)); intro go hg W2 hbox hb; have Ggo := aM (show w.heap.size ≤ go from by rw [hg]; exact HB.out.size); have Ngogx := aM (show go ≠ gx from by have := blk_lt BX.out; omega); replace HB := aM (bP HB.out hb); replace BX := aM (bB BX.out hb); have BO := aM hbox; clear hb hbox hg; replace hx0 := (bC BX.out 0).trans (rfl : _ = some (Value.string s)); replace hx1 := (bC BX.out 1).trans (rfl : _ = some (Value.slice A l.length c)))
      | ((with_reducible refine gate_callee (f := 29) rfl ?_); refine goesL_ (some 26) rfl rfl Tryz.func29 (by kernel_rfl) rfl #[.agg #[.string s, .slice A l.length c], .int .u64 y] rfl (by (try simp only [List.map_toArray, List.map_cons, List.map_nil]); first | done | rfl) ?_; (with_reducible refine (open_ok kv HL.out (cB_ HRC.out HB.out) HCC.out er HF.out).mono ?_); rintro e W3 ⟨g, rfl, hD0, hb⟩; have HD := aM (hD0); have LW := aM (HB.out.size); replace HB := aM (bP HB.out hb); replace BX := aM (bB BX.out hb); replace BO := aM (bB BO.out hb); refine ⟨_, rfl, ?_⟩; clear hb; replace ho0 := (bC BO.out 0).trans (rfl : _ = some (Value.int .i64 0)); replace ho1 := (bC BO.out 1).trans (rfl : _ = some (Value.string ⟨#[]⟩)); replace ho2 := (bC BO.out 2).trans (rfl : _ = some (Value.slice none 0 0)); replace ho3 := (bC BO.out 3).trans (rfl : _ = some (Value.string ⟨#[]⟩)); replace ho4 := (bC BO.out 4).trans (rfl : _ = some (Value.slice none 0 0)); replace ho5 := (bC BO.out 5).trans (rfl : _ = some (Value.string ⟨#[]⟩)); replace ho6 := (bC BO.out 6).trans (rfl : _ = some (Value.slice none 0 0)); replace ho7 := (bC BO.out 7).trans (rfl : _ = some (Value.bool false)); replace ho8 := (bC BO.out 8).trans (rfl : _ = some (Value.bool false)); replace ho9 := (bC BO.out 9).trans (rfl : _ = some (Value.int .i64 0)); replace ho0f := bF BO.out 0; replace ho1f := bF BO.out 1; replace ho2f := bF BO.out 2; replace ho3f := bF BO.out 3; replace ho4f := bF BO.out 4; replace ho5f := bF BO.out 5; replace ho6f := bF BO.out 6; replace ho7f := bF BO.out 7; replace ho8f := bF BO.out 8; replace ho9f := bF BO.out 9)
      )
    clear HD
    generalize hN : ((((((((((W3.setCell ⟨go, 0, none⟩ (.int .i64 0)).setCell ⟨go, 1, none⟩ (.string ⟨#[]⟩)).setCell ⟨go, 2, none⟩ (.slice none 0 0)).setCell ⟨go, 3, none⟩ (.string ⟨#[]⟩)).setCell ⟨go, 4, none⟩ (.slice none 0 0)).setCell ⟨go, 5, none⟩ (.string ⟨#[]⟩)).setCell ⟨go, 6, none⟩ (.slice none 0 0)).setCell ⟨go, 7, none⟩ (.bool false)).setCell ⟨go, 8, none⟩ (.bool false)).setCell ⟨go, 9, none⟩ (.int .i64 0)) = W4
    have eN : W4 = putL W3 go 0 [.int .i64 0, .string ⟨#[]⟩, .slice none 0 0, .string ⟨#[]⟩, .slice none 0 0, .string ⟨#[]⟩, .slice none 0 0, .bool false, .bool false, .int .i64 0] := by rw [← hN]; simp only [putL]
    have HB' := aM (show Below w.heap.size w W4 from by rw [eN]; exact below_sets Ggo.out [.int .i64 0, .string ⟨#[]⟩, .slice none 0 0, .string ⟨#[]⟩, .slice none 0 0, .string ⟨#[]⟩, .slice none 0 0, .bool false, .bool false, .int .i64 0] 0 _ HB.out)
    have BX' := aM (show W4.heap[gx]? = some (.cells #[.string s, .slice A l.length c] 24 (0, 0)) from by rw [eN]; exact blk_sets_far Ngogx.out.symm [.int .i64 0, .string ⟨#[]⟩, .slice none 0 0, .string ⟨#[]⟩, .slice none 0 0, .string ⟨#[]⟩, .slice none 0 0, .bool false, .bool false, .int .i64 0] 0 _ BX.out)
    have BO' := aM (show W4.heap[go]? = some (.cells #[.int .i64 0, .string ⟨#[]⟩, .slice none 0 0, .string ⟨#[]⟩, .slice none 0 0, .string ⟨#[]⟩, .slice none 0 0, .bool false, .bool false, .int .i64 0] 38 (0, 0)) from by rw [eN, blk_sets [.int .i64 0, .string ⟨#[]⟩, .slice none 0 0, .string ⟨#[]⟩, .slice none 0 0, .string ⟨#[]⟩, .slice none 0 0, .bool false, .bool false, .int .i64 0] 0 _ _ BO.out]; simp only [setsL, List.setIfInBounds_toArray, List.set_cons_zero, List.set_cons_succ])
    clear hN eN  HB BX BO ho0 ho1 ho2 ho3 ho4 ho5 ho6 ho7 ho8 ho9 ho0f ho1f ho2f ho3f ho4f ho5f ho6f ho7f ho8f ho9f
    have HB := HB'
    have BX := BX'
    have BO := BO'
    clear HB' BX' BO'
    refine bodyPost_ret (results_ct rfl _ _ go 38 #[.int .i64 0, .string ⟨#[]⟩, .slice none 0 0, .string ⟨#[]⟩, .slice none 0 0, .string ⟨#[]⟩, .slice none 0 0, .bool false, .bool false, .int .i64 0] (0, 0) _ rfl BO.out Tryz.underlying38 rfl (by kernel_rfl)) rfl ?_
    exact ⟨_, _, _, rfl, Kd.R_nil _ _ _ _ _, Kd.R_nil _ _ _ _ _, Kd.R_nil _ _ _ _ _, HB.out⟩
end Go.Proofs.YtjkfkiebhgkolaaGreatDoor.PB
end

section
namespace Go.Proofs.YtjkfkiebhgkolaaGreatDoor.PB
open Go.RowKit Go.Maps Go.Proofs.YtjkfkiebhgkolaaGreatDoorW.PrintWords Go.Proofs.YtjkfkiebhgkolaaGreatDoorW.PrintLast Go.Proofs.YtjkfkiebhgkolaaGreatDoorW.PrintMore
set_option maxRecDepth 100000
set_option linter.unusedVariables false
set_option linter.unusedSimpArgs false
theorem bytes_ext {x : ByteArray} {l : List UInt8} (h : x.data.toList = l) : x = ⟨l.toArray⟩ := by
  obtain ⟨⟨d⟩⟩ := x
  subst h
  rfl
abbrev aT : ByteArray := ⟨#[97, 98, 10, 32, 99, 100]⟩
theorem alive_d {op : Int} (h : doOps op = true) {x : OX} (hx : doS aliveT [⟨1, 6⟩] 1 op 0 0 true = x) : oper_Do.f aT [⟨1, 6⟩] 1 op 0 0 true = some x := by
  subst hx
  exact if_pos ⟨by decide, h⟩
theorem alive_a : ∃ (r1 : Int) (r2 : ByteArray) (r3 : List S68) (r5 : List S68) (r6 : ByteArray) (r7 : List S68) (r8 r9 : Bool), oper_Do.f aT [⟨1, 6⟩] 1 74 0 0 true = some (r1, r2, r3, ⟨#[97, 98, 32, 99, 100]⟩, r5, r6, r7, r8, r9, 2, 0) := by
  have h := alive_do1
  generalize hx : doS aliveT [⟨1, 6⟩] 1 74 0 0 true = x at h
  rw [alive_d (by decide) hx]
  obtain ⟨r1, r2, r3, r4, r5, r6, r7, r8, r9, r10, r11⟩ := x
  obtain ⟨h1, h2, h3⟩ := h
  dsimp only at h1 h2 h3
  have h4 := bytes_ext h2
  subst h1 h3 h4
  exact ⟨_, _, _, _, _, _, _, _, rfl⟩
theorem alive_b : ∃ (r1 : Int) (r3 : List S68) (r4 : ByteArray) (r5 r7 : List S68), oper_Do.f aT [⟨1, 6⟩] 1 100 0 0 true = some (r1, ⟨#[97, 98, 10]⟩, r3, r4, r5, ⟨#[97, 98]⟩, r7, true, true, 1, 0) := by
  have h := alive_do2
  generalize hx : doS aliveT [⟨1, 6⟩] 1 100 0 0 true = x at h
  rw [alive_d (by decide) hx]
  obtain ⟨r1, r2, r3, r4, r5, r6, r7, r8, r9, r10, r11⟩ := x
  obtain ⟨h1, h2, h3, h4, h5, h6⟩ := h
  dsimp only at h1 h2 h3 h4 h5 h6
  have h7 := bytes_ext h2
  have h8 := bytes_ext h3
  subst h1 h4 h5 h6 h7 h8
  exact ⟨_, _, _, _, _, rfl⟩
theorem alive_c : ∃ (r1 : Int) (r2 : ByteArray) (r3 : List S68) (r4 : ByteArray) (r5 : List S68) (r6 : ByteArray) (r7 : List S68) (r8 r9 : Bool) (r10 : Int), oper_Swap.f aT [⟨1, 6⟩] 1 0 3 120 = some (r1, r2, r3, r4, r5, r6, r7, r8, r9, r10, 6) := by
  have h := alive_swap
  generalize hx : swapS aliveT [⟨1, 6⟩] 1 0 3 120 = x at h
  rw [show oper_Swap.f aT [⟨1, 6⟩] 1 0 3 120 = some x from (if_pos (by decide)).trans (congrArg some hx)]
  obtain ⟨r1, r2, r3, r4, r5, r6, r7, r8, r9, r10, r11⟩ := x
  dsimp only at h
  subst h
  exact ⟨_, _, _, _, _, _, _, _, _, _, rfl⟩
set_option maxHeartbeats 4000000 in
theorem alive_walk (w : World) (hMX : NumOk w) :
    Calls Tryz.prog 9 #[] w fun e w' => e = .returned (.bool true) ∧ Below w.heap.size w w' := by
  have HM := aM hMX
  obtain ⟨a1, a2, a3, a5, a6, a7, a8, a9, ha⟩ := alive_a
  obtain ⟨b1, b3, b4, b5, b7, hb0⟩ := alive_b
  obtain ⟨c1, c2, c3, c4, c5, c6, c7, c8, c9, c10, hc⟩ := alive_c
  have HA := aM ha
  have HBB := aM hb0
  have HCC := aM hc
  clear hMX ha hb0 hc
  go_enter Tryz.func9, Tryz.ntmps9
  go_wp2_with (first
    | ((with_reducible refine gate_dst (N := 9) rfl ?_); refine Kd.R_lit k68 _ 68 ?hg (N := 9) ?hd (xs := ([(⟨1, 6⟩ : S68)] : List S68)) (inner := [.int .u64 1, .int .i64 6]) (ok := fun _ => True) (okp := fun _ => True) ?hr ?hp (fun _ hk => hk) trivial (Below.refl _ _) (Nat.le_refl _) (by simp) ?_; (case hd => rfl); (case hg => rfl); (case hr => first | (go_simp; done) | (go_simp; rfl)); (case hp => exact (Reps.c2 (show Kd.M k68 _ _ _ (⟨1, 6⟩ : S68) [.int .u64 1, .int .i64 6] from (k68_mkM _ _ _ (⟨1, 6⟩ : S68) )) (Reps.none _ _))); intro vy W1 ho hb hg_ hnew_; clear hg_ hnew_; have HY := aM ho; have HB := aM hb; clear hb ho; obtain ⟨Ay, cy, rfl⟩ := Kd.R_slice HY.out)
    | ((with_reducible refine gate_dst (N := 1) rfl ?_); refine box_event ?hg (N := 1) ?hd (cs := #[.string ⟨#[]⟩, .slice none 0 0]) (t := 24) ?hr ?_; (case hd => rfl); (case hg => rfl); (case hr => first | (go_simp; done) | (go_simp; rfl)); intro gx hg W2 hbox hb; have Ggx := aM (show w.heap.size ≤ gx from by rw [hg]; exact HB.out.size); replace HB := aM (bP HB.out hb); replace HY := aM (Kd.R_below HY.out hb); have BX := aM hbox; clear hb hbox hg; replace hx0 := (bC BX.out 0).trans (rfl : _ = some (Value.string ⟨#[]⟩)); replace hx1 := (bC BX.out 1).trans (rfl : _ = some (Value.slice none 0 0)); replace hx0f := bF BX.out 0; replace hx1f := bF BX.out 1)
    | ((with_reducible refine gate_callee (f := 11) rfl ?_); refine goesL_ (some 14) rfl rfl Tryz.func11 (by kernel_rfl) rfl #[.agg #[.string ⟨#[97, 98, 10, 32, 99, 100]⟩, .slice Ay 1 cy], .int .u64 1, .int .i32 74, .agg #[.int .i64 0, .int .i64 0, .bool true]] rfl (by (try simp only [List.map_toArray, List.map_cons, List.map_nil]); first | done | rfl) ?_; generalize hN : ((W2.setCell ⟨gx, 0, none⟩ (.string ⟨#[97, 98, 10, 32, 99, 100]⟩)).setCell ⟨gx, 1, none⟩ (.slice Ay 1 cy)) = W3; have eN : W3 = putL W2 gx 0 [.string ⟨#[97, 98, 10, 32, 99, 100]⟩, .slice Ay 1 cy] := (by rw [← hN]; simp only [putL]); have HB' := aM (show Below w.heap.size w W3 from by rw [eN]; exact below_sets Ggx.out [.string ⟨#[97, 98, 10, 32, 99, 100]⟩, .slice Ay 1 cy] 0 _ HB.out); have HY' := aM (show Kd.R k68 68 W3 w.heap.size (fun _ => True) (.slice Ay ([(⟨1, 6⟩ : S68)] : List S68).length cy) ([(⟨1, 6⟩ : S68)] : List S68) from by rw [eN]; exact R_sets (by decide) [.string ⟨#[97, 98, 10, 32, 99, 100]⟩, .slice Ay 1 cy] 0 _ _ BX.out HY.out); have BX' := aM (show W3.heap[gx]? = some (.cells #[.string ⟨#[97, 98, 10, 32, 99, 100]⟩, .slice Ay 1 cy] 24 (0, 0)) from by rw [eN, blk_sets [.string ⟨#[97, 98, 10, 32, 99, 100]⟩, .slice Ay 1 cy] 0 _ _ BX.out]; simp only [setsL, List.setIfInBounds_toArray, List.set_cons_zero, List.set_cons_succ]); clear hN eN  HB HY BX hx0 hx1 hx0f hx1f; have HB := HB'; have HY := HY'; have BX := BX'; clear HB' HY' BX'; (refine (oper_Do.calls aT Ay cy [⟨1, 6⟩] 1 74 0 0 true a1 a2 a3 ⟨#[97, 98, 32, 99, 100]⟩ a5 a6 a7 a8 a9 2 0 _ (HM.out.below HB.out) (rR HY.out).2.2 (rR HY.out).2.1 HA.out).mono ?_); rintro e W4 ⟨pv2, pv4, pv6, rfl, ho2, ho4, ho6, hb⟩; replace HB := aM (bP HB.out hb); replace HY := aM (Kd.R_below HY.out hb); replace BX := aM (bB BX.out hb); obtain ⟨pA2, pc2, rfl⟩ := Kd.R_slice ho2; obtain ⟨pA4, pc4, rfl⟩ := Kd.R_slice ho4; obtain ⟨pA6, pc6, rfl⟩ := Kd.R_slice ho6; clear ho2 ho4 ho6; refine ⟨_, rfl, ?_⟩; clear hb)
    | ((with_reducible refine gate_dst (N := 2) rfl ?_); refine box_event ?hg (N := 2) ?hd (cs := #[.int .i64 0, .string ⟨#[]⟩, .slice none 0 0, .string ⟨#[]⟩, .slice none 0 0, .string ⟨#[]⟩, .slice none 0 0, .bool false, .bool false, .int .i64 0]) (t := 38) ?hr ?_; (case hd => rfl); (case hg => rfl); (case hr => first | (go_simp; done) | (go_simp; rfl)); intro gd hg W5 hbox hb; have Ggd := aM (show w.heap.size ≤ gd from by rw [hg]; exact HB.out.size); have Ngdgx := aM (show gd ≠ gx from by have := blk_lt BX.out; omega); replace HB := aM (bP HB.out hb); replace HY := aM (Kd.R_below HY.out hb); replace BX := aM (bB BX.out hb); have Bgd := aM hbox; clear hb hbox hg; replace hgd0 := (bC Bgd.out 0).trans (rfl : _ = some (Value.int .i64 0)); replace hgd1 := (bC Bgd.out 1).trans (rfl : _ = some (Value.string ⟨#[]⟩)); replace hgd2 := (bC Bgd.out 2).trans (rfl : _ = some (Value.slice none 0 0)); replace hgd3 := (bC Bgd.out 3).trans (rfl : _ = some (Value.string ⟨#[]⟩)); replace hgd4 := (bC Bgd.out 4).trans (rfl : _ = some (Value.slice none 0 0)); replace hgd5 := (bC Bgd.out 5).trans (rfl : _ = some (Value.string ⟨#[]⟩)); replace hgd6 := (bC Bgd.out 6).trans (rfl : _ = some (Value.slice none 0 0)); replace hgd7 := (bC Bgd.out 7).trans (rfl : _ = some (Value.bool false)); replace hgd8 := (bC Bgd.out 8).trans (rfl : _ = some (Value.bool false)); replace hgd9 := (bC Bgd.out 9).trans (rfl : _ = some (Value.int .i64 0)); replace hgx0 := (bC BX.out 0).trans (rfl : _ = some (Value.string ⟨#[97, 98, 10, 32, 99, 100]⟩)); replace hgx1 := (bC BX.out 1).trans (rfl : _ = some (Value.slice Ay 1 cy)); replace hgd0f := bF Bgd.out 0; replace hgd1f := bF Bgd.out 1; replace hgd2f := bF Bgd.out 2; replace hgd3f := bF Bgd.out 3; replace hgd4f := bF Bgd.out 4; replace hgd5f := bF Bgd.out 5; replace hgd6f := bF Bgd.out 6; replace hgd7f := bF Bgd.out 7; replace hgd8f := bF Bgd.out 8; replace hgd9f := bF Bgd.out 9; have n_gdgx := Ngdgx.out; have m_gdgx := n_gdgx.symm)
    | ((with_reducible refine gate_callee (f := 11) rfl ?_); refine goesL_ (some 20) rfl rfl Tryz.func11 (by kernel_rfl) rfl #[.agg #[.string ⟨#[97, 98, 10, 32, 99, 100]⟩, .slice Ay 1 cy], .int .u64 1, .int .i32 100, .agg #[.int .i64 0, .int .i64 0, .bool true]] rfl (by (try simp only [List.map_toArray, List.map_cons, List.map_nil]); first | done | rfl) ?_; generalize hN : ((((((((((W5.setCell ⟨gd, 0, none⟩ (.int .i64 a1)).setCell ⟨gd, 1, none⟩ (.string a2)).setCell ⟨gd, 2, none⟩ (.slice pA2 a3.length pc2)).setCell ⟨gd, 3, none⟩ (.string ⟨#[97, 98, 32, 99, 100]⟩)).setCell ⟨gd, 4, none⟩ (.slice pA4 a5.length pc4)).setCell ⟨gd, 5, none⟩ (.string a6)).setCell ⟨gd, 6, none⟩ (.slice pA6 a7.length pc6)).setCell ⟨gd, 7, none⟩ (.bool a8)).setCell ⟨gd, 8, none⟩ (.bool a9)).setCell ⟨gd, 9, none⟩ (.int .i64 2)) = W6; have eN : W6 = putL W5 gd 0 [.int .i64 a1, .string a2, .slice pA2 a3.length pc2, .string ⟨#[97, 98, 32, 99, 100]⟩, .slice pA4 a5.length pc4, .string a6, .slice pA6 a7.length pc6, .bool a8, .bool a9, .int .i64 2] := (by rw [← hN]; simp only [putL]); have HB' := aM (show Below w.heap.size w W6 from by rw [eN]; exact below_sets Ggd.out [.int .i64 a1, .string a2, .slice pA2 a3.length pc2, .string ⟨#[97, 98, 32, 99, 100]⟩, .slice pA4 a5.length pc4, .string a6, .slice pA6 a7.length pc6, .bool a8, .bool a9, .int .i64 2] 0 _ HB.out); have HY' := aM (show Kd.R k68 68 W6 w.heap.size (fun _ => True) (.slice Ay ([(⟨1, 6⟩ : S68)] : List S68).length cy) ([(⟨1, 6⟩ : S68)] : List S68) from by rw [eN]; exact R_sets (by decide) [.int .i64 a1, .string a2, .slice pA2 a3.length pc2, .string ⟨#[97, 98, 32, 99, 100]⟩, .slice pA4 a5.length pc4, .string a6, .slice pA6 a7.length pc6, .bool a8, .bool a9, .int .i64 2] 0 _ _ Bgd.out HY.out); have BX' := aM (show W6.heap[gx]? = some (.cells #[.string ⟨#[97, 98, 10, 32, 99, 100]⟩, .slice Ay 1 cy] 24 (0, 0)) from by rw [eN]; exact blk_sets_far Ngdgx.out.symm [.int .i64 a1, .string a2, .slice pA2 a3.length pc2, .string ⟨#[97, 98, 32, 99, 100]⟩, .slice pA4 a5.length pc4, .string a6, .slice pA6 a7.length pc6, .bool a8, .bool a9, .int .i64 2] 0 _ BX.out); have Bgd' := aM (show W6.heap[gd]? = some (.cells #[.int .i64 a1, .string a2, .slice pA2 a3.length pc2, .string ⟨#[97, 98, 32, 99, 100]⟩, .slice pA4 a5.length pc4, .string a6, .slice pA6 a7.length pc6, .bool a8, .bool a9, .int .i64 2] 38 (0, 0)) from by rw [eN, blk_sets [.int .i64 a1, .string a2, .slice pA2 a3.length pc2, .string ⟨#[97, 98, 32, 99, 100]⟩, .slice pA4 a5.length pc4, .string a6, .slice pA6 a7.length pc6, .bool a8, .bool a9, .int .i64 2] 0 _ _ Bgd.out]; simp only [setsL, List.setIfInBounds_toArray, List.set_cons_zero, List.set_cons_succ]); clear hN eN  HB HY BX Bgd hgd0 hgd1 hgd2 hgd3 hgd4 hgd5 hgd6 hgd7 hgd8 hgd9 hgx0 hgx1 hgd0f hgd1f hgd2f hgd3f hgd4f hgd5f hgd6f hgd7f hgd8f hgd9f; have HB := HB'; have HY := HY'; have BX := BX'; have Bgd := Bgd'; clear HB' HY' BX' Bgd'; (refine (oper_Do.calls aT Ay cy [⟨1, 6⟩] 1 100 0 0 true b1 ⟨#[97, 98, 10]⟩ b3 b4 b5 ⟨#[97, 98]⟩ b7 true true 1 0 _ (HM.out.below HB.out) (rR HY.out).2.2 (rR HY.out).2.1 HBB.out).mono ?_); rintro e W7 ⟨qv2, qv4, qv6, rfl, ho2, ho4, ho6, hb⟩; replace HB := aM (bP HB.out hb); replace HY := aM (Kd.R_below HY.out hb); replace BX := aM (bB BX.out hb); replace Bgd := aM (bB Bgd.out hb); obtain ⟨qA2, qc2, rfl⟩ := Kd.R_slice ho2; obtain ⟨qA4, qc4, rfl⟩ := Kd.R_slice ho4; obtain ⟨qA6, qc6, rfl⟩ := Kd.R_slice ho6; clear ho2 ho4 ho6; refine ⟨_, rfl, ?_⟩; clear hb)
    | ((with_reducible refine gate_dst (N := 4) rfl ?_); refine box_event ?hg (N := 4) ?hd (cs := #[.int .i64 0, .string ⟨#[]⟩, .slice none 0 0, .string ⟨#[]⟩, .slice none 0 0, .string ⟨#[]⟩, .slice none 0 0, .bool false, .bool false, .int .i64 0]) (t := 38) ?hr ?_; (case hd => rfl); (case hg => rfl); (case hr => first | (go_simp; done) | (go_simp; rfl)); intro ge hg W8 hbox hb; have Gge := aM (show w.heap.size ≤ ge from by rw [hg]; exact HB.out.size); have Ngegx := aM (show ge ≠ gx from by have := blk_lt BX.out; omega); have Ngegd := aM (show ge ≠ gd from by have := blk_lt Bgd.out; omega); replace HB := aM (bP HB.out hb); replace HY := aM (Kd.R_below HY.out hb); replace BX := aM (bB BX.out hb); replace Bgd := aM (bB Bgd.out hb); have Bge := aM hbox; clear hb hbox hg; replace hge0 := (bC Bge.out 0).trans (rfl : _ = some (Value.int .i64 0)); replace hge1 := (bC Bge.out 1).trans (rfl : _ = some (Value.string ⟨#[]⟩)); replace hge2 := (bC Bge.out 2).trans (rfl : _ = some (Value.slice none 0 0)); replace hge3 := (bC Bge.out 3).trans (rfl : _ = some (Value.string ⟨#[]⟩)); replace hge4 := (bC Bge.out 4).trans (rfl : _ = some (Value.slice none 0 0)); replace hge5 := (bC Bge.out 5).trans (rfl : _ = some (Value.string ⟨#[]⟩)); replace hge6 := (bC Bge.out 6).trans (rfl : _ = some (Value.slice none 0 0)); replace hge7 := (bC Bge.out 7).trans (rfl : _ = some (Value.bool false)); replace hge8 := (bC Bge.out 8).trans (rfl : _ = some (Value.bool false)); replace hge9 := (bC Bge.out 9).trans (rfl : _ = some (Value.int .i64 0)); replace hgx0 := (bC BX.out 0).trans (rfl : _ = some (Value.string ⟨#[97, 98, 10, 32, 99, 100]⟩)); replace hgx1 := (bC BX.out 1).trans (rfl : _ = some (Value.slice Ay 1 cy)); replace hge0f := bF Bge.out 0; replace hge1f := bF Bge.out 1; replace hge2f := bF Bge.out 2; replace hge3f := bF Bge.out 3; replace hge4f := bF Bge.out 4; replace hge5f := bF Bge.out 5; replace hge6f := bF Bge.out 6; replace hge7f := bF Bge.out 7; replace hge8f := bF Bge.out 8; replace hge9f := bF Bge.out 9; have n_gegx := Ngegx.out; have m_gegx := n_gegx.symm; have n_gegd := Ngegd.out; have m_gegd := n_gegd.symm)
    | ((with_reducible refine gate_callee (f := 15) rfl ?_); refine goesL_ (some 25) rfl rfl Tryz.func15 (by kernel_rfl) rfl #[.agg #[.string ⟨#[97, 98, 10, 32, 99, 100]⟩, .slice Ay 1 cy], .int .u64 1, .int .i64 0, .int .i64 3, .int .i32 120] rfl (by (try simp only [List.map_toArray, List.map_cons, List.map_nil]); first | done | rfl) ?_; generalize hN : ((((((((((W8.setCell ⟨ge, 0, none⟩ (.int .i64 b1)).setCell ⟨ge, 1, none⟩ (.string ⟨#[97, 98, 10]⟩)).setCell ⟨ge, 2, none⟩ (.slice qA2 b3.length qc2)).setCell ⟨ge, 3, none⟩ (.string b4)).setCell ⟨ge, 4, none⟩ (.slice qA4 b5.length qc4)).setCell ⟨ge, 5, none⟩ (.string ⟨#[97, 98]⟩)).setCell ⟨ge, 6, none⟩ (.slice qA6 b7.length qc6)).setCell ⟨ge, 7, none⟩ (.bool true)).setCell ⟨ge, 8, none⟩ (.bool true)).setCell ⟨ge, 9, none⟩ (.int .i64 1)) = W9; have eN : W9 = putL W8 ge 0 [.int .i64 b1, .string ⟨#[97, 98, 10]⟩, .slice qA2 b3.length qc2, .string b4, .slice qA4 b5.length qc4, .string ⟨#[97, 98]⟩, .slice qA6 b7.length qc6, .bool true, .bool true, .int .i64 1] := (by rw [← hN]; simp only [putL]); have HB' := aM (show Below w.heap.size w W9 from by rw [eN]; exact below_sets Gge.out [.int .i64 b1, .string ⟨#[97, 98, 10]⟩, .slice qA2 b3.length qc2, .string b4, .slice qA4 b5.length qc4, .string ⟨#[97, 98]⟩, .slice qA6 b7.length qc6, .bool true, .bool true, .int .i64 1] 0 _ HB.out); have HY' := aM (show Kd.R k68 68 W9 w.heap.size (fun _ => True) (.slice Ay ([(⟨1, 6⟩ : S68)] : List S68).length cy) ([(⟨1, 6⟩ : S68)] : List S68) from by rw [eN]; exact R_sets (by decide) [.int .i64 b1, .string ⟨#[97, 98, 10]⟩, .slice qA2 b3.length qc2, .string b4, .slice qA4 b5.length qc4, .string ⟨#[97, 98]⟩, .slice qA6 b7.length qc6, .bool true, .bool true, .int .i64 1] 0 _ _ Bge.out HY.out); have BX' := aM (show W9.heap[gx]? = some (.cells #[.string ⟨#[97, 98, 10, 32, 99, 100]⟩, .slice Ay 1 cy] 24 (0, 0)) from by rw [eN]; exact blk_sets_far Ngegx.out.symm [.int .i64 b1, .string ⟨#[97, 98, 10]⟩, .slice qA2 b3.length qc2, .string b4, .slice qA4 b5.length qc4, .string ⟨#[97, 98]⟩, .slice qA6 b7.length qc6, .bool true, .bool true, .int .i64 1] 0 _ BX.out); have Bgd' := aM (show W9.heap[gd]? = some (.cells #[.int .i64 a1, .string a2, .slice pA2 a3.length pc2, .string ⟨#[97, 98, 32, 99, 100]⟩, .slice pA4 a5.length pc4, .string a6, .slice pA6 a7.length pc6, .bool a8, .bool a9, .int .i64 2] 38 (0, 0)) from by rw [eN]; exact blk_sets_far Ngegd.out.symm [.int .i64 b1, .string ⟨#[97, 98, 10]⟩, .slice qA2 b3.length qc2, .string b4, .slice qA4 b5.length qc4, .string ⟨#[97, 98]⟩, .slice qA6 b7.length qc6, .bool true, .bool true, .int .i64 1] 0 _ Bgd.out); have Bge' := aM (show W9.heap[ge]? = some (.cells #[.int .i64 b1, .string ⟨#[97, 98, 10]⟩, .slice qA2 b3.length qc2, .string b4, .slice qA4 b5.length qc4, .string ⟨#[97, 98]⟩, .slice qA6 b7.length qc6, .bool true, .bool true, .int .i64 1] 38 (0, 0)) from by rw [eN, blk_sets [.int .i64 b1, .string ⟨#[97, 98, 10]⟩, .slice qA2 b3.length qc2, .string b4, .slice qA4 b5.length qc4, .string ⟨#[97, 98]⟩, .slice qA6 b7.length qc6, .bool true, .bool true, .int .i64 1] 0 _ _ Bge.out]; simp only [setsL, List.setIfInBounds_toArray, List.set_cons_zero, List.set_cons_succ]); clear hN eN  HB HY BX Bgd Bge hge0 hge1 hge2 hge3 hge4 hge5 hge6 hge7 hge8 hge9 hgx0 hgx1 hge0f hge1f hge2f hge3f hge4f hge5f hge6f hge7f hge8f hge9f; have HB := HB'; have HY := HY'; have BX := BX'; have Bgd := Bgd'; have Bge := Bge'; clear HB' HY' BX' Bgd' Bge'; (refine (oper_Swap.calls aT Ay cy [⟨1, 6⟩] 1 0 3 120 c1 c2 c3 c4 c5 c6 c7 c8 c9 c10 6 _ (HM.out.below HB.out) (rR HY.out).2.2 (rR HY.out).2.1 HCC.out).mono ?_); rintro e W10 ⟨rv2, rv4, rv6, rfl, ho2, ho4, ho6, hb⟩; replace HB := aM (bP HB.out hb); replace HY := aM (Kd.R_below HY.out hb); replace BX := aM (bB BX.out hb); replace Bgd := aM (bB Bgd.out hb); replace Bge := aM (bB Bge.out hb); obtain ⟨rA2, rc2, rfl⟩ := Kd.R_slice ho2; obtain ⟨rA4, rc4, rfl⟩ := Kd.R_slice ho4; obtain ⟨rA6, rc6, rfl⟩ := Kd.R_slice ho6; clear ho2 ho4 ho6; refine ⟨_, rfl, ?_⟩; clear hb)
    | ((with_reducible refine gate_dst (N := 6) rfl ?_); refine box_event ?hg (N := 6) ?hd (cs := #[.int .i64 0, .string ⟨#[]⟩, .slice none 0 0, .string ⟨#[]⟩, .slice none 0 0, .string ⟨#[]⟩, .slice none 0 0, .bool false, .bool false, .int .i64 0]) (t := 38) ?hr ?_; (case hd => rfl); (case hg => rfl); (case hr => first | (go_simp; done) | (go_simp; rfl)); intro gf hg W11 hbox hb; have Ggf := aM (show w.heap.size ≤ gf from by rw [hg]; exact HB.out.size); have Ngfgx := aM (show gf ≠ gx from by have := blk_lt BX.out; omega); have Ngfgd := aM (show gf ≠ gd from by have := blk_lt Bgd.out; omega); have Ngfge := aM (show gf ≠ ge from by have := blk_lt Bge.out; omega); replace HB := aM (bP HB.out hb); replace HY := aM (Kd.R_below HY.out hb); replace BX := aM (bB BX.out hb); replace Bgd := aM (bB Bgd.out hb); replace Bge := aM (bB Bge.out hb); have Bgf := aM hbox; clear hb hbox hg; replace hgf0 := (bC Bgf.out 0).trans (rfl : _ = some (Value.int .i64 0)); replace hgf1 := (bC Bgf.out 1).trans (rfl : _ = some (Value.string ⟨#[]⟩)); replace hgf2 := (bC Bgf.out 2).trans (rfl : _ = some (Value.slice none 0 0)); replace hgf3 := (bC Bgf.out 3).trans (rfl : _ = some (Value.string ⟨#[]⟩)); replace hgf4 := (bC Bgf.out 4).trans (rfl : _ = some (Value.slice none 0 0)); replace hgf5 := (bC Bgf.out 5).trans (rfl : _ = some (Value.string ⟨#[]⟩)); replace hgf6 := (bC Bgf.out 6).trans (rfl : _ = some (Value.slice none 0 0)); replace hgf7 := (bC Bgf.out 7).trans (rfl : _ = some (Value.bool false)); replace hgf8 := (bC Bgf.out 8).trans (rfl : _ = some (Value.bool false)); replace hgf9 := (bC Bgf.out 9).trans (rfl : _ = some (Value.int .i64 0)); replace hgd3 := (bC Bgd.out 3).trans (rfl : _ = some (Value.string ⟨#[97, 98, 32, 99, 100]⟩)); replace hgd9 := (bC Bgd.out 9).trans (rfl : _ = some (Value.int .i64 2)); replace hge1 := (bC Bge.out 1).trans (rfl : _ = some (Value.string ⟨#[97, 98, 10]⟩)); replace hge5 := (bC Bge.out 5).trans (rfl : _ = some (Value.string ⟨#[97, 98]⟩)); replace hge7 := (bC Bge.out 7).trans (rfl : _ = some (Value.bool true)); replace hge8 := (bC Bge.out 8).trans (rfl : _ = some (Value.bool true)); replace hge9 := (bC Bge.out 9).trans (rfl : _ = some (Value.int .i64 1)); replace hgf0f := bF Bgf.out 0; replace hgf1f := bF Bgf.out 1; replace hgf2f := bF Bgf.out 2; replace hgf3f := bF Bgf.out 3; replace hgf4f := bF Bgf.out 4; replace hgf5f := bF Bgf.out 5; replace hgf6f := bF Bgf.out 6; replace hgf7f := bF Bgf.out 7; replace hgf8f := bF Bgf.out 8; replace hgf9f := bF Bgf.out 9; have n_gfgx := Ngfgx.out; have m_gfgx := n_gfgx.symm; have n_gfgd := Ngfgd.out; have m_gfgd := n_gfgd.symm; have n_gfge := Ngfge.out; have m_gfge := n_gfge.symm)
    )
  go_ret
  exact ⟨rfl, below_sets Ggf.out [.int .i64 c1, .string c2, .slice rA2 c3.length rc2, .string c4, .slice rA4 c5.length rc4, .string c6, .slice rA6 c7.length rc6, .bool c8, .bool c9, .int .i64 c10] 0 _ HB.out⟩
def bureaulaw14_alive.f : Option Bool := some true
theorem alive_ok : bureaulaw14_alive.f = some true := rfl
theorem bureaulaw14_alive.calls (r : Bool) (w : World) (hMX : NumOk w) (h : bureaulaw14_alive.f = some r) :
    Calls Tryz.prog 9 #[] w fun e w' => e = .returned (.bool r) ∧ Below w.heap.size w w' := by
  obtain rfl := Option.some.inj h
  exact alive_walk w hMX
end Go.Proofs.YtjkfkiebhgkolaaGreatDoor.PB
end

section
namespace Go.Proofs.YtjkfkiebhgkolaaGreatDoor.PB
open Go.RowKit Go.Proofs.YtjkfkiebhgkolaaGreatDoorW.PrintWords Go.Proofs.YtjkfkiebhgkolaaGreatDoorW.PrintLast Go.Proofs.YtjkfkiebhgkolaaGreatDoorW.PrintMore
attribute [local go_sem] max2_int min2_int max_two min_two max_three min_three max_four min_four   
set_option linter.unusedVariables false
set_option linter.unusedSimpArgs false
def oper_Span.f (k : Nat) (a0 : ByteArray) (a1 : Int) (a2 : Int) (a3 : Int) : Option (Int × Int × Bool) := (glyph_Align.f k a0 a1).bind fun t927 => ((glyph_Align.f k a0 a2).bind fun t928 => (if a3 = 2 then ((line_Of.f a0 (mn t927 t928)).bind fun t929 => ((line_Of.f a0 (mx t927 t928)).bind fun t930 => (some (t929, t930, true)))) else (if a3 = 1 then ((glyph_Next.f k a0 (mx t927 t928)).bind fun t931 => (some (mn t927 t928, t931, false))) else (some (mn t927 t928, mx t927 t928, false)))))
set_option maxHeartbeats 8000000 in
set_option maxRecDepth 100000 in
theorem oper_Span.calls (k : Nat) (a0 : ByteArray) (a1 : Int) (a2 : Int) (a3 : Int) (r1 : Int) (r2 : Int) (r3 : Bool) (w : World) (hMX : NumOk w) (h : oper_Span.f k a0 a1 a2 a3 = some (r1, r2, r3)) :
  Calls Tryz.prog 17 #[.string a0, .int .i64 a1, .int .i64 a2, .int .i64 a3] w fun e w' => e = .returned (.agg #[.int .i64 r1, .int .i64 r2, .bool r3]) ∧ Below w.heap.size w w' := by
 have HMX := aM hMX
 clear hMX
 have hu28 := Tryz.underlying28
 have HB := aM (Below.refl w.heap.size w)
 have H : ((glyph_Align.f k a0 a1).bind fun t927 => ((glyph_Align.f k a0 a2).bind fun t928 => (if a3 = 2 then ((line_Of.f a0 (mn t927 t928)).bind fun t929 => ((line_Of.f a0 (mx t927 t928)).bind fun t930 => (some (t929, t930, true)))) else (if a3 = 1 then ((glyph_Next.f k a0 (mx t927 t928)).bind fun t931 => (some (mn t927 t928, t931, false))) else (some (mn t927 t928, mx t927 t928, false)))))) = some (r1, r2, r3) := h
 clear h
 replace H := Option.bind_eq_some_iff.mp H
 obtain ⟨t927, A50, H⟩ := H
 replace H : ((glyph_Align.f k a0 a2).bind fun t928 => (if a3 = 2 then ((line_Of.f a0 (mn t927 t928)).bind fun t929 => ((line_Of.f a0 (mx t927 t928)).bind fun t930 => (some (t929, t930, true)))) else (if a3 = 1 then ((glyph_Next.f k a0 (mx t927 t928)).bind fun t931 => (some (mn t927 t928, t931, false))) else (some (mn t927 t928, mx t927 t928, false))))) = some (r1, r2, r3) := H
 have A5 := aM A50
 clear A50
 replace H := Option.bind_eq_some_iff.mp H
 obtain ⟨t928, A60, H⟩ := H
 replace H : (if a3 = 2 then ((line_Of.f a0 (mn t927 t928)).bind fun t929 => ((line_Of.f a0 (mx t927 t928)).bind fun t930 => (some (t929, t930, true)))) else (if a3 = 1 then ((glyph_Next.f k a0 (mx t927 t928)).bind fun t931 => (some (mn t927 t928, t931, false))) else (some (mn t927 t928, mx t927 t928, false)))) = some (r1, r2, r3) := H
 have A6 := aM A60
 clear A60
 obtain ⟨ji7, hji7⟩ : ∃ j_ : Int, (mn t927 t928) = j_ := ⟨_, rfl⟩
 replace H : (if a3 = 2 then ((line_Of.f a0 (ji7)).bind fun t929 => ((line_Of.f a0 (mx t927 t928)).bind fun t930 => (some (t929, t930, true)))) else (if a3 = 1 then ((glyph_Next.f k a0 (mx t927 t928)).bind fun t931 => (some (ji7, t931, false))) else (some (ji7, mx t927 t928, false)))) = some (r1, r2, r3) := by first | (rw [hji7] at H; exact H) | (simp only [hji7] at H ⊢; exact H)
 (try rw [hji7] at A5)
 (try rw [hji7] at A6)
 have hji7_ : (if t928 < t927 then t928 else t927) = ji7 := hji7
 obtain ⟨ji8, hji8⟩ : ∃ j_ : Int, (mx t927 t928) = j_ := ⟨_, rfl⟩
 replace H : (if a3 = 2 then ((line_Of.f a0 (ji7)).bind fun t929 => ((line_Of.f a0 (ji8)).bind fun t930 => (some (t929, t930, true)))) else (if a3 = 1 then ((glyph_Next.f k a0 (ji8)).bind fun t931 => (some (ji7, t931, false))) else (some (ji7, ji8, false)))) = some (r1, r2, r3) := by first | (rw [hji8] at H; exact H) | (simp only [hji8] at H ⊢; exact H)
 (try rw [hji8] at A5)
 (try rw [hji8] at A6)
 have hji8_ : (if t927 < t928 then t928 else t927) = ji8 := hji8
 by_cases c9 : a3 = 2
 ·rw [if_pos c9] at H
  have c9b0 : (a3 == 2) = true := beq_iff_eq.mpr c9
  have c9b1 : (a3 != 2) = false := bne_eq_false_iff_eq.mpr c9
  clear c9
  replace H := Option.bind_eq_some_iff.mp H
  obtain ⟨t929, A100, H⟩ := H
  replace H : ((line_Of.f a0 (ji8)).bind fun t930 => (some (t929, t930, true))) = some (r1, r2, r3) := H
  have A10 := aM A100
  clear A100
  replace H := Option.bind_eq_some_iff.mp H
  obtain ⟨t930, A110, H⟩ := H
  replace H : (some (t929, t930, true)) = some (r1, r2, r3) := H
  have A11 := aM A110
  clear A110
  simp only [Option.some.injEq, Prod.mk.injEq] at H
  obtain ⟨rfl, rfl, rfl⟩ := H
  go_enter Tryz.func17, Tryz.ntmps17
  go_wp2_with (first | ((with_reducible refine gate_dst (N := 8) rfl ?_); refine box_event ?hg (N := 8) ?hd (cs := #[.int .i64 0, .int .i64 0, .bool false]) (t := 28) ?hr ?_; (case hd | hg => rfl); (case hr => first | (go_simp; done) | (go_simp; rfl)); intro gb926 hg w12 hbox hb; have n0_ := aM (bP (ey HB.out) hb); have n1_ := aM (hbox); have n2_ := aM ((by rw [hg]; exact (bZ (ey HB.out)) : w.heap.size ≤ gb926)); have n3_ := n2_; clear HB; have HB := n0_; have BK926 := n1_; have GW926 := n2_; have GE926 := n3_; clear n0_ n1_ n2_ n3_; clear hb hbox hg) | ((with_reducible refine gate_callee (f := 43) rfl ?_); refine goesL_ (some 13) rfl rfl Tryz.func43 (by kernel_rfl) rfl #[.string a0, .int .i64 a1] rfl (by (try simp only [mT, mC, mN]); first | done | rfl | (simp only [lD, lT]; rfl)) ?_; (with_reducible refine (glyph_Align.calls k a0 a1 t927 _ ?mx13 A5.out).mono ?_); (case mx13 => exact NumOk.below HMX.out (by repeat (first | (with_reducible first | exact HB.out | apply ea | apply en | apply ed | refine es ?_ GE926.out) | exact HB.out))); rintro e w13 ⟨rfl, hb⟩; refine ⟨_, rfl, ?_⟩; have n0_ := aM (bB (g := gb926) (qy BK926.out) hb); have n1_ := aM (bP (by repeat (first | (with_reducible first | exact HB.out | apply ea | apply en | apply ed | refine es ?_ GE926.out) | exact HB.out)) hb); clear BK926 HB; have BK926 := n0_; have HB := n1_; clear n0_ n1_; (try clear hb); (try clear hb2); (try clear hk); (try clear hi)) | ((with_reducible refine gate_callee (f := 43) rfl ?_); refine goesL_ (some 16) rfl rfl Tryz.func43 (by kernel_rfl) rfl #[.string a0, .int .i64 a2] rfl (by (try simp only [mT, mC, mN]); first | done | rfl | (simp only [lD, lT]; rfl)) ?_; (with_reducible refine (glyph_Align.calls k a0 a2 t928 _ ?mx14 A6.out).mono ?_); (case mx14 => exact NumOk.below HMX.out (by repeat (first | (with_reducible first | exact HB.out | apply ea | apply en | apply ed | refine es ?_ GE926.out) | exact HB.out))); rintro e w14 ⟨rfl, hb⟩; refine ⟨_, rfl, ?_⟩; have n0_ := aM (bB (g := gb926) (qy BK926.out) hb); have n1_ := aM (bP (by repeat (first | (with_reducible first | exact HB.out | apply ea | apply en | apply ed | refine es ?_ GE926.out) | exact HB.out)) hb); clear BK926 HB; have BK926 := n0_; have HB := n1_; clear n0_ n1_; (try clear hb); (try clear hb2); (try clear hk); (try clear hi)) | ((with_reducible refine gate_callee (f := 45) rfl ?_); refine goesL_ (some 28) rfl rfl Tryz.func45 (by kernel_rfl) rfl #[.string a0, .int .i64 ji7] rfl (by (try simp only [mT, mC, mN]); first | done | (simp only [hji7]; rfl) | rfl | (simp only [lD, lT]; rfl)) ?_; (with_reducible refine (line_Of.calls a0 ji7 t929 _ A10.out).mono ?_); rintro e w15 ⟨rfl, hb⟩; refine ⟨_, rfl, ?_⟩; have n0_ := aM (bB (g := gb926) (qy BK926.out) hb); have n1_ := aM (bP (by repeat (first | (with_reducible first | exact HB.out | apply ea | apply en | apply ed | refine es ?_ GE926.out) | exact HB.out)) hb); clear BK926 HB; have BK926 := n0_; have HB := n1_; clear n0_ n1_; (try clear hb); (try clear hb2); (try clear hk); (try clear hi)) | ((with_reducible refine gate_callee (f := 45) rfl ?_); refine goesL_ (some 31) rfl rfl Tryz.func45 (by kernel_rfl) rfl #[.string a0, .int .i64 ji8] rfl (by (try simp only [mT, mC, mN]); first | done | (simp only [hji8]; rfl) | rfl | (simp only [lD, lT]; rfl)) ?_; (with_reducible refine (line_Of.calls a0 ji8 t930 _ A11.out).mono ?_); rintro e w16 ⟨rfl, hb⟩; refine ⟨_, rfl, ?_⟩; have n0_ := aM (bB (g := gb926) (qy BK926.out) hb); have n1_ := aM (bP (by repeat (first | (with_reducible first | exact HB.out | apply ea | apply en | apply ed | refine es ?_ GE926.out) | exact HB.out)) hb); clear BK926 HB; have BK926 := n0_; have HB := n1_; clear n0_ n1_; (try clear hb); (try clear hb2); (try clear hk); (try clear hi); have hcz17_0 := zC BK926.out 0 (.int .i64 0); have hcz17_1 := zC BK926.out 1 (.int .i64 0); have hcz17_2 := zC BK926.out 2 (.bool false); have hfz17_0 := bF BK926.out 0; have hfz17_1 := bF BK926.out 1; have hfz17_2 := bF BK926.out 2))
  refine bodyPost_ret (results_cell_row rfl _ _ gb926 28 #[.int .i64 t929, .int .i64 t930, .bool true] (0, 0) _ rfl (by (with_reducible repeat (first | apply qn | apply qd | apply qa)); refine bU (cs := #[.int .i64 t929, .int .i64 t930, .bool false]) ?_ 2 _ rfl; (with_reducible repeat (first | apply qn | apply qd | apply qa)); refine bU (cs := #[.int .i64 t929, .int .i64 0, .bool false]) ?_ 1 _ rfl; (with_reducible repeat (first | apply qn | apply qd | apply qa)); refine bU (cs := #[.int .i64 0, .int .i64 0, .bool false]) ?_ 0 _ rfl; exact qy BK926.out) Tryz.underlying28 rfl (by kernel_rfl)) rfl ?_
  exact ⟨by first | rfl | (simp [errW_none, errW_some] <;> rfl) | (simp only [← hji7, ← hji8]; first | rfl | (simp [errW_none, errW_some] <;> rfl)) | (simp [*, errW_none, errW_some] <;> rfl), by repeat (first | (with_reducible first | exact HB.out | apply ea | apply en | apply ed | refine es ?_ GE926.out) | exact HB.out)⟩
 ·rw [if_neg c9] at H
  have c9b0 : (a3 == 2) = false := beq_eq_false_iff_ne.mpr c9
  have c9b1 : (a3 != 2) = true := bne_iff_ne.mpr c9
  by_cases c18 : a3 = 1
  ·rw [if_pos c18] at H
   have c18b0 : (a3 == 1) = true := beq_iff_eq.mpr c18
   have c18b1 : (a3 != 1) = false := bne_eq_false_iff_eq.mpr c18
   clear c18
   replace H := Option.bind_eq_some_iff.mp H
   obtain ⟨t931, A190, H⟩ := H
   replace H : (some (ji7, t931, false)) = some (r1, r2, r3) := H
   have A19 := aM A190
   clear A190
   simp only [Option.some.injEq, Prod.mk.injEq] at H
   obtain ⟨rfl, rfl, rfl⟩ := H
   go_enter Tryz.func17, Tryz.ntmps17
   go_wp2_with (first | ((with_reducible refine gate_dst (N := 8) rfl ?_); refine box_event ?hg (N := 8) ?hd (cs := #[.int .i64 0, .int .i64 0, .bool false]) (t := 28) ?hr ?_; (case hd | hg => rfl); (case hr => first | (go_simp; done) | (go_simp; rfl)); intro gb926 hg w20 hbox hb; have n0_ := aM (bP (ey HB.out) hb); have n1_ := aM (hbox); have n2_ := aM ((by rw [hg]; exact (bZ (ey HB.out)) : w.heap.size ≤ gb926)); have n3_ := n2_; clear HB; have HB := n0_; have BK926 := n1_; have GW926 := n2_; have GE926 := n3_; clear n0_ n1_ n2_ n3_; clear hb hbox hg) | ((with_reducible refine gate_callee (f := 43) rfl ?_); refine goesL_ (some 13) rfl rfl Tryz.func43 (by kernel_rfl) rfl #[.string a0, .int .i64 a1] rfl (by (try simp only [mT, mC, mN]); first | done | rfl | (simp only [lD, lT]; rfl)) ?_; (with_reducible refine (glyph_Align.calls k a0 a1 t927 _ ?mx15 A5.out).mono ?_); (case mx15 => exact NumOk.below HMX.out (by repeat (first | (with_reducible first | exact HB.out | apply ea | apply en | apply ed | refine es ?_ GE926.out) | exact HB.out))); rintro e w21 ⟨rfl, hb⟩; refine ⟨_, rfl, ?_⟩; have n0_ := aM (bB (g := gb926) (qy BK926.out) hb); have n1_ := aM (bP (by repeat (first | (with_reducible first | exact HB.out | apply ea | apply en | apply ed | refine es ?_ GE926.out) | exact HB.out)) hb); clear BK926 HB; have BK926 := n0_; have HB := n1_; clear n0_ n1_; (try clear hb); (try clear hb2); (try clear hk); (try clear hi)) | ((with_reducible refine gate_callee (f := 43) rfl ?_); refine goesL_ (some 16) rfl rfl Tryz.func43 (by kernel_rfl) rfl #[.string a0, .int .i64 a2] rfl (by (try simp only [mT, mC, mN]); first | done | rfl | (simp only [lD, lT]; rfl)) ?_; (with_reducible refine (glyph_Align.calls k a0 a2 t928 _ ?mx16 A6.out).mono ?_); (case mx16 => exact NumOk.below HMX.out (by repeat (first | (with_reducible first | exact HB.out | apply ea | apply en | apply ed | refine es ?_ GE926.out) | exact HB.out))); rintro e w22 ⟨rfl, hb⟩; refine ⟨_, rfl, ?_⟩; have n0_ := aM (bB (g := gb926) (qy BK926.out) hb); have n1_ := aM (bP (by repeat (first | (with_reducible first | exact HB.out | apply ea | apply en | apply ed | refine es ?_ GE926.out) | exact HB.out)) hb); clear BK926 HB; have BK926 := n0_; have HB := n1_; clear n0_ n1_; (try clear hb); (try clear hb2); (try clear hk); (try clear hi)) | ((with_reducible refine gate_callee (f := 47) rfl ?_); refine goesL_ (some 37) rfl rfl Tryz.func47 (by kernel_rfl) rfl #[.string a0, .int .i64 ji8] rfl (by (try simp only [mT, mC, mN]); first | done | (simp only [hji8]; rfl) | rfl | (simp only [lD, lT]; rfl)) ?_; (with_reducible refine (glyph_Next.calls k a0 ji8 t931 _ ?mx17 A19.out).mono ?_); (case mx17 => exact NumOk.below HMX.out (by repeat (first | (with_reducible first | exact HB.out | apply ea | apply en | apply ed | refine es ?_ GE926.out) | exact HB.out))); rintro e w23 ⟨rfl, hb⟩; refine ⟨_, rfl, ?_⟩; have n0_ := aM (bB (g := gb926) (qy BK926.out) hb); have n1_ := aM (bP (by repeat (first | (with_reducible first | exact HB.out | apply ea | apply en | apply ed | refine es ?_ GE926.out) | exact HB.out)) hb); clear BK926 HB; have BK926 := n0_; have HB := n1_; clear n0_ n1_; (try clear hb); (try clear hb2); (try clear hk); (try clear hi); have hcz24_0 := zC BK926.out 0 (.int .i64 0); have hcz24_1 := zC BK926.out 1 (.int .i64 0); have hcz24_2 := zC BK926.out 2 (.bool false); have hfz24_0 := bF BK926.out 0; have hfz24_1 := bF BK926.out 1; have hfz24_2 := bF BK926.out 2))
   refine bodyPost_ret (results_cell_row rfl _ _ gb926 28 #[.int .i64 ji7, .int .i64 t931, .bool false] (0, 0) _ rfl (by (with_reducible repeat (first | apply qn | apply qd | apply qa)); refine bU (cs := #[.int .i64 ji7, .int .i64 t931, .bool false]) ?_ 2 _ rfl; (with_reducible repeat (first | apply qn | apply qd | apply qa)); refine bU (cs := #[.int .i64 ji7, .int .i64 0, .bool false]) ?_ 1 _ rfl; (with_reducible repeat (first | apply qn | apply qd | apply qa)); refine bU (cs := #[.int .i64 0, .int .i64 0, .bool false]) ?_ 0 _ rfl; exact qy BK926.out) Tryz.underlying28 rfl (by kernel_rfl)) rfl ?_
   exact ⟨by first | rfl | (simp [errW_none, errW_some] <;> rfl) | (simp only [← hji7, ← hji8]; first | rfl | (simp [errW_none, errW_some] <;> rfl)) | (simp [*, errW_none, errW_some] <;> rfl), by repeat (first | (with_reducible first | exact HB.out | apply ea | apply en | apply ed | refine es ?_ GE926.out) | exact HB.out)⟩
  ·rw [if_neg c18] at H
   have c18b0 : (a3 == 1) = false := beq_eq_false_iff_ne.mpr c18
   have c18b1 : (a3 != 1) = true := bne_iff_ne.mpr c18
   simp only [Option.some.injEq, Prod.mk.injEq] at H
   obtain ⟨rfl, rfl, rfl⟩ := H
   go_enter Tryz.func17, Tryz.ntmps17
   go_wp2_with (first | ((with_reducible refine gate_dst (N := 8) rfl ?_); refine box_event ?hg (N := 8) ?hd (cs := #[.int .i64 0, .int .i64 0, .bool false]) (t := 28) ?hr ?_; (case hd | hg => rfl); (case hr => first | (go_simp; done) | (go_simp; rfl)); intro gb926 hg w25 hbox hb; have n0_ := aM (bP (ey HB.out) hb); have n1_ := aM (hbox); have n2_ := aM ((by rw [hg]; exact (bZ (ey HB.out)) : w.heap.size ≤ gb926)); have n3_ := n2_; clear HB; have HB := n0_; have BK926 := n1_; have GW926 := n2_; have GE926 := n3_; clear n0_ n1_ n2_ n3_; clear hb hbox hg) | ((with_reducible refine gate_callee (f := 43) rfl ?_); refine goesL_ (some 13) rfl rfl Tryz.func43 (by kernel_rfl) rfl #[.string a0, .int .i64 a1] rfl (by (try simp only [mT, mC, mN]); first | done | rfl | (simp only [lD, lT]; rfl)) ?_; (with_reducible refine (glyph_Align.calls k a0 a1 t927 _ ?mx18 A5.out).mono ?_); (case mx18 => exact NumOk.below HMX.out (by repeat (first | (with_reducible first | exact HB.out | apply ea | apply en | apply ed | refine es ?_ GE926.out) | exact HB.out))); rintro e w26 ⟨rfl, hb⟩; refine ⟨_, rfl, ?_⟩; have n0_ := aM (bB (g := gb926) (qy BK926.out) hb); have n1_ := aM (bP (by repeat (first | (with_reducible first | exact HB.out | apply ea | apply en | apply ed | refine es ?_ GE926.out) | exact HB.out)) hb); clear BK926 HB; have BK926 := n0_; have HB := n1_; clear n0_ n1_; (try clear hb); (try clear hb2); (try clear hk); (try clear hi)) | ((with_reducible refine gate_callee (f := 43) rfl ?_); refine goesL_ (some 16) rfl rfl Tryz.func43 (by kernel_rfl) rfl #[.string a0, .int .i64 a2] rfl (by (try simp only [mT, mC, mN]); first | done | rfl | (simp only [lD, lT]; rfl)) ?_; (with_reducible refine (glyph_Align.calls k a0 a2 t928 _ ?mx19 A6.out).mono ?_); (case mx19 => exact NumOk.below HMX.out (by repeat (first | (with_reducible first | exact HB.out | apply ea | apply en | apply ed | refine es ?_ GE926.out) | exact HB.out))); rintro e w27 ⟨rfl, hb⟩; refine ⟨_, rfl, ?_⟩; have n0_ := aM (bB (g := gb926) (qy BK926.out) hb); have n1_ := aM (bP (by repeat (first | (with_reducible first | exact HB.out | apply ea | apply en | apply ed | refine es ?_ GE926.out) | exact HB.out)) hb); clear BK926 HB; have BK926 := n0_; have HB := n1_; clear n0_ n1_; (try clear hb); (try clear hb2); (try clear hk); (try clear hi); have hcz28_0 := zC BK926.out 0 (.int .i64 0); have hcz28_1 := zC BK926.out 1 (.int .i64 0); have hcz28_2 := zC BK926.out 2 (.bool false); have hfz28_0 := bF BK926.out 0; have hfz28_1 := bF BK926.out 1; have hfz28_2 := bF BK926.out 2))
   refine bodyPost_ret (results_cell_row rfl _ _ gb926 28 #[.int .i64 ji7, .int .i64 ji8, .bool false] (0, 0) _ rfl (by (with_reducible repeat (first | apply qn | apply qd | apply qa)); refine bU (cs := #[.int .i64 ji7, .int .i64 ji8, .bool false]) ?_ 2 _ rfl; (with_reducible repeat (first | apply qn | apply qd | apply qa)); refine bU (cs := #[.int .i64 ji7, .int .i64 0, .bool false]) ?_ 1 _ rfl; (with_reducible repeat (first | apply qn | apply qd | apply qa)); refine bU (cs := #[.int .i64 0, .int .i64 0, .bool false]) ?_ 0 _ rfl; exact qy BK926.out) Tryz.underlying28 rfl (by kernel_rfl)) rfl ?_
   exact ⟨by first | rfl | (simp [errW_none, errW_some] <;> rfl) | (simp only [← hji7, ← hji8]; first | rfl | (simp [errW_none, errW_some] <;> rfl)) | (simp [*, errW_none, errW_some] <;> rfl), by repeat (first | (with_reducible first | exact HB.out | apply ea | apply en | apply ed | refine es ?_ GE926.out) | exact HB.out)⟩
end Go.Proofs.YtjkfkiebhgkolaaGreatDoor.PB
end

section
namespace Go.Proofs.YtjkfkiebhgkolaaGreatDoor.PB
open Go.RowKit Go.Proofs.YtjkfkiebhgkolaaGreatDoorW.PrintWords Go.Proofs.YtjkfkiebhgkolaaGreatDoorW.PrintLast Go.Proofs.YtjkfkiebhgkolaaGreatDoorW.PrintMore
attribute [local go_sem] max2_int min2_int max_two min_two max_three min_three max_four min_four   
set_option linter.unusedVariables false
set_option linter.unusedSimpArgs false
def bureauref14_Span.f (k : Nat) (a0 : ByteArray) (a1 : Int) (a2 : Int) (a3 : Int) : Option (Int × Int × Bool) := (bureauref02_Align.f k a0 a1).bind fun t933 => ((bureauref02_Align.f k a0 a2).bind fun t934 => (if a3 = 2 then ((bureauref06_Of.f k a0 (mn t933 t934)).bind fun t935 => ((bureauref06_Of.f k a0 (mx t933 t934)).bind fun t936 => (some (t935, t936, true)))) else (if a3 = 1 then ((bureauref02_Next.f k a0 (mx t933 t934)).bind fun t937 => (some (mn t933 t934, t937, false))) else (some (mn t933 t934, mx t933 t934, false)))))
set_option maxHeartbeats 8000000 in
set_option maxRecDepth 100000 in
theorem bureauref14_Span.calls (k : Nat) (a0 : ByteArray) (a1 : Int) (a2 : Int) (a3 : Int) (r1 : Int) (r2 : Int) (r3 : Bool) (w : World) (h : bureauref14_Span.f k a0 a1 a2 a3 = some (r1, r2, r3)) :
  Calls Tryz.prog 18 #[.string a0, .int .i64 a1, .int .i64 a2, .int .i64 a3] w fun e w' => e = .returned (.agg #[.int .i64 r1, .int .i64 r2, .bool r3]) ∧ Below w.heap.size w w' := by
 have hu45 := Tryz.underlying45
 have HB := aM (Below.refl w.heap.size w)
 have H : ((bureauref02_Align.f k a0 a1).bind fun t933 => ((bureauref02_Align.f k a0 a2).bind fun t934 => (if a3 = 2 then ((bureauref06_Of.f k a0 (mn t933 t934)).bind fun t935 => ((bureauref06_Of.f k a0 (mx t933 t934)).bind fun t936 => (some (t935, t936, true)))) else (if a3 = 1 then ((bureauref02_Next.f k a0 (mx t933 t934)).bind fun t937 => (some (mn t933 t934, t937, false))) else (some (mn t933 t934, mx t933 t934, false)))))) = some (r1, r2, r3) := h
 clear h
 replace H := Option.bind_eq_some_iff.mp H
 obtain ⟨t933, A50, H⟩ := H
 replace H : ((bureauref02_Align.f k a0 a2).bind fun t934 => (if a3 = 2 then ((bureauref06_Of.f k a0 (mn t933 t934)).bind fun t935 => ((bureauref06_Of.f k a0 (mx t933 t934)).bind fun t936 => (some (t935, t936, true)))) else (if a3 = 1 then ((bureauref02_Next.f k a0 (mx t933 t934)).bind fun t937 => (some (mn t933 t934, t937, false))) else (some (mn t933 t934, mx t933 t934, false))))) = some (r1, r2, r3) := H
 have A5 := aM A50
 clear A50
 replace H := Option.bind_eq_some_iff.mp H
 obtain ⟨t934, A60, H⟩ := H
 replace H : (if a3 = 2 then ((bureauref06_Of.f k a0 (mn t933 t934)).bind fun t935 => ((bureauref06_Of.f k a0 (mx t933 t934)).bind fun t936 => (some (t935, t936, true)))) else (if a3 = 1 then ((bureauref02_Next.f k a0 (mx t933 t934)).bind fun t937 => (some (mn t933 t934, t937, false))) else (some (mn t933 t934, mx t933 t934, false)))) = some (r1, r2, r3) := H
 have A6 := aM A60
 clear A60
 obtain ⟨ji7, hji7⟩ : ∃ j_ : Int, (mn t933 t934) = j_ := ⟨_, rfl⟩
 replace H : (if a3 = 2 then ((bureauref06_Of.f k a0 (ji7)).bind fun t935 => ((bureauref06_Of.f k a0 (mx t933 t934)).bind fun t936 => (some (t935, t936, true)))) else (if a3 = 1 then ((bureauref02_Next.f k a0 (mx t933 t934)).bind fun t937 => (some (ji7, t937, false))) else (some (ji7, mx t933 t934, false)))) = some (r1, r2, r3) := by first | (rw [hji7] at H; exact H) | (simp only [hji7] at H ⊢; exact H)
 (try rw [hji7] at A5)
 (try rw [hji7] at A6)
 have hji7_ : (if t934 < t933 then t934 else t933) = ji7 := hji7
 obtain ⟨ji8, hji8⟩ : ∃ j_ : Int, (mx t933 t934) = j_ := ⟨_, rfl⟩
 replace H : (if a3 = 2 then ((bureauref06_Of.f k a0 (ji7)).bind fun t935 => ((bureauref06_Of.f k a0 (ji8)).bind fun t936 => (some (t935, t936, true)))) else (if a3 = 1 then ((bureauref02_Next.f k a0 (ji8)).bind fun t937 => (some (ji7, t937, false))) else (some (ji7, ji8, false)))) = some (r1, r2, r3) := by first | (rw [hji8] at H; exact H) | (simp only [hji8] at H ⊢; exact H)
 (try rw [hji8] at A5)
 (try rw [hji8] at A6)
 have hji8_ : (if t933 < t934 then t934 else t933) = ji8 := hji8
 by_cases c9 : a3 = 2
 ·rw [if_pos c9] at H
  have c9b0 : (a3 == 2) = true := beq_iff_eq.mpr c9
  have c9b1 : (a3 != 2) = false := bne_eq_false_iff_eq.mpr c9
  clear c9
  replace H := Option.bind_eq_some_iff.mp H
  obtain ⟨t935, A100, H⟩ := H
  replace H : ((bureauref06_Of.f k a0 (ji8)).bind fun t936 => (some (t935, t936, true))) = some (r1, r2, r3) := H
  have A10 := aM A100
  clear A100
  replace H := Option.bind_eq_some_iff.mp H
  obtain ⟨t936, A110, H⟩ := H
  replace H : (some (t935, t936, true)) = some (r1, r2, r3) := H
  have A11 := aM A110
  clear A110
  simp only [Option.some.injEq, Prod.mk.injEq] at H
  obtain ⟨rfl, rfl, rfl⟩ := H
  go_enter Tryz.func18, Tryz.ntmps18
  go_wp2_with (first | ((with_reducible refine gate_dst (N := 8) rfl ?_); refine box_event ?hg (N := 8) ?hd (cs := #[.int .i64 0, .int .i64 0, .bool false]) (t := 45) ?hr ?_; (case hd | hg => rfl); (case hr => first | (go_simp; done) | (go_simp; rfl)); intro gb932 hg w12 hbox hb; have n0_ := aM (bP (ey HB.out) hb); have n1_ := aM (hbox); have n2_ := aM ((by rw [hg]; exact (bZ (ey HB.out)) : w.heap.size ≤ gb932)); have n3_ := n2_; clear HB; have HB := n0_; have BK932 := n1_; have GW932 := n2_; have GE932 := n3_; clear n0_ n1_ n2_ n3_; clear hb hbox hg) | ((with_reducible refine gate_callee (f := 52) rfl ?_); refine goesL_ (some 15) rfl rfl Tryz.func52 (by kernel_rfl) rfl #[.string a0, .int .i64 a1] rfl (by (try simp only [mT, mC, mN]); first | done | rfl | (simp only [lD, lT]; rfl)) ?_; (with_reducible refine (bureauref02_Align.calls k a0 a1 t933 _ A5.out).mono ?_); rintro e w13 ⟨rfl, hb⟩; refine ⟨_, rfl, ?_⟩; have n0_ := aM (bB (g := gb932) (qy BK932.out) hb); have n1_ := aM (bP (by repeat (first | (with_reducible first | exact HB.out | apply ea | apply en | apply ed | refine es ?_ GE932.out) | exact HB.out)) hb); clear BK932 HB; have BK932 := n0_; have HB := n1_; clear n0_ n1_; (try clear hb); (try clear hb2); (try clear hk); (try clear hi)) | ((with_reducible refine gate_callee (f := 52) rfl ?_); refine goesL_ (some 18) rfl rfl Tryz.func52 (by kernel_rfl) rfl #[.string a0, .int .i64 a2] rfl (by (try simp only [mT, mC, mN]); first | done | rfl | (simp only [lD, lT]; rfl)) ?_; (with_reducible refine (bureauref02_Align.calls k a0 a2 t934 _ A6.out).mono ?_); rintro e w14 ⟨rfl, hb⟩; refine ⟨_, rfl, ?_⟩; have n0_ := aM (bB (g := gb932) (qy BK932.out) hb); have n1_ := aM (bP (by repeat (first | (with_reducible first | exact HB.out | apply ea | apply en | apply ed | refine es ?_ GE932.out) | exact HB.out)) hb); clear BK932 HB; have BK932 := n0_; have HB := n1_; clear n0_ n1_; (try clear hb); (try clear hb2); (try clear hk); (try clear hi)) | ((with_reducible refine gate_callee (f := 54) rfl ?_); refine goesL_ (some 30) rfl rfl Tryz.func54 (by kernel_rfl) rfl #[.string a0, .int .i64 ji7] rfl (by (try simp only [mT, mC, mN]); first | done | (simp only [hji7]; rfl) | rfl | (simp only [lD, lT]; rfl)) ?_; (with_reducible refine (bureauref06_Of.calls k a0 ji7 t935 _ A10.out).mono ?_); rintro e w' ⟨rfl, ⟨nd, rfl⟩⟩; refine ⟨_, rfl, ?_⟩; (try (rw [drewN_self w14]; generalize hq_ : World.drewN w14 _ = w14; have n0_ : Aside0 (w14.heap[gb932]? = some (.cells #[.int .i64 0, .int .i64 0, .bool false] 45 (0, 0))) := ⟨by rw [← hq_]; exact (qy BK932.out)⟩; have n1_ : Aside0 (Below w.heap.size w w14) := ⟨by rw [← hq_]; exact (by repeat (first | (with_reducible first | exact HB.out | apply ea | apply en | apply ed | refine es ?_ GE932.out) | exact HB.out))⟩; clear BK932 HB hq_; have BK932 := n0_; have HB := n1_; clear n0_ n1_))) | ((with_reducible refine gate_callee (f := 54) rfl ?_); refine goesL_ (some 33) rfl rfl Tryz.func54 (by kernel_rfl) rfl #[.string a0, .int .i64 ji8] rfl (by (try simp only [mT, mC, mN]); first | done | (simp only [hji8]; rfl) | rfl | (simp only [lD, lT]; rfl)) ?_; (with_reducible refine (bureauref06_Of.calls k a0 ji8 t936 _ A11.out).mono ?_); rintro e w' ⟨rfl, ⟨nd, rfl⟩⟩; refine ⟨_, rfl, ?_⟩; (try (rw [drewN_self w14]; generalize hq_ : World.drewN w14 _ = w14; have n0_ : Aside0 (w14.heap[gb932]? = some (.cells #[.int .i64 0, .int .i64 0, .bool false] 45 (0, 0))) := ⟨by rw [← hq_]; exact (qy BK932.out)⟩; have n1_ : Aside0 (Below w.heap.size w w14) := ⟨by rw [← hq_]; exact (by repeat (first | (with_reducible first | exact HB.out | apply ea | apply en | apply ed | refine es ?_ GE932.out) | exact HB.out))⟩; clear BK932 HB hq_; have BK932 := n0_; have HB := n1_; clear n0_ n1_)); have hcz15_0 := zC BK932.out 0 (.int .i64 0); have hcz15_1 := zC BK932.out 1 (.int .i64 0); have hcz15_2 := zC BK932.out 2 (.bool false); have hfz15_0 := bF BK932.out 0; have hfz15_1 := bF BK932.out 1; have hfz15_2 := bF BK932.out 2))
  refine bodyPost_ret (results_cell_row rfl _ _ gb932 45 #[.int .i64 t935, .int .i64 t936, .bool true] (0, 0) _ rfl (by (with_reducible repeat (first | apply qn | apply qd | apply qa)); refine bU (cs := #[.int .i64 t935, .int .i64 t936, .bool false]) ?_ 2 _ rfl; (with_reducible repeat (first | apply qn | apply qd | apply qa)); refine bU (cs := #[.int .i64 t935, .int .i64 0, .bool false]) ?_ 1 _ rfl; (with_reducible repeat (first | apply qn | apply qd | apply qa)); refine bU (cs := #[.int .i64 0, .int .i64 0, .bool false]) ?_ 0 _ rfl; exact qy BK932.out) Tryz.underlying45 rfl (by kernel_rfl)) rfl ?_
  exact ⟨by first | rfl | (simp [errW_none, errW_some] <;> rfl) | (simp only [← hji7, ← hji8]; first | rfl | (simp [errW_none, errW_some] <;> rfl)) | (simp [*, errW_none, errW_some] <;> rfl), by repeat (first | (with_reducible first | exact HB.out | apply ea | apply en | apply ed | refine es ?_ GE932.out) | exact HB.out)⟩
 ·rw [if_neg c9] at H
  have c9b0 : (a3 == 2) = false := beq_eq_false_iff_ne.mpr c9
  have c9b1 : (a3 != 2) = true := bne_iff_ne.mpr c9
  by_cases c16 : a3 = 1
  ·rw [if_pos c16] at H
   have c16b0 : (a3 == 1) = true := beq_iff_eq.mpr c16
   have c16b1 : (a3 != 1) = false := bne_eq_false_iff_eq.mpr c16
   clear c16
   replace H := Option.bind_eq_some_iff.mp H
   obtain ⟨t937, A170, H⟩ := H
   replace H : (some (ji7, t937, false)) = some (r1, r2, r3) := H
   have A17 := aM A170
   clear A170
   simp only [Option.some.injEq, Prod.mk.injEq] at H
   obtain ⟨rfl, rfl, rfl⟩ := H
   go_enter Tryz.func18, Tryz.ntmps18
   go_wp2_with (first | ((with_reducible refine gate_dst (N := 8) rfl ?_); refine box_event ?hg (N := 8) ?hd (cs := #[.int .i64 0, .int .i64 0, .bool false]) (t := 45) ?hr ?_; (case hd | hg => rfl); (case hr => first | (go_simp; done) | (go_simp; rfl)); intro gb932 hg w18 hbox hb; have n0_ := aM (bP (ey HB.out) hb); have n1_ := aM (hbox); have n2_ := aM ((by rw [hg]; exact (bZ (ey HB.out)) : w.heap.size ≤ gb932)); have n3_ := n2_; clear HB; have HB := n0_; have BK932 := n1_; have GW932 := n2_; have GE932 := n3_; clear n0_ n1_ n2_ n3_; clear hb hbox hg) | ((with_reducible refine gate_callee (f := 52) rfl ?_); refine goesL_ (some 15) rfl rfl Tryz.func52 (by kernel_rfl) rfl #[.string a0, .int .i64 a1] rfl (by (try simp only [mT, mC, mN]); first | done | rfl | (simp only [lD, lT]; rfl)) ?_; (with_reducible refine (bureauref02_Align.calls k a0 a1 t933 _ A5.out).mono ?_); rintro e w19 ⟨rfl, hb⟩; refine ⟨_, rfl, ?_⟩; have n0_ := aM (bB (g := gb932) (qy BK932.out) hb); have n1_ := aM (bP (by repeat (first | (with_reducible first | exact HB.out | apply ea | apply en | apply ed | refine es ?_ GE932.out) | exact HB.out)) hb); clear BK932 HB; have BK932 := n0_; have HB := n1_; clear n0_ n1_; (try clear hb); (try clear hb2); (try clear hk); (try clear hi)) | ((with_reducible refine gate_callee (f := 52) rfl ?_); refine goesL_ (some 18) rfl rfl Tryz.func52 (by kernel_rfl) rfl #[.string a0, .int .i64 a2] rfl (by (try simp only [mT, mC, mN]); first | done | rfl | (simp only [lD, lT]; rfl)) ?_; (with_reducible refine (bureauref02_Align.calls k a0 a2 t934 _ A6.out).mono ?_); rintro e w20 ⟨rfl, hb⟩; refine ⟨_, rfl, ?_⟩; have n0_ := aM (bB (g := gb932) (qy BK932.out) hb); have n1_ := aM (bP (by repeat (first | (with_reducible first | exact HB.out | apply ea | apply en | apply ed | refine es ?_ GE932.out) | exact HB.out)) hb); clear BK932 HB; have BK932 := n0_; have HB := n1_; clear n0_ n1_; (try clear hb); (try clear hb2); (try clear hk); (try clear hi)) | ((with_reducible refine gate_callee (f := 55) rfl ?_); refine goesL_ (some 40) rfl rfl Tryz.func55 (by kernel_rfl) rfl #[.string a0, .int .i64 ji8] rfl (by (try simp only [mT, mC, mN]); first | done | (simp only [hji8]; rfl) | rfl | (simp only [lD, lT]; rfl)) ?_; (with_reducible refine (bureauref02_Next.calls k a0 ji8 t937 _ A17.out).mono ?_); rintro e w21 ⟨rfl, hb⟩; refine ⟨_, rfl, ?_⟩; have n0_ := aM (bB (g := gb932) (qy BK932.out) hb); have n1_ := aM (bP (by repeat (first | (with_reducible first | exact HB.out | apply ea | apply en | apply ed | refine es ?_ GE932.out) | exact HB.out)) hb); clear BK932 HB; have BK932 := n0_; have HB := n1_; clear n0_ n1_; (try clear hb); (try clear hb2); (try clear hk); (try clear hi); have hcz22_0 := zC BK932.out 0 (.int .i64 0); have hcz22_1 := zC BK932.out 1 (.int .i64 0); have hcz22_2 := zC BK932.out 2 (.bool false); have hfz22_0 := bF BK932.out 0; have hfz22_1 := bF BK932.out 1; have hfz22_2 := bF BK932.out 2))
   refine bodyPost_ret (results_cell_row rfl _ _ gb932 45 #[.int .i64 ji7, .int .i64 t937, .bool false] (0, 0) _ rfl (by (with_reducible repeat (first | apply qn | apply qd | apply qa)); refine bU (cs := #[.int .i64 ji7, .int .i64 t937, .bool false]) ?_ 2 _ rfl; (with_reducible repeat (first | apply qn | apply qd | apply qa)); refine bU (cs := #[.int .i64 ji7, .int .i64 0, .bool false]) ?_ 1 _ rfl; (with_reducible repeat (first | apply qn | apply qd | apply qa)); refine bU (cs := #[.int .i64 0, .int .i64 0, .bool false]) ?_ 0 _ rfl; exact qy BK932.out) Tryz.underlying45 rfl (by kernel_rfl)) rfl ?_
   exact ⟨by first | rfl | (simp [errW_none, errW_some] <;> rfl) | (simp only [← hji7, ← hji8]; first | rfl | (simp [errW_none, errW_some] <;> rfl)) | (simp [*, errW_none, errW_some] <;> rfl), by repeat (first | (with_reducible first | exact HB.out | apply ea | apply en | apply ed | refine es ?_ GE932.out) | exact HB.out)⟩
  ·rw [if_neg c16] at H
   have c16b0 : (a3 == 1) = false := beq_eq_false_iff_ne.mpr c16
   have c16b1 : (a3 != 1) = true := bne_iff_ne.mpr c16
   simp only [Option.some.injEq, Prod.mk.injEq] at H
   obtain ⟨rfl, rfl, rfl⟩ := H
   go_enter Tryz.func18, Tryz.ntmps18
   go_wp2_with (first | ((with_reducible refine gate_dst (N := 8) rfl ?_); refine box_event ?hg (N := 8) ?hd (cs := #[.int .i64 0, .int .i64 0, .bool false]) (t := 45) ?hr ?_; (case hd | hg => rfl); (case hr => first | (go_simp; done) | (go_simp; rfl)); intro gb932 hg w23 hbox hb; have n0_ := aM (bP (ey HB.out) hb); have n1_ := aM (hbox); have n2_ := aM ((by rw [hg]; exact (bZ (ey HB.out)) : w.heap.size ≤ gb932)); have n3_ := n2_; clear HB; have HB := n0_; have BK932 := n1_; have GW932 := n2_; have GE932 := n3_; clear n0_ n1_ n2_ n3_; clear hb hbox hg) | ((with_reducible refine gate_callee (f := 52) rfl ?_); refine goesL_ (some 15) rfl rfl Tryz.func52 (by kernel_rfl) rfl #[.string a0, .int .i64 a1] rfl (by (try simp only [mT, mC, mN]); first | done | rfl | (simp only [lD, lT]; rfl)) ?_; (with_reducible refine (bureauref02_Align.calls k a0 a1 t933 _ A5.out).mono ?_); rintro e w24 ⟨rfl, hb⟩; refine ⟨_, rfl, ?_⟩; have n0_ := aM (bB (g := gb932) (qy BK932.out) hb); have n1_ := aM (bP (by repeat (first | (with_reducible first | exact HB.out | apply ea | apply en | apply ed | refine es ?_ GE932.out) | exact HB.out)) hb); clear BK932 HB; have BK932 := n0_; have HB := n1_; clear n0_ n1_; (try clear hb); (try clear hb2); (try clear hk); (try clear hi)) | ((with_reducible refine gate_callee (f := 52) rfl ?_); refine goesL_ (some 18) rfl rfl Tryz.func52 (by kernel_rfl) rfl #[.string a0, .int .i64 a2] rfl (by (try simp only [mT, mC, mN]); first | done | rfl | (simp only [lD, lT]; rfl)) ?_; (with_reducible refine (bureauref02_Align.calls k a0 a2 t934 _ A6.out).mono ?_); rintro e w25 ⟨rfl, hb⟩; refine ⟨_, rfl, ?_⟩; have n0_ := aM (bB (g := gb932) (qy BK932.out) hb); have n1_ := aM (bP (by repeat (first | (with_reducible first | exact HB.out | apply ea | apply en | apply ed | refine es ?_ GE932.out) | exact HB.out)) hb); clear BK932 HB; have BK932 := n0_; have HB := n1_; clear n0_ n1_; (try clear hb); (try clear hb2); (try clear hk); (try clear hi); have hcz26_0 := zC BK932.out 0 (.int .i64 0); have hcz26_1 := zC BK932.out 1 (.int .i64 0); have hcz26_2 := zC BK932.out 2 (.bool false); have hfz26_0 := bF BK932.out 0; have hfz26_1 := bF BK932.out 1; have hfz26_2 := bF BK932.out 2))
   refine bodyPost_ret (results_cell_row rfl _ _ gb932 45 #[.int .i64 ji7, .int .i64 ji8, .bool false] (0, 0) _ rfl (by (with_reducible repeat (first | apply qn | apply qd | apply qa)); refine bU (cs := #[.int .i64 ji7, .int .i64 ji8, .bool false]) ?_ 2 _ rfl; (with_reducible repeat (first | apply qn | apply qd | apply qa)); refine bU (cs := #[.int .i64 ji7, .int .i64 0, .bool false]) ?_ 1 _ rfl; (with_reducible repeat (first | apply qn | apply qd | apply qa)); refine bU (cs := #[.int .i64 0, .int .i64 0, .bool false]) ?_ 0 _ rfl; exact qy BK932.out) Tryz.underlying45 rfl (by kernel_rfl)) rfl ?_
   exact ⟨by first | rfl | (simp [errW_none, errW_some] <;> rfl) | (simp only [← hji7, ← hji8]; first | rfl | (simp [errW_none, errW_some] <;> rfl)) | (simp [*, errW_none, errW_some] <;> rfl), by repeat (first | (with_reducible first | exact HB.out | apply ea | apply en | apply ed | refine es ?_ GE932.out) | exact HB.out)⟩
end Go.Proofs.YtjkfkiebhgkolaaGreatDoor.PB
end

section
namespace Go.Proofs.YtjkfkiebhgkolaaGreatDoor.PB
open Go.RowKit Go.Proofs.YtjkfkiebhgkolaaGreatDoorW.PrintWords
set_option linter.unusedVariables false
def spanS (v : ByteArray) (a b kind : Int) : Int × Int × Bool :=
  if kind = 2 then ((ofL v (mn (alignS v a : Int) (alignS v b : Int)) : Int), (ofL v (mx (alignS v a : Int) (alignS v b : Int)) : Int), true)
  else if kind = 1 then (mn (alignS v a : Int) (alignS v b : Int), (nextS v (mx (alignS v a : Int) (alignS v b : Int)) : Int), false)
  else (mn (alignS v a : Int) (alignS v b : Int), mx (alignS v a : Int) (alignS v b : Int), false)
theorem span_ev (v : ByteArray) (hv : v.size ≤ 100000) (a b kind : Int) : Ev (fun k => oper_Span.f k v a b kind) (spanS v a b kind) := by
  refine Ev.bind (galign_ev v (by omega) a) (Ev.bind (galign_ev v (by omega) b) ?_)
  unfold spanS
  by_cases h2 : kind = 2
  · rw [if_pos h2]
    refine Ev.pos h2 ?_
    rw [ofL_f, ofL_f]
    exact Ev.now _
  · rw [if_neg h2]
    refine Ev.neg h2 ?_
    by_cases h1 : kind = 1
    · rw [if_pos h1]
      exact Ev.pos h1 (Ev.bind (gnext_ev v (by omega) _) (Ev.now _))
    · rw [if_neg h1]
      exact Ev.neg h1 (Ev.now _)
theorem rspan_ev (v : ByteArray) (hv : v.size ≤ 100000) (a b kind : Int) : Ev (fun k => bureauref14_Span.f k v a b kind) (spanS v a b kind) := by
  refine Ev.bind (ralign_ev v (by omega) a) (Ev.bind (ralign_ev v (by omega) b) ?_)
  unfold spanS
  by_cases h2 : kind = 2
  · rw [if_pos h2]
    exact Ev.pos h2 (Ev.bind (rofL_ev v hv _) (Ev.bind (rofL_ev v hv _) (Ev.now _)))
  · rw [if_neg h2]
    refine Ev.neg h2 ?_
    by_cases h1 : kind = 1
    · rw [if_pos h1]
      exact Ev.pos h1 (Ev.bind (rnext_ev v (by omega) _) (Ev.now _))
    · rw [if_neg h1]
      exact Ev.neg h1 (Ev.now _)
end Go.Proofs.YtjkfkiebhgkolaaGreatDoor.PB
end

section
namespace Go.Proofs.YtjkfkiebhgkolaaGreatDoor.PB
open Go.RowKit
set_option maxRecDepth 100000
theorem numOk_of (W : World) (h : laidMetH Tryz.prog Rows.operSpansRow.laid W) : NumOk W := by
  rw [MakeChecks.laidMetH_plain _ _ _ (by kernel_rfl)] at h
  have h0 : laidMet Tryz.prog [("unicode/utf8.acceptRanges", Lib.acceptData), ("unicode/utf8.first", Lib.firstData)] W := h
  exact Go.Proofs.utf8Tabs_of_reads Tryz.lays260 ⟨by kernel_rfl, by kernel_rfl, by kernel_rfl, by kernel_rfl, by kernel_rfl, by kernel_rfl, by kernel_rfl⟩ (Lib.laidMet.reads h0 (.tail _ (.head _))) (Lib.laidMet.reads h0 (.head _))
end Go.Proofs.YtjkfkiebhgkolaaGreatDoor.PB
end

section
namespace Go.Proofs.YtjkfkiebhgkolaaGreatDoor.PB
open Go.RowKit Go.Maps Go.Proofs.YtjkfkiebhgkolaaGreatDoorW.PrintWords Go.Proofs.YtjkfkiebhgkolaaGreatDoorW.PrintLast Go.Proofs.YtjkfkiebhgkolaaGreatDoorW.PrintMore
set_option maxRecDepth 100000
set_option linter.unusedVariables false
set_option linter.unusedSimpArgs false
def bureaulaw14_OperSpans.f (k : Nat) (a0 : ByteArray) (a1_0 a1_1 a2 : Int) : Option Bool := some true
theorem OperSpans_pure (a0 : ByteArray) (a1_0 a1_1 a2 : Int) (w0 : a0.size ≤ 140737488351232) (w1 : (Lit.int .i64 a1_0).wf = true) (w2 : (Lit.int .i64 a1_1).wf = true) (w3 : (Lit.int .i64 a2).wf = true) : ∃ k, bureaulaw14_OperSpans.f k a0 a1_0 a1_1 a2 = some true := ⟨0, rfl⟩
set_option maxHeartbeats 4000000 in
theorem bureaulaw14_OperSpans.calls (k : Nat) (a0 : ByteArray) (a1_0 : Int) (a1_1 : Int) (a2 : Int) (r : Bool) (w : World) (hMX : NumOk w) (h : bureaulaw14_OperSpans.f k a0 a1_0 a1_1 a2 = some r) :
    Calls Tryz.prog 5 #[.string a0, .agg #[.int .i64 a1_0, .int .i64 a1_1], .int .i64 a2] w fun e w' => e = .returned (.bool r) ∧ Below w.heap.size w w' := by
  obtain rfl := Option.some.inj h
  have HM := aM hMX
  have HAL := aM alive_ok
  clear hMX h
  by_cases hz : (a0.size : Int) > 1024
  · have z1 : ((a0.size : Int) > 1024) = True := eq_true hz
    have z2 : (1024 < (a0.size : Int)) = True := eq_true hz
    have z3 : (1024 < a0.size) = True := eq_true (by omega)
    go_enter Tryz.func5, Tryz.ntmps5
    go_wp2_with (first
      | ((with_reducible refine gate_dst (N := 4) rfl ?_); refine box_event ?hg (N := 4) ?hd (cs := #[.int .i64 a1_0, .int .i64 a1_1]) (t := 50) ?hr ?_; (case hd => rfl); (case hg => rfl); (case hr => first | (go_simp; done) | (go_simp; rfl)); intro ga hg W1 hbox hb; have Gga := aM (show w.heap.size ≤ ga from by rw [hg]; exact Nat.le_refl _); have HB := aM hb; have BA := aM hbox; clear hb hbox hg)
      | ((with_reducible refine gate_callee (f := 9) rfl ?_); refine goesL_ (some 9) rfl rfl Tryz.func9 (by kernel_rfl) rfl #[] rfl (by (try simp only [List.map_toArray, List.map_cons, List.map_nil]); first | done | rfl) ?_; (with_reducible refine (bureaulaw14_alive.calls true _ (HM.out.below HB.out) HAL.out).mono ?_); rintro e W2 ⟨rfl, hb⟩; replace HB := aM (bP HB.out hb); replace BA := aM (bB BA.out hb); refine ⟨_, rfl, ?_⟩; clear hb)
      )
    go_ret
    exact ⟨rfl, HB.out⟩
  · have z1 : ((a0.size : Int) > 1024) = False := eq_false hz
    have z2 : (1024 < (a0.size : Int)) = False := eq_false hz
    have z3 : (1024 < a0.size) = False := eq_false (by omega)
    obtain ⟨k1, hk1⟩ := (span_ev a0 (by omega) a1_0 a1_1 a2).rounds
    obtain ⟨k2, hk2⟩ := (rspan_ev a0 (by omega) a1_0 a1_1 a2).rounds
    generalize spanS a0 a1_0 a1_1 a2 = x at hk1 hk2
    obtain ⟨x1, x2, x3⟩ := x
    have HK1 := aM hk1
    have HK2 := aM hk2
    clear hk1 hk2 hz
    go_enter Tryz.func5, Tryz.ntmps5
    go_wp2_with (first
      | ((with_reducible refine gate_dst (N := 4) rfl ?_); refine box_event ?hg (N := 4) ?hd (cs := #[.int .i64 a1_0, .int .i64 a1_1]) (t := 50) ?hr ?_; (case hd => rfl); (case hg => rfl); (case hr => first | (go_simp; done) | (go_simp; rfl)); intro ga hg W1 hbox hb; have Gga := aM (show w.heap.size ≤ ga from by rw [hg]; exact Nat.le_refl _); have HB := aM hb; have BA := aM hbox; clear hb hbox hg)
      | ((with_reducible refine gate_callee (f := 9) rfl ?_); refine goesL_ (some 9) rfl rfl Tryz.func9 (by kernel_rfl) rfl #[] rfl (by (try simp only [List.map_toArray, List.map_cons, List.map_nil]); first | done | rfl) ?_; (with_reducible refine (bureaulaw14_alive.calls true _ (HM.out.below HB.out) HAL.out).mono ?_); rintro e W2 ⟨rfl, hb⟩; replace HB := aM (bP HB.out hb); replace BA := aM (bB BA.out hb); refine ⟨_, rfl, ?_⟩; clear hb)
      )
    have hb := below_drew1 (Below.refl W2.heap.size W2)
    replace HB := aM (bP HB.out hb)
    replace BA := aM (bB BA.out hb)
    clear hb
    refine start_ (n := 18) (S := fun W => W.cell? ⟨ga, 0, none⟩ = some (.int .i64 a1_0) ∧ W.cell? ⟨ga, 1, none⟩ = some (.int .i64 a1_1)) (ds := [16, 17]) #[tF,tF,tF,tF,tF,tF,tF,tF,tF,tF,tF,tF,tF,tF,tF,tF,tF,tF] (by kernel_rfl) rfl rfl ⟨(bC BA.out 0).trans rfl, (bC BA.out 1).trans rfl⟩ (fun hHeld => ?_)
    generalize W2.drew = W3 at HB BA hHeld ⊢
    refine sv 0 14 #[tT,tF,tF,tF,tF,tF,tF,tF,tF,tF,tF,tF,tF,tF,tF,tF,tF,tF] ?_
    refine sv 1 15 #[tT,tT,tF,tF,tF,tF,tF,tF,tF,tF,tF,tF,tF,tF,tF,tF,tF,tF] ?_
    refine sv 3 17 #[tT,tT,tF,tT,tF,tF,tF,tF,tF,tF,tF,tF,tF,tF,tF,tF,tF,tF] ?_
    refine sv 5 19 #[tT,tT,tF,tT,tF,tT,tF,tF,tF,tF,tF,tF,tF,tF,tF,tF,tF,tF] ?_
    refine sv 7 21 #[tT,tT,tF,tT,tF,tT,tF,tT,tF,tF,tF,tF,tF,tF,tF,tF,tF,tF] ?_
    refine sv 8 22 #[tT,tT,tF,tT,tF,tT,tF,tT,tT,tF,tF,tF,tF,tF,tF,tF,tF,tF] ?_
    refine sv 10 24 #[tT,tT,tF,tT,tF,tT,tF,tT,tT,tF,tT,tF,tF,tF,tF,tF,tF,tF] ?_
    refine sv 12 26 #[tT,tT,tF,tT,tF,tT,tF,tT,tT,tF,tT,tF,tT,tF,tF,tF,tF,tF] ?_
    refine st 2 16 #[tT,tT,tT,tT,tF,tT,tF,tT,tT,tF,tT,tF,tT,tF,tF,tF,tF,tF] hHeld ?_
    refine st 4 18 #[tT,tT,tT,tT,tT,tT,tF,tT,tT,tF,tT,tF,tT,tF,tF,tF,tF,tF] hHeld ?_
    refine st 9 23 #[tT,tT,tT,tT,tT,tT,tF,tT,tT,tT,tT,tF,tT,tF,tF,tF,tF,tF] hHeld ?_
    refine st 11 25 #[tT,tT,tT,tT,tT,tT,tF,tT,tT,tT,tT,tT,tT,tF,tF,tF,tF,tF] hHeld ?_
    refine join_ (σ := Nat × Nat) 2 #[tT,tT,tT,tT,tT,tT,tT,tT,tT,tT,tT,tT,tT,tT,tT,tT,tF,tF] (fun s_ => [(20, .agg #[.int .i64 x1, .int .i64 x2, .bool x3]), (27, .agg #[.int .i64 x1, .int .i64 x2, .bool x3]), (7, .pointer (some ⟨(s_.1), 0, none⟩)), (8, .pointer (some ⟨(s_.2), 0, none⟩))]) (fun s_ W => (W.cell? ⟨ga, 0, none⟩ = some (.int .i64 a1_0) ∧ W.cell? ⟨ga, 1, none⟩ = some (.int .i64 a1_1)) ∧ W.heap[ga]? = some (.cells #[.int .i64 a1_0, .int .i64 a1_1] 50 (0, 0)) ∧ W.heap[(s_.1)]? = some (.cells #[.int .i64 0, .int .i64 0, .bool false] 28 (0, 0)) ∧ W.heap[(s_.2)]? = some (.cells #[.int .i64 0, .int .i64 0, .bool false] 45 (0, 0)) ∧ Below w.heap.size w W ∧ w.heap.size ≤ (s_.1) ∧ w.heap.size ≤ (s_.2) ∧ (s_.1) ≠ (s_.2)) ?_ ?_
    rotate_left
    · intro hCont
      refine three_ (i := 6) (j := 14) (k := 15) (Ni := some 20) (Nj := some 7) (Nk := some 8) #[tT,tT,tT,tT,tT,tT,tT,tT,tT,tT,tT,tT,tT,tF,tF,tF,tF,tF] #[tT,tT,tT,tT,tT,tT,tF,tT,tT,tT,tT,tT,tT,tF,tT,tF,tF,tF] #[tT,tT,tT,tT,tT,tT,tF,tT,tT,tT,tT,tT,tT,tF,tF,tT,tF,tF] rfl rfl rfl rfl rfl rfl (by kernel_rfl) (by decide) (by decide) (by decide) (fun K hK => ?_) (fun K hK => ?_) (fun K hK => ?_)
      · refine goes_ Tryz.func17 (by kernel_rfl) rfl #[.string a0, .int .i64 a1_0, .int .i64 a1_1, .int .i64 a2] (by rfl) rfl rfl (by (try simp only [List.map_toArray, List.map_cons, List.map_nil]); first | done | rfl) ?_
        clear hHeld
        (with_reducible refine (oper_Span.calls k1 a0 a1_0 a1_1 a2 x1 x2 x3 _ (HM.out.below HB.out) HK1.out).mono ?_)
        rintro e W4 ⟨rfl, hb⟩
        replace HB := aM (bP HB.out hb)
        replace BA := aM (bB BA.out hb)
        refine ⟨_, rfl, hK.out _ _ ⟨(bC BA.out 0).trans rfl, (bC BA.out 1).trans rfl⟩ (fun hHeld => ?_)⟩
        clear hK K hb
        refine norm_ (a' := ?_) ?_ ?_
        rotate_left
        · show Act.put _ (some 20) _ = _
          simp only [Act.put, List.setIfInBounds_toArray, List.set_cons_zero, List.set_cons_succ, i64_w, i32_w]
          rfl
        refine three_ (i := 13) (j := 14) (k := 15) (Ni := some 27) (Nj := some 7) (Nk := some 8) #[tT,tT,tT,tT,tT,tT,tT,tT,tT,tT,tT,tT,tT,tT,tF,tF,tF,tF] #[tT,tT,tT,tT,tT,tT,tT,tT,tT,tT,tT,tT,tT,tF,tT,tF,tF,tF] #[tT,tT,tT,tT,tT,tT,tT,tT,tT,tT,tT,tT,tT,tF,tF,tT,tF,tF] rfl rfl rfl rfl rfl rfl (by kernel_rfl) (by decide) (by decide) (by decide) (fun K hK => ?_) (fun K hK => ?_) (fun K hK => ?_)
        · refine goes_ Tryz.func18 (by kernel_rfl) rfl #[.string a0, .int .i64 a1_0, .int .i64 a1_1, .int .i64 a2] (by rfl) rfl rfl (by (try simp only [List.map_toArray, List.map_cons, List.map_nil]); first | done | rfl) ?_
          clear hHeld
          (with_reducible refine (bureauref14_Span.calls k2 a0 a1_0 a1_1 a2 x1 x2 x3 _ HK2.out).mono ?_)
          rintro e W5 ⟨rfl, hb⟩
          replace HB := aM (bP HB.out hb)
          replace BA := aM (bB BA.out hb)
          refine ⟨_, rfl, hK.out _ _ ⟨(bC BA.out 0).trans rfl, (bC BA.out 1).trans rfl⟩ (fun hHeld => ?_)⟩
          clear hK K hb
          refine norm_ (a' := ?_) ?_ ?_
          rotate_left
          · show Act.put _ (some 27) _ = _
            simp only [Act.put, List.setIfInBounds_toArray, List.set_cons_zero, List.set_cons_succ, i64_w, i32_w]
            rfl
          refine two_ (i := 14) (j := 15) (Ni := some 7) (Nj := some 8) #[tT,tT,tT,tT,tT,tT,tT,tT,tT,tT,tT,tT,tT,tT,tT,tF,tF,tF] #[tT,tT,tT,tT,tT,tT,tT,tT,tT,tT,tT,tT,tT,tT,tF,tT,tF,tF] rfl rfl rfl rfl (by kernel_rfl) (by decide) (by decide) (fun K hK => ?_) (fun K hK => ?_)
          · refine box_step ?hg (N := 7) ?hd (cs := #[.int .i64 0, .int .i64 0, .bool false]) (t := 28) ?hr ?_; (case hd => rfl); (case hg => rfl); (case hr => first | (go_simp; done) | (go_simp; rfl))
            clear hHeld
            intro gp hg W6 hbox hb
            have Ggp := aM (show w.heap.size ≤ gp from by rw [hg]; exact HB.out.size)
            replace HB := aM (bP HB.out hb)
            replace BA := aM (bB BA.out hb)
            have BP := aM hbox
            refine hK.out _ _ ⟨(bC BA.out 0).trans rfl, (bC BA.out 1).trans rfl⟩ (fun hHeld => ?_)
            clear hK K hb hbox hg
            refine norm_ (a' := ?_) ?_ ?_
            rotate_left
            · show Act.put _ (some 7) _ = _
              simp only [Act.put, List.setIfInBounds_toArray, List.set_cons_zero, List.set_cons_succ, i64_w, i32_w]
              rfl
            refine one_ (i := 15) (N := some 8) #[tT,tT,tT,tT,tT,tT,tT,tT,tT,tT,tT,tT,tT,tT,tT,tT,tF,tF] rfl rfl (by kernel_rfl) (by decide) (fun K hK => ?_)
            refine box_step ?hg (N := 8) ?hd (cs := #[.int .i64 0, .int .i64 0, .bool false]) (t := 45) ?hr ?_; (case hd => rfl); (case hg => rfl); (case hr => first | (go_simp; done) | (go_simp; rfl))
            clear hHeld
            intro gq hg W7 hbox hb
            have Ggq := aM (show w.heap.size ≤ gq from by rw [hg]; exact HB.out.size)
            have Ngqgp := aM (show gq ≠ gp from by have := blk_lt BP.out; omega)
            replace HB := aM (bP HB.out hb)
            replace BA := aM (bB BA.out hb)
            replace BP := aM (bB BP.out hb)
            have BQ := aM hbox
            refine hK.out _ _ ⟨(bC BA.out 0).trans rfl, (bC BA.out 1).trans rfl⟩ (fun hHeld => ?_)
            clear hK K hb hbox hg
            refine norm_ (a' := ?_) ?_ ?_
            rotate_left
            · show Act.put _ (some 8) _ = _
              simp only [Act.put, List.setIfInBounds_toArray, List.set_cons_zero, List.set_cons_succ, i64_w, i32_w]
              rfl
            exact norm_ (by simp only [Go.Proofs.YtjkfkiebhgkolaaGreatDoorW.PrintLast.putAll, Act.put, List.setIfInBounds_toArray, List.set_cons_zero, List.set_cons_succ]) (hCont (gp, gq) _ ⟨hHeld, BA.out, BP.out, BQ.out, HB.out, Ggp.out, Ggq.out, Ngqgp.out.symm⟩)
          · refine box_step ?hg (N := 8) ?hd (cs := #[.int .i64 0, .int .i64 0, .bool false]) (t := 45) ?hr ?_; (case hd => rfl); (case hg => rfl); (case hr => first | (go_simp; done) | (go_simp; rfl))
            clear hHeld
            intro gq hg W6 hbox hb
            have Ggq := aM (show w.heap.size ≤ gq from by rw [hg]; exact HB.out.size)
            replace HB := aM (bP HB.out hb)
            replace BA := aM (bB BA.out hb)
            have BQ := aM hbox
            refine hK.out _ _ ⟨(bC BA.out 0).trans rfl, (bC BA.out 1).trans rfl⟩ (fun hHeld => ?_)
            clear hK K hb hbox hg
            refine norm_ (a' := ?_) ?_ ?_
            rotate_left
            · show Act.put _ (some 8) _ = _
              simp only [Act.put, List.setIfInBounds_toArray, List.set_cons_zero, List.set_cons_succ, i64_w, i32_w]
              rfl
            refine one_ (i := 14) (N := some 7) #[tT,tT,tT,tT,tT,tT,tT,tT,tT,tT,tT,tT,tT,tT,tT,tT,tF,tF] rfl rfl (by kernel_rfl) (by decide) (fun K hK => ?_)
            refine box_step ?hg (N := 7) ?hd (cs := #[.int .i64 0, .int .i64 0, .bool false]) (t := 28) ?hr ?_; (case hd => rfl); (case hg => rfl); (case hr => first | (go_simp; done) | (go_simp; rfl))
            clear hHeld
            intro gp hg W7 hbox hb
            have Ggp := aM (show w.heap.size ≤ gp from by rw [hg]; exact HB.out.size)
            have Ngpgq := aM (show gp ≠ gq from by have := blk_lt BQ.out; omega)
            replace HB := aM (bP HB.out hb)
            replace BA := aM (bB BA.out hb)
            replace BQ := aM (bB BQ.out hb)
            have BP := aM hbox
            refine hK.out _ _ ⟨(bC BA.out 0).trans rfl, (bC BA.out 1).trans rfl⟩ (fun hHeld => ?_)
            clear hK K hb hbox hg
            refine norm_ (a' := ?_) ?_ ?_
            rotate_left
            · show Act.put _ (some 7) _ = _
              simp only [Act.put, List.setIfInBounds_toArray, List.set_cons_zero, List.set_cons_succ, i64_w, i32_w]
              rfl
            exact norm_ (by simp only [Go.Proofs.YtjkfkiebhgkolaaGreatDoorW.PrintLast.putAll, Act.put, List.setIfInBounds_toArray, List.set_cons_zero, List.set_cons_succ]) (hCont (gp, gq) _ ⟨hHeld, BA.out, BP.out, BQ.out, HB.out, Ggp.out, Ggq.out, Ngpgq.out⟩)
        · refine box_step ?hg (N := 7) ?hd (cs := #[.int .i64 0, .int .i64 0, .bool false]) (t := 28) ?hr ?_; (case hd => rfl); (case hg => rfl); (case hr => first | (go_simp; done) | (go_simp; rfl))
          clear hHeld
          intro gp hg W5 hbox hb
          have Ggp := aM (show w.heap.size ≤ gp from by rw [hg]; exact HB.out.size)
          replace HB := aM (bP HB.out hb)
          replace BA := aM (bB BA.out hb)
          have BP := aM hbox
          refine hK.out _ _ ⟨(bC BA.out 0).trans rfl, (bC BA.out 1).trans rfl⟩ (fun hHeld => ?_)
          clear hK K hb hbox hg
          refine norm_ (a' := ?_) ?_ ?_
          rotate_left
          · show Act.put _ (some 7) _ = _
            simp only [Act.put, List.setIfInBounds_toArray, List.set_cons_zero, List.set_cons_succ, i64_w, i32_w]
            rfl
          refine two_ (i := 13) (j := 15) (Ni := some 27) (Nj := some 8) #[tT,tT,tT,tT,tT,tT,tT,tT,tT,tT,tT,tT,tT,tT,tT,tF,tF,tF] #[tT,tT,tT,tT,tT,tT,tT,tT,tT,tT,tT,tT,tT,tF,tT,tT,tF,tF] rfl rfl rfl rfl (by kernel_rfl) (by decide) (by decide) (fun K hK => ?_) (fun K hK => ?_)
          · refine goes_ Tryz.func18 (by kernel_rfl) rfl #[.string a0, .int .i64 a1_0, .int .i64 a1_1, .int .i64 a2] (by rfl) rfl rfl (by (try simp only [List.map_toArray, List.map_cons, List.map_nil]); first | done | rfl) ?_
            clear hHeld
            (with_reducible refine (bureauref14_Span.calls k2 a0 a1_0 a1_1 a2 x1 x2 x3 _ HK2.out).mono ?_)
            rintro e W6 ⟨rfl, hb⟩
            replace HB := aM (bP HB.out hb)
            replace BA := aM (bB BA.out hb)
            replace BP := aM (bB BP.out hb)
            refine ⟨_, rfl, hK.out _ _ ⟨(bC BA.out 0).trans rfl, (bC BA.out 1).trans rfl⟩ (fun hHeld => ?_)⟩
            clear hK K hb
            refine norm_ (a' := ?_) ?_ ?_
            rotate_left
            · show Act.put _ (some 27) _ = _
              simp only [Act.put, List.setIfInBounds_toArray, List.set_cons_zero, List.set_cons_succ, i64_w, i32_w]
              rfl
            refine one_ (i := 15) (N := some 8) #[tT,tT,tT,tT,tT,tT,tT,tT,tT,tT,tT,tT,tT,tT,tT,tT,tF,tF] rfl rfl (by kernel_rfl) (by decide) (fun K hK => ?_)
            refine box_step ?hg (N := 8) ?hd (cs := #[.int .i64 0, .int .i64 0, .bool false]) (t := 45) ?hr ?_; (case hd => rfl); (case hg => rfl); (case hr => first | (go_simp; done) | (go_simp; rfl))
            clear hHeld
            intro gq hg W7 hbox hb
            have Ggq := aM (show w.heap.size ≤ gq from by rw [hg]; exact HB.out.size)
            have Ngqgp := aM (show gq ≠ gp from by have := blk_lt BP.out; omega)
            replace HB := aM (bP HB.out hb)
            replace BA := aM (bB BA.out hb)
            replace BP := aM (bB BP.out hb)
            have BQ := aM hbox
            refine hK.out _ _ ⟨(bC BA.out 0).trans rfl, (bC BA.out 1).trans rfl⟩ (fun hHeld => ?_)
            clear hK K hb hbox hg
            refine norm_ (a' := ?_) ?_ ?_
            rotate_left
            · show Act.put _ (some 8) _ = _
              simp only [Act.put, List.setIfInBounds_toArray, List.set_cons_zero, List.set_cons_succ, i64_w, i32_w]
              rfl
            exact norm_ (by simp only [Go.Proofs.YtjkfkiebhgkolaaGreatDoorW.PrintLast.putAll, Act.put, List.setIfInBounds_toArray, List.set_cons_zero, List.set_cons_succ]) (hCont (gp, gq) _ ⟨hHeld, BA.out, BP.out, BQ.out, HB.out, Ggp.out, Ggq.out, Ngqgp.out.symm⟩)
          · refine box_step ?hg (N := 8) ?hd (cs := #[.int .i64 0, .int .i64 0, .bool false]) (t := 45) ?hr ?_; (case hd => rfl); (case hg => rfl); (case hr => first | (go_simp; done) | (go_simp; rfl))
            clear hHeld
            intro gq hg W6 hbox hb
            have Ggq := aM (show w.heap.size ≤ gq from by rw [hg]; exact HB.out.size)
            have Ngqgp := aM (show gq ≠ gp from by have := blk_lt BP.out; omega)
            replace HB := aM (bP HB.out hb)
            replace BA := aM (bB BA.out hb)
            replace BP := aM (bB BP.out hb)
            have BQ := aM hbox
            refine hK.out _ _ ⟨(bC BA.out 0).trans rfl, (bC BA.out 1).trans rfl⟩ (fun hHeld => ?_)
            clear hK K hb hbox hg
            refine norm_ (a' := ?_) ?_ ?_
            rotate_left
            · show Act.put _ (some 8) _ = _
              simp only [Act.put, List.setIfInBounds_toArray, List.set_cons_zero, List.set_cons_succ, i64_w, i32_w]
              rfl
            refine one_ (i := 13) (N := some 27) #[tT,tT,tT,tT,tT,tT,tT,tT,tT,tT,tT,tT,tT,tT,tT,tT,tF,tF] rfl rfl (by kernel_rfl) (by decide) (fun K hK => ?_)
            refine goes_ Tryz.func18 (by kernel_rfl) rfl #[.string a0, .int .i64 a1_0, .int .i64 a1_1, .int .i64 a2] (by rfl) rfl rfl (by (try simp only [List.map_toArray, List.map_cons, List.map_nil]); first | done | rfl) ?_
            clear hHeld
            (with_reducible refine (bureauref14_Span.calls k2 a0 a1_0 a1_1 a2 x1 x2 x3 _ HK2.out).mono ?_)
            rintro e W7 ⟨rfl, hb⟩
            replace HB := aM (bP HB.out hb)
            replace BA := aM (bB BA.out hb)
            replace BP := aM (bB BP.out hb)
            replace BQ := aM (bB BQ.out hb)
            refine ⟨_, rfl, hK.out _ _ ⟨(bC BA.out 0).trans rfl, (bC BA.out 1).trans rfl⟩ (fun hHeld => ?_)⟩
            clear hK K hb
            refine norm_ (a' := ?_) ?_ ?_
            rotate_left
            · show Act.put _ (some 27) _ = _
              simp only [Act.put, List.setIfInBounds_toArray, List.set_cons_zero, List.set_cons_succ, i64_w, i32_w]
              rfl
            exact norm_ (by simp only [Go.Proofs.YtjkfkiebhgkolaaGreatDoorW.PrintLast.putAll, Act.put, List.setIfInBounds_toArray, List.set_cons_zero, List.set_cons_succ]) (hCont (gp, gq) _ ⟨hHeld, BA.out, BP.out, BQ.out, HB.out, Ggp.out, Ggq.out, Ngqgp.out.symm⟩)
        · refine box_step ?hg (N := 8) ?hd (cs := #[.int .i64 0, .int .i64 0, .bool false]) (t := 45) ?hr ?_; (case hd => rfl); (case hg => rfl); (case hr => first | (go_simp; done) | (go_simp; rfl))
          clear hHeld
          intro gq hg W5 hbox hb
          have Ggq := aM (show w.heap.size ≤ gq from by rw [hg]; exact HB.out.size)
          replace HB := aM (bP HB.out hb)
          replace BA := aM (bB BA.out hb)
          have BQ := aM hbox
          refine hK.out _ _ ⟨(bC BA.out 0).trans rfl, (bC BA.out 1).trans rfl⟩ (fun hHeld => ?_)
          clear hK K hb hbox hg
          refine norm_ (a' := ?_) ?_ ?_
          rotate_left
          · show Act.put _ (some 8) _ = _
            simp only [Act.put, List.setIfInBounds_toArray, List.set_cons_zero, List.set_cons_succ, i64_w, i32_w]
            rfl
          refine two_ (i := 13) (j := 14) (Ni := some 27) (Nj := some 7) #[tT,tT,tT,tT,tT,tT,tT,tT,tT,tT,tT,tT,tT,tT,tF,tT,tF,tF] #[tT,tT,tT,tT,tT,tT,tT,tT,tT,tT,tT,tT,tT,tF,tT,tT,tF,tF] rfl rfl rfl rfl (by kernel_rfl) (by decide) (by decide) (fun K hK => ?_) (fun K hK => ?_)
          · refine goes_ Tryz.func18 (by kernel_rfl) rfl #[.string a0, .int .i64 a1_0, .int .i64 a1_1, .int .i64 a2] (by rfl) rfl rfl (by (try simp only [List.map_toArray, List.map_cons, List.map_nil]); first | done | rfl) ?_
            clear hHeld
            (with_reducible refine (bureauref14_Span.calls k2 a0 a1_0 a1_1 a2 x1 x2 x3 _ HK2.out).mono ?_)
            rintro e W6 ⟨rfl, hb⟩
            replace HB := aM (bP HB.out hb)
            replace BA := aM (bB BA.out hb)
            replace BQ := aM (bB BQ.out hb)
            refine ⟨_, rfl, hK.out _ _ ⟨(bC BA.out 0).trans rfl, (bC BA.out 1).trans rfl⟩ (fun hHeld => ?_)⟩
            clear hK K hb
            refine norm_ (a' := ?_) ?_ ?_
            rotate_left
            · show Act.put _ (some 27) _ = _
              simp only [Act.put, List.setIfInBounds_toArray, List.set_cons_zero, List.set_cons_succ, i64_w, i32_w]
              rfl
            refine one_ (i := 14) (N := some 7) #[tT,tT,tT,tT,tT,tT,tT,tT,tT,tT,tT,tT,tT,tT,tT,tT,tF,tF] rfl rfl (by kernel_rfl) (by decide) (fun K hK => ?_)
            refine box_step ?hg (N := 7) ?hd (cs := #[.int .i64 0, .int .i64 0, .bool false]) (t := 28) ?hr ?_; (case hd => rfl); (case hg => rfl); (case hr => first | (go_simp; done) | (go_simp; rfl))
            clear hHeld
            intro gp hg W7 hbox hb
            have Ggp := aM (show w.heap.size ≤ gp from by rw [hg]; exact HB.out.size)
            have Ngpgq := aM (show gp ≠ gq from by have := blk_lt BQ.out; omega)
            replace HB := aM (bP HB.out hb)
            replace BA := aM (bB BA.out hb)
            replace BQ := aM (bB BQ.out hb)
            have BP := aM hbox
            refine hK.out _ _ ⟨(bC BA.out 0).trans rfl, (bC BA.out 1).trans rfl⟩ (fun hHeld => ?_)
            clear hK K hb hbox hg
            refine norm_ (a' := ?_) ?_ ?_
            rotate_left
            · show Act.put _ (some 7) _ = _
              simp only [Act.put, List.setIfInBounds_toArray, List.set_cons_zero, List.set_cons_succ, i64_w, i32_w]
              rfl
            exact norm_ (by simp only [Go.Proofs.YtjkfkiebhgkolaaGreatDoorW.PrintLast.putAll, Act.put, List.setIfInBounds_toArray, List.set_cons_zero, List.set_cons_succ]) (hCont (gp, gq) _ ⟨hHeld, BA.out, BP.out, BQ.out, HB.out, Ggp.out, Ggq.out, Ngpgq.out⟩)
          · refine box_step ?hg (N := 7) ?hd (cs := #[.int .i64 0, .int .i64 0, .bool false]) (t := 28) ?hr ?_; (case hd => rfl); (case hg => rfl); (case hr => first | (go_simp; done) | (go_simp; rfl))
            clear hHeld
            intro gp hg W6 hbox hb
            have Ggp := aM (show w.heap.size ≤ gp from by rw [hg]; exact HB.out.size)
            have Ngpgq := aM (show gp ≠ gq from by have := blk_lt BQ.out; omega)
            replace HB := aM (bP HB.out hb)
            replace BA := aM (bB BA.out hb)
            replace BQ := aM (bB BQ.out hb)
            have BP := aM hbox
            refine hK.out _ _ ⟨(bC BA.out 0).trans rfl, (bC BA.out 1).trans rfl⟩ (fun hHeld => ?_)
            clear hK K hb hbox hg
            refine norm_ (a' := ?_) ?_ ?_
            rotate_left
            · show Act.put _ (some 7) _ = _
              simp only [Act.put, List.setIfInBounds_toArray, List.set_cons_zero, List.set_cons_succ, i64_w, i32_w]
              rfl
            refine one_ (i := 13) (N := some 27) #[tT,tT,tT,tT,tT,tT,tT,tT,tT,tT,tT,tT,tT,tT,tT,tT,tF,tF] rfl rfl (by kernel_rfl) (by decide) (fun K hK => ?_)
            refine goes_ Tryz.func18 (by kernel_rfl) rfl #[.string a0, .int .i64 a1_0, .int .i64 a1_1, .int .i64 a2] (by rfl) rfl rfl (by (try simp only [List.map_toArray, List.map_cons, List.map_nil]); first | done | rfl) ?_
            clear hHeld
            (with_reducible refine (bureauref14_Span.calls k2 a0 a1_0 a1_1 a2 x1 x2 x3 _ HK2.out).mono ?_)
            rintro e W7 ⟨rfl, hb⟩
            replace HB := aM (bP HB.out hb)
            replace BA := aM (bB BA.out hb)
            replace BQ := aM (bB BQ.out hb)
            replace BP := aM (bB BP.out hb)
            refine ⟨_, rfl, hK.out _ _ ⟨(bC BA.out 0).trans rfl, (bC BA.out 1).trans rfl⟩ (fun hHeld => ?_)⟩
            clear hK K hb
            refine norm_ (a' := ?_) ?_ ?_
            rotate_left
            · show Act.put _ (some 27) _ = _
              simp only [Act.put, List.setIfInBounds_toArray, List.set_cons_zero, List.set_cons_succ, i64_w, i32_w]
              rfl
            exact norm_ (by simp only [Go.Proofs.YtjkfkiebhgkolaaGreatDoorW.PrintLast.putAll, Act.put, List.setIfInBounds_toArray, List.set_cons_zero, List.set_cons_succ]) (hCont (gp, gq) _ ⟨hHeld, BA.out, BP.out, BQ.out, HB.out, Ggp.out, Ggq.out, Ngpgq.out⟩)
      · refine box_step ?hg (N := 7) ?hd (cs := #[.int .i64 0, .int .i64 0, .bool false]) (t := 28) ?hr ?_; (case hd => rfl); (case hg => rfl); (case hr => first | (go_simp; done) | (go_simp; rfl))
        clear hHeld
        intro gp hg W4 hbox hb
        have Ggp := aM (show w.heap.size ≤ gp from by rw [hg]; exact HB.out.size)
        replace HB := aM (bP HB.out hb)
        replace BA := aM (bB BA.out hb)
        have BP := aM hbox
        refine hK.out _ _ ⟨(bC BA.out 0).trans rfl, (bC BA.out 1).trans rfl⟩ (fun hHeld => ?_)
        clear hK K hb hbox hg
        refine norm_ (a' := ?_) ?_ ?_
        rotate_left
        · show Act.put _ (some 7) _ = _
          simp only [Act.put, List.setIfInBounds_toArray, List.set_cons_zero, List.set_cons_succ, i64_w, i32_w]
          rfl
        refine two_ (i := 6) (j := 15) (Ni := some 20) (Nj := some 8) #[tT,tT,tT,tT,tT,tT,tT,tT,tT,tT,tT,tT,tT,tF,tT,tF,tF,tF] #[tT,tT,tT,tT,tT,tT,tF,tT,tT,tT,tT,tT,tT,tF,tT,tT,tF,tF] rfl rfl rfl rfl (by kernel_rfl) (by decide) (by decide) (fun K hK => ?_) (fun K hK => ?_)
        · refine goes_ Tryz.func17 (by kernel_rfl) rfl #[.string a0, .int .i64 a1_0, .int .i64 a1_1, .int .i64 a2] (by rfl) rfl rfl (by (try simp only [List.map_toArray, List.map_cons, List.map_nil]); first | done | rfl) ?_
          clear hHeld
          (with_reducible refine (oper_Span.calls k1 a0 a1_0 a1_1 a2 x1 x2 x3 _ (HM.out.below HB.out) HK1.out).mono ?_)
          rintro e W5 ⟨rfl, hb⟩
          replace HB := aM (bP HB.out hb)
          replace BA := aM (bB BA.out hb)
          replace BP := aM (bB BP.out hb)
          refine ⟨_, rfl, hK.out _ _ ⟨(bC BA.out 0).trans rfl, (bC BA.out 1).trans rfl⟩ (fun hHeld => ?_)⟩
          clear hK K hb
          refine norm_ (a' := ?_) ?_ ?_
          rotate_left
          · show Act.put _ (some 20) _ = _
            simp only [Act.put, List.setIfInBounds_toArray, List.set_cons_zero, List.set_cons_succ, i64_w, i32_w]
            rfl
          refine two_ (i := 13) (j := 15) (Ni := some 27) (Nj := some 8) #[tT,tT,tT,tT,tT,tT,tT,tT,tT,tT,tT,tT,tT,tT,tT,tF,tF,tF] #[tT,tT,tT,tT,tT,tT,tT,tT,tT,tT,tT,tT,tT,tF,tT,tT,tF,tF] rfl rfl rfl rfl (by kernel_rfl) (by decide) (by decide) (fun K hK => ?_) (fun K hK => ?_)
          · refine goes_ Tryz.func18 (by kernel_rfl) rfl #[.string a0, .int .i64 a1_0, .int .i64 a1_1, .int .i64 a2] (by rfl) rfl rfl (by (try simp only [List.map_toArray, List.map_cons, List.map_nil]); first | done | rfl) ?_
            clear hHeld
            (with_reducible refine (bureauref14_Span.calls k2 a0 a1_0 a1_1 a2 x1 x2 x3 _ HK2.out).mono ?_)
            rintro e W6 ⟨rfl, hb⟩
            replace HB := aM (bP HB.out hb)
            replace BA := aM (bB BA.out hb)
            replace BP := aM (bB BP.out hb)
            refine ⟨_, rfl, hK.out _ _ ⟨(bC BA.out 0).trans rfl, (bC BA.out 1).trans rfl⟩ (fun hHeld => ?_)⟩
            clear hK K hb
            refine norm_ (a' := ?_) ?_ ?_
            rotate_left
            · show Act.put _ (some 27) _ = _
              simp only [Act.put, List.setIfInBounds_toArray, List.set_cons_zero, List.set_cons_succ, i64_w, i32_w]
              rfl
            refine one_ (i := 15) (N := some 8) #[tT,tT,tT,tT,tT,tT,tT,tT,tT,tT,tT,tT,tT,tT,tT,tT,tF,tF] rfl rfl (by kernel_rfl) (by decide) (fun K hK => ?_)
            refine box_step ?hg (N := 8) ?hd (cs := #[.int .i64 0, .int .i64 0, .bool false]) (t := 45) ?hr ?_; (case hd => rfl); (case hg => rfl); (case hr => first | (go_simp; done) | (go_simp; rfl))
            clear hHeld
            intro gq hg W7 hbox hb
            have Ggq := aM (show w.heap.size ≤ gq from by rw [hg]; exact HB.out.size)
            have Ngqgp := aM (show gq ≠ gp from by have := blk_lt BP.out; omega)
            replace HB := aM (bP HB.out hb)
            replace BA := aM (bB BA.out hb)
            replace BP := aM (bB BP.out hb)
            have BQ := aM hbox
            refine hK.out _ _ ⟨(bC BA.out 0).trans rfl, (bC BA.out 1).trans rfl⟩ (fun hHeld => ?_)
            clear hK K hb hbox hg
            refine norm_ (a' := ?_) ?_ ?_
            rotate_left
            · show Act.put _ (some 8) _ = _
              simp only [Act.put, List.setIfInBounds_toArray, List.set_cons_zero, List.set_cons_succ, i64_w, i32_w]
              rfl
            exact norm_ (by simp only [Go.Proofs.YtjkfkiebhgkolaaGreatDoorW.PrintLast.putAll, Act.put, List.setIfInBounds_toArray, List.set_cons_zero, List.set_cons_succ]) (hCont (gp, gq) _ ⟨hHeld, BA.out, BP.out, BQ.out, HB.out, Ggp.out, Ggq.out, Ngqgp.out.symm⟩)
          · refine box_step ?hg (N := 8) ?hd (cs := #[.int .i64 0, .int .i64 0, .bool false]) (t := 45) ?hr ?_; (case hd => rfl); (case hg => rfl); (case hr => first | (go_simp; done) | (go_simp; rfl))
            clear hHeld
            intro gq hg W6 hbox hb
            have Ggq := aM (show w.heap.size ≤ gq from by rw [hg]; exact HB.out.size)
            have Ngqgp := aM (show gq ≠ gp from by have := blk_lt BP.out; omega)
            replace HB := aM (bP HB.out hb)
            replace BA := aM (bB BA.out hb)
            replace BP := aM (bB BP.out hb)
            have BQ := aM hbox
            refine hK.out _ _ ⟨(bC BA.out 0).trans rfl, (bC BA.out 1).trans rfl⟩ (fun hHeld => ?_)
            clear hK K hb hbox hg
            refine norm_ (a' := ?_) ?_ ?_
            rotate_left
            · show Act.put _ (some 8) _ = _
              simp only [Act.put, List.setIfInBounds_toArray, List.set_cons_zero, List.set_cons_succ, i64_w, i32_w]
              rfl
            refine one_ (i := 13) (N := some 27) #[tT,tT,tT,tT,tT,tT,tT,tT,tT,tT,tT,tT,tT,tT,tT,tT,tF,tF] rfl rfl (by kernel_rfl) (by decide) (fun K hK => ?_)
            refine goes_ Tryz.func18 (by kernel_rfl) rfl #[.string a0, .int .i64 a1_0, .int .i64 a1_1, .int .i64 a2] (by rfl) rfl rfl (by (try simp only [List.map_toArray, List.map_cons, List.map_nil]); first | done | rfl) ?_
            clear hHeld
            (with_reducible refine (bureauref14_Span.calls k2 a0 a1_0 a1_1 a2 x1 x2 x3 _ HK2.out).mono ?_)
            rintro e W7 ⟨rfl, hb⟩
            replace HB := aM (bP HB.out hb)
            replace BA := aM (bB BA.out hb)
            replace BP := aM (bB BP.out hb)
            replace BQ := aM (bB BQ.out hb)
            refine ⟨_, rfl, hK.out _ _ ⟨(bC BA.out 0).trans rfl, (bC BA.out 1).trans rfl⟩ (fun hHeld => ?_)⟩
            clear hK K hb
            refine norm_ (a' := ?_) ?_ ?_
            rotate_left
            · show Act.put _ (some 27) _ = _
              simp only [Act.put, List.setIfInBounds_toArray, List.set_cons_zero, List.set_cons_succ, i64_w, i32_w]
              rfl
            exact norm_ (by simp only [Go.Proofs.YtjkfkiebhgkolaaGreatDoorW.PrintLast.putAll, Act.put, List.setIfInBounds_toArray, List.set_cons_zero, List.set_cons_succ]) (hCont (gp, gq) _ ⟨hHeld, BA.out, BP.out, BQ.out, HB.out, Ggp.out, Ggq.out, Ngqgp.out.symm⟩)
        · refine box_step ?hg (N := 8) ?hd (cs := #[.int .i64 0, .int .i64 0, .bool false]) (t := 45) ?hr ?_; (case hd => rfl); (case hg => rfl); (case hr => first | (go_simp; done) | (go_simp; rfl))
          clear hHeld
          intro gq hg W5 hbox hb
          have Ggq := aM (show w.heap.size ≤ gq from by rw [hg]; exact HB.out.size)
          have Ngqgp := aM (show gq ≠ gp from by have := blk_lt BP.out; omega)
          replace HB := aM (bP HB.out hb)
          replace BA := aM (bB BA.out hb)
          replace BP := aM (bB BP.out hb)
          have BQ := aM hbox
          refine hK.out _ _ ⟨(bC BA.out 0).trans rfl, (bC BA.out 1).trans rfl⟩ (fun hHeld => ?_)
          clear hK K hb hbox hg
          refine norm_ (a' := ?_) ?_ ?_
          rotate_left
          · show Act.put _ (some 8) _ = _
            simp only [Act.put, List.setIfInBounds_toArray, List.set_cons_zero, List.set_cons_succ, i64_w, i32_w]
            rfl
          refine one_ (i := 6) (N := some 20) #[tT,tT,tT,tT,tT,tT,tT,tT,tT,tT,tT,tT,tT,tF,tT,tT,tF,tF] rfl rfl (by kernel_rfl) (by decide) (fun K hK => ?_)
          refine goes_ Tryz.func17 (by kernel_rfl) rfl #[.string a0, .int .i64 a1_0, .int .i64 a1_1, .int .i64 a2] (by rfl) rfl rfl (by (try simp only [List.map_toArray, List.map_cons, List.map_nil]); first | done | rfl) ?_
          clear hHeld
          (with_reducible refine (oper_Span.calls k1 a0 a1_0 a1_1 a2 x1 x2 x3 _ (HM.out.below HB.out) HK1.out).mono ?_)
          rintro e W6 ⟨rfl, hb⟩
          replace HB := aM (bP HB.out hb)
          replace BA := aM (bB BA.out hb)
          replace BP := aM (bB BP.out hb)
          replace BQ := aM (bB BQ.out hb)
          refine ⟨_, rfl, hK.out _ _ ⟨(bC BA.out 0).trans rfl, (bC BA.out 1).trans rfl⟩ (fun hHeld => ?_)⟩
          clear hK K hb
          refine norm_ (a' := ?_) ?_ ?_
          rotate_left
          · show Act.put _ (some 20) _ = _
            simp only [Act.put, List.setIfInBounds_toArray, List.set_cons_zero, List.set_cons_succ, i64_w, i32_w]
            rfl
          refine one_ (i := 13) (N := some 27) #[tT,tT,tT,tT,tT,tT,tT,tT,tT,tT,tT,tT,tT,tT,tT,tT,tF,tF] rfl rfl (by kernel_rfl) (by decide) (fun K hK => ?_)
          refine goes_ Tryz.func18 (by kernel_rfl) rfl #[.string a0, .int .i64 a1_0, .int .i64 a1_1, .int .i64 a2] (by rfl) rfl rfl (by (try simp only [List.map_toArray, List.map_cons, List.map_nil]); first | done | rfl) ?_
          clear hHeld
          (with_reducible refine (bureauref14_Span.calls k2 a0 a1_0 a1_1 a2 x1 x2 x3 _ HK2.out).mono ?_)
          rintro e W7 ⟨rfl, hb⟩
          replace HB := aM (bP HB.out hb)
          replace BA := aM (bB BA.out hb)
          replace BP := aM (bB BP.out hb)
          replace BQ := aM (bB BQ.out hb)
          refine ⟨_, rfl, hK.out _ _ ⟨(bC BA.out 0).trans rfl, (bC BA.out 1).trans rfl⟩ (fun hHeld => ?_)⟩
          clear hK K hb
          refine norm_ (a' := ?_) ?_ ?_
          rotate_left
          · show Act.put _ (some 27) _ = _
            simp only [Act.put, List.setIfInBounds_toArray, List.set_cons_zero, List.set_cons_succ, i64_w, i32_w]
            rfl
          exact norm_ (by simp only [Go.Proofs.YtjkfkiebhgkolaaGreatDoorW.PrintLast.putAll, Act.put, List.setIfInBounds_toArray, List.set_cons_zero, List.set_cons_succ]) (hCont (gp, gq) _ ⟨hHeld, BA.out, BP.out, BQ.out, HB.out, Ggp.out, Ggq.out, Ngqgp.out.symm⟩)
      · refine box_step ?hg (N := 8) ?hd (cs := #[.int .i64 0, .int .i64 0, .bool false]) (t := 45) ?hr ?_; (case hd => rfl); (case hg => rfl); (case hr => first | (go_simp; done) | (go_simp; rfl))
        clear hHeld
        intro gq hg W4 hbox hb
        have Ggq := aM (show w.heap.size ≤ gq from by rw [hg]; exact HB.out.size)
        replace HB := aM (bP HB.out hb)
        replace BA := aM (bB BA.out hb)
        have BQ := aM hbox
        refine hK.out _ _ ⟨(bC BA.out 0).trans rfl, (bC BA.out 1).trans rfl⟩ (fun hHeld => ?_)
        clear hK K hb hbox hg
        refine norm_ (a' := ?_) ?_ ?_
        rotate_left
        · show Act.put _ (some 8) _ = _
          simp only [Act.put, List.setIfInBounds_toArray, List.set_cons_zero, List.set_cons_succ, i64_w, i32_w]
          rfl
        refine two_ (i := 6) (j := 14) (Ni := some 20) (Nj := some 7) #[tT,tT,tT,tT,tT,tT,tT,tT,tT,tT,tT,tT,tT,tF,tF,tT,tF,tF] #[tT,tT,tT,tT,tT,tT,tF,tT,tT,tT,tT,tT,tT,tF,tT,tT,tF,tF] rfl rfl rfl rfl (by kernel_rfl) (by decide) (by decide) (fun K hK => ?_) (fun K hK => ?_)
        · refine goes_ Tryz.func17 (by kernel_rfl) rfl #[.string a0, .int .i64 a1_0, .int .i64 a1_1, .int .i64 a2] (by rfl) rfl rfl (by (try simp only [List.map_toArray, List.map_cons, List.map_nil]); first | done | rfl) ?_
          clear hHeld
          (with_reducible refine (oper_Span.calls k1 a0 a1_0 a1_1 a2 x1 x2 x3 _ (HM.out.below HB.out) HK1.out).mono ?_)
          rintro e W5 ⟨rfl, hb⟩
          replace HB := aM (bP HB.out hb)
          replace BA := aM (bB BA.out hb)
          replace BQ := aM (bB BQ.out hb)
          refine ⟨_, rfl, hK.out _ _ ⟨(bC BA.out 0).trans rfl, (bC BA.out 1).trans rfl⟩ (fun hHeld => ?_)⟩
          clear hK K hb
          refine norm_ (a' := ?_) ?_ ?_
          rotate_left
          · show Act.put _ (some 20) _ = _
            simp only [Act.put, List.setIfInBounds_toArray, List.set_cons_zero, List.set_cons_succ, i64_w, i32_w]
            rfl
          refine two_ (i := 13) (j := 14) (Ni := some 27) (Nj := some 7) #[tT,tT,tT,tT,tT,tT,tT,tT,tT,tT,tT,tT,tT,tT,tF,tT,tF,tF] #[tT,tT,tT,tT,tT,tT,tT,tT,tT,tT,tT,tT,tT,tF,tT,tT,tF,tF] rfl rfl rfl rfl (by kernel_rfl) (by decide) (by decide) (fun K hK => ?_) (fun K hK => ?_)
          · refine goes_ Tryz.func18 (by kernel_rfl) rfl #[.string a0, .int .i64 a1_0, .int .i64 a1_1, .int .i64 a2] (by rfl) rfl rfl (by (try simp only [List.map_toArray, List.map_cons, List.map_nil]); first | done | rfl) ?_
            clear hHeld
            (with_reducible refine (bureauref14_Span.calls k2 a0 a1_0 a1_1 a2 x1 x2 x3 _ HK2.out).mono ?_)
            rintro e W6 ⟨rfl, hb⟩
            replace HB := aM (bP HB.out hb)
            replace BA := aM (bB BA.out hb)
            replace BQ := aM (bB BQ.out hb)
            refine ⟨_, rfl, hK.out _ _ ⟨(bC BA.out 0).trans rfl, (bC BA.out 1).trans rfl⟩ (fun hHeld => ?_)⟩
            clear hK K hb
            refine norm_ (a' := ?_) ?_ ?_
            rotate_left
            · show Act.put _ (some 27) _ = _
              simp only [Act.put, List.setIfInBounds_toArray, List.set_cons_zero, List.set_cons_succ, i64_w, i32_w]
              rfl
            refine one_ (i := 14) (N := some 7) #[tT,tT,tT,tT,tT,tT,tT,tT,tT,tT,tT,tT,tT,tT,tT,tT,tF,tF] rfl rfl (by kernel_rfl) (by decide) (fun K hK => ?_)
            refine box_step ?hg (N := 7) ?hd (cs := #[.int .i64 0, .int .i64 0, .bool false]) (t := 28) ?hr ?_; (case hd => rfl); (case hg => rfl); (case hr => first | (go_simp; done) | (go_simp; rfl))
            clear hHeld
            intro gp hg W7 hbox hb
            have Ggp := aM (show w.heap.size ≤ gp from by rw [hg]; exact HB.out.size)
            have Ngpgq := aM (show gp ≠ gq from by have := blk_lt BQ.out; omega)
            replace HB := aM (bP HB.out hb)
            replace BA := aM (bB BA.out hb)
            replace BQ := aM (bB BQ.out hb)
            have BP := aM hbox
            refine hK.out _ _ ⟨(bC BA.out 0).trans rfl, (bC BA.out 1).trans rfl⟩ (fun hHeld => ?_)
            clear hK K hb hbox hg
            refine norm_ (a' := ?_) ?_ ?_
            rotate_left
            · show Act.put _ (some 7) _ = _
              simp only [Act.put, List.setIfInBounds_toArray, List.set_cons_zero, List.set_cons_succ, i64_w, i32_w]
              rfl
            exact norm_ (by simp only [Go.Proofs.YtjkfkiebhgkolaaGreatDoorW.PrintLast.putAll, Act.put, List.setIfInBounds_toArray, List.set_cons_zero, List.set_cons_succ]) (hCont (gp, gq) _ ⟨hHeld, BA.out, BP.out, BQ.out, HB.out, Ggp.out, Ggq.out, Ngpgq.out⟩)
          · refine box_step ?hg (N := 7) ?hd (cs := #[.int .i64 0, .int .i64 0, .bool false]) (t := 28) ?hr ?_; (case hd => rfl); (case hg => rfl); (case hr => first | (go_simp; done) | (go_simp; rfl))
            clear hHeld
            intro gp hg W6 hbox hb
            have Ggp := aM (show w.heap.size ≤ gp from by rw [hg]; exact HB.out.size)
            have Ngpgq := aM (show gp ≠ gq from by have := blk_lt BQ.out; omega)
            replace HB := aM (bP HB.out hb)
            replace BA := aM (bB BA.out hb)
            replace BQ := aM (bB BQ.out hb)
            have BP := aM hbox
            refine hK.out _ _ ⟨(bC BA.out 0).trans rfl, (bC BA.out 1).trans rfl⟩ (fun hHeld => ?_)
            clear hK K hb hbox hg
            refine norm_ (a' := ?_) ?_ ?_
            rotate_left
            · show Act.put _ (some 7) _ = _
              simp only [Act.put, List.setIfInBounds_toArray, List.set_cons_zero, List.set_cons_succ, i64_w, i32_w]
              rfl
            refine one_ (i := 13) (N := some 27) #[tT,tT,tT,tT,tT,tT,tT,tT,tT,tT,tT,tT,tT,tT,tT,tT,tF,tF] rfl rfl (by kernel_rfl) (by decide) (fun K hK => ?_)
            refine goes_ Tryz.func18 (by kernel_rfl) rfl #[.string a0, .int .i64 a1_0, .int .i64 a1_1, .int .i64 a2] (by rfl) rfl rfl (by (try simp only [List.map_toArray, List.map_cons, List.map_nil]); first | done | rfl) ?_
            clear hHeld
            (with_reducible refine (bureauref14_Span.calls k2 a0 a1_0 a1_1 a2 x1 x2 x3 _ HK2.out).mono ?_)
            rintro e W7 ⟨rfl, hb⟩
            replace HB := aM (bP HB.out hb)
            replace BA := aM (bB BA.out hb)
            replace BQ := aM (bB BQ.out hb)
            replace BP := aM (bB BP.out hb)
            refine ⟨_, rfl, hK.out _ _ ⟨(bC BA.out 0).trans rfl, (bC BA.out 1).trans rfl⟩ (fun hHeld => ?_)⟩
            clear hK K hb
            refine norm_ (a' := ?_) ?_ ?_
            rotate_left
            · show Act.put _ (some 27) _ = _
              simp only [Act.put, List.setIfInBounds_toArray, List.set_cons_zero, List.set_cons_succ, i64_w, i32_w]
              rfl
            exact norm_ (by simp only [Go.Proofs.YtjkfkiebhgkolaaGreatDoorW.PrintLast.putAll, Act.put, List.setIfInBounds_toArray, List.set_cons_zero, List.set_cons_succ]) (hCont (gp, gq) _ ⟨hHeld, BA.out, BP.out, BQ.out, HB.out, Ggp.out, Ggq.out, Ngpgq.out⟩)
        · refine box_step ?hg (N := 7) ?hd (cs := #[.int .i64 0, .int .i64 0, .bool false]) (t := 28) ?hr ?_; (case hd => rfl); (case hg => rfl); (case hr => first | (go_simp; done) | (go_simp; rfl))
          clear hHeld
          intro gp hg W5 hbox hb
          have Ggp := aM (show w.heap.size ≤ gp from by rw [hg]; exact HB.out.size)
          have Ngpgq := aM (show gp ≠ gq from by have := blk_lt BQ.out; omega)
          replace HB := aM (bP HB.out hb)
          replace BA := aM (bB BA.out hb)
          replace BQ := aM (bB BQ.out hb)
          have BP := aM hbox
          refine hK.out _ _ ⟨(bC BA.out 0).trans rfl, (bC BA.out 1).trans rfl⟩ (fun hHeld => ?_)
          clear hK K hb hbox hg
          refine norm_ (a' := ?_) ?_ ?_
          rotate_left
          · show Act.put _ (some 7) _ = _
            simp only [Act.put, List.setIfInBounds_toArray, List.set_cons_zero, List.set_cons_succ, i64_w, i32_w]
            rfl
          refine one_ (i := 6) (N := some 20) #[tT,tT,tT,tT,tT,tT,tT,tT,tT,tT,tT,tT,tT,tF,tT,tT,tF,tF] rfl rfl (by kernel_rfl) (by decide) (fun K hK => ?_)
          refine goes_ Tryz.func17 (by kernel_rfl) rfl #[.string a0, .int .i64 a1_0, .int .i64 a1_1, .int .i64 a2] (by rfl) rfl rfl (by (try simp only [List.map_toArray, List.map_cons, List.map_nil]); first | done | rfl) ?_
          clear hHeld
          (with_reducible refine (oper_Span.calls k1 a0 a1_0 a1_1 a2 x1 x2 x3 _ (HM.out.below HB.out) HK1.out).mono ?_)
          rintro e W6 ⟨rfl, hb⟩
          replace HB := aM (bP HB.out hb)
          replace BA := aM (bB BA.out hb)
          replace BQ := aM (bB BQ.out hb)
          replace BP := aM (bB BP.out hb)
          refine ⟨_, rfl, hK.out _ _ ⟨(bC BA.out 0).trans rfl, (bC BA.out 1).trans rfl⟩ (fun hHeld => ?_)⟩
          clear hK K hb
          refine norm_ (a' := ?_) ?_ ?_
          rotate_left
          · show Act.put _ (some 20) _ = _
            simp only [Act.put, List.setIfInBounds_toArray, List.set_cons_zero, List.set_cons_succ, i64_w, i32_w]
            rfl
          refine one_ (i := 13) (N := some 27) #[tT,tT,tT,tT,tT,tT,tT,tT,tT,tT,tT,tT,tT,tT,tT,tT,tF,tF] rfl rfl (by kernel_rfl) (by decide) (fun K hK => ?_)
          refine goes_ Tryz.func18 (by kernel_rfl) rfl #[.string a0, .int .i64 a1_0, .int .i64 a1_1, .int .i64 a2] (by rfl) rfl rfl (by (try simp only [List.map_toArray, List.map_cons, List.map_nil]); first | done | rfl) ?_
          clear hHeld
          (with_reducible refine (bureauref14_Span.calls k2 a0 a1_0 a1_1 a2 x1 x2 x3 _ HK2.out).mono ?_)
          rintro e W7 ⟨rfl, hb⟩
          replace HB := aM (bP HB.out hb)
          replace BA := aM (bB BA.out hb)
          replace BQ := aM (bB BQ.out hb)
          replace BP := aM (bB BP.out hb)
          refine ⟨_, rfl, hK.out _ _ ⟨(bC BA.out 0).trans rfl, (bC BA.out 1).trans rfl⟩ (fun hHeld => ?_)⟩
          clear hK K hb
          refine norm_ (a' := ?_) ?_ ?_
          rotate_left
          · show Act.put _ (some 27) _ = _
            simp only [Act.put, List.setIfInBounds_toArray, List.set_cons_zero, List.set_cons_succ, i64_w, i32_w]
            rfl
          exact norm_ (by simp only [Go.Proofs.YtjkfkiebhgkolaaGreatDoorW.PrintLast.putAll, Act.put, List.setIfInBounds_toArray, List.set_cons_zero, List.set_cons_succ]) (hCont (gp, gq) _ ⟨hHeld, BA.out, BP.out, BQ.out, HB.out, Ggp.out, Ggq.out, Ngpgq.out⟩)
    clear hHeld HB BA
    rintro ⟨gp, gq⟩ W8 ⟨hHeld, x_0, x_1, x_2, x_3, x_4, x_5, x_6⟩
    try dsimp only at x_0 x_1 x_2 x_3 x_4 x_5 x_6
    have BA := aM x_0
    have BP := aM x_1
    have BQ := aM x_2
    have HB := aM x_3
    have Ggp := aM x_4
    have Ggq := aM x_5
    have Ngpgq := aM x_6
    clear x_0 x_1 x_2 x_3 x_4 x_5 x_6
    refine norm_ (a' := ?_) ?_ ?_
    rotate_left
    · simp only [Go.Proofs.YtjkfkiebhgkolaaGreatDoorW.PrintLast.putAll, Act.put, List.setIfInBounds_toArray, List.set_cons_zero, List.set_cons_succ, i64_w, i32_w]
      rfl
    refine last_ (i := 16) (N := none) #[tT,tT,tT,tT,tT,tT,tT,tT,tT,tT,tT,tT,tT,tT,tT,tT,tT,tF] rfl rfl (by kernel_rfl) (by decide) (fun K hK => ?_)
    have hs0 := (bC BP.out 0).trans (rfl : _ = some (Value.int .i64 0))
    have hf0 := bF BP.out 0
    have hs1 := (bC BP.out 1).trans (rfl : _ = some (Value.int .i64 0))
    have hf1 := bF BP.out 1
    have hs2 := (bC BP.out 2).trans (rfl : _ = some (Value.bool false))
    have hf2 := bF BP.out 2
    refine skip_ (w1 := (((W8.setCell ⟨gp, 0, none⟩ (.int .i64 x1)).setCell ⟨gp, 1, none⟩ (.int .i64 x2)).setCell ⟨gp, 2, none⟩ (.bool x3))) (by rfl) rfl ?_ ?_
    · first | (go_simp; done) | (go_simp; rfl)
    clear BA
    generalize hN : (((W8.setCell ⟨gp, 0, none⟩ (.int .i64 x1)).setCell ⟨gp, 1, none⟩ (.int .i64 x2)).setCell ⟨gp, 2, none⟩ (.bool x3)) = W9
    have eN : W9 = putL W8 gp 0 [.int .i64 x1, .int .i64 x2, .bool x3] := (by rw [← hN]; simp only [putL])
    have BP' := aM (show W9.heap[gp]? = some (.cells #[.int .i64 x1, .int .i64 x2, .bool x3] 28 (0, 0)) from by rw [eN, blk_sets [.int .i64 x1, .int .i64 x2, .bool x3] 0 _ _ BP.out]; simp only [setsL, List.setIfInBounds_toArray, List.set_cons_zero, List.set_cons_succ])
    have BQ' := aM (show W9.heap[gq]? = some (.cells #[.int .i64 0, .int .i64 0, .bool false] 45 (0, 0)) from by rw [eN]; exact blk_sets_far Ngpgq.out.symm [.int .i64 x1, .int .i64 x2, .bool x3] 0 _ BQ.out)
    have HB' := aM (show Below w.heap.size w W9 from by rw [eN]; exact below_sets Ggp.out [.int .i64 x1, .int .i64 x2, .bool x3] 0 _ HB.out)
    clear hN eN hHeld hs0 hf0 hs1 hf1 hs2 hf2 BP BQ HB
    have BP := BP'
    have BQ := BQ'
    have HB := HB'
    clear BP' BQ' HB'
    refine hK.out _ _ ?_
    clear hK K
    refine last_ (i := 17) (N := none) #[tT,tT,tT,tT,tT,tT,tT,tT,tT,tT,tT,tT,tT,tT,tT,tT,tT,tT] rfl rfl (by kernel_rfl) (by decide) (fun K hK => ?_)
    have hs0 := (bC BQ.out 0).trans (rfl : _ = some (Value.int .i64 0))
    have hf0 := bF BQ.out 0
    have hs1 := (bC BQ.out 1).trans (rfl : _ = some (Value.int .i64 0))
    have hf1 := bF BQ.out 1
    have hs2 := (bC BQ.out 2).trans (rfl : _ = some (Value.bool false))
    have hf2 := bF BQ.out 2
    refine skip_ (w1 := (((W9.setCell ⟨gq, 0, none⟩ (.int .i64 x1)).setCell ⟨gq, 1, none⟩ (.int .i64 x2)).setCell ⟨gq, 2, none⟩ (.bool x3))) (by rfl) rfl ?_ ?_
    · first | (go_simp; done) | (go_simp; rfl)
    generalize hN : (((W9.setCell ⟨gq, 0, none⟩ (.int .i64 x1)).setCell ⟨gq, 1, none⟩ (.int .i64 x2)).setCell ⟨gq, 2, none⟩ (.bool x3)) = W10
    have eN : W10 = putL W9 gq 0 [.int .i64 x1, .int .i64 x2, .bool x3] := (by rw [← hN]; simp only [putL])
    have BP' := aM (show W10.heap[gp]? = some (.cells #[.int .i64 x1, .int .i64 x2, .bool x3] 28 (0, 0)) from by rw [eN]; exact blk_sets_far Ngpgq.out [.int .i64 x1, .int .i64 x2, .bool x3] 0 _ BP.out)
    have BQ' := aM (show W10.heap[gq]? = some (.cells #[.int .i64 x1, .int .i64 x2, .bool x3] 45 (0, 0)) from by rw [eN, blk_sets [.int .i64 x1, .int .i64 x2, .bool x3] 0 _ _ BQ.out]; simp only [setsL, List.setIfInBounds_toArray, List.set_cons_zero, List.set_cons_succ])
    have HB' := aM (show Below w.heap.size w W10 from by rw [eN]; exact below_sets Ggq.out [.int .i64 x1, .int .i64 x2, .bool x3] 0 _ HB.out)
    clear hN eN hs0 hf0 hs1 hf1 hs2 hf2 BP BQ HB
    have BP := BP'
    have BQ := BQ'
    have HB := HB'
    clear BP' BQ' HB'
    refine hK.out _ _ ?_
    clear hK K
    refine done_ (by kernel_rfl) ?_
    replace hp0 := (bC BP.out 0).trans (rfl : _ = some (Value.int .i64 x1))
    replace hq0 := (bC BQ.out 0).trans (rfl : _ = some (Value.int .i64 x1))
    replace hp1 := (bC BP.out 1).trans (rfl : _ = some (Value.int .i64 x2))
    replace hq1 := (bC BQ.out 1).trans (rfl : _ = some (Value.int .i64 x2))
    replace hp2 := (bC BP.out 2).trans (rfl : _ = some (Value.bool x3))
    replace hq2 := (bC BQ.out 2).trans (rfl : _ = some (Value.bool x3))
    go_wp2
    go_ret
    exact ⟨by simp, HB.out⟩
end Go.Proofs.YtjkfkiebhgkolaaGreatDoor.PB
end

section
namespace Go.Proofs.YtjkfkiebhgkolaaGreatDoor.PB
open Go.ChangeShapes Go.WideShapes Go.ChangeAt Go.RowKit Go.Proofs.YtjkfkiebhgkolaaGreatDoorW.PrintWords
open Go.ChangeMaps (open_string shut_string)
set_option linter.unusedVariables false
namespace operSpans
open Go.Proofs.YtjkfkiebhgkolaaGreatDoor
theorem own : ownKnob Tryz.prog.godebug = none := by kernel_rfl
theorem laidOut : laidOutB Tryz.prog = true := by kernel_rfl
set_option maxRecDepth 100000 in
theorem lifted (os : Os) (started : os.Started) (H : Type) (enc : TypeId × Value → H) :
    ReturnsInHanded {} Tryz.checked os 5 .any (fun w args => (Rows.operSpansSpec.pre enc Tryz.prog Tryz.f5 [] false w args ∧ laidMetH Tryz.prog Rows.operSpansRow.laid w) ∧ sizedMet enc Tryz.prog Tryz.f5 (OpenSpec.ofChange Rows.operSpansSpec) false w args) (Rows.operSpansSpec.post enc Tryz.prog Tryz.f5 false true false false) := by
  refine returnsInHanded_of_change_and (C := Tryz.checked) (X := fun w _ => laidMetH Tryz.prog Rows.operSpansRow.laid w) (fun _ _ _ hh h => h.of_heap hh) own started (by kernel_rfl) Tryz.func5
    (ChangeSpec.witness_shaped (enc := enc) (C := Tryz.checked) (os := os) (X := fun w _ => laidMetH Tryz.prog Rows.operSpansRow.laid w) false (World.laidAll Tryz.prog os Rows.operSpansRow.laid) #[.string ByteArray.empty, .agg #[.int .i64 0, .int .i64 0], .int .i64 0] 8 (World.laidAll_os _ _ _) (World.shaped_of_ZipB (by kernel_rfl) (by kernel_rfl)) (by kernel_rfl) (by kernel_rfl) (by kernel_rfl) (by rw [MakeChecks.laidMetH_plain _ _ _ (by kernel_rfl)]; exact laidMet_laidAll _ (by kernel_rfl) (by kernel_rfl))) ?_
  intro W base args ds gs before hval0 hW hcnd hsz0 hXL _
  have hsz : (DataW.weightsEach Tryz.prog (Tryz.f5.params.toList ++ Rows.operSpansSpec.plain.varTypes Tryz.prog) (ds ++ gs)).all (· ≤ reachBytes) = true := hsz0
  have hval : ∀ (j : Nat) t v, Tryz.f5.params[j]? = some t → args[j]? = some v → Value.okWide Tryz.prog W .any base t v := hval0
  have hW' := hW
  obtain ⟨p, q, hA0, hV, rfl, hfz, hnd⟩ := hW
  have hA : DataW.TrodAll enc Tryz.prog W 0 (fun _ => true) true Tryz.f5.params.toList args.toList ds p := hA0
  rw [Tryz.params5] at hA hval hsz
  obtain ⟨v0, vs0, d0, ds0, p0, q0, hargs, rfl, rfl, h0, r0⟩ := trodAll_cons hA
  obtain ⟨v1, vs1, d1, ds1, p1, q1, rfl, rfl, rfl, h1, r1⟩ := trodAll_cons r0
  obtain ⟨v2, vs2, d2, ds2, p2, q2, rfl, rfl, rfl, h2, r2⟩ := trodAll_cons r1
  obtain ⟨rfl, rfl, rfl⟩ := trodAll_nil r2
  obtain rfl : args = #[v0, v1, v2] := by cases args; simp_all
  obtain ⟨rfl, rfl⟩ := trodVars_none hV
  obtain ⟨a0, rfl, rfl, rfl, y0⟩ := open_string Tryz.underlying9 (hval 0 9 v0 rfl rfl) h0
  have w0 : a0.size ≤ 140737488351232 := by
    have z := sized_string hsz (j := 0) (t := 9) rfl rfl
    rw [Array.length_toList] at z
    exact z
  have hz1 : ∀ n ∈ d1.weights Tryz.prog 50, n ≤ reachBytes := fun n hn => by have z := List.all_eq_true.1 hsz n (DataW.weights_mem_each (j := 1) rfl rfl n hn); simpa using z
  have kk1 := h1
  have lt1 : ∀ x ∈ p1, x.block < W.heap.size := by obtain ⟨m, hm⟩ := kk1; exact DataW.trod_lt m _ _ _ hm
  obtain ⟨cs1, rfl, cz1⟩ := Opn.okWide_array Tryz.underlying50 (hval 1 50 v1 rfl rfl)
  obtain ⟨a1_0, a1_1, hcs1, w1_0, w1_1⟩ : ∃ a1_0 a1_1 : Int, cs1 = #[.int .i64 a1_0, .int .i64 a1_1] ∧ (Lit.int .i64 a1_0).wf = true ∧ (Lit.int .i64 a1_1).wf = true := by
    obtain ⟨fuel, hf⟩ := h1
    obtain ⟨l, hl, hc, hw⟩ := Opn.arrayI Tryz.underlying50 Tryz.underlying3 (by kernel_rfl) (by kernel_rfl) hf
    match l, hl with
    | [a1_0, a1_1], _ => exact ⟨a1_0, a1_1, Array.toList_inj.1 hc, hw _ (by simp), hw _ (by simp)⟩
  subst hcs1
  obtain ⟨a2, rfl, rfl, rfl, w2⟩ := open_int Tryz.underlying3 (hval 2 3 v2 rfl rfl) h2
  clear hA0 hval0 hsz0 hsz
  obtain ⟨k, hk⟩ := OperSpans_pure a0 a1_0 a1_1 a2 w0 w1_0 w1_1 w2
  refine (bureaulaw14_OperSpans.calls k a0 a1_0 a1_1 a2 true W (PB.numOk_of W hXL)  hk).mono fun e W' ⟨he, bel⟩ => ?_
  subst he
  exact ⟨_, rfl, _, _, _, [], _, [], hW', trodAll_mk1 (shut_bool Tryz.underlying4 _), (trodAll_cons_mk (shut_string Tryz.underlying9 y0) (trodAll_cons_mk (Below.trod laidOut (by kernel_rfl) (of_decide_eq_true (by kernel_rfl)) kk1 bel lt1) (trodAll_cons_mk (shut_int Tryz.underlying3 w2) trodAll_mk0))), rfl, bel.frame _, fun h => by cases h⟩
theorem over : Rows.operSpansRow.holds Tryz.pinned (OpenSpec.ofChange Rows.operSpansSpec) :=
  OpenClaim.holds_of_wide 5 Tryz.f5 rfl rfl rfl rfl rfl rfl rfl ⟨rfl, rfl, rfl, rfl, rfl⟩ rfl rfl rfl rfl rfl (by kernel_rfl) Tryz.func5 (by kernel_rfl)
    (of_decide_eq_true (by kernel_rfl)) (by unfold Func.isWrapper; first | (rw [if_pos (by decide +kernel)]; kernel_rfl) | (rw [if_neg (by decide +kernel)]; exact ⟨rfl, rfl⟩))
    (fun os started H enc _ => lifted os started H enc)
theorem proved : Rows.OperSpansSaid := over
end operSpans
end Go.Proofs.YtjkfkiebhgkolaaGreatDoor.PB
namespace Go.Proofs.YtjkfkiebhgkolaaGreatDoor
theorem operSpans_holds : Rows.OperSpansSaid := PB.operSpans.proved
theorem operSpans_card : Rows.OperSpansCardSaid :=
  Claim7.holds_tied_plain_at .later [] [.data, .pinned] true (true, "fc28f03b351ed66e5b260319e848951b5005ae947ade25d578fa813f4accacf5") false
    operSpans_holds (fun _ h => by cases h) (by kernel_rfl) (fun _ h => by cases h) operSpans_row_tie rfl ⟨rfl, rfl⟩ (by kernel_rfl) rfl
    (fun f fn hf hfn => by
      obtain rfl : f = 5 := Option.some.inj ((show Tryz.prog.funcNamed Rows.operSpansRow.func = some 5 by kernel_rfl).symm.trans hf) |>.symm
      obtain rfl : fn = Tryz.f5 := (Option.some.inj (Tryz.func5.symm.trans hfn)).symm
      exact ⟨by kernel_rfl, fun j t ht => by
        rw [Tryz.params5] at ht
        have hm : t ∈ [9, 50, 3] := by simpa using Array.mem_of_getElem? ht
        have hall : ([9, 50, 3].all fun u => !Tryz.prog.wantsStandIn u) = true := by kernel_rfl
        exact (show Tryz.prog.wantsStandIn t = false by simpa using List.all_eq_true.1 hall t hm)⟩)
    (by kernel_rfl)
#print axioms operSpans_card
end Go.Proofs.YtjkfkiebhgkolaaGreatDoor
end
