/- The row of a law out of its contract and its pure theorem. No condition. -/
import Derived.Test.YtnbdldpjiofafaaRows
import Derived.ProofKit
import Derived.ShutString
import Derived.ChangeOld
import Derived.Carry
import Derived.HandedShaped
import Derived.Test.YtnbdldpjiofafaaQSubstDoes6
section
namespace Go.Proofs.Ytnbdldpjiofafaa.PB
open Go.RowKit Go.Proofs.YtnbdldpjiofafaaW.PrintWords
set_option linter.unusedVariables false
set_option maxHeartbeats 1000000
def rangeL (L : List Int) : Prop := ∀ x ∈ L, 0 ≤ x ∧ x < 18446744073709551616
theorem seen_or2 {x z y : Int} (hx : 0 ≤ x ∧ x < 18446744073709551616) (hz : 0 ≤ z ∧ z < 18446744073709551616) (hy : 0 ≤ y ∧ y < 18446744073709551616) : seen (Go.bits .or .u64 x z) y = (seen x y && seen z y) := by
 obtain ⟨x, rfl⟩ := Int.eq_ofNat_of_zero_le hx.1
 obtain ⟨z, rfl⟩ := Int.eq_ofNat_of_zero_le hz.1
 obtain ⟨y, rfl⟩ := Int.eq_ofNat_of_zero_le hy.1
 have hx' : x < 2 ^ 64 := by omega
 have hy' : y < 2 ^ 64 := by omega
 have hz' : z < 2 ^ 64 := by omega
 unfold seen
 rw [u64_or_nat x z (by omega) (by omega), belowN_bits (x ||| z) y (Nat.or_lt_two_pow hx' hz') hy', belowN_bits x y hx' hy', belowN_bits z y hz' hy', Bool.eq_iff_iff, Bool.and_eq_true]
 unfold belowN
 rw [List.all_eq_true, List.all_eq_true, List.all_eq_true]
 constructor
 ·intro h
  refine ⟨fun i hi => ?_, fun i hi => ?_⟩ <;> (have := h i hi; rw [Nat.testBit_or] at this; cases hx : x.testBit i <;> cases hz : z.testBit i <;> simp_all)
 ·rintro ⟨h1, h2⟩ i hi
  have a := h1 i hi
  have b := h2 i hi
  rw [Nat.testBit_or]
  cases hx : x.testBit i <;> cases hz : z.testBit i <;> simp_all
theorem or_range {x z : Int} (hx : 0 ≤ x ∧ x < 18446744073709551616) (hz : 0 ≤ z ∧ z < 18446744073709551616) : 0 ≤ Go.bits .or .u64 x z ∧ Go.bits .or .u64 x z < 18446744073709551616 := by
 obtain ⟨x, rfl⟩ := Int.eq_ofNat_of_zero_le hx.1
 obtain ⟨z, rfl⟩ := Int.eq_ofNat_of_zero_le hz.1
 have h := Nat.or_lt_two_pow (n := 64) (show x < 2 ^ 64 by omega) (show z < 2 ^ 64 by omega)
 rw [u64_or_nat x z (by omega) (by omega)]
 omega
theorem seen_zero {y : Int} (hy : 0 ≤ y ∧ y < 18446744073709551616) : seen 0 y = true := by
 obtain ⟨y, rfl⟩ := Int.eq_ofNat_of_zero_le hy.1
 unfold seen
 have := belowN_bits 0 y (by decide) (by omega)
 rw [show ((0 : Nat) : Int) = 0 from rfl] at this
 rw [this]
 exact belowN_yes (fun i _ h => by simp at h)
theorem seen_all {y : Int} (hy : 0 ≤ y ∧ y < 18446744073709551616) (B : List Int) (hB : rangeL B) : seen (orAllI B) y = B.all (fun x => seen x y) := by
 have : ∀ (B : List Int) (a : Int), 0 ≤ a ∧ a < 18446744073709551616 → rangeL B → seen (B.foldl (fun a x => Go.bits .or .u64 a x) a) y = (seen a y && B.all (fun x => seen x y)) := by
  intro B
  induction B with
  | nil => intro a ha _; simp
  | cons x B ih =>
   intro a ha hB
   have hx := hB x List.mem_cons_self
   rw [List.foldl_cons, ih _ (or_range ha hx) (fun z hz => hB z (List.mem_cons_of_mem _ hz)), seen_or2 ha hx hy, List.all_cons, Bool.and_assoc]
 unfold orAllI
 rw [this B 0 (by decide) hB, seen_zero hy, Bool.true_and]
theorem wadd (a b : Nat) (h : a + b ≤ 1000000000000000) : wrap64 ((a : Int) + (b : Int)) = ((a + b : Nat) : Int) := by unfold wrap64; omega
theorem wadd1 (a : Nat) (h : a ≤ 1000000000000000) : wrap64 ((a : Int) + 1) = ((a + 1 : Nat) : Int) := by unfold wrap64; omega
def hitS (cs pat : List UInt8) (L : List Int) (y : Int) (e p : Nat) : Bool := decide (p + pat.length ≤ e) && (((cs.drop p).take pat.length == pat) && ((L.drop p).take pat.length).all (fun x => seen x y))
theorem hitS_iff {cs pat : List UInt8} {L : List Int} {y : Int} {e p : Nat} : hitS cs pat L y e p = true ↔ p + pat.length ≤ e ∧ (cs.drop p).take pat.length = pat ∧ ((L.drop p).take pat.length).all (fun x => seen x y) = true := by
 unfold hitS; simp only [Bool.and_eq_true, decide_eq_true_eq, beq_iff_eq]
structure Fine (s : ByteArray) (l : List S51) (y : Int) : Prop where
 good : goodT s l = true
 len : l.length ≤ big
 lab : ∀ r ∈ l, 0 ≤ r.f0 ∧ r.f0 < 18446744073709551616
 lev : 0 ≤ y ∧ y < 18446744073709551616
theorem Fine.size {s : ByteArray} {l : List S51} {y : Int} (h : Fine s l y) : s.size ≤ 4096 ∧ (bytes l).length = s.size := by
 obtain ⟨g1, g2, g3, g4, g5⟩ := goodT_facts h.good
 exact ⟨g4, g3⟩
theorem Fine.range {s : ByteArray} {l : List S51} {y : Int} (h : Fine s l y) : rangeL (bytes l) := fun x hx => by
 obtain ⟨r, hr, e⟩ := bytes_mem hx
 rw [← e]; exact h.lab r hr
theorem seen_ev {s : ByteArray} {l : List S51} {y : Int} (h : Fine s l y) (p q : Nat) (hpq : p ≤ q) (hq : q ≤ s.size) : Ev (fun k => subst_seen.f k s l y (p : Int) (q : Int)) ((((bytes l).take q).drop p).all (fun x => seen x y)) := by
 obtain ⟨g1, g2, g3, g4, g5⟩ := goodT_facts h.good
 have hw : withinB l (p : Int) (q : Int) = true := withinB_iff.2 ⟨g1, by omega, by omega, by omega⟩
 have hr : rangeL (((bytes l).take q).drop p) := fun x hx => h.range x (List.mem_of_mem_take (List.mem_of_mem_drop hx))
 have hlen : (((bytes l).take q).drop p).length ≤ 4096 := by rw [List.length_drop, List.length_take]; omega
 unfold subst_seen.f
 refine Ev.bind (slice_ev l h.len (p : Int) (q : Int)) ?_
 unfold sliceS
 rw [if_pos hw, Int.toNat_natCast, Int.toNat_natCast]
 generalize ((bytes l).take q).drop p = B at *
 have hpl : (pack B).length ≤ big := by have := pack_len B; unfold big; omega
 refine Ev.bind (all_ev (pack B) hpl) ?_
 have e : orAllI (pos1 (pack B)) = orAllI B := by
  rw [← orAllI_bytes, pack_bytes]
  intro r hrm
  have hm : r.f0 ∈ bytes (pack B) := by
   unfold bytes
   rw [List.mem_flatMap]
   have hn := pack_nrm B
   refine ⟨r, hrm, ?_⟩
   have hpos : 1 ≤ r.f1 := nrm_pos hn r hrm
   rw [List.mem_replicate]
   exact ⟨by omega, rfl⟩
  rw [pack_bytes] at hm
  exact hr _ hm
 rw [e]
 unfold label_Below.f
 refine Ev.bind (Ev.now _) (ev_val (Ev.now _) ?_)
 exact seen_all h.lev B hr
theorem occ_iff (l sub : List UInt8) (i : Nat) : Lib.occAt l sub i = true ↔ (l.drop i).take sub.length = sub := by
 unfold Lib.occAt
 rw [List.isPrefixOf_iff_prefix, List.prefix_iff_eq_take]
 exact ⟨fun h => h.symm, fun h => h.symm⟩
theorem drop_take_drop {α : Type} (l : List α) (a e p m : Nat) (h1 : a ≤ p) (h2 : p + m ≤ e) : ((((l.take e).drop a).drop (p - a)).take m) = (l.drop p).take m := by
 rw [List.drop_drop, show a + (p - a) = p by omega, List.drop_take, List.take_take, Nat.min_eq_left (by omega)]
theorem index_step (cs pat : List UInt8) (L : List Int) (y : Int) (every : Bool) (e a : Nat) (hp : 1 ≤ pat.length) (hlt : a < e) (he : e ≤ cs.length) :
  (Lib.index ((cs.take e).drop a) pat = -1 ∧ places every (hitS cs pat L y e) pat.length e a = []) ∨
  ∃ i : Nat, Lib.index ((cs.take e).drop a) pat = (i : Int) ∧ a + i + pat.length ≤ e ∧ places every (hitS cs pat L y e) pat.length e a = places every (hitS cs pat L y e) pat.length e (a + i) ∧
   hitS cs pat L y e (a + i) = ((L.drop (a + i)).take pat.length).all (fun x => seen x y) := by
 have hlen : ((cs.take e).drop a).length = e - a := by rw [List.length_drop, List.length_take]; omega
 rcases Lib.index_spec ((cs.take e).drop a) pat with ⟨hi, hno⟩ | ⟨i, hi, hil, hocc, hno⟩
 ·refine .inl ⟨hi, places_none hp (fun k h1 h2 hh => ?_)⟩
  obtain ⟨e1, e2, _⟩ := hitS_iff.1 hh
  have := hno (k - a) (by omega)
  rw [Bool.eq_false_iff] at this
  exact this ((occ_iff _ _ _).2 (by rw [drop_take_drop _ _ _ _ _ h1 e1]; exact e2))
 ·have hroom := Lib.index_room ((cs.take e).drop a) pat (by rw [hi]; omega)
  rw [hi, hlen] at hroom
  have hm := (occ_iff _ _ _).1 hocc
  have hpe : a + i + pat.length ≤ e := by omega
  have hm2 : (cs.drop (a + i)).take pat.length = pat := by
   have := drop_take_drop cs a e (a + i) pat.length (by omega) (by omega)
   rw [show a + i - a = i by omega] at this
   rw [← this]; exact hm
  refine .inr ⟨i, hi, hpe, places_skip hp i a (by omega) (fun k hk hh => ?_), ?_⟩
  ·obtain ⟨e1, e2, _⟩ := hitS_iff.1 hh
   have := hno k hk
   rw [Bool.eq_false_iff] at this
   exact this ((occ_iff _ _ _).2 (by
    have q := drop_take_drop cs a e (a + k) pat.length (by omega) e1
    rw [show a + k - a = k by omega] at q
    rw [q]; exact e2))
  ·rw [Bool.eq_iff_iff, hitS_iff]
   exact ⟨fun q => q.2.2, fun q => ⟨hpe, hm2, q⟩⟩
theorem idx_is (s pat : ByteArray) (a e : Nat) (hs : s.size ≤ 4096) : strings_Index.f (s.extract a e) pat = some (Lib.index ((s.data.toList.take e).drop a) pat.data.toList) := by
 unfold strings_Index.f
 have hsz : (s.extract a e).size < 4294967281 := by rw [ByteArray.size_extract]; omega
 rw [if_pos hsz, ext_list]
theorem places_ev {s : ByteArray} {l : List S51} {y : Int} (h : Fine s l y) (A B : Int) (pat rep : ByteArray) (every : Bool) (hp : 1 ≤ pat.size) (a e : Nat) (hae : a ≤ e) (he : e ≤ s.size) :
  Ev (fun k => subst_places.f k s l y A B pat rep every (a : Int) (e : Int)) ((places every (hitS s.data.toList pat.data.toList (bytes l) y e) pat.data.toList.length e a).map (fun i : Nat => (i : Int))) := by
 have h4 := h.size.1
 have hidx := fun a e => idx_is s pat a e h4
 have hcs : e ≤ s.data.toList.length := by rw [← Lib.size_eq]; exact he
 have hps : pat.size = pat.data.toList.length := Lib.size_eq pat
 have hpl : 1 ≤ pat.data.toList.length := by rw [← hps]; exact hp
 have hstep := fun a ha => index_step s.data.toList pat.data.toList (bytes l) y every e a hpl ha hcs
 have hseen := fun p q hpq hq => seen_ev h p q hpq hq
 obtain ⟨n, hn⟩ : ∃ n, s.size = n := ⟨_, rfl⟩
 have hsn : (s.size : Int) = (n : Int) := by rw [hn]
 have hpn : (pat.size : Int) = (pat.data.toList.length : Int) := by rw [hps]
 rw [hn] at he h4 hseen
 generalize pat.data.toList.length = m at *
 generalize hhit : hitS s.data.toList pat.data.toList (bytes l) y e = hit at *
 clear hhit hps hcs
 have loop : ∀ (d a : Nat) (acc : List Int), e - a ≤ d → a ≤ e → acc.length ≤ a → Ev (fun k => subst_places.l0 k y (e : Int) acc (a : Int) s l A B pat rep every) (acc ++ (places every hit m e a).map (fun i : Nat => (i : Int))) := by
  intro d
  induction d with
  | zero =>
   intro a acc hd ha hacc
   refine Ev.step (fun k => by simp only [subst_places.l0]; rfl) ?_
   refine Ev.neg (by omega) ?_
   rw [places_end (by omega), List.map_nil, List.append_nil]
   exact Ev.now _
  | succ d ih =>
   intro a acc hd ha hacc
   refine Ev.step (fun k => by simp only [subst_places.l0]; rfl) ?_
   by_cases hlt : a < e
   ·refine Ev.pos (by omega) (Ev.pos (by omega) (Ev.pos (by omega) (Ev.pos (by rw [hsn]; omega) ?_)))
    rw [Int.toNat_natCast, Int.toNat_natCast, hidx]
    refine Ev.bind (Ev.now _) ?_
    rcases hstep a hlt with ⟨hi, hno⟩ | ⟨i, hi, hpe, hskip, hs⟩
    ·rw [hi, hno, List.map_nil, List.append_nil]
     exact Ev.pos (by decide) (Ev.now _)
    ·rw [hi, hskip]
     clear hi hskip hidx
     have hb : a + i + m ≤ 4096 := Nat.le_trans hpe (Nat.le_trans he h4)
     rw [hpn, wadd a i (by omega), wadd (a + i) m (by omega), wadd1 (a + i) (by omega)]
     refine Ev.neg (by omega) ?_
     have hsv := hseen (a + i) (a + i + m) (by omega) (by omega)
     rw [List.drop_take, show a + i + m - (a + i) = m by omega, ← hs] at hsv
     refine Ev.bind hsv ?_
     by_cases hh : hit (a + i) = true
     ·rw [places_hit hpl (by omega) hh]
      refine Ev.pos hh (Ev.pos (by omega) (Ev.bind (Ev.now _) ?_))
      by_cases hev : every = true
      ·rw [if_pos hev]
       refine Ev.pos hev (ev_val (ih (a + i + m) (acc ++ [((a + i : Nat) : Int)]) (by omega) (by omega) (by rw [List.length_append, List.length_singleton]; omega)) ?_)
       simp
      ·rw [if_neg hev]
       exact Ev.neg hev (ev_val (Ev.now _) (by simp))
     ·rw [places_miss hpl (by omega) hh]
      exact Ev.neg hh (ih (a + i + 1) acc (by omega) (by omega) (by omega))
   ·refine Ev.neg (by omega) ?_
    rw [places_end (by omega), List.map_nil, List.append_nil]
    exact Ev.now _
 unfold subst_places.f
 exact loop (e - a) a [] (Nat.le_refl _) hae (by simp)
end Go.Proofs.Ytnbdldpjiofafaa.PB
end

section
namespace Go.Proofs.Ytnbdldpjiofafaa.PB
open Go.RowKit Go.Proofs.YtnbdldpjiofafaaW.PrintWords
set_option linter.unusedVariables false
set_option maxHeartbeats 1000000
theorem rdN' (l : List Int) (i : Nat) : rd l (i : Int) = l.getD i 0 := by unfold rd; rw [Int.toNat_natCast]
theorem takeCons {α : Type} [Inhabited α] (l : List α) (p k : Nat) (d : α) (h : p < l.length) : (l.drop p).take (k + 1) = l.getD p d :: (l.drop (p + 1)).take k := by
 rw [List.drop_eq_getElem_cons h, List.take_succ_cons, List.getD_eq_getElem?_getD, List.getElem?_eq_getElem h]; rfl
theorem stands_ev {s : ByteArray} {l : List S51} {y : Int} (h : Fine s l y) (pat : ByteArray) (a e : Nat) (hae : a ≤ e) (he : e ≤ s.size) (hp4 : pat.size ≤ 5000) :
  Ev (fun k => bureauref15_stands.f k s l (bytes l) y pat (a : Int) (e : Int)) (hitS s.data.toList pat.data.toList (bytes l) y e a) := by
 have h4 := h.size.1
 have hL := h.size.2
 have hrng := h.range
 have hlev := h.lev
 have hcl : s.data.toList.length = s.size := (Lib.size_eq s).symm
 have hpl : pat.data.toList.length = pat.size := (Lib.size_eq pat).symm
 have hbs : ∀ i, i < s.size → bt s (i : Int) = ((s.data.toList.getD i 0).toNat : Int) := fun i hi => bt_list s i hi
 have hbp : ∀ i, i < pat.size → bt pat (i : Int) = ((pat.data.toList.getD i 0).toNat : Int) := fun i hi => bt_list pat i hi
 clear h
 unfold bureauref15_stands.f
 obtain ⟨n, hn⟩ : ∃ n, s.size = n := ⟨_, rfl⟩
 obtain ⟨m, hm⟩ : ∃ m, pat.size = m := ⟨_, rfl⟩
 have hsn : (s.size : Int) = (n : Int) := by rw [hn]
 have hpn : (pat.size : Int) = (m : Int) := by rw [hm]
 rw [hn] at h4 hL hcl hbs he
 rw [hm] at hp4 hpl hbp
 have hw : wrap64 ((e : Int) - (a : Int)) = ((e - a : Nat) : Int) := by unfold wrap64; omega
 rw [hw, hpn]
 clear hw
 by_cases hroom : a + m ≤ e
 ·refine Ev.neg (by omega) ?_
  have loop : ∀ (d i : Nat), i + d = m → Ev (fun k => bureauref15_stands.l0 k (bytes l) y pat (a : Int) (i : Int) s l) (((s.data.toList.drop (a + i)).take d == pat.data.toList.drop i) && (((bytes l).drop (a + i)).take d).all (fun x => seen x y)) := by
   intro d
   induction d with
   | zero =>
    intro i hi
    refine Ev.step (fun k => by simp only [bureauref15_stands.l0]; rfl) ?_
    refine Ev.neg (by rw [hpn]; omega) (ev_val (Ev.now _) ?_)
    rw [List.drop_eq_nil_of_le (show pat.data.toList.length ≤ i by omega)]
    simp
   | succ d ih =>
    intro i hi
    refine Ev.step (fun k => by simp only [bureauref15_stands.l0]; rfl) ?_
    rw [wadd a i (by omega), wadd1 i (by omega), hpn, hsn, hbs (a + i) (by omega), hbp i (by omega)]
    refine Ev.pos (by omega) (Ev.pos (by omega) (Ev.pos (by omega) (Ev.pos (by omega) ?_)))
    rw [takeCons s.data.toList (a + i) d 0 (by omega), takeCons (bytes l) (a + i) d 0 (by omega), List.drop_eq_getElem_cons (show i < pat.data.toList.length by omega)]
    have hg : pat.data.toList.getD i 0 = pat.data.toList[i]'(by omega) := by rw [List.getD_eq_getElem?_getD, List.getElem?_eq_getElem (by omega)]; rfl
    rw [← hg]
    have hxr : 0 ≤ (bytes l).getD (a + i) 0 ∧ (bytes l).getD (a + i) 0 < 18446744073709551616 := by
     refine hrng _ ?_
     rw [List.getD_eq_getElem?_getD, List.getElem?_eq_getElem (show a + i < (bytes l).length by omega)]
     exact List.getElem_mem _
    rw [rdN']
    have hrec := ih (i + 1) (by omega)
    rw [← Nat.add_assoc] at hrec
    generalize s.data.toList.getD (a + i) 0 = c at *
    generalize pat.data.toList.getD i 0 = c' at *
    generalize (bytes l).getD (a + i) 0 = x at *
    by_cases hc : c = c'
    ·subst hc
     refine Ev.pos rfl (Ev.pos (by rw [hL]; omega) ?_)
     unfold bureauref01_Below.f
     rw [if_pos ⟨hxr.1, hxr.2, hlev.1, hlev.2⟩]
     refine Ev.bind (Ev.now _) ?_
     by_cases hs : (Go.bits .andNot .u64 x y == 0) = true
     ·refine Ev.pos hs (ev_val hrec ?_)
      have : seen x y = true := hs
      rw [List.all_cons, this, Bool.true_and]
      congr 1
      rw [Bool.eq_iff_iff, beq_iff_eq, beq_iff_eq]
      exact ⟨fun q => by rw [q], fun q => by injection q⟩
     ·refine Ev.neg hs (ev_val (Ev.now _) ?_)
      have : seen x y = false := by rw [← Bool.not_eq_true]; exact hs
      rw [List.all_cons, this]
      simp
    ·refine Ev.neg ?_ (ev_val (Ev.now _) ?_)
     ·intro q
      exact hc (UInt8.toNat_inj.1 (by omega))
     ·have : (c :: (s.data.toList.drop (a + i + 1)).take d == c' :: pat.data.toList.drop (i + 1)) = false := by
       rw [beq_eq_false_iff_ne]
       intro q
       injection q with q _
       exact hc q
      rw [this, Bool.false_and]
  have := loop m 0 (by omega)
  rw [Nat.add_zero, List.drop_zero] at this
  refine ev_val this ?_
  unfold hitS
  rw [hpl, decide_eq_true hroom, Bool.true_and]
 ·refine Ev.pos (by omega) (ev_val (Ev.now _) ?_)
  unfold hitS
  rw [hpl, decide_eq_false hroom, Bool.false_and]
end Go.Proofs.Ytnbdldpjiofafaa.PB
end

section
namespace Go.Proofs.Ytnbdldpjiofafaa.PB
open Go.RowKit Go.Proofs.YtnbdldpjiofafaaW.PrintWords
set_option linter.unusedVariables false
set_option maxHeartbeats 1000000
def allP (f : Nat → List Nat) : Nat → Nat → List Nat
 | _, 0 => []
 | n, d + 1 => f n ++ allP f (n + 1) d
def lineP (v s pat : ByteArray) (l : List S51) (y : Int) (every : Bool) (n : Nat) : List Nat :=
 places every (hitS s.data.toList pat.data.toList (bytes l) y (lineTo v n)) pat.data.toList.length (lineTo v n) (lineFrom v n)
theorem rplaces_ev {s : ByteArray} {l : List S51} {y : Int} (h : Fine s l y) (v pat rep : ByteArray) (every : Bool) (hv : v.size = s.size) (hp : 1 ≤ pat.size) (hp4 : pat.size ≤ 5000) (A B : Nat) (hAB : A ≤ B) (hB : B < (ends v).length) :
  Ev (fun k => bureauref15_Places.f k s l v y (A : Int) (B : Int) pat rep every) ((allP (lineP v s pat l y every) A (B + 1 - A)).map (fun i : Nat => (i : Int))) := by
 have h4 := h.size.1
 have hL := h.size.2
 have hends := ends_len_le v
 have hps : pat.data.toList.length = pat.size := (Lib.size_eq pat).symm
 have hpn : (pat.size : Int) = (pat.data.toList.length : Int) := by rw [hps]
 have hbig := h.len
 have hbound := fun n hn => rbounds_ev v (by omega) n hn
 have hrng := fun n hn => line_range v n hn
 have hstand := fun a e hae he => stands_ev h pat a e hae he hp4
 rw [hv] at hrng hends
 have hpl : 1 ≤ pat.data.toList.length := by omega
 have hmp : pat.data.toList.length ≤ 5000 := by omega
 unfold bureauref15_Places.f
 refine Ev.bind (bytes_ev l hbig (by omega)) ?_
 obtain ⟨N, hN⟩ : ∃ N, s.size = N := ⟨_, rfl⟩
 rw [hN] at h4 hrng hends hstand hL
 have inner : ∀ (n : Nat), n < (ends v).length → ∀ (d a : Nat) (acc : List Int) (r : List Int), lineTo v n - a ≤ d → a ≤ lineTo v n → acc.length ≤ 5000 + a →
   Ev (fun k => bureauref15_Places.l0 k v y (bytes l) (acc ++ (places every (hitS s.data.toList pat.data.toList (bytes l) y (lineTo v n)) pat.data.toList.length (lineTo v n) a).map (fun i : Nat => (i : Int))) (wrap64 ((n : Int) + 1)) s l (A : Int) (B : Int) pat rep every) r →
   Ev (fun k => bureauref15_Places.l1 k v y (bytes l) acc (n : Int) (a : Int) (lineTo v n : Int) s l (A : Int) (B : Int) pat rep every) r := by
  intro n hn
  have hr := (hrng n hn).2
  have hst := fun a hae => hstand a (lineTo v n) hae hr
  generalize lineTo v n = e at *
  generalize hh : hitS s.data.toList pat.data.toList (bytes l) y e = hit at *
  clear hh hstand hbound
  generalize pat.data.toList.length = m at *
  intro d
  induction d with
  | zero =>
   intro a acc r hd ha hacc hrest
   refine Ev.step (fun k => by simp only [bureauref15_Places.l1]; rfl) ?_
   refine Ev.neg (by omega) ?_
   rw [places_end (by omega), List.map_nil, List.append_nil] at hrest
   exact hrest
  | succ d ih =>
   intro a acc r hd ha hacc hrest
   refine Ev.step (fun k => by simp only [bureauref15_Places.l1]; rfl) ?_
   by_cases hlt : a < e
   ·refine Ev.pos (by omega) (Ev.bind (hst a ha) ?_)
    by_cases hht : hit a = true
    ·rw [places_hit hpl hlt hht] at hrest
     refine Ev.pos hht (Ev.pos (by omega) (Ev.bind (Ev.now _) ?_))
     have hlen : (acc ++ [(a : Int)]).length = acc.length + 1 := by simp
     by_cases hev : every = true
     ·rw [if_pos hev] at hrest
      refine Ev.pos hev ?_
      rw [hpn, wadd a m (by omega)]
      by_cases hle : a + m ≤ e
      ·refine ih (a + m) _ r (by omega) hle (by omega) ?_
       rw [List.append_assoc]
       exact hrest
      ·rw [places_end (show e ≤ a + m by omega)] at hrest
       refine Ev.step (fun k => by simp only [bureauref15_Places.l1]; rfl) ?_
       refine Ev.neg (by omega) ?_
       exact hrest
     ·rw [if_neg hev] at hrest
      refine Ev.neg hev (ih e _ r (by omega) (Nat.le_refl _) (by omega) ?_)
      rw [places_end (Nat.le_refl _), List.map_nil, List.append_nil]
      exact hrest
    ·rw [places_miss hpl hlt hht] at hrest
     refine Ev.neg hht ?_
     rw [wadd1 a (by omega)]
     exact ih (a + 1) acc r (by omega) (by omega) (by omega) hrest
   ·refine Ev.neg (by omega) ?_
    rw [places_end (by omega), List.map_nil, List.append_nil] at hrest
    exact hrest
 have hcount : ∀ n, n < (ends v).length → (lineP v s pat l y every n).length ≤ lineTo v n - lineFrom v n := by
  intro n hn
  have hr := hrng n hn
  obtain ⟨q1, _⟩ := places_spaced (every := every) (hit := hitS s.data.toList pat.data.toList (bytes l) y (lineTo v n)) (m := pat.data.toList.length) (e := lineTo v n) hpl (fun k hk => (hitS_iff.1 hk).1) (lineTo v n - lineFrom v n) (lineFrom v n) (Nat.le_refl _) hr.1
  have q2 := spaced_len hpl q1
  have q3 := Nat.le_mul_of_pos_right (places every (hitS s.data.toList pat.data.toList (bytes l) y (lineTo v n)) pat.data.toList.length (lineTo v n) (lineFrom v n)).length hpl
  unfold lineP
  omega
 have outer : ∀ (d n : Nat) (acc : List Int), n + d = B + 1 → acc.length ≤ lineFrom v n → (d = 0 ∨ n < (ends v).length) → Ev (fun k => bureauref15_Places.l0 k v y (bytes l) acc (n : Int) s l (A : Int) (B : Int) pat rep every) (acc ++ (allP (lineP v s pat l y every) n d).map (fun i : Nat => (i : Int))) := by
  intro d
  induction d with
  | zero =>
   intro n acc hn hacc _
   refine Ev.step (fun k => by simp only [bureauref15_Places.l0]; rfl) ?_
   exact Ev.neg (by omega) (ev_val (Ev.now _) (by simp [allP]))
  | succ d ih =>
   intro n acc hn hacc hor
   have hne : n < (ends v).length := by omega
   refine Ev.step (fun k => by simp only [bureauref15_Places.l0]; rfl) ?_
   refine Ev.pos (by omega) (Ev.bind (hbound n hne) ?_)
   have hr := hrng n hne
   refine inner n hne (lineTo v n - lineFrom v n) (lineFrom v n) acc _ (Nat.le_refl _) hr.1 (by omega) ?_
   rw [wadd1 n (by omega)]
   have hc := hcount n hne
   have hacc2 : (acc ++ (lineP v s pat l y every n).map (fun i : Nat => (i : Int))).length ≤ lineTo v n := by rw [List.length_append, List.length_map]; omega
   by_cases hd : d = 0
   ·subst hd
    refine ev_val (Ev.step (fun k => by simp only [bureauref15_Places.l0]; rfl) (Ev.neg (by omega) (Ev.now _))) ?_
    simp [allP, lineP]
   ·have hnx := line_next v n (by omega)
    have := ih (n + 1) (acc ++ (lineP v s pat l y every n).map (fun i : Nat => (i : Int))) (by omega) (by omega) (Or.inr (by omega))
    refine ev_val this ?_
    simp [allP, lineP]
 have := outer (B + 1 - A) A [] (by omega) (by simp) (Or.inr (by omega))
 rw [List.nil_append] at this
 exact this
end Go.Proofs.Ytnbdldpjiofafaa.PB
end

section
namespace Go.Proofs.Ytnbdldpjiofafaa.PB
open Go.RowKit Go.Proofs.YtnbdldpjiofafaaW.PrintWords
set_option linter.unusedVariables false
set_option maxHeartbeats 1000000
abbrev ints (l : List Nat) : List Int := l.map (fun i : Nat => (i : Int))
def bld (s r : ByteArray) (m a : Nat) (ps : List Nat) (e : Nat) : ByteArray := ⟨(buildS s.data.toList r.data.toList m a ps e).toArray⟩
theorem bld_list (s r : ByteArray) (m a : Nat) (ps : List Nat) (e : Nat) : (bld s r m a ps e).data.toList = buildS s.data.toList r.data.toList m a ps e := by unfold bld; rfl
theorem bld_size (s r : ByteArray) (m a : Nat) (ps : List Nat) (e : Nat) : (bld s r m a ps e).size = (buildS s.data.toList r.data.toList m a ps e).length := by rw [Lib.size_eq, bld_list]
theorem bld_nil (s r : ByteArray) (m a e : Nat) : bld s r m a [] e = s.extract a e := data_inj (by rw [bld_list, ext_list]; rfl)
theorem bld_cons (s r : ByteArray) (m a p : Nat) (ps : List Nat) (e : Nat) : bld s r m a (p :: ps) e = s.extract a p ++ (r ++ bld s r m (p + m) ps e) := data_inj (by rw [bld_list, app_list, app_list, bld_list, ext_list]; rfl)
theorem cut_ok {s : ByteArray} {l : List S51} {y : Int} (h : Fine s l y) (a p : Nat) (h1 : a ≤ p) (h2 : p ≤ s.size) : cutS s l (a : Int) (p : Int) = (s.extract a p, pack (((bytes l).take p).drop a), 0) := by
 unfold cutS
 rw [if_pos (withinT_iff.2 ⟨h.good, by omega, by omega, by omega⟩), Int.toNat_natCast, Int.toNat_natCast]
theorem packBig {C : List Int} {n : Nat} (h : C.length = n) (hn : n ≤ 20000) : (pack C).length ≤ big := by have := pack_len C; unfold big; omega
theorem cut_ev' {s : ByteArray} {l : List S51} {y : Int} (h : Fine s l y) (a p : Nat) (h1 : a ≤ p) (h2 : p ≤ s.size) : Ev (fun k => strip_Cut.f k s l (a : Int) (p : Int)) (s.extract a p, pack (((bytes l).take p).drop a), 0) := ev_val (cut_ev s l h.len _ _) (cut_ok h a p h1 h2)
theorem cat_ev' (X Z : ByteArray) (C D : List Int) (hC : C.length = X.size) (hD : D.length = Z.size) (h : X.size + Z.size ≤ 4096) : Ev (fun k => strip_Cat.f k X (pack C) Z (pack D)) (X ++ Z, pack (C ++ D), 0) :=
 ev_val (cat4_ev X (pack C) (packBig hC (by omega)) Z (pack D) (packBig hD (by omega))) (catT_pack X Z C D hC hD h)
theorem rd_at {all ps : List Nat} {i p : Nat} (h : all.drop i = p :: ps) (z : Int) : rd (ints all ++ [z]) (i : Int) = (p : Int) := by
 have hi : i < all.length := by
  rcases Nat.lt_or_ge i all.length with q | q
  ·exact q
  ·rw [List.drop_eq_nil_of_le q] at h; cases h
 rw [List.drop_eq_getElem_cons hi] at h
 injection h with h _
 unfold rd ints
 rw [Int.toNat_natCast, List.getD_eq_getElem?_getD, List.getElem?_append_left (by rw [List.length_map]; exact hi), List.getElem?_map, List.getElem?_eq_getElem hi, h]
 rfl
theorem rd_end {all : List Nat} {i : Nat} (h : i = all.length) (z : Int) : rd (ints all ++ [z]) (i : Int) = z := by
 subst h
 unfold rd ints
 rw [Int.toNat_natCast, List.getD_eq_getElem?_getD, List.getElem?_append_right (by rw [List.length_map]; exact Nat.le_refl _), List.length_map, Nat.sub_self]
 rfl
theorem ints_len (all : List Nat) (z : Int) : (ints all ++ [z]).length = all.length + 1 := by simp [ints]
abbrev DX := Int × ByteArray × (List S51) × ByteArray × (List S51) × Int × Int
def badD (c : Int) : DX := (0, ⟨#[]⟩, [], ⟨#[]⟩, [], 0, c)
def okD (s : ByteArray) (l : List S51) (fr e : Nat) (T : ByteArray) (D : List Int) (n : Int) : DX := ((fr : Int), s.extract fr e, pack (((bytes l).take e).drop fr), T, pack D, n, 0)
theorem splice_ok0 {s : ByteArray} {l : List S51} {y : Int} (h : Fine s l y) (fr e : Nat) (T : ByteArray) (D : List Int) (h1 : fr ≤ e) (h2 : e ≤ s.size) (hD : D.length = T.size) (hT : T.size ≤ 4096) (hz : (s.size : Int) - ((e : Int) - (fr : Int)) + (T.size : Int) ≤ 4096) :
  (spliceT s l (fr : Int) (e : Int) T (pack D)).2.2 = 0 := by
 unfold spliceT
 rw [if_pos (withinT_iff.2 ⟨h.good, by omega, by omega, by omega⟩), if_pos (goodT_pack hD hT), if_neg (by omega)]
theorem of_ok {s : ByteArray} {l : List S51} {y : Int} (h : Fine s l y) (fr e : Nat) (T : ByteArray) (D : List Int) (h1 : fr ≤ e) (h2 : e ≤ s.size) (hD : D.length = T.size) (hT : T.size ≤ 4096) (hz : (s.size : Int) - ((e : Int) - (fr : Int)) + (T.size : Int) ≤ 4096) :
  ofS s l (fr : Int) (e : Int) T (pack D) = ((fr : Int), s.extract fr e, pack (((bytes l).take e).drop fr), T, pack D, 0) := by
 unfold ofS
 rw [if_pos (splice_ok0 h fr e T D h1 h2 hD hT hz), cut_ok h fr e h1 h2]
theorem fwd_ev {s : ByteArray} {l : List S51} {y : Int} (h : Fine s l y) (A B : Int) (pat rep : ByteArray) (every : Bool) (fr e : Nat) (x11 : List Int) (all : List Nat) (hp : 1 ≤ pat.size) (hfe : fr ≤ e) (he : e ≤ s.size) (hall : all.length ≤ 5000) (hfin : ∀ T : ByteArray, ∀ D : List Int, D.length = T.size → T = bld s rep pat.size fr all e → T.size ≤ 4096 ∧ (s.size : Int) - ((e : Int) - (fr : Int)) + (T.size : Int) ≤ 4096) :
  ∀ (ps : List Nat) (i a : Nat) (X : ByteArray) (C : List Int), all.drop i = ps → i + ps.length = all.length → a ≤ e + pat.size → spaced pat.size a ps e → C.length = X.size → X ++ bld s rep pat.size a ps e = bld s rep pat.size fr all e → C ++ buildS (bytes l) (List.replicate rep.size y) pat.size a ps e = buildS (bytes l) (List.replicate rep.size y) pat.size fr all e →
   Ev (fun k => subst_Do.l1 k x11 (fr : Int) (e : Int) (a : Int) (ints all ++ [(e : Int)]) ((ints all ++ [(e : Int)]).length : Int) (i : Int) s l A B pat rep every rep (pack (List.replicate rep.size y)) X (pack C))
    (okD s l fr e (bld s rep pat.size fr all e) (buildS (bytes l) (List.replicate rep.size y) pat.size fr all e) (x11.length : Int)) := by
 have h4 := h.size.1
 have hL := h.size.2
 have hlen := ints_len all (e : Int)
 have hF := hfin
 have hR : (List.replicate rep.size y).length = rep.size := List.length_replicate
 have hbd := fun (a p : Nat) (hap : a ≤ p) (hpe : p ≤ e) => show (((bytes l).take p).drop a).length = (s.extract a p).size from by
  rw [ByteArray.size_extract, List.length_drop, List.length_take]; omega
 have hbz := fun (a p : Nat) (hpe : p ≤ e) => show (s.extract a p).size = p - a from by rw [ByteArray.size_extract]; omega
 intro ps
 induction ps with
 | nil =>
  intro i a X C hd hi ha hsp hC hT hB
  have hil : i = all.length := by simpa using hi
  have hae : a ≤ e := hsp
  have hq := hF (X ++ s.extract a e) (C ++ ((bytes l).take e).drop a) (by rw [List.length_append, ByteArray.size_append, hC, hbd a e hae (Nat.le_refl _)]) (by rw [← hT, bld_nil])
  have hsum : X.size + (s.extract a e).size ≤ 4096 := by have := hq.1; rw [ByteArray.size_append] at this; exact this
  refine Ev.step (fun k => by simp only [subst_Do.l1]; rfl) ?_
  rw [rd_end hil, hlen]
  refine Ev.pos (by omega) (Ev.pos (by omega) (Ev.pos (by omega) (Ev.bind (cut_ev' h a e hae he) (Ev.bind (cat_ev' X (s.extract a e) C _ hC (hbd a e hae (Nat.le_refl _)) hsum) (Ev.neg (by omega) ?_)))))
  rw [wadd1 i (by omega)]
  refine Ev.step (fun k => by simp only [subst_Do.l1]; rfl) (Ev.neg (by omega) ?_)
  refine Ev.bind (of_ev s l h.len _ _ _ _ (packBig (n := (X ++ s.extract a e).size) (by rw [List.length_append, ByteArray.size_append, hC, hbd a e hae (Nat.le_refl _)]) (by have := hq.1; omega))) (ev_val (Ev.now _) ?_)
  rw [of_ok h fr e _ _ hfe he (by rw [List.length_append, ByteArray.size_append, hC, hbd a e hae (Nat.le_refl _)]) hq.1 hq.2]
  rw [← hT, ← hB, bld_nil]
  rfl
 | cons p ps ih =>
  intro i a X C hd hi ha hsp hC hT hB
  have hap : a ≤ p := hsp.1
  have hpe := spaced_le hsp.2
  have hpe' : p < e := by omega
  have hi' : i + ps.length + 1 = all.length := by rw [List.length_cons] at hi; omega
  rw [bld_cons] at hT
  have hB' : C ++ (((bytes l).take p).drop a ++ (List.replicate rep.size y ++ buildS (bytes l) (List.replicate rep.size y) pat.size (p + pat.size) ps e)) = buildS (bytes l) (List.replicate rep.size y) pat.size fr all e := hB
  have hz : (X ++ (s.extract a p ++ (rep ++ bld s rep pat.size (p + pat.size) ps e))).size ≤ 4096 := by
   have hq := hF (bld s rep pat.size fr all e) (List.replicate (bld s rep pat.size fr all e).size 0) List.length_replicate rfl
   rw [hT]; exact hq.1
  rw [ByteArray.size_append, ByteArray.size_append, ByteArray.size_append] at hz
  have hb1 := hbd a p hap (by omega)
  refine Ev.step (fun k => by simp only [subst_Do.l1]; rfl) ?_
  rw [rd_at hd, hlen]
  refine Ev.pos (by omega) (Ev.pos (by omega) (Ev.pos (by omega) (Ev.bind (cut_ev' h a p hap (by omega)) (Ev.bind (cat_ev' X (s.extract a p) C _ hC hb1 (by omega)) (Ev.pos (by omega) (Ev.bind (cat_ev' (X ++ s.extract a p) rep _ _ (by rw [List.length_append, ByteArray.size_append, hC, hb1]) hR (by rw [ByteArray.size_append]; omega)) ?_))))))
  rw [wadd1 i (by omega), wadd p pat.size (by omega), ← hlen]
  refine ih (i + 1) (p + pat.size) _ _ ?_ (by omega) (by omega) hsp.2 ?_ ?_ ?_
  ·rw [← List.drop_drop, hd]; rfl
  ·rw [List.length_append, List.length_append, ByteArray.size_append, ByteArray.size_append, hC, hb1, hR]
  ·rw [← hT]; exact data_inj (by simp only [app_list, List.append_assoc])
  ·rw [← hB']; simp only [List.append_assoc]
end Go.Proofs.Ytnbdldpjiofafaa.PB
end

section
namespace Go.Proofs.Ytnbdldpjiofafaa.PB
open Go.RowKit Go.Proofs.YtnbdldpjiofafaaW.PrintWords
set_option linter.unusedVariables false
set_option maxHeartbeats 1000000
section
variable {s : ByteArray} {l : List S51} {y : Int}
theorem lineP_spaced (v s pat : ByteArray) (l : List S51) (y : Int) (every : Bool) (hp : 1 ≤ pat.size) (n : Nat) (h : n < (ends v).length) :
  spaced pat.size (lineFrom v n) (lineP v s pat l y every n) (lineTo v n) ∧ ∀ p ∈ lineP v s pat l y every n, hitS s.data.toList pat.data.toList (bytes l) y (lineTo v n) p = true := by
 have hr := line_range v n h
 rw [Lib.size_eq] at hp ⊢
 exact places_spaced (every := every) (hit := hitS s.data.toList pat.data.toList (bytes l) y (lineTo v n)) (m := pat.data.toList.length) (e := lineTo v n) hp (fun k hk => (hitS_iff.1 hk).1) (lineTo v n - lineFrom v n) (lineFrom v n) (Nat.le_refl _) hr.1
theorem lineP_len (v s pat : ByteArray) (l : List S51) (y : Int) (every : Bool) (hp : 1 ≤ pat.size) (n : Nat) (h : n < (ends v).length) : (lineP v s pat l y every n).length ≤ v.size := by
 have hr := line_range v n h
 have q1 := (lineP_spaced v s pat l y every hp n h).1
 have q2 := spaced_len hp q1
 have q3 := Nat.le_mul_of_pos_right (lineP v s pat l y every n).length hp
 omega
theorem allP_spaced (v s pat : ByteArray) (l : List S51) (y : Int) (every : Bool) (hp : 1 ≤ pat.size) : ∀ (d n : Nat), n + d < (ends v).length →
  spaced pat.size (lineFrom v n) (allP (lineP v s pat l y every) n (d + 1)) (lineTo v (n + d)) ∧ ∀ p ∈ allP (lineP v s pat l y every) n (d + 1), ∃ q, n ≤ q ∧ q ≤ n + d ∧ p ∈ lineP v s pat l y every q ∧ hitS s.data.toList pat.data.toList (bytes l) y (lineTo v q) p = true := by
 intro d
 induction d with
 | zero =>
  intro n hn
  obtain ⟨q1, q2⟩ := lineP_spaced v s pat l y every hp n hn
  simp only [allP, List.append_nil, Nat.add_zero]
  exact ⟨q1, fun p hp => ⟨n, Nat.le_refl _, Nat.le_refl _, hp, q2 p hp⟩⟩
 | succ d ih =>
  intro n hn
  obtain ⟨q1, q2⟩ := lineP_spaced v s pat l y every hp n (by omega)
  obtain ⟨i1, i2⟩ := ih (n + 1) (by omega)
  have hnx := line_next v n (by omega)
  rw [show n + 1 + d = n + (d + 1) by omega] at i1
  rw [show allP (lineP v s pat l y every) n (d + 1 + 1) = lineP v s pat l y every n ++ allP (lineP v s pat l y every) (n + 1) (d + 1) from rfl]
  refine ⟨spaced_app q1 (spaced_mono (by omega) i1), fun p hpm => ?_⟩
  rcases List.mem_append.1 hpm with hpm | hpm
  ·exact ⟨n, Nat.le_refl _, by omega, hpm, q2 p hpm⟩
  ·obtain ⟨q, w1, w2, w3, w4⟩ := i2 p hpm
   exact ⟨q, by omega, by omega, w3, w4⟩
theorem sub_lines_ev (h : Fine s l y) (v pat rep : ByteArray) (every : Bool) (hv : v.size = s.size) (hp : 1 ≤ pat.size) (A : Int) (B : Nat) (hB : B < (ends v).length) (r : DX) :
  ∀ (d n : Nat) (acc : List Int), n + d = B + 1 → acc.length ≤ n * 5000 → Ev (fun k => subst_Do.l0 k y v (acc ++ ints (allP (lineP v s pat l y every) n d)) ((B + 1 : Nat) : Int) s l A (B : Int) pat rep every) r →
   Ev (fun k => subst_Do.l0 k y v acc (n : Int) s l A (B : Int) pat rep every) r := by
 have h4 := h.size.1
 have hends := ends_len_le v
 intro d
 induction d with
 | zero =>
  intro n acc hn hacc hr
  have : n = B + 1 := by omega
  subst this
  rw [show allP (lineP v s pat l y every) (B + 1) 0 = [] from rfl, show ints [] = [] from rfl, List.append_nil] at hr
  exact hr
 | succ d ih =>
  intro n acc hn hacc hr
  have hne : n < (ends v).length := by omega
  have hrg := line_range v n hne
  have hpl := lineP_len v s pat l y every hp n hne
  have hb := bounds_ev v (by omega) n hne
  have hps := places_ev h A (B : Int) pat rep every hp (lineFrom v n) (lineTo v n) hrg.1 (by omega)
  refine Ev.step (fun k => by simp only [subst_Do.l0]; rfl) (Ev.pos (by omega) (Ev.bind hb (Ev.bind hps ?_)))
  have hl1 : (ints (lineP v s pat l y every n)).length = (lineP v s pat l y every n).length := List.length_map _
  rw [wadd1 n (by omega)]
  refine Ev.pos ?_ (ih (n + 1) _ (by omega) ?_ ?_)
  ·show acc.length + (ints (lineP v s pat l y every n)).length < _
   omega
  ·show (acc ++ ints (lineP v s pat l y every n)).length ≤ _
   rw [List.length_append]
   omega
  ·show Ev (fun k => subst_Do.l0 k y v ((acc ++ ints (lineP v s pat l y every n)) ++ ints (allP (lineP v s pat l y every) (n + 1) d)) ((B + 1 : Nat) : Int) s l A (B : Int) pat rep every) r
   rw [show allP (lineP v s pat l y every) n (d + 1) = lineP v s pat l y every n ++ allP (lineP v s pat l y every) (n + 1) d from rfl, show ints (lineP v s pat l y every n ++ allP (lineP v s pat l y every) (n + 1) d) = ints (lineP v s pat l y every n) ++ ints (allP (lineP v s pat l y every) (n + 1) d) from List.map_append, ← List.append_assoc] at hr
   exact hr
theorem wcount (n a b z : Nat) (hn : n ≤ 5000) (ha : a ≤ 5000) (hb : b ≤ 5000) (hz : z ≤ 5000) : wrap64 ((z : Int) + wrap64 ((n : Int) * wrap64 ((a : Int) - (b : Int)))) = (z : Int) + (((n * a : Nat) : Int) - ((n * b : Nat) : Int)) := by
 have h1 : n * a ≤ 5000 * 5000 := Nat.mul_le_mul hn ha
 have h2 : n * b ≤ 5000 * 5000 := Nat.mul_le_mul hn hb
 rw [show wrap64 ((a : Int) - (b : Int)) = (a : Int) - (b : Int) by unfold wrap64; omega, Int.mul_sub, ← Int.natCast_mul, ← Int.natCast_mul]
 generalize n * a = u at *
 generalize n * b = w at *
 rw [show wrap64 ((u : Int) - (w : Int)) = (u : Int) - (w : Int) by unfold wrap64; omega]
 unfold wrap64
 omega
def tailD (s : ByteArray) (l : List S51) (y : Int) (fr e : Nat) (ps : List Nat) (pat rep : ByteArray) : DX :=
 if ps.length = 0 then badD 6 else if (s.size : Int) + (((ps.length * rep.size : Nat) : Int) - ((ps.length * pat.size : Nat) : Int)) > 4096 then badD 3
 else okD s l fr e (bld s rep pat.size fr ps e) (buildS (bytes l) (List.replicate rep.size y) pat.size fr ps e) (ps.length : Int)
theorem bld_room (s rep : ByteArray) (m fr e : Nat) (ps : List Nat) (hs : spaced m fr ps e) (he : e ≤ s.size) (h4 : s.size ≤ 4096) (hc : ¬ (s.size : Int) + (((ps.length * rep.size : Nat) : Int) - ((ps.length * m : Nat) : Int)) > 4096) :
  (bld s rep m fr ps e).size ≤ 4096 ∧ (s.size : Int) - ((e : Int) - (fr : Int)) + ((bld s rep m fr ps e).size : Int) = (s.size : Int) + (((ps.length * rep.size : Nat) : Int) - ((ps.length * m : Nat) : Int)) := by
 have hb := build_len s.data.toList rep.data.toList m ps fr e (by rw [← Lib.size_eq]; exact he) hs
 have hle := spaced_le hs
 rw [← bld_size, ← Lib.size_eq] at hb
 generalize (bld s rep m fr ps e).size = u at *
 generalize ps.length * rep.size = x at *
 generalize ps.length * m = z at *
 generalize s.size = n at *
 omega
theorem sub_tail_ev (h : Fine s l y) (v pat rep : ByteArray) (every : Bool) (hv : v.size = s.size) (hp : 1 ≤ pat.size) (hp4 : pat.size ≤ 5000) (hr4 : rep.size ≤ 4096) (A B : Nat) (hAB : A ≤ B) (hB : B < (ends v).length) (ps : List Nat) (hps : spaced pat.size (lineFrom v A) ps (lineTo v B)) :
  Ev (fun k => subst_Do.l0 k y v (ints ps) ((B + 1 : Nat) : Int) s l (A : Int) (B : Int) pat rep every) (tailD s l y (lineFrom v A) (lineTo v B) ps pat rep) := by
 have h4 := h.size.1
 have hle := spaced_le hps
 have hz := spaced_len hp hps
 have hz2 := Nat.le_mul_of_pos_right ps.length hp
 have hrA := line_range v A (by omega)
 have hrB := line_range v B hB
 have hil : (ints ps).length = ps.length := List.length_map _
 have hn5 : ps.length ≤ 5000 := by omega
 have hbA := bounds_ev v (by omega) A (by omega)
 have hbB := bounds_ev v (by omega) B hB
 have hmk : makeS rep y = (rep, pack (List.replicate rep.size y), 0) := by unfold makeS; rw [if_neg (by omega)]
 have hbl := fun hc => bld_room s rep pat.size (lineFrom v A) (lineTo v B) ps hps (by omega) h4 hc
 refine Ev.step (fun k => by simp only [subst_Do.l0]; rfl) (Ev.neg (by omega) ?_)
 rw [hil, wcount ps.length rep.size pat.size s.size hn5 (by omega) hp4 (by omega)]
 unfold tailD
 by_cases h0 : ps.length = 0
 ·rw [if_pos h0]
  exact Ev.pos (by omega) (Ev.now _)
 ·rw [if_neg h0]
  refine Ev.neg (by omega) ?_
  by_cases hc : (s.size : Int) + (((ps.length * rep.size : Nat) : Int) - ((ps.length * pat.size : Nat) : Int)) > 4096
  ·rw [if_pos hc]
   exact Ev.pos hc (Ev.now _)
  ·rw [if_neg hc]
   refine Ev.neg hc (Ev.bind (ev_val (make_ev rep y) hmk) (Ev.bind hbA (Ev.bind hbB (Ev.pos (by omega) (Ev.bind (Ev.now _) ?_)))))
   have hq := hbl hc
   have hF := fwd_ev h (A : Int) (B : Int) pat rep every (lineFrom v A) (lineTo v B) (ints ps) ps hp hle (by omega) hn5 (fun T D _ hT => by subst hT; exact ⟨hq.1, by rw [hq.2]; omega⟩) ps 0 (lineFrom v A) ⟨#[]⟩ [] rfl (by omega) (by omega) hps rfl (data_inj (by rw [app_list]; rfl)) rfl
   rw [hil] at hF
   exact hF
end
end Go.Proofs.Ytnbdldpjiofafaa.PB
end

section
namespace Go.Proofs.Ytnbdldpjiofafaa.PB
open Go.RowKit Go.Proofs.YtnbdldpjiofafaaW.PrintWords
set_option linter.unusedVariables false
set_option maxHeartbeats 1000000
theorem has10 (pat : ByteArray) : strings_Contains.f pat ⟨#[10]⟩ = some (decide ((10 : UInt8) ∈ pat.data.toList)) := by
 unfold strings_Contains.f
 rw [if_pos (show (⟨#[10]⟩ : ByteArray).size = 1 from rfl)]
 congr 1
 rw [decide_eq_decide]
 rw [show (⟨#[10]⟩ : ByteArray).data.toList.getD 0 0 = 10 from rfl]
 rcases ib_cases pat.data.toList with ⟨h, hn⟩ | ⟨o, h, ho, h1, h2⟩
 ·rw [h]
  exact ⟨fun q => absurd q (by decide), fun q => absurd rfl (hn _ q)⟩
 ·rw [h]
  exact ⟨fun _ => List.mem_of_getElem? h1, fun _ => by omega⟩
theorem none10 (pat : ByteArray) : (((ends pat).length : Int) == 1) = !decide ((10 : UInt8) ∈ pat.data.toList) := by
 unfold ends
 rw [lineEnds_len]
 by_cases h : (10 : UInt8) ∈ pat.data.toList
 ·have := List.count_pos_iff.2 h
  rw [decide_eq_true h, Bool.not_true, beq_eq_false_iff_ne]
  omega
 ·have := List.count_eq_zero.2 h
  rw [decide_eq_false h, this]
  rfl
def mayD (v : ByteArray) (A B : Int) (pat rep : ByteArray) : Bool :=
 decide (0 ≤ A) && (decide (A ≤ B) && (decide (B < ((ends v).length : Int)) && (decide (1 ≤ pat.size) && (!decide ((10 : UInt8) ∈ pat.data.toList) && decide (rep.size ≤ 4096)))))
theorem mayD_iff {v : ByteArray} {A B : Int} {pat rep : ByteArray} : mayD v A B pat rep = true ↔ 0 ≤ A ∧ A ≤ B ∧ B < ((ends v).length : Int) ∧ 1 ≤ pat.size ∧ ¬ (10 : UInt8) ∈ pat.data.toList ∧ rep.size ≤ 4096 := by simp [mayD]
def doG (s : ByteArray) (l : List S51) (y : Int) (v : ByteArray) (A B : Nat) (pat rep : ByteArray) (every : Bool) : DX :=
 tailD s l y (lineFrom v A) (lineTo v B) (allP (lineP v s pat l y every) A (B + 1 - A)) pat rep
def doD (s : ByteArray) (l : List S51) (y A B : Int) (pat rep : ByteArray) (every : Bool) : DX :=
 if goodT s l = true ∧ mayD (viewS s l y).1 A B pat rep = true then doG s l y (viewS s l y).1 A.toNat B.toNat pat rep every else badD 2
theorem view_size {s : ByteArray} {l : List S51} {y : Int} (h : goodT s l = true) : (viewS s l y).1.size = s.size ∧ (viewS s l y).2 = 0 := by
 obtain ⟨g1, g2, g3, g4, g5⟩ := goodT_facts h
 unfold viewS
 rw [if_pos h]
 refine ⟨?_, rfl⟩
 show (strOfNums _).size = _
 rw [strOfNums_size, hideAll_len, bytesOf_len, g3, Nat.min_self]
theorem sub_may_ev {s : ByteArray} {l : List S51} {y : Int} (h : Fine s l y) (v pat rep : ByteArray) (every : Bool) (hv : v.size = s.size) (hp4 : pat.size ≤ 5000) (A B : Int) (hm : mayD v A B pat rep = true) :
  Ev (fun k => subst_Do.j0 k y v false s l A B pat rep every) (doG s l y v A.toNat B.toNat pat rep every) := by
 obtain ⟨h1, h2, h3, h4, h5, h6⟩ := mayD_iff.1 hm
 obtain ⟨a, rfl⟩ := Int.eq_ofNat_of_zero_le h1
 obtain ⟨b, rfl⟩ := Int.eq_ofNat_of_zero_le (show 0 ≤ B by omega)
 have hb : b < (ends v).length := by omega
 have hab : a ≤ b := by omega
 have hsp := (allP_spaced v s pat l y every h4 (b - a) a (by omega)).1
 rw [show a + (b - a) = b by omega, show b - a + 1 = b + 1 - a by omega] at hsp
 refine Ev.step (fun k => by simp only [subst_Do.j0]; rfl) (Ev.neg (by simp) ?_)
 rw [Int.toNat_natCast, Int.toNat_natCast]
 exact sub_lines_ev h v pat rep every hv h4 (a : Int) b hb _ (b + 1 - a) a [] (by omega) (by simp) (by rw [List.nil_append]; exact sub_tail_ev h v pat rep every hv h4 hp4 h6 a b hab hb _ hsp)
theorem do_ev (s : ByteArray) (l : List S51) (y A B : Int) (pat rep : ByteArray) (every : Bool) (hl : l.length ≤ big) (hw : ∀ r ∈ l, 0 ≤ r.f0 ∧ r.f0 < 18446744073709551616) (hy : 0 ≤ y ∧ y < 18446744073709551616) (hp4 : pat.size ≤ 5000) :
  Ev (fun k => subst_Do.f k s l y A B pat rep every) (doD s l y A B pat rep every) := by
 have bad : ∀ v, Ev (fun k => subst_Do.j0 k y v true s l A B pat rep every) (badD 2) := fun v => Ev.step (fun k => by simp only [subst_Do.j0]; rfl) (Ev.pos (c := true = true) rfl (Ev.now _))
 unfold subst_Do.f doD
 refine Ev.bind (view_ev s l hl y) ?_
 by_cases hg : goodT s l = true
 case neg =>
  rw [if_neg (fun q => hg q.1)]
  refine Ev.neg ?_ (bad _)
  unfold viewS
  rw [if_neg hg]
  decide
 obtain ⟨hv, hv2⟩ := view_size (y := y) hg
 refine Ev.pos hv2 ?_
 have hF : Fine s l y := ⟨hg, hl, hw, hy⟩
 have hend := ends_len_le (viewS s l y).1
 have h4 := hF.size.1
 have hcnt := count_ev (viewS s l y).1 (by omega)
 have hgo := sub_may_ev hF (viewS s l y).1 pat rep every hv hp4 A B
 generalize (viewS s l y).1 = v at *
 clear hv2
 by_cases hm : mayD v A B pat rep = true
 ·rw [if_pos ⟨hg, hm⟩]
  obtain ⟨m1, m2, m3, m4, m5, m6⟩ := mayD_iff.1 hm
  refine Ev.neg (by omega) (Ev.neg (by omega) ?_)
  rw [hcnt, has10, decide_eq_false m5, decide_eq_false (show ¬ ((rep.size : Int) > 4096) by omega)]
  refine Ev.bind (Ev.now _) (Ev.neg (by omega) (Ev.neg ?_ (Ev.bind (Ev.now _) (Ev.neg (by simp) (hgo hm)))))
  rw [toList_data]
  intro q
  have hz := (Lib.size_eq pat).trans (congrArg List.length q)
  rw [List.length_nil] at hz
  omega
 ·rw [if_neg (fun q => hm q.2)]
  refine Ev.ite' (fun _ => bad _) (fun m1 => Ev.ite' (fun _ => bad _) (fun m2 => ?_))
  rw [hcnt, has10]
  refine Ev.bind (Ev.now _) (Ev.ite' (fun _ => bad _) (fun m3 => Ev.ite' (fun _ => bad _) (fun m4 => Ev.bind (Ev.now _) (Ev.ite' (fun _ => bad _) (fun m5 => ?_)))))
  have : decide ((rep.size : Int) > 4096) = true := by
   rw [decide_eq_true_eq]
   refine Int.not_le.1 (fun q => hm (mayD_iff.2 ⟨by omega, by omega, by omega, ?_, by simpa using m5, by omega⟩))
   rcases Nat.eq_zero_or_pos pat.size with z | z
   ·refine absurd ?_ m4
    rw [toList_data]
    rw [Lib.size_eq] at z
    exact List.eq_nil_of_length_eq_zero z
   ·exact z
  rw [this]
  exact bad _
end Go.Proofs.Ytnbdldpjiofafaa.PB
end

section
namespace Go.Proofs.Ytnbdldpjiofafaa.PB
open Go.RowKit Go.Proofs.YtnbdldpjiofafaaW.PrintWords
set_option linter.unusedVariables false
set_option maxHeartbeats 1000000
theorem doD_cases (s : ByteArray) (l : List S51) (y A B : Int) (pat rep : ByteArray) (every : Bool) (v : ByteArray) (hv : v = (viewS s l y).1) :
  (∃ c : Int, c ≠ 0 ∧ doD s l y A B pat rep every = badD c) ∨
  ∃ (a b : Nat) (ps : List Nat) (fr e : Nat), A = a ∧ B = b ∧ a ≤ b ∧ b < (ends v).length ∧ goodT s l = true ∧ mayD v A B pat rep = true ∧ ps = allP (lineP v s pat l y every) a (b + 1 - a) ∧ fr = lineFrom v a ∧ e = lineTo v b ∧
   spaced pat.size fr ps e ∧ fr ≤ e ∧ e ≤ s.size ∧ 1 ≤ ps.length ∧ ¬ (s.size : Int) + (((ps.length * rep.size : Nat) : Int) - ((ps.length * pat.size : Nat) : Int)) > 4096 ∧
   doD s l y A B pat rep every = okD s l fr e (bld s rep pat.size fr ps e) (buildS (bytes l) (List.replicate rep.size y) pat.size fr ps e) (ps.length : Int) := by
 subst hv
 unfold doD
 by_cases h : goodT s l = true ∧ mayD (viewS s l y).1 A B pat rep = true
 case neg => exact .inl ⟨2, by decide, by rw [if_neg h]⟩
 rw [if_pos h]
 obtain ⟨hg, hm⟩ := h
 have hv := (view_size (y := y) hg).1
 generalize (viewS s l y).1 = v at *
 obtain ⟨h1, h2, h3, h4, h5, h6⟩ := mayD_iff.1 hm
 obtain ⟨a, rfl⟩ := Int.eq_ofNat_of_zero_le h1
 obtain ⟨b, rfl⟩ := Int.eq_ofNat_of_zero_le (show 0 ≤ B by omega)
 have hb : b < (ends v).length := by omega
 have hab : a ≤ b := by omega
 have hsp := (allP_spaced v s pat l y every h4 (b - a) a (by omega)).1
 rw [show a + (b - a) = b by omega, show b - a + 1 = b + 1 - a by omega] at hsp
 have hle := spaced_le hsp
 have hr := (line_range v b hb).2
 unfold doG
 rw [Int.toNat_natCast, Int.toNat_natCast]
 generalize hps : allP (lineP v s pat l y every) a (b + 1 - a) = ps at *
 unfold tailD
 by_cases h0 : ps.length = 0
 ·exact .inl ⟨6, by decide, by rw [if_pos h0]⟩
 rw [if_neg h0]
 by_cases hc : (s.size : Int) + (((ps.length * rep.size : Nat) : Int) - ((ps.length * pat.size : Nat) : Int)) > 4096
 ·exact .inl ⟨3, by decide, by rw [if_pos hc]⟩
 rw [if_neg hc]
 exact .inr ⟨a, b, ps, lineFrom v a, lineTo v b, rfl, rfl, hab, hb, hg, hm, hps.symm, rfl, rfl, hsp, hle, by omega, by omega, hc, rfl⟩
theorem bld_lab (s rep : ByteArray) (l : List S51) (y : Int) (m fr e : Nat) (ps : List Nat) (hs : spaced m fr ps e) (he : e ≤ s.size) (hL : (bytes l).length = s.size) :
  (buildS (bytes l) (List.replicate rep.size y) m fr ps e).length = (bld s rep m fr ps e).size := by
 have h1 := build_len s.data.toList rep.data.toList m ps fr e (by rw [← Lib.size_eq]; exact he) hs
 have h2 := build_len (bytes l) (List.replicate rep.size y) m ps fr e (by omega) hs
 rw [← bld_size, ← Lib.size_eq] at h1
 rw [List.length_replicate] at h2
 generalize ps.length * rep.size = x at *
 generalize ps.length * m = z at *
 omega
section
variable {s : ByteArray} {l : List S51} {y : Int}
end
end Go.Proofs.Ytnbdldpjiofafaa.PB
end

section
namespace Go.Proofs.Ytnbdldpjiofafaa.PB
open Go.RowKit Go.Proofs.YtnbdldpjiofafaaW.PrintWords
set_option linter.unusedVariables false
set_option maxHeartbeats 1000000
theorem take_snoc (L : List Int) (n : Nat) (h : n < L.length) : L.take n ++ [rd L (n : Int)] = L.take (n + 1) := by
 rw [rdN', List.take_add_one, List.getElem?_eq_getElem h, List.getD_eq_getElem?_getD, List.getElem?_eq_getElem h]
 rfl
theorem drop_snoc (L : List Int) (j n : Nat) (h : n < L.length) (hj : j ≤ n) : (L.take n).drop j ++ [rd L (n : Int)] = (L.take (n + 1)).drop j := by
 rw [← take_snoc L n h, List.drop_append_of_le_length (by rw [List.length_take]; omega)]
theorem put_ev (X : ByteArray) (C R : List Int) (rep : ByteArray) (i j : Nat) (hC : C.length = X.size) (hij : i ≤ j) (hj : j ≤ X.size) (hX : X.size ≤ 1000000000) (hR : R.length ≤ 1000000000) (hr : rep.size ≤ 1000000000) :
  Ev (fun k => bureauref15_put.f k X (pack C) (i : Int) (j : Int) rep (pack R)) (X.extract 0 i ++ rep ++ X.extract j X.size, pack (C.take i ++ R ++ C.drop j)) := by
 have hb1 : (bytes (pack C)) = C := pack_bytes C
 have hb2 : (bytes (pack R)) = R := pack_bytes R
 have hpC : (pack C).length ≤ big := by have := pack_len C; unfold big; omega
 have hpR : (pack R).length ≤ big := by have := pack_len R; unfold big; omega
 have e1 := bytes_ev (pack C) hpC (by rw [hb1]; omega)
 have e2 := bytes_ev (pack R) hpR (by rw [hb2]; omega)
 rw [hb1] at e1
 rw [hb2] at e2
 have e3 := pack_ev (C.take i ++ R ++ C.drop j) (by rw [List.length_append, List.length_append, List.length_take, List.length_drop]; omega)
 have s1 : (X.extract 0 i).size = i := by rw [ByteArray.size_extract]; omega
 have s2 : (X.extract j X.size).size = X.size - j := by rw [ByteArray.size_extract]; omega
 have fin : ∀ (d n : Nat), n + d = C.length → j ≤ n → Ev (fun k => bureauref15_put.l2 k (i : Int) (j : Int) C (C.take i ++ R ++ (C.take n).drop j) (n : Int) X (pack C) rep (pack R)) (X.extract 0 i ++ rep ++ X.extract j X.size, pack (C.take i ++ R ++ C.drop j)) := by
  intro d
  induction d with
  | zero =>
   intro n hn hjn
   refine Ev.step (fun k => by simp only [bureauref15_put.l2]; rfl) (Ev.neg (by omega) ?_)
   rw [List.take_of_length_le (show C.length ≤ n by omega), Int.toNat_natCast, Int.toNat_natCast]
   refine Ev.pos (by omega) (Ev.pos (by omega) (Ev.pos (by rw [s1]; omega) (Ev.pos (by omega) (Ev.pos (by omega) (Ev.pos (by rw [ByteArray.size_append, s1, s2]; omega) (Ev.bind e3 (Ev.now _)))))))
  | succ d ih =>
   intro n hn hjn
   refine Ev.step (fun k => by simp only [bureauref15_put.l2]; rfl) (Ev.pos (by omega) (Ev.pos (by omega) (Ev.pos ?_ ?_)))
   ·rw [List.length_append, List.length_append, List.length_take, List.length_drop, List.length_take]; omega
   ·rw [wadd1 n (by omega), List.append_assoc, drop_snoc C j n (by omega) hjn]
    exact ih (n + 1) (by omega) (by omega)
 have mid : ∀ (d n : Nat), n + d = R.length → Ev (fun k => bureauref15_put.l1 k (i : Int) (j : Int) C R (C.take i ++ R.take n) (n : Int) X (pack C) rep (pack R)) (X.extract 0 i ++ rep ++ X.extract j X.size, pack (C.take i ++ R ++ C.drop j)) := by
  intro d
  induction d with
  | zero =>
   intro n hn
   refine Ev.step (fun k => by simp only [bureauref15_put.l1]; rfl) (Ev.neg (by omega) ?_)
   rw [List.take_of_length_le (show R.length ≤ n by omega)]
   have := fin (C.length - j) j (by omega) (Nat.le_refl _)
   rw [List.drop_eq_nil_of_le (show (C.take j).length ≤ j by rw [List.length_take]; omega), List.append_nil] at this
   exact this
  | succ d ih =>
   intro n hn
   refine Ev.step (fun k => by simp only [bureauref15_put.l1]; rfl) (Ev.pos (by omega) (Ev.pos (by omega) (Ev.pos ?_ ?_)))
   ·rw [List.length_append, List.length_take, List.length_take]; omega
   ·rw [wadd1 n (by omega), List.append_assoc, take_snoc R n (by omega)]
    exact ih (n + 1) (by omega)
 have ahead : ∀ (d n : Nat), n + d = i → Ev (fun k => bureauref15_put.l0 k (i : Int) (j : Int) C R (C.take n) (n : Int) X (pack C) rep (pack R)) (X.extract 0 i ++ rep ++ X.extract j X.size, pack (C.take i ++ R ++ C.drop j)) := by
  intro d
  induction d with
  | zero =>
   intro n hn
   have : n = i := by omega
   subst this
   refine Ev.step (fun k => by simp only [bureauref15_put.l0]; rfl) (Ev.neg (by omega) ?_)
   have := mid R.length 0 (by omega)
   rw [List.take_zero, List.append_nil] at this
   exact this
  | succ d ih =>
   intro n hn
   refine Ev.step (fun k => by simp only [bureauref15_put.l0]; rfl) (Ev.pos (by omega) (Ev.pos (by omega) (Ev.pos (by omega) (Ev.pos ?_ ?_))))
   ·rw [List.length_take]; omega
   ·rw [wadd1 n (by omega), take_snoc C n (by omega)]
    exact ih (n + 1) (by omega)
 unfold bureauref15_put.f
 exact Ev.bind e1 (Ev.bind e2 (ahead i 0 (by omega)))
def bk {α : Type} (w r : List α) (m fr e : Nat) (ps : List Nat) (i : Nat) : List α := (ps.drop i).foldr (putS r m fr) ((w.take e).drop fr)
theorem bk_step {α : Type} (w r : List α) (m fr e : Nat) (ps : List Nat) (i p : Nat) (qs : List Nat) (h : ps.drop i = p :: qs) : bk w r m fr e ps i = putS r m fr p (bk w r m fr e ps (i + 1)) := by
 unfold bk
 rw [h, List.foldr_cons, ← List.drop_drop, h]
 rfl
theorem put_lens {α β : Type} {r : List α} {r' : List β} {x : List α} {x' : List β} (m s p : Nat) (hr : r.length = r'.length) (hx : x.length = x'.length) : (putS r m s p x).length = (putS r' m s p x').length := by
 unfold putS
 simp only [List.length_append, List.length_take, List.length_drop, hr, hx]
theorem bk_lens {α β : Type} {w r : List α} {w' r' : List β} (m fr e : Nat) (hr : r.length = r'.length) (hw : w.length = w'.length) : ∀ qs : List Nat, (qs.foldr (putS r m fr) ((w.take e).drop fr)).length = (qs.foldr (putS r' m fr) ((w'.take e).drop fr)).length
 | [] => by simp only [List.foldr_nil, List.length_drop, List.length_take, hw]
 | q :: qs => by rw [List.foldr_cons, List.foldr_cons]; exact put_lens m fr q hr (bk_lens m fr e hr hw qs)
theorem spaced_drop {m : Nat} : ∀ (ps : List Nat) (a e i p : Nat) (qs : List Nat), spaced m a ps e → ps.drop i = p :: qs → a ≤ p ∧ spaced m (p + m) qs e
 | [], _, _, i, _, _, _, h => by rw [List.drop_nil] at h; cases h
 | q :: ps, a, e, 0, p, qs, hs, h => by injection h with h1 h2; subst h1; subst h2; exact hs
 | q :: ps, a, e, i + 1, p, qs, hs, h => by
  obtain ⟨h1, h2⟩ := spaced_drop ps (q + m) e i p qs hs.2 h
  have := hs.1
  exact ⟨by omega, h2⟩
theorem bk_size (w r : List UInt8) (m fr e : Nat) (ps : List Nat) (i p : Nat) (qs : List Nat) (he : e ≤ w.length) (hs : spaced m fr ps e) (h : ps.drop i = p :: qs) : (bk w r m fr e ps (i + 1)).length + qs.length * m = (p + m - fr) + (e - (p + m) + qs.length * r.length) ∧ fr ≤ p ∧ p + m ≤ e := by
 obtain ⟨h1, h2⟩ := spaced_drop ps fr e i p qs hs h
 have hle := spaced_le h2
 have e1 : ps.drop (i + 1) = qs := by rw [← List.drop_drop, h]; rfl
 have hb := build_len w r m qs (p + m) e he h2
 unfold bk
 rw [e1, put_build w r m fr e he qs (p + m) (by omega) h2, List.length_append, List.length_drop, List.length_take]
 generalize qs.length * m = x at *
 generalize qs.length * r.length = z at *
 omega
end Go.Proofs.Ytnbdldpjiofafaa.PB
end

section
namespace Go.Proofs.Ytnbdldpjiofafaa.PB
open Go.RowKit Go.Proofs.YtnbdldpjiofafaaW.PrintWords
set_option linter.unusedVariables false
set_option maxHeartbeats 1000000
theorem alive15 : bureaulaw15_alive.f 80 = some true := by decide +kernel
theorem alive15_ev : Ev (fun k => bureaulaw15_alive.f k) true := Ev.of (bureaulaw15_alive.mono) alive15
def fitD (s : ByteArray) (l : List S51) (pat rep : ByteArray) : Prop := s.size ≤ 1024 ∧ l.length ≤ 5000 ∧ pat.size ≤ 5000 ∧ rep.size ≤ 5000
instance (s : ByteArray) (l : List S51) (pat rep : ByteArray) : Decidable (fitD s l pat rep) := inferInstanceAs (Decidable (_ ∧ _))
theorem fits15_eq (s : ByteArray) (l : List S51) (A B : Int) (pat rep : ByteArray) (every : Bool) : bureaulaw15_fits.f s l A B pat rep every = some (decide (fitD s l pat rep)) := by
 unfold bureaulaw15_fits.f bureaulaw14_Fits.f
 by_cases h1 : s.size ≤ 1024
 ·rw [if_pos (by omega), Option.bind_some]
  by_cases h2 : l.length ≤ 5000
  ·rw [if_pos (by rw [decide_eq_true_eq]; omega)]
   by_cases h3 : pat.size ≤ 5000
   ·rw [if_pos (by omega)]
    congr 1
    rw [decide_eq_decide]
    unfold fitD
    omega
   ·rw [if_neg (by omega)]
    congr 1
    symm
    rw [decide_eq_false_iff_not]
    exact fun q => h3 q.2.2.1
  ·rw [if_neg (by rw [decide_eq_true_eq]; omega)]
   congr 1
   symm
   rw [decide_eq_false_iff_not]
   exact fun q => h2 q.2.1
 ·rw [if_neg (by omega), Option.bind_some, if_neg (by decide)]
  congr 1
  symm
  rw [decide_eq_false_iff_not]
  exact fun q => h1 q.1
theorem fitBig {s : ByteArray} {l : List S51} {pat rep : ByteArray} (h : fitD s l pat rep) : l.length ≤ big := by have := h.2.1; unfold big; omega
end Go.Proofs.Ytnbdldpjiofafaa.PB
end

section
namespace Go.Proofs.Ytnbdldpjiofafaa.PB
open Go.RowKit Go.Proofs.YtnbdldpjiofafaaW.PrintWords
set_option linter.unusedVariables false
set_option maxHeartbeats 1000000
theorem wsub (a b : Nat) (hb : b ≤ a) (h : a ≤ 1000000000000000) : wrap64 ((a : Int) - (b : Int)) = ((a - b : Nat) : Int) := by unfold wrap64; omega
theorem wdec (i : Nat) (h : i ≤ 1000000000000000) : wrap64 ((i : Int) - 1) = (i : Int) - 1 := by unfold wrap64; omega
def bkT (s rep : ByteArray) (m fr e : Nat) (ps : List Nat) (i : Nat) : ByteArray := ⟨(bk s.data.toList rep.data.toList m fr e ps i).toArray⟩
theorem bkT_list (s rep : ByteArray) (m fr e : Nat) (ps : List Nat) (i : Nat) : (bkT s rep m fr e ps i).data.toList = bk s.data.toList rep.data.toList m fr e ps i := by unfold bkT; rfl
theorem bk_zero {α : Type} (w r : List α) (m fr e : Nat) (ps : List Nat) (he : e ≤ w.length) (hs : spaced m fr ps e) : bk w r m fr e ps 0 = buildS w r m fr ps e := by
 unfold bk
 rw [List.drop_zero, put_build w r m fr e he ps fr (Nat.le_refl _) hs, List.drop_eq_nil_of_le (by rw [List.length_take]; omega), List.nil_append]
theorem back_ev {s : ByteArray} {l : List S51} {y : Int} (h : Fine s l y) (A B : Int) (pat rep : ByteArray) (every : Bool) (fr e : Nat) (ps : List Nat) (hp4 : pat.size ≤ 5000) (hr4 : rep.size ≤ 4096) (hfe : fr ≤ e) (he : e ≤ s.size) (hn : ps.length ≤ 5000) (hsp : spaced pat.size fr ps e)
  (hroom : (bld s rep pat.size fr ps e).size ≤ 4096) (hz : (s.size : Int) - ((e : Int) - (fr : Int)) + ((bld s rep pat.size fr ps e).size : Int) ≤ 4096) :
  ∀ i : Nat, i ≤ ps.length → Ev (fun k => bureauref15_Do.l0 k (ints ps) (fr : Int) (e : Int) ((i : Int) - 1) s l A B pat rep every rep (pack (List.replicate rep.size y)) (bkT s rep pat.size fr e ps i) (pack (bk (bytes l) (List.replicate rep.size y) pat.size fr e ps i)))
   (okD s l fr e (bld s rep pat.size fr ps e) (buildS (bytes l) (List.replicate rep.size y) pat.size fr ps e) (ps.length : Int)) := by
 have h4 := h.size.1
 have hL := h.size.2
 have hil : (ints ps).length = ps.length := List.length_map _
 have hlab := bld_lab s rep l y pat.size fr e ps hsp he hL
 intro i
 induction i with
 | zero =>
  intro _
  have eT : bkT s rep pat.size fr e ps 0 = bld s rep pat.size fr ps e := data_inj (by rw [bkT_list, bld_list, bk_zero _ _ _ _ _ _ (by rw [← Lib.size_eq]; exact he) hsp])
  rw [eT, bk_zero _ _ _ _ _ _ (by omega) hsp]
  refine Ev.step (fun k => by simp only [bureauref15_Do.l0]; rfl) (Ev.neg (by omega) ?_)
  refine Ev.bind (ev_val (rof_ev s l h.len _ _ _ _ (packBig hlab (by omega))) (of_ok h fr e _ _ hfe he hlab hroom hz)) (Ev.pos rfl (ev_val (Ev.now _) ?_))
  rw [hil]
  rfl
 | succ i ih =>
  intro hi
  have hdr := List.drop_eq_getElem_cons (show i < ps.length by omega)
  have hrd : rd (ints ps) (i : Int) = ((ps[i]'(by omega) : Nat) : Int) := by
   rw [rd_map, List.getD_eq_getElem?_getD, List.getElem?_eq_getElem (show i < ps.length by omega)]
   rfl
  generalize ps[i]'(by omega) = p at *
  obtain ⟨b1, b2, b3⟩ := bk_size s.data.toList rep.data.toList pat.size fr e ps i p (ps.drop (i + 1)) (by rw [← Lib.size_eq]; exact he) hsp hdr
  have hXs : (bkT s rep pat.size fr e ps (i + 1)).size = (bk s.data.toList rep.data.toList pat.size fr e ps (i + 1)).length := by rw [Lib.size_eq, bkT_list]
  have hCs : (bk (bytes l) (List.replicate rep.size y) pat.size fr e ps (i + 1)).length = (bkT s rep pat.size fr e ps (i + 1)).size := by
   rw [hXs]
   exact bk_lens pat.size fr e (by rw [List.length_replicate, Lib.size_eq]) (by rw [hL, Lib.size_eq]) _
  have hpos : p + pat.size - fr ≤ (bkT s rep pat.size fr e ps (i + 1)).size ∧ (bkT s rep pat.size fr e ps (i + 1)).size ≤ 1000000000 := by
   have q1 : (ps.drop (i + 1)).length * rep.data.toList.length ≤ 5000 * 4096 := Nat.mul_le_mul (by rw [List.length_drop]; omega) (by rw [← Lib.size_eq]; exact hr4)
   have q2 : (ps.drop (i + 1)).length * pat.size ≤ e - (p + pat.size) := by
    have hs2 := (spaced_drop ps fr e i p _ hsp hdr).2
    by_cases hp : 1 ≤ pat.size
    ·have := spaced_len hp hs2
     omega
    ·rw [show pat.size = 0 by omega, Nat.mul_zero]; omega
   rw [hXs]
   generalize (ps.drop (i + 1)).length * rep.data.toList.length = x at *
   generalize (ps.drop (i + 1)).length * pat.size = z at *
   omega
  have hpe : p ≤ 4096 := by omega
  refine Ev.step (fun k => by simp only [bureauref15_Do.l0]; rfl) ?_
  rw [show ((i + 1 : Nat) : Int) - 1 = (i : Int) by omega, hrd, hil]
  refine Ev.pos (by omega) (Ev.pos (by omega) (Ev.pos (by omega) ?_))
  rw [wsub p fr b2 (by omega), wadd (p - fr) pat.size (by omega), wdec i (by omega)]
  have hput := put_ev (bkT s rep pat.size fr e ps (i + 1)) (bk (bytes l) (List.replicate rep.size y) pat.size fr e ps (i + 1)) (List.replicate rep.size y) rep (p - fr) (p - fr + pat.size) hCs (by omega) (by omega) hpos.2 (by rw [List.length_replicate]; omega) (by omega)
  have eT : (bkT s rep pat.size fr e ps (i + 1)).extract 0 (p - fr) ++ rep ++ (bkT s rep pat.size fr e ps (i + 1)).extract (p - fr + pat.size) (bkT s rep pat.size fr e ps (i + 1)).size = bkT s rep pat.size fr e ps i := by
   refine data_inj ?_
   rw [app_list, app_list, ext_list, extract_rest, bkT_list, bkT_list, List.drop_zero, bk_step _ _ _ _ _ _ _ _ _ hdr]
   rfl
  have eL : (bk (bytes l) (List.replicate rep.size y) pat.size fr e ps (i + 1)).take (p - fr) ++ List.replicate rep.size y ++ (bk (bytes l) (List.replicate rep.size y) pat.size fr e ps (i + 1)).drop (p - fr + pat.size) = bk (bytes l) (List.replicate rep.size y) pat.size fr e ps i := by
   rw [bk_step (bytes l) (List.replicate rep.size y) pat.size fr e ps i p _ hdr]
   rfl
  rw [eT, eL] at hput
  exact Ev.bind hput (ih (by omega))
theorem rmay_ev (v pat rep : ByteArray) (A B : Int) (every : Bool) (hv : v.size ≤ 100000) (hp : pat.size ≤ 100000) : Ev (fun k => bureauref15_may.f k v A B pat rep every) (mayD v A B pat rep) := by
 unfold bureauref15_may.f
 have no : ¬ (0 ≤ A ∧ A ≤ B ∧ B < ((ends v).length : Int) ∧ 1 ≤ pat.size ∧ ¬ (10 : UInt8) ∈ pat.data.toList ∧ rep.size ≤ 4096) → false = mayD v A B pat rep := fun q => by
  symm; rw [← Bool.not_eq_true]; exact fun w => q (mayD_iff.1 w)
 by_cases c1 : A < 0
 ·exact Ev.pos c1 (ev_val (Ev.now _) (no (by omega)))
 by_cases c2 : B < A
 ·exact Ev.neg c1 (Ev.pos c2 (ev_val (Ev.now _) (no (by omega))))
 refine Ev.neg c1 (Ev.neg c2 (Ev.bind (rcount_ev v hv) ?_))
 by_cases c3 : B ≥ ((ends v).length : Int)
 ·exact Ev.pos c3 (ev_val (Ev.now _) (no (by omega)))
 by_cases c4 : (pat.size : Int) = 0
 ·exact Ev.neg c3 (Ev.pos c4 (ev_val (Ev.now _) (no (by omega))))
 by_cases c5 : (rep.size : Int) > 4096
 ·exact Ev.neg c3 (Ev.neg c4 (Ev.pos c5 (ev_val (Ev.now _) (no (by omega)))))
 refine Ev.neg c3 (Ev.neg c4 (Ev.neg c5 (Ev.bind (rcount_ev pat hp) (ev_val (Ev.now _) ?_))))
 rw [none10]
 unfold mayD
 rw [decide_eq_true (show 0 ≤ A by omega), decide_eq_true (show A ≤ B by omega), decide_eq_true (show B < ((ends v).length : Int) by omega), decide_eq_true (show 1 ≤ pat.size by omega), decide_eq_true (show rep.size ≤ 4096 by omega)]
 simp
theorem rmay_do {s : ByteArray} {l : List S51} {y : Int} (h : Fine s l y) (v pat rep : ByteArray) (every : Bool) (hv : v.size = s.size) (hp4 : pat.size ≤ 5000) (A B : Int) (hm : mayD v A B pat rep = true) :
  Ev (fun k => bureauref15_Do.j0 k y v false s l A B pat rep every) (doG s l y v A.toNat B.toNat pat rep every) := by
 obtain ⟨h1, h2, h3, h4, h5, h6⟩ := mayD_iff.1 hm
 obtain ⟨a, rfl⟩ := Int.eq_ofNat_of_zero_le h1
 obtain ⟨b, rfl⟩ := Int.eq_ofNat_of_zero_le (show 0 ≤ B by omega)
 have hs4 := h.size.1
 have hb : b < (ends v).length := by omega
 have hab : a ≤ b := by omega
 have hsp := (allP_spaced v s pat l y every h4 (b - a) a (by omega)).1
 rw [show a + (b - a) = b by omega, show b - a + 1 = b + 1 - a by omega] at hsp
 have hpl := rplaces_ev h v pat rep every hv h4 hp4 a b hab hb
 have hle := spaced_le hsp
 have hz := spaced_len h4 hsp
 have hr := (line_range v b hb).2
 have hbA := rbounds_ev v (by omega) a (by omega)
 have hbB := rbounds_ev v (by omega) b hb
 have hmk : makeS rep y = (rep, pack (List.replicate rep.size y), 0) := by unfold makeS; rw [if_neg (by omega)]
 refine Ev.step (fun k => by simp only [bureauref15_Do.j0]; rfl) (Ev.neg (by simp) (Ev.bind hpl ?_))
 unfold doG
 rw [Int.toNat_natCast, Int.toNat_natCast]
 generalize allP (lineP v s pat l y every) a (b + 1 - a) = ps at *
 have hz2 := Nat.le_mul_of_pos_right ps.length h4
 have hil : (ints ps).length = ps.length := List.length_map _
 have hn5 : ps.length ≤ 5000 := by omega
 have hbl := fun hc => bld_room s rep pat.size (lineFrom v a) (lineTo v b) ps hsp (by omega) hs4 hc
 rw [hil, wcount ps.length rep.size pat.size s.size hn5 (by omega) hp4 (by omega)]
 unfold tailD
 by_cases h0 : ps.length = 0
 ·rw [if_pos h0]
  exact Ev.pos (by omega) (Ev.now _)
 rw [if_neg h0]
 refine Ev.neg (by omega) ?_
 by_cases hc : (s.size : Int) + (((ps.length * rep.size : Nat) : Int) - ((ps.length * pat.size : Nat) : Int)) > 4096
 ·rw [if_pos hc]
  exact Ev.pos hc (Ev.now _)
 rw [if_neg hc]
 have hq := hbl hc
 have hcut := ev_val (rcut_ev s l h.len (lineFrom v a : Int) (lineTo v b : Int)) (cut_ok h (lineFrom v a) (lineTo v b) hle (by omega))
 have hbk := back_ev h (a : Int) (b : Int) pat rep every (lineFrom v a) (lineTo v b) ps hp4 h6 hle (by omega) hn5 hsp hq.1 (Int.le_trans (Int.le_of_eq hq.2) (Int.not_lt.1 hc)) ps.length (Nat.le_refl _)
 have e1 : bkT s rep pat.size (lineFrom v a) (lineTo v b) ps ps.length = s.extract (lineFrom v a) (lineTo v b) := data_inj (by rw [bkT_list, ext_list]; unfold bk; rw [List.drop_eq_nil_of_le (Nat.le_refl _)]; rfl)
 have e2 : bk (bytes l) (List.replicate rep.size y) pat.size (lineFrom v a) (lineTo v b) ps ps.length = ((bytes l).take (lineTo v b)).drop (lineFrom v a) := by unfold bk; rw [List.drop_eq_nil_of_le (Nat.le_refl _)]; rfl
 rw [e1, e2] at hbk
 refine Ev.neg hc (Ev.bind hbA (Ev.bind hbB (Ev.bind (ev_val (rmake_ev rep y) hmk) (Ev.bind hcut ?_))))
 rw [wdec ps.length (by omega)]
 exact hbk
theorem rdo_ev (s : ByteArray) (l : List S51) (y A B : Int) (pat rep : ByteArray) (every : Bool) (hl : l.length ≤ big) (hw : ∀ r ∈ l, 0 ≤ r.f0 ∧ r.f0 < 18446744073709551616) (hy : 0 ≤ y ∧ y < 18446744073709551616) (hp4 : pat.size ≤ 5000) :
  Ev (fun k => bureauref15_Do.f k s l y A B pat rep every) (doD s l y A B pat rep every) := by
 have bad : ∀ v, Ev (fun k => bureauref15_Do.j0 k y v true s l A B pat rep every) (badD 2) := fun v => Ev.step (fun k => by simp only [bureauref15_Do.j0]; rfl) (Ev.pos (c := true = true) rfl (Ev.now _))
 unfold bureauref15_Do.f doD
 refine Ev.bind (rview_ev s l hl y hw hy) ?_
 by_cases hg : goodT s l = true
 case neg =>
  rw [if_neg (fun q => hg q.1)]
  refine Ev.neg ?_ (bad _)
  unfold viewS
  rw [if_neg hg]
  decide
 obtain ⟨hv, hv2⟩ := view_size (y := y) hg
 refine Ev.pos hv2 ?_
 have hF : Fine s l y := ⟨hg, hl, hw, hy⟩
 have h4 := hF.size.1
 have hgo := rmay_do hF (viewS s l y).1 pat rep every hv hp4 A B
 generalize (viewS s l y).1 = v at *
 refine Ev.bind (rmay_ev v pat rep A B every (by omega) (by omega)) ?_
 by_cases hm : mayD v A B pat rep = true
 ·rw [if_pos ⟨hg, hm⟩, hm]
  exact hgo hm
 ·rw [if_neg (fun q => hm q.2), show mayD v A B pat rep = false by simpa using hm]
  exact bad v
theorem doD_lens (s : ByteArray) (l : List S51) (y A B : Int) (pat rep : ByteArray) (every : Bool) : (doD s l y A B pat rep every).2.2.1.length ≤ big ∧ (doD s l y A B pat rep every).2.2.2.2.1.length ≤ big := by
 rcases doD_cases s l y A B pat rep every _ rfl with ⟨c, hc, e⟩ | ⟨a, b, ps, fr, e, rfl, rfl, hab, hb, hg, hm, hps, hfr, he, hsp, hfe, hes, h1, hn, ed⟩
 ·rw [e]; exact ⟨by simp [badD, big], by simp [badD, big]⟩
 ·rw [ed]
  obtain ⟨g1, g2, g3, g4, g5⟩ := goodT_facts hg
  have hr := (bld_room s rep pat.size fr e ps hsp hes g4 hn).1
  exact ⟨packBig (n := e - fr) (by rw [List.length_drop, List.length_take]; omega) (by omega), packBig (bld_lab s rep l y pat.size fr e ps hsp hes g3) (by omega)⟩
theorem SubstDoes_pure (t : S24) (y : Int) (j : S28) (wt : wf24 t) (wy : (Lit.int .u64 y).wf = true) (wj : wf28 j) : ∃ k, bureaulaw15_SubstDoes.f k t.f0 t.f1 y j.f0 j.f1 j.f2 j.f3 j.f4 = some true := by
 refine Ev.rounds (g := fun k => bureaulaw15_SubstDoes.f k t.f0 t.f1 y j.f0 j.f1 j.f2 j.f3 j.f4) ?_
 have hw := wfT wt
 have hy := wf_u64 wy
 generalize t.f0 = s at *
 generalize t.f1 = l at *
 generalize j.f0 = A at *
 generalize j.f1 = B at *
 generalize j.f2 = pat at *
 generalize j.f3 = rep at *
 generalize j.f4 = every at *
 clear wt wy wj
 unfold bureaulaw15_SubstDoes.f bureaulaw15_ours.f
 refine Ev.bind alive15_ev (Ev.pos rfl ?_)
 rw [fits15_eq]
 refine Ev.bind (Ev.now _) (Ev.ite' (fun hf => ?_) (fun _ => Ev.now _))
 have hf := of_decide_eq_true hf
 have hl := fitBig hf
 obtain ⟨l1, l2⟩ := doD_lens s l y A B pat rep every
 exact Ev.bind (do_ev s l y A B pat rep every hl hw hy hf.2.2.1) (Ev.bind (Ev.now _) (Ev.bind (rdo_ev s l y A B pat rep every hl hw hy hf.2.2.1) (Ev.bind (rsame7_self _ _ _ _ _ l1 l2) (Ev.pos rfl (Ev.pos rfl (ev_val (Ev.now _) (beq_self_eq_true _)))))))
end Go.Proofs.Ytnbdldpjiofafaa.PB
end

section
namespace Go.Proofs.Ytnbdldpjiofafaa.PB
open Go.ChangeShapes Go.WideShapes Go.ChangeAt Go.RowKit Go.Proofs.YtnbdldpjiofafaaW.PrintWords
open Go.ChangeMaps (open_string shut_string)
set_option linter.unusedVariables false
namespace substDoes
open Go.Proofs.Ytnbdldpjiofafaa
theorem own : ownKnob Try.prog.godebug = none := by kernel_rfl
theorem laidOut : laidOutB Try.prog = true := by kernel_rfl
set_option maxRecDepth 100000 in
theorem lifted (os : Os) (started : os.Started) (H : Type) (enc : TypeId × Value → H) :
    ReturnsInHanded {} Try.checked os 3 .any (Rows.substDoesSpec.pre6 enc Try.prog Try.f3 Rows.substDoesRow.domain false) (Rows.substDoesSpec.post enc Try.prog Try.f3 false true false false) := by
  refine returnsInHanded_of_change_shaped (C := Try.checked) own started (by kernel_rfl) Try.func3
    (ChangeSpec.witness6 (enc := enc) (C := Try.checked) false ⟨#[], #[.agg #[.string ByteArray.empty, .slice none 0 0], .int .u64 0, .agg #[.int .i64 0, .int .i64 0, .string ByteArray.empty, .string ByteArray.empty, .bool false]], []⟩ 8 (by kernel_rfl) (by kernel_rfl) (by kernel_rfl) (by kernel_rfl)) ?_
  intro W base args ds gs before hval0 hW hcnd hsz0 hsh _
  have hsz : (DataW.weightsEach Try.prog (Try.f3.params.toList ++ Rows.substDoesSpec.plain.varTypes Try.prog) (ds ++ gs)).all (· ≤ reachBytes) = true := hsz0
  have hval : ∀ (j : Nat) t v, Try.f3.params[j]? = some t → args[j]? = some v → Value.okWide Try.prog W .any base t v := hval0
  have hW' := hW
  obtain ⟨p, q, hA0, hV, rfl, hfz, hnd⟩ := hW
  have hA : DataW.TrodAll enc Try.prog W 0 (fun _ => true) true Try.f3.params.toList args.toList ds p := hA0
  rw [Try.params3] at hA hval hsz
  obtain ⟨v0, vs0, d0, ds0, p0, q0, hargs, rfl, rfl, h0, r0⟩ := trodAll_cons hA
  obtain ⟨v1, vs1, d1, ds1, p1, q1, rfl, rfl, rfl, h1, r1⟩ := trodAll_cons r0
  obtain ⟨v2, vs2, d2, ds2, p2, q2, rfl, rfl, rfl, h2, r2⟩ := trodAll_cons r1
  obtain ⟨rfl, rfl, rfl⟩ := trodAll_nil r2
  obtain rfl : args = #[v0, v1, v2] := by cases args; simp_all
  obtain ⟨rfl, rfl⟩ := trodVars_none hV
  have hz0 : ∀ n ∈ d0.weights Try.prog 24, n ≤ reachBytes := fun n hn => by have z := List.all_eq_true.1 hsz n (DataW.weights_mem_each (j := 0) rfl rfl n hn); simpa using z
  have kk0 := h0
  have lt0 : ∀ x ∈ p0, x.block < W.heap.size := by obtain ⟨m, hm⟩ := kk0; exact DataW.trod_lt m _ _ _ hm
  obtain ⟨cs0, rfl, cz0⟩ := okWide_struct Try.underlying24 (hval 0 24 v0 rfl rfl)
  obtain ⟨x0, hK0, w0⟩ : ∃ x : S24, k24.K W x cs0.toList ∧ wf24 x := by
    obtain ⟨fuel, hf⟩ := h0
    exact opn24 H enc _ _ _ fuel _ _ hf hz0
  obtain ⟨A0_1, c0_1, hcs0, hc0_1, hr0_1⟩ := k24_open hK0
  obtain rfl : cs0 = #[.string x0.f0, .slice A0_1 x0.f1.length c0_1] := Array.toList_inj.1 hcs0
  obtain ⟨a1, rfl, rfl, rfl, w1⟩ := open_int Try.underlying26 (hval 1 26 v1 rfl rfl) h1
  have hz2 : ∀ n ∈ d2.weights Try.prog 28, n ≤ reachBytes := fun n hn => by have z := List.all_eq_true.1 hsz n (DataW.weights_mem_each (j := 2) rfl rfl n hn); simpa using z
  have kk2 := h2
  have lt2 : ∀ x ∈ p2, x.block < W.heap.size := by obtain ⟨m, hm⟩ := kk2; exact DataW.trod_lt m _ _ _ hm
  obtain ⟨cs2, rfl, cz2⟩ := okWide_struct Try.underlying28 (hval 2 28 v2 rfl rfl)
  obtain ⟨x2, hK2, w2⟩ : ∃ x : S28, k28.K W x cs2.toList ∧ wf28 x := by
    obtain ⟨fuel, hf⟩ := h2
    exact opn28 H enc _ _ _ fuel _ _ hf hz2
  obtain hcs2 := k28_open hK2
  obtain rfl : cs2 = #[.int .i64 x2.f0, .int .i64 x2.f1, .string x2.f2, .string x2.f3, .bool x2.f4] := Array.toList_inj.1 hcs2
  clear hA0 hval0 hsz0 hsz
  obtain ⟨k, hk⟩ := SubstDoes_pure x0 a1 x2 w0 w1 w2
  refine (bureaulaw15_SubstDoes.calls k x0.f0 _ _ x0.f1 a1 x2.f0 x2.f1 x2.f2 x2.f3 x2.f4 true W (Try.laysM143.s1_3 W hsh) hr0_1 hc0_1 hk).mono fun e W' ⟨he, bel⟩ => ?_
  subst he
  exact ⟨_, rfl, _, _, _, [], _, [], hW', trodAll_mk1 (shut_bool Try.underlying4 _), (trodAll_cons_mk (Below.trod laidOut (by kernel_rfl) (of_decide_eq_true (by kernel_rfl)) kk0 bel lt0) (trodAll_cons_mk (shut_int Try.underlying26 w1) (trodAll_cons_mk (Below.trod laidOut (by kernel_rfl) (of_decide_eq_true (by kernel_rfl)) kk2 bel lt2) trodAll_mk0))), rfl, bel.frame _, fun h => by cases h⟩
theorem over : Rows.substDoesRow.holds Try.pinned (OpenSpec.ofChange Rows.substDoesSpec) :=
  OpenClaim.holds_of_wide 3 Try.f3 rfl rfl rfl rfl rfl rfl rfl ⟨rfl, rfl, rfl, rfl, rfl⟩ rfl rfl rfl rfl rfl (by kernel_rfl) Try.func3 (by kernel_rfl)
    (of_decide_eq_true (by kernel_rfl)) (by unfold Func.isWrapper; first | (rw [if_pos (by decide +kernel)]; kernel_rfl) | (rw [if_neg (by decide +kernel)]; exact ⟨rfl, rfl⟩))
    (fun os started H enc _ => lifted os started H enc)
theorem proved : Rows.SubstDoesSaid := over
end substDoes
end Go.Proofs.Ytnbdldpjiofafaa.PB
namespace Go.Proofs.Ytnbdldpjiofafaa
theorem substDoes_holds : Rows.SubstDoesSaid := PB.substDoes.proved
#print axioms substDoes_holds
end Go.Proofs.Ytnbdldpjiofafaa
end
