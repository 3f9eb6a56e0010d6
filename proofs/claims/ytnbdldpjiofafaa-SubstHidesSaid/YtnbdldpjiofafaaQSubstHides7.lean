/- The row of a law out of its contract and its pure theorem. No condition. -/
import Derived.Test.YtnbdldpjiofafaaRows
import Derived.ProofKit
import Derived.ShutString
import Derived.ChangeOld
import Derived.Carry
import Derived.HandedShaped
import Derived.Test.YtnbdldpjiofafaaQSubstHides6
section
namespace Go.Proofs.Ytnbdldpjiofafaa.PB
open Go.RowKit Go.Proofs.YtnbdldpjiofafaaW.PrintWords
set_option linter.unusedVariables false
def otherAll (y : Int) (o : ByteArray) : Nat → List Int → List Int → List Int
  | i, x :: L, c :: B => (if seen x y = true then c else bt o ((i % o.size : Nat) : Int)) :: otherAll y o (i + 1) L B
  | _, _, _ => []
def otherS (s : ByteArray) (l : List S51) (y : Int) (o : ByteArray) : ByteArray × List S51 :=
  if goodT s l = true ∧ o.size ≠ 0 then (strOfNums (otherAll y o 0 (bytes l) (bytesOf s)), l) else (s, l)
theorem other_ev (s : ByteArray) (l : List S51) (hl : l.length ≤ big) (y : Int) (o : ByteArray) (hw : ∀ r ∈ l, 0 ≤ r.f0 ∧ r.f0 < 18446744073709551616) (hy : 0 ≤ y ∧ y < 18446744073709551616) : Ev (fun k => bureauref04_Other.f k s l y o) (otherS s l y o) := by
  unfold bureauref04_Other.f
  have out : ¬ (goodT s l = true ∧ o.size ≠ 0) → Ev (fun k => bureauref04_Other.j0 k y o true s l) (otherS s l y o) := fun h => by
    refine Ev.step (fun k => by simp only [bureauref04_Other.j0]; rfl) ?_
    refine Ev.pos (by simp) (ev_val (Ev.now _) ?_)
    unfold otherS
    rw [if_neg h]
  refine Ev.bind (rgoodT_ev s l hl) (Ev.ite' (fun hg => ?_) (fun hg => out (fun h => hg h.1)))
  by_cases h0 : o.size = 0
  · rw [show ((o.size : Int) == 0) = true by simpa using h0]
    exact out (fun h => h.2 h0)
  · rw [show ((o.size : Int) == 0) = false by simpa using h0]
    refine Ev.step (fun k => by simp only [bureauref04_Other.j0]; rfl) ?_
    refine Ev.neg (by simp) ?_
    obtain ⟨g1, g2, g3, g4, g5⟩ := goodT_facts hg
    refine Ev.bind (bytes_ev l hl (by omega)) ?_
    unfold otherS
    rw [if_pos ⟨hg, h0⟩]
    have hwb : ∀ x ∈ bytes l, 0 ≤ x ∧ x < 18446744073709551616 := fun x hx => by obtain ⟨r, hr, rfl⟩ := bytes_mem hx; exact hw r hr
    generalize bytes l = L at *
    have loop : ∀ (d i : Nat) (acc : List Int), i + d = L.length → acc.length = i → Ev (fun k => bureauref04_Other.l0 k y o L acc (i : Int) s l) (strOfNums (acc ++ otherAll y o i (L.drop i) ((bytesOf s).drop i)), l) := by
      intro d
      induction d with
      | zero =>
        intro i acc hi ha
        refine Ev.step (fun k => by simp only [bureauref04_Other.l0]; rfl) ?_
        refine Ev.neg (by omega) (ev_val (Ev.now _) ?_)
        rw [List.drop_eq_nil_of_le (show L.length ≤ i by omega)]
        simp [otherAll]
      | succ d ih =>
        intro i acc hi ha
        have hlt : i < L.length := by omega
        have hls : i < s.size := by omega
        have hrd : rd L (i : Int) = L.getD i 0 := by unfold rd; rw [Int.toNat_natCast]
        refine Ev.step (fun k => by simp only [bureauref04_Other.l0]; rfl) ?_
        refine Ev.pos (by omega) (Ev.pos (by omega) ?_)
        rw [hrd, w1 hlt (by omega)]
        have hx := hwb (L.getD i 0) (by rw [List.getD_eq_getElem?_getD, List.getElem?_eq_getElem hlt]; exact List.getElem_mem hlt)
        have hj : bureauref01_Below.f (L.getD i 0) y = some (seen (L.getD i 0) y) := by unfold bureauref01_Below.f; rw [if_pos ⟨hx.1, hx.2, hy.1, hy.2⟩]; rfl
        rw [hj, dropI hlt, dropI (show i < (bytesOf s).length by rw [bytesOf_len]; exact hls)]
        refine Ev.bind (Ev.now _) ?_
        have htm : Int.tmod (i : Int) (o.size : Int) = ((i % o.size : Nat) : Int) := by rw [Int.tmod_eq_emod_of_nonneg (by omega), Int.natCast_emod]
        have hml : i % o.size < o.size := Nat.mod_lt _ (by omega)
        rw [htm]
        by_cases hs : seen (L.getD i 0) y = true
        · refine Ev.pos hs (Ev.pos (by omega) (Ev.pos (by omega) ?_))
          refine ev_val (ih (i + 1) _ (by omega) (by simp [ha])) ?_
          rw [bt_bytesOf s i hls, List.append_assoc]
          generalize L.getD i 0 = xx at *
          simp [otherAll, hs]
        · refine Ev.neg hs (Ev.neg (by omega) (Ev.pos (by omega) (Ev.pos (by omega) (Ev.pos (by omega) ?_))))
          refine ev_val (ih (i + 1) _ (by omega) (by simp [ha])) ?_
          rw [List.append_assoc]
          generalize L.getD i 0 = xx at *
          simp [otherAll, hs]
    exact loop L.length 0 [] (by omega) rfl
theorem otherAll_len (y : Int) (o : ByteArray) : ∀ (L B : List Int) (i : Nat), L.length = B.length → (otherAll y o i L B).length = B.length
  | [], [], _, _ => rfl
  | [], _ :: _, _, h => by simp at h
  | _ :: _, [], _, h => by simp at h
  | x :: L, c :: B, i, h => by simp only [otherAll, List.length_cons]; rw [otherAll_len y o L B (i + 1) (by simpa using h)]
theorem otherAll_range (y : Int) (o : ByteArray) : ∀ (L B : List Int) (i : Nat), (∀ x ∈ B, 0 ≤ x ∧ x ≤ 255) → ∀ x ∈ otherAll y o i L B, 0 ≤ x ∧ x ≤ 255
  | [], _, _, _ => by intro x hx; simp [otherAll] at hx
  | _ :: _, [], _, _ => by intro x hx; simp [otherAll] at hx
  | z :: L, c :: B, i, h => by
    intro x hx
    simp only [otherAll, List.mem_cons] at hx
    rcases hx with rfl | hx
    · split
      · exact h c List.mem_cons_self
      · exact bt_range _ _
    · exact otherAll_range y o L B (i + 1) (fun x hx => h x (List.mem_cons_of_mem _ hx)) x hx
theorem hide_other (y : Int) (o : ByteArray) : ∀ (L B : List Int) (i : Nat), hideAll y L (otherAll y o i L B) = hideAll y L B
  | [], _, _ => by simp [hideAll]
  | _ :: _, [], _ => by simp [hideAll, otherAll]
  | x :: L, c :: B, i => by
    have := hide_other y o L B (i + 1)
    unfold hideAll at this ⊢
    simp only [otherAll, List.zipWith_cons_cons, this]
    congr 1
    unfold hide
    by_cases hs : seen x y = true
    · rw [if_pos hs, if_pos hs, if_pos hs]
    · rw [if_neg hs, if_neg hs]
theorem bytesOf_strOf (xs : List Int) (h : ∀ x ∈ xs, 0 ≤ x ∧ x ≤ 255) : bytesOf (strOfNums xs) = xs := by
  have hl : (bytesOf (strOfNums xs)).length = xs.length := by rw [bytesOf_len, strOfNums_size]
  apply List.ext_getElem?
  intro i
  by_cases hi : i < xs.length
  · have hg : ∀ (zs : List Int), i < zs.length → zs[i]? = some (zs.getD i 0) := fun zs hz => by rw [List.getD_eq_getElem?_getD, List.getElem?_eq_getElem hz]; rfl
    have hm : xs.getD i 0 ∈ xs := by rw [List.getD_eq_getElem?_getD, List.getElem?_eq_getElem hi]; exact List.getElem_mem hi
    rw [hg _ (by omega), hg _ hi, bt_bytesOf _ _ (by rw [strOfNums_size]; exact hi), strOf_bt xs i hi (h _ hm)]
  · rw [List.getElem?_eq_none (by omega), List.getElem?_eq_none (by omega)]
structure Alike (y : Int) (s : ByteArray) (l : List S51) (s' : ByteArray) (l' : List S51) : Prop where
  runs : l = l'
  size : s.size = s'.size
  view : goodT s l = true → hideAll y (bytes l) (bytesOf s) = hideAll y (bytes l) (bytesOf s')
theorem other_alike (s : ByteArray) (l : List S51) (y : Int) (o : ByteArray) : Alike y s l (otherS s l y o).1 (otherS s l y o).2 := by
  unfold otherS
  by_cases h : goodT s l = true ∧ o.size ≠ 0
  · rw [if_pos h]
    obtain ⟨g1, g2, g3, g4, g5⟩ := goodT_facts h.1
    have hr := otherAll_range y o (bytes l) (bytesOf s) 0 (fun x hx => byte_range hx)
    refine ⟨rfl, ?_, fun _ => ?_⟩
    · show s.size = (strOfNums _).size
      rw [strOfNums_size, otherAll_len y o _ _ 0 (by rw [bytesOf_len, g3]), bytesOf_len]
    · show _ = hideAll y (bytes l) (bytesOf (strOfNums _))
      rw [bytesOf_strOf _ hr, hide_other]
  · rw [if_neg h]
    exact ⟨rfl, rfl, fun _ => rfl⟩
theorem Alike.good {y : Int} {s s' : ByteArray} {l l' : List S51} (h : Alike y s l s' l') : goodT s l = goodT s' l' := by
  obtain ⟨rfl, h2, _⟩ := h
  unfold goodT
  rw [h2]
theorem low_of_alike {y : Int} {s s' : ByteArray} {l l' : List S51} (h : Alike y s l s' l') (hg : goodT s l = true) : lowT s l s' l' y = true := by
  have hg' := h.good.symm.trans hg
  obtain ⟨rfl, h2, h3⟩ := h
  unfold lowT viewS
  rw [if_pos hg, if_pos hg', if_pos rfl, if_pos rfl, h3 hg, if_pos rfl]
  exact decide_eq_true rfl
theorem bytesOf_ext (s : ByteArray) (i j : Nat) : bytesOf (s.extract i j) = ((bytesOf s).take j).drop i := by unfold bytesOf; rw [ext_list, List.map_drop, List.map_take]
theorem hideAll_take (y : Int) (L B : List Int) (i : Nat) : hideAll y (L.take i) (B.take i) = (hideAll y L B).take i := by unfold hideAll; rw [List.take_zipWith]
theorem hideAll_drop (y : Int) (L B : List Int) (i : Nat) : hideAll y (L.drop i) (B.drop i) = (hideAll y L B).drop i := by unfold hideAll; rw [List.drop_zipWith]
section
variable {y : Int} {s s' x x' : ByteArray} {l l' m m' : List S51}
theorem Alike.within (h : Alike y s l s' l') (a b : Int) : withinT s l a b = withinT s' l' a b := by
  unfold withinT
  rw [h.good, h.size]
theorem Alike.cut (h : Alike y s l s' l') (a b : Int) : (cutS s l a b).2.2 = (cutS s' l' a b).2.2 ∧ ((cutS s l a b).2.2 = 0 → goodT (cutS s l a b).1 (cutS s l a b).2.1 = true ∧ Alike y (cutS s l a b).1 (cutS s l a b).2.1 (cutS s' l' a b).1 (cutS s' l' a b).2.1) := by
  unfold cutS
  by_cases hw : withinT s l a b = true
  · rw [if_pos hw, if_pos (h.within a b ▸ hw)]
    refine ⟨rfl, fun _ => ?_⟩
    obtain ⟨i, j, rfl, rfl, hij, hj, hg, _⟩ := withinT_facts hw
    obtain ⟨g1, g2, g3, g4, g5⟩ := goodT_facts hg
    obtain ⟨rfl, h2, h3⟩ := h
    rw [Int.toNat_natCast, Int.toNat_natCast]
    have z1 : (s.extract i j).size = j - i := by rw [ByteArray.size_extract]; omega
    have z2 : (s'.extract i j).size = j - i := by rw [ByteArray.size_extract]; omega
    have y1 : (((bytes l).take j).drop i).length = j - i := by rw [List.length_drop, List.length_take]; omega
    show goodT (s.extract i j) (pack _) = true ∧ Alike y (s.extract i j) (pack _) (s'.extract i j) (pack _)
    refine ⟨goodT_pack (by omega) (by omega), rfl, by omega, fun _ => ?_⟩
    rw [pack_bytes, bytesOf_ext, bytesOf_ext, hideAll_drop, hideAll_drop, hideAll_take, hideAll_take, h3 hg]
  · rw [if_neg hw, if_neg (h.within a b ▸ hw)]
    exact ⟨rfl, fun h0 => by cases h0⟩
end
end Go.Proofs.Ytnbdldpjiofafaa.PB
end

section
namespace Go.Proofs.Ytnbdldpjiofafaa.PB
open Go.RowKit Go.Proofs.YtnbdldpjiofafaaW.PrintWords
set_option linter.unusedVariables false
set_option maxHeartbeats 1000000
def rangeL (L : List Int) : Prop := ∀ x ∈ L, 0 ≤ x ∧ x < 18446744073709551616
theorem seen_or2 {x z y : Int} (hx : 0 ≤ x ∧ x < 18446744073709551616) (hz : 0 ≤ z ∧ z < 18446744073709551616) (hy : 0 ≤ y ∧ y < 18446744073709551616) : seen (Go.bits .or .u64 x z) y = (seen x y && seen z y) := by
  obtain ⟨x, rfl⟩ := Int.eq_ofNat_of_zero_le hx.1
  obtain ⟨z, rfl⟩ := Int.eq_ofNat_of_zero_le hz.1
  obtain ⟨y, rfl⟩ := Int.eq_ofNat_of_zero_le hy.1
  have hx' : x < 2 ^ 64 := by omega
  have hy' : y < 2 ^ 64 := by omega
  have hz' : z < 2 ^ 64 := by omega
  unfold seen
  rw [u64_or_nat x z (by omega) (by omega), belowN_bits (x ||| z) y (Nat.or_lt_two_pow hx' hz') hy', belowN_bits x y hx' hy', belowN_bits z y hz' hy', Bool.eq_iff_iff, Bool.and_eq_true]
  unfold belowN
  rw [List.all_eq_true, List.all_eq_true, List.all_eq_true]
  constructor
  · intro h
    refine ⟨fun i hi => ?_, fun i hi => ?_⟩ <;> (have := h i hi; rw [Nat.testBit_or] at this; cases hx : x.testBit i <;> cases hz : z.testBit i <;> simp_all)
  · rintro ⟨h1, h2⟩ i hi
    have a := h1 i hi
    have b := h2 i hi
    rw [Nat.testBit_or]
    cases hx : x.testBit i <;> cases hz : z.testBit i <;> simp_all
theorem or_range {x z : Int} (hx : 0 ≤ x ∧ x < 18446744073709551616) (hz : 0 ≤ z ∧ z < 18446744073709551616) : 0 ≤ Go.bits .or .u64 x z ∧ Go.bits .or .u64 x z < 18446744073709551616 := by
  obtain ⟨x, rfl⟩ := Int.eq_ofNat_of_zero_le hx.1
  obtain ⟨z, rfl⟩ := Int.eq_ofNat_of_zero_le hz.1
  have h := Nat.or_lt_two_pow (n := 64) (show x < 2 ^ 64 by omega) (show z < 2 ^ 64 by omega)
  rw [u64_or_nat x z (by omega) (by omega)]
  omega
theorem seen_zero {y : Int} (hy : 0 ≤ y ∧ y < 18446744073709551616) : seen 0 y = true := by
  obtain ⟨y, rfl⟩ := Int.eq_ofNat_of_zero_le hy.1
  unfold seen
  have := belowN_bits 0 y (by decide) (by omega)
  rw [show ((0 : Nat) : Int) = 0 from rfl] at this
  rw [this]
  exact belowN_yes (fun i _ h => by simp at h)
theorem seen_all {y : Int} (hy : 0 ≤ y ∧ y < 18446744073709551616) (B : List Int) (hB : rangeL B) : seen (orAllI B) y = B.all (fun x => seen x y) := by
  have : ∀ (B : List Int) (a : Int), 0 ≤ a ∧ a < 18446744073709551616 → rangeL B → seen (B.foldl (fun a x => Go.bits .or .u64 a x) a) y = (seen a y && B.all (fun x => seen x y)) := by
    intro B
    induction B with
    | nil => intro a ha _; simp
    | cons x B ih =>
      intro a ha hB
      have hx := hB x List.mem_cons_self
      rw [List.foldl_cons, ih _ (or_range ha hx) (fun z hz => hB z (List.mem_cons_of_mem _ hz)), seen_or2 ha hx hy, List.all_cons, Bool.and_assoc]
  unfold orAllI
  rw [this B 0 (by decide) hB, seen_zero hy, Bool.true_and]
theorem wadd (a b : Nat) (h : a + b ≤ 1000000000000000) : wrap64 ((a : Int) + (b : Int)) = ((a + b : Nat) : Int) := by unfold wrap64; omega
theorem wadd1 (a : Nat) (h : a ≤ 1000000000000000) : wrap64 ((a : Int) + 1) = ((a + 1 : Nat) : Int) := by unfold wrap64; omega
def hitS (cs pat : List UInt8) (L : List Int) (y : Int) (e p : Nat) : Bool := decide (p + pat.length ≤ e) && (((cs.drop p).take pat.length == pat) && ((L.drop p).take pat.length).all (fun x => seen x y))
theorem hitS_iff {cs pat : List UInt8} {L : List Int} {y : Int} {e p : Nat} : hitS cs pat L y e p = true ↔ p + pat.length ≤ e ∧ (cs.drop p).take pat.length = pat ∧ ((L.drop p).take pat.length).all (fun x => seen x y) = true := by
  unfold hitS; simp only [Bool.and_eq_true, decide_eq_true_eq, beq_iff_eq]
structure Fine (s : ByteArray) (l : List S51) (y : Int) : Prop where
  good : goodT s l = true
  len : l.length ≤ big
  lab : ∀ r ∈ l, 0 ≤ r.f0 ∧ r.f0 < 18446744073709551616
  lev : 0 ≤ y ∧ y < 18446744073709551616
theorem Fine.size {s : ByteArray} {l : List S51} {y : Int} (h : Fine s l y) : s.size ≤ 4096 ∧ (bytes l).length = s.size := by
  obtain ⟨g1, g2, g3, g4, g5⟩ := goodT_facts h.good
  exact ⟨g4, g3⟩
theorem Fine.range {s : ByteArray} {l : List S51} {y : Int} (h : Fine s l y) : rangeL (bytes l) := fun x hx => by
  obtain ⟨r, hr, e⟩ := bytes_mem hx
  rw [← e]; exact h.lab r hr
theorem seen_ev {s : ByteArray} {l : List S51} {y : Int} (h : Fine s l y) (p q : Nat) (hpq : p ≤ q) (hq : q ≤ s.size) : Ev (fun k => subst_seen.f k s l y (p : Int) (q : Int)) ((((bytes l).take q).drop p).all (fun x => seen x y)) := by
  obtain ⟨g1, g2, g3, g4, g5⟩ := goodT_facts h.good
  have hw : withinB l (p : Int) (q : Int) = true := withinB_iff.2 ⟨g1, by omega, by omega, by omega⟩
  have hr : rangeL (((bytes l).take q).drop p) := fun x hx => h.range x (List.mem_of_mem_take (List.mem_of_mem_drop hx))
  have hlen : (((bytes l).take q).drop p).length ≤ 4096 := by rw [List.length_drop, List.length_take]; omega
  unfold subst_seen.f
  refine Ev.bind (slice_ev l h.len (p : Int) (q : Int)) ?_
  unfold sliceS
  rw [if_pos hw, Int.toNat_natCast, Int.toNat_natCast]
  generalize ((bytes l).take q).drop p = B at *
  have hpl : (pack B).length ≤ big := by have := pack_len B; unfold big; omega
  refine Ev.bind (all_ev (pack B) hpl) ?_
  have e : orAllI (pos1 (pack B)) = orAllI B := by
    rw [← orAllI_bytes, pack_bytes]
    intro r hrm
    have hm : r.f0 ∈ bytes (pack B) := by
      unfold bytes
      rw [List.mem_flatMap]
      have hn := pack_nrm B
      refine ⟨r, hrm, ?_⟩
      have hpos : 1 ≤ r.f1 := nrm_pos hn r hrm
      rw [List.mem_replicate]
      exact ⟨by omega, rfl⟩
    rw [pack_bytes] at hm
    exact hr _ hm
  rw [e]
  unfold label_Below.f
  refine Ev.bind (Ev.now _) (ev_val (Ev.now _) ?_)
  exact seen_all h.lev B hr
theorem occ_iff (l sub : List UInt8) (i : Nat) : Lib.occAt l sub i = true ↔ (l.drop i).take sub.length = sub := by
  unfold Lib.occAt
  rw [List.isPrefixOf_iff_prefix, List.prefix_iff_eq_take]
  exact ⟨fun h => h.symm, fun h => h.symm⟩
theorem drop_take_drop {α : Type} (l : List α) (a e p m : Nat) (h1 : a ≤ p) (h2 : p + m ≤ e) : ((((l.take e).drop a).drop (p - a)).take m) = (l.drop p).take m := by
  rw [List.drop_drop, show a + (p - a) = p by omega, List.drop_take, List.take_take, Nat.min_eq_left (by omega)]
theorem index_step (cs pat : List UInt8) (L : List Int) (y : Int) (every : Bool) (e a : Nat) (hp : 1 ≤ pat.length) (hlt : a < e) (he : e ≤ cs.length) :
    (Lib.index ((cs.take e).drop a) pat = -1 ∧ places every (hitS cs pat L y e) pat.length e a = []) ∨
    ∃ i : Nat, Lib.index ((cs.take e).drop a) pat = (i : Int) ∧ a + i + pat.length ≤ e ∧ places every (hitS cs pat L y e) pat.length e a = places every (hitS cs pat L y e) pat.length e (a + i) ∧
      hitS cs pat L y e (a + i) = ((L.drop (a + i)).take pat.length).all (fun x => seen x y) := by
  have hlen : ((cs.take e).drop a).length = e - a := by rw [List.length_drop, List.length_take]; omega
  rcases Lib.index_spec ((cs.take e).drop a) pat with ⟨hi, hno⟩ | ⟨i, hi, hil, hocc, hno⟩
  · refine .inl ⟨hi, places_none hp (fun k h1 h2 hh => ?_)⟩
    obtain ⟨e1, e2, _⟩ := hitS_iff.1 hh
    have := hno (k - a) (by omega)
    rw [Bool.eq_false_iff] at this
    exact this ((occ_iff _ _ _).2 (by rw [drop_take_drop _ _ _ _ _ h1 e1]; exact e2))
  · have hroom := Lib.index_room ((cs.take e).drop a) pat (by rw [hi]; omega)
    rw [hi, hlen] at hroom
    have hm := (occ_iff _ _ _).1 hocc
    have hpe : a + i + pat.length ≤ e := by omega
    have hm2 : (cs.drop (a + i)).take pat.length = pat := by
      have := drop_take_drop cs a e (a + i) pat.length (by omega) (by omega)
      rw [show a + i - a = i by omega] at this
      rw [← this]; exact hm
    refine .inr ⟨i, hi, hpe, places_skip hp i a (by omega) (fun k hk hh => ?_), ?_⟩
    · obtain ⟨e1, e2, _⟩ := hitS_iff.1 hh
      have := hno k hk
      rw [Bool.eq_false_iff] at this
      exact this ((occ_iff _ _ _).2 (by
        have q := drop_take_drop cs a e (a + k) pat.length (by omega) e1
        rw [show a + k - a = k by omega] at q
        rw [q]; exact e2))
    · rw [Bool.eq_iff_iff, hitS_iff]
      exact ⟨fun q => q.2.2, fun q => ⟨hpe, hm2, q⟩⟩
theorem idx_is (s pat : ByteArray) (a e : Nat) (hs : s.size ≤ 4096) : strings_Index.f (s.extract a e) pat = some (Lib.index ((s.data.toList.take e).drop a) pat.data.toList) := by
  unfold strings_Index.f
  have hsz : (s.extract a e).size < 4294967281 := by rw [ByteArray.size_extract]; omega
  rw [if_pos hsz, ext_list]
theorem places_ev {s : ByteArray} {l : List S51} {y : Int} (h : Fine s l y) (A B : Int) (pat rep : ByteArray) (every : Bool) (hp : 1 ≤ pat.size) (a e : Nat) (hae : a ≤ e) (he : e ≤ s.size) :
    Ev (fun k => subst_places.f k s l y A B pat rep every (a : Int) (e : Int)) ((places every (hitS s.data.toList pat.data.toList (bytes l) y e) pat.data.toList.length e a).map (fun i : Nat => (i : Int))) := by
  have h4 := h.size.1
  have hidx := fun a e => idx_is s pat a e h4
  have hcs : e ≤ s.data.toList.length := by rw [← Lib.size_eq]; exact he
  have hps : pat.size = pat.data.toList.length := Lib.size_eq pat
  have hpl : 1 ≤ pat.data.toList.length := by rw [← hps]; exact hp
  have hstep := fun a ha => index_step s.data.toList pat.data.toList (bytes l) y every e a hpl ha hcs
  have hseen := fun p q hpq hq => seen_ev h p q hpq hq
  obtain ⟨n, hn⟩ : ∃ n, s.size = n := ⟨_, rfl⟩
  have hsn : (s.size : Int) = (n : Int) := by rw [hn]
  have hpn : (pat.size : Int) = (pat.data.toList.length : Int) := by rw [hps]
  rw [hn] at he h4 hseen
  generalize pat.data.toList.length = m at *
  generalize hhit : hitS s.data.toList pat.data.toList (bytes l) y e = hit at *
  clear hhit hps hcs
  have loop : ∀ (d a : Nat) (acc : List Int), e - a ≤ d → a ≤ e → acc.length ≤ a → Ev (fun k => subst_places.l0 k y (e : Int) acc (a : Int) s l A B pat rep every) (acc ++ (places every hit m e a).map (fun i : Nat => (i : Int))) := by
    intro d
    induction d with
    | zero =>
      intro a acc hd ha hacc
      refine Ev.step (fun k => by simp only [subst_places.l0]; rfl) ?_
      refine Ev.neg (by omega) ?_
      rw [places_end (by omega), List.map_nil, List.append_nil]
      exact Ev.now _
    | succ d ih =>
      intro a acc hd ha hacc
      refine Ev.step (fun k => by simp only [subst_places.l0]; rfl) ?_
      by_cases hlt : a < e
      · refine Ev.pos (by omega) (Ev.pos (by omega) (Ev.pos (by omega) (Ev.pos (by rw [hsn]; omega) ?_)))
        rw [Int.toNat_natCast, Int.toNat_natCast, hidx]
        refine Ev.bind (Ev.now _) ?_
        rcases hstep a hlt with ⟨hi, hno⟩ | ⟨i, hi, hpe, hskip, hs⟩
        · rw [hi, hno, List.map_nil, List.append_nil]
          exact Ev.pos (by decide) (Ev.now _)
        · rw [hi, hskip]
          clear hi hskip hidx
          have hb : a + i + m ≤ 4096 := Nat.le_trans hpe (Nat.le_trans he h4)
          rw [hpn, wadd a i (by omega), wadd (a + i) m (by omega), wadd1 (a + i) (by omega)]
          refine Ev.neg (by omega) ?_
          have hsv := hseen (a + i) (a + i + m) (by omega) (by omega)
          rw [List.drop_take, show a + i + m - (a + i) = m by omega, ← hs] at hsv
          refine Ev.bind hsv ?_
          by_cases hh : hit (a + i) = true
          · rw [places_hit hpl (by omega) hh]
            refine Ev.pos hh (Ev.pos (by omega) (Ev.bind (Ev.now _) ?_))
            by_cases hev : every = true
            · rw [if_pos hev]
              refine Ev.pos hev (ev_val (ih (a + i + m) (acc ++ [((a + i : Nat) : Int)]) (by omega) (by omega) (by rw [List.length_append, List.length_singleton]; omega)) ?_)
              simp
            · rw [if_neg hev]
              exact Ev.neg hev (ev_val (Ev.now _) (by simp))
          · rw [places_miss hpl (by omega) hh]
            exact Ev.neg hh (ih (a + i + 1) acc (by omega) (by omega) (by omega))
      · refine Ev.neg (by omega) ?_
        rw [places_end (by omega), List.map_nil, List.append_nil]
        exact Ev.now _
  unfold subst_places.f
  exact loop (e - a) a [] (Nat.le_refl _) hae (by simp)
end Go.Proofs.Ytnbdldpjiofafaa.PB
end

section
namespace Go.Proofs.Ytnbdldpjiofafaa.PB
open Go.RowKit Go.Proofs.YtnbdldpjiofafaaW.PrintWords
set_option linter.unusedVariables false
set_option maxHeartbeats 1000000
def allP (f : Nat → List Nat) : Nat → Nat → List Nat
  | _, 0 => []
  | n, d + 1 => f n ++ allP f (n + 1) d
def lineP (v s pat : ByteArray) (l : List S51) (y : Int) (every : Bool) (n : Nat) : List Nat :=
  places every (hitS s.data.toList pat.data.toList (bytes l) y (lineTo v n)) pat.data.toList.length (lineTo v n) (lineFrom v n)
end Go.Proofs.Ytnbdldpjiofafaa.PB
end

section
namespace Go.Proofs.Ytnbdldpjiofafaa.PB
open Go.RowKit Go.Proofs.YtnbdldpjiofafaaW.PrintWords
set_option linter.unusedVariables false
set_option maxHeartbeats 1000000
abbrev ints (l : List Nat) : List Int := l.map (fun i : Nat => (i : Int))
def bld (s r : ByteArray) (m a : Nat) (ps : List Nat) (e : Nat) : ByteArray := ⟨(buildS s.data.toList r.data.toList m a ps e).toArray⟩
theorem bld_list (s r : ByteArray) (m a : Nat) (ps : List Nat) (e : Nat) : (bld s r m a ps e).data.toList = buildS s.data.toList r.data.toList m a ps e := by unfold bld; rfl
theorem bld_size (s r : ByteArray) (m a : Nat) (ps : List Nat) (e : Nat) : (bld s r m a ps e).size = (buildS s.data.toList r.data.toList m a ps e).length := by rw [Lib.size_eq, bld_list]
theorem bld_nil (s r : ByteArray) (m a e : Nat) : bld s r m a [] e = s.extract a e := data_inj (by rw [bld_list, ext_list]; rfl)
theorem bld_cons (s r : ByteArray) (m a p : Nat) (ps : List Nat) (e : Nat) : bld s r m a (p :: ps) e = s.extract a p ++ (r ++ bld s r m (p + m) ps e) := data_inj (by rw [bld_list, app_list, app_list, bld_list, ext_list]; rfl)
theorem cut_ok {s : ByteArray} {l : List S51} {y : Int} (h : Fine s l y) (a p : Nat) (h1 : a ≤ p) (h2 : p ≤ s.size) : cutS s l (a : Int) (p : Int) = (s.extract a p, pack (((bytes l).take p).drop a), 0) := by
  unfold cutS
  rw [if_pos (withinT_iff.2 ⟨h.good, by omega, by omega, by omega⟩), Int.toNat_natCast, Int.toNat_natCast]
theorem packBig {C : List Int} {n : Nat} (h : C.length = n) (hn : n ≤ 20000) : (pack C).length ≤ big := by have := pack_len C; unfold big; omega
theorem cut_ev' {s : ByteArray} {l : List S51} {y : Int} (h : Fine s l y) (a p : Nat) (h1 : a ≤ p) (h2 : p ≤ s.size) : Ev (fun k => strip_Cut.f k s l (a : Int) (p : Int)) (s.extract a p, pack (((bytes l).take p).drop a), 0) := ev_val (cut_ev s l h.len _ _) (cut_ok h a p h1 h2)
theorem cat_ev' (X Z : ByteArray) (C D : List Int) (hC : C.length = X.size) (hD : D.length = Z.size) (h : X.size + Z.size ≤ 4096) : Ev (fun k => strip_Cat.f k X (pack C) Z (pack D)) (X ++ Z, pack (C ++ D), 0) :=
  ev_val (cat4_ev X (pack C) (packBig hC (by omega)) Z (pack D) (packBig hD (by omega))) (catT_pack X Z C D hC hD h)
theorem rd_at {all ps : List Nat} {i p : Nat} (h : all.drop i = p :: ps) (z : Int) : rd (ints all ++ [z]) (i : Int) = (p : Int) := by
  have hi : i < all.length := by
    rcases Nat.lt_or_ge i all.length with q | q
    · exact q
    · rw [List.drop_eq_nil_of_le q] at h; cases h
  rw [List.drop_eq_getElem_cons hi] at h
  injection h with h _
  unfold rd ints
  rw [Int.toNat_natCast, List.getD_eq_getElem?_getD, List.getElem?_append_left (by rw [List.length_map]; exact hi), List.getElem?_map, List.getElem?_eq_getElem hi, h]
  rfl
theorem rd_end {all : List Nat} {i : Nat} (h : i = all.length) (z : Int) : rd (ints all ++ [z]) (i : Int) = z := by
  subst h
  unfold rd ints
  rw [Int.toNat_natCast, List.getD_eq_getElem?_getD, List.getElem?_append_right (by rw [List.length_map]; exact Nat.le_refl _), List.length_map, Nat.sub_self]
  rfl
theorem ints_len (all : List Nat) (z : Int) : (ints all ++ [z]).length = all.length + 1 := by simp [ints]
abbrev DX := Int × ByteArray × (List S51) × ByteArray × (List S51) × Int × Int
def badD (c : Int) : DX := (0, ⟨#[]⟩, [], ⟨#[]⟩, [], 0, c)
def okD (s : ByteArray) (l : List S51) (fr e : Nat) (T : ByteArray) (D : List Int) (n : Int) : DX := ((fr : Int), s.extract fr e, pack (((bytes l).take e).drop fr), T, pack D, n, 0)
theorem splice_ok0 {s : ByteArray} {l : List S51} {y : Int} (h : Fine s l y) (fr e : Nat) (T : ByteArray) (D : List Int) (h1 : fr ≤ e) (h2 : e ≤ s.size) (hD : D.length = T.size) (hT : T.size ≤ 4096) (hz : (s.size : Int) - ((e : Int) - (fr : Int)) + (T.size : Int) ≤ 4096) :
    (spliceT s l (fr : Int) (e : Int) T (pack D)).2.2 = 0 := by
  unfold spliceT
  rw [if_pos (withinT_iff.2 ⟨h.good, by omega, by omega, by omega⟩), if_pos (goodT_pack hD hT), if_neg (by omega)]
theorem of_ok {s : ByteArray} {l : List S51} {y : Int} (h : Fine s l y) (fr e : Nat) (T : ByteArray) (D : List Int) (h1 : fr ≤ e) (h2 : e ≤ s.size) (hD : D.length = T.size) (hT : T.size ≤ 4096) (hz : (s.size : Int) - ((e : Int) - (fr : Int)) + (T.size : Int) ≤ 4096) :
    ofS s l (fr : Int) (e : Int) T (pack D) = ((fr : Int), s.extract fr e, pack (((bytes l).take e).drop fr), T, pack D, 0) := by
  unfold ofS
  rw [if_pos (splice_ok0 h fr e T D h1 h2 hD hT hz), cut_ok h fr e h1 h2]
theorem fwd_ev {s : ByteArray} {l : List S51} {y : Int} (h : Fine s l y) (A B : Int) (pat rep : ByteArray) (every : Bool) (fr e : Nat) (x11 : List Int) (all : List Nat) (hp : 1 ≤ pat.size) (hfe : fr ≤ e) (he : e ≤ s.size) (hall : all.length ≤ 5000) (hfin : ∀ T : ByteArray, ∀ D : List Int, D.length = T.size → T = bld s rep pat.size fr all e → T.size ≤ 4096 ∧ (s.size : Int) - ((e : Int) - (fr : Int)) + (T.size : Int) ≤ 4096) :
    ∀ (ps : List Nat) (i a : Nat) (X : ByteArray) (C : List Int), all.drop i = ps → i + ps.length = all.length → a ≤ e + pat.size → spaced pat.size a ps e → C.length = X.size → X ++ bld s rep pat.size a ps e = bld s rep pat.size fr all e → C ++ buildS (bytes l) (List.replicate rep.size y) pat.size a ps e = buildS (bytes l) (List.replicate rep.size y) pat.size fr all e →
      Ev (fun k => subst_Do.l1 k x11 (fr : Int) (e : Int) (a : Int) (ints all ++ [(e : Int)]) ((ints all ++ [(e : Int)]).length : Int) (i : Int) s l A B pat rep every rep (pack (List.replicate rep.size y)) X (pack C))
        (okD s l fr e (bld s rep pat.size fr all e) (buildS (bytes l) (List.replicate rep.size y) pat.size fr all e) (x11.length : Int)) := by
  have h4 := h.size.1
  have hL := h.size.2
  have hlen := ints_len all (e : Int)
  have hF := hfin
  have hR : (List.replicate rep.size y).length = rep.size := List.length_replicate
  have hbd := fun (a p : Nat) (hap : a ≤ p) (hpe : p ≤ e) => show (((bytes l).take p).drop a).length = (s.extract a p).size from by
    rw [ByteArray.size_extract, List.length_drop, List.length_take]; omega
  have hbz := fun (a p : Nat) (hpe : p ≤ e) => show (s.extract a p).size = p - a from by rw [ByteArray.size_extract]; omega
  intro ps
  induction ps with
  | nil =>
    intro i a X C hd hi ha hsp hC hT hB
    have hil : i = all.length := by simpa using hi
    have hae : a ≤ e := hsp
    have hq := hF (X ++ s.extract a e) (C ++ ((bytes l).take e).drop a) (by rw [List.length_append, ByteArray.size_append, hC, hbd a e hae (Nat.le_refl _)]) (by rw [← hT, bld_nil])
    have hsum : X.size + (s.extract a e).size ≤ 4096 := by have := hq.1; rw [ByteArray.size_append] at this; exact this
    refine Ev.step (fun k => by simp only [subst_Do.l1]; rfl) ?_
    rw [rd_end hil, hlen]
    refine Ev.pos (by omega) (Ev.pos (by omega) (Ev.pos (by omega) (Ev.bind (cut_ev' h a e hae he) (Ev.bind (cat_ev' X (s.extract a e) C _ hC (hbd a e hae (Nat.le_refl _)) hsum) (Ev.neg (by omega) ?_)))))
    rw [wadd1 i (by omega)]
    refine Ev.step (fun k => by simp only [subst_Do.l1]; rfl) (Ev.neg (by omega) ?_)
    refine Ev.bind (of_ev s l h.len _ _ _ _ (packBig (n := (X ++ s.extract a e).size) (by rw [List.length_append, ByteArray.size_append, hC, hbd a e hae (Nat.le_refl _)]) (by have := hq.1; omega))) (ev_val (Ev.now _) ?_)
    rw [of_ok h fr e _ _ hfe he (by rw [List.length_append, ByteArray.size_append, hC, hbd a e hae (Nat.le_refl _)]) hq.1 hq.2]
    rw [← hT, ← hB, bld_nil]
    rfl
  | cons p ps ih =>
    intro i a X C hd hi ha hsp hC hT hB
    have hap : a ≤ p := hsp.1
    have hpe := spaced_le hsp.2
    have hpe' : p < e := by omega
    have hi' : i + ps.length + 1 = all.length := by rw [List.length_cons] at hi; omega
    rw [bld_cons] at hT
    have hB' : C ++ (((bytes l).take p).drop a ++ (List.replicate rep.size y ++ buildS (bytes l) (List.replicate rep.size y) pat.size (p + pat.size) ps e)) = buildS (bytes l) (List.replicate rep.size y) pat.size fr all e := hB
    have hz : (X ++ (s.extract a p ++ (rep ++ bld s rep pat.size (p + pat.size) ps e))).size ≤ 4096 := by
      have hq := hF (bld s rep pat.size fr all e) (List.replicate (bld s rep pat.size fr all e).size 0) List.length_replicate rfl
      rw [hT]; exact hq.1
    rw [ByteArray.size_append, ByteArray.size_append, ByteArray.size_append] at hz
    have hb1 := hbd a p hap (by omega)
    refine Ev.step (fun k => by simp only [subst_Do.l1]; rfl) ?_
    rw [rd_at hd, hlen]
    refine Ev.pos (by omega) (Ev.pos (by omega) (Ev.pos (by omega) (Ev.bind (cut_ev' h a p hap (by omega)) (Ev.bind (cat_ev' X (s.extract a p) C _ hC hb1 (by omega)) (Ev.pos (by omega) (Ev.bind (cat_ev' (X ++ s.extract a p) rep _ _ (by rw [List.length_append, ByteArray.size_append, hC, hb1]) hR (by rw [ByteArray.size_append]; omega)) ?_))))))
    rw [wadd1 i (by omega), wadd p pat.size (by omega), ← hlen]
    refine ih (i + 1) (p + pat.size) _ _ ?_ (by omega) (by omega) hsp.2 ?_ ?_ ?_
    · rw [← List.drop_drop, hd]; rfl
    · rw [List.length_append, List.length_append, ByteArray.size_append, ByteArray.size_append, hC, hb1, hR]
    · rw [← hT]; exact data_inj (by simp only [app_list, List.append_assoc])
    · rw [← hB']; simp only [List.append_assoc]
end Go.Proofs.Ytnbdldpjiofafaa.PB
end

section
namespace Go.Proofs.Ytnbdldpjiofafaa.PB
open Go.RowKit Go.Proofs.YtnbdldpjiofafaaW.PrintWords
set_option linter.unusedVariables false
set_option maxHeartbeats 1000000
section
variable {s : ByteArray} {l : List S51} {y : Int}
theorem lineP_spaced (v s pat : ByteArray) (l : List S51) (y : Int) (every : Bool) (hp : 1 ≤ pat.size) (n : Nat) (h : n < (ends v).length) :
    spaced pat.size (lineFrom v n) (lineP v s pat l y every n) (lineTo v n) ∧ ∀ p ∈ lineP v s pat l y every n, hitS s.data.toList pat.data.toList (bytes l) y (lineTo v n) p = true := by
  have hr := line_range v n h
  rw [Lib.size_eq] at hp ⊢
  exact places_spaced (every := every) (hit := hitS s.data.toList pat.data.toList (bytes l) y (lineTo v n)) (m := pat.data.toList.length) (e := lineTo v n) hp (fun k hk => (hitS_iff.1 hk).1) (lineTo v n - lineFrom v n) (lineFrom v n) (Nat.le_refl _) hr.1
theorem lineP_len (v s pat : ByteArray) (l : List S51) (y : Int) (every : Bool) (hp : 1 ≤ pat.size) (n : Nat) (h : n < (ends v).length) : (lineP v s pat l y every n).length ≤ v.size := by
  have hr := line_range v n h
  have q1 := (lineP_spaced v s pat l y every hp n h).1
  have q2 := spaced_len hp q1
  have q3 := Nat.le_mul_of_pos_right (lineP v s pat l y every n).length hp
  omega
theorem allP_spaced (v s pat : ByteArray) (l : List S51) (y : Int) (every : Bool) (hp : 1 ≤ pat.size) : ∀ (d n : Nat), n + d < (ends v).length →
    spaced pat.size (lineFrom v n) (allP (lineP v s pat l y every) n (d + 1)) (lineTo v (n + d)) ∧ ∀ p ∈ allP (lineP v s pat l y every) n (d + 1), ∃ q, n ≤ q ∧ q ≤ n + d ∧ p ∈ lineP v s pat l y every q ∧ hitS s.data.toList pat.data.toList (bytes l) y (lineTo v q) p = true := by
  intro d
  induction d with
  | zero =>
    intro n hn
    obtain ⟨q1, q2⟩ := lineP_spaced v s pat l y every hp n hn
    simp only [allP, List.append_nil, Nat.add_zero]
    exact ⟨q1, fun p hp => ⟨n, Nat.le_refl _, Nat.le_refl _, hp, q2 p hp⟩⟩
  | succ d ih =>
    intro n hn
    obtain ⟨q1, q2⟩ := lineP_spaced v s pat l y every hp n (by omega)
    obtain ⟨i1, i2⟩ := ih (n + 1) (by omega)
    have hnx := line_next v n (by omega)
    rw [show n + 1 + d = n + (d + 1) by omega] at i1
    rw [show allP (lineP v s pat l y every) n (d + 1 + 1) = lineP v s pat l y every n ++ allP (lineP v s pat l y every) (n + 1) (d + 1) from rfl]
    refine ⟨spaced_app q1 (spaced_mono (by omega) i1), fun p hpm => ?_⟩
    rcases List.mem_append.1 hpm with hpm | hpm
    · exact ⟨n, Nat.le_refl _, by omega, hpm, q2 p hpm⟩
    · obtain ⟨q, w1, w2, w3, w4⟩ := i2 p hpm
      exact ⟨q, by omega, by omega, w3, w4⟩
theorem sub_lines_ev (h : Fine s l y) (v pat rep : ByteArray) (every : Bool) (hv : v.size = s.size) (hp : 1 ≤ pat.size) (A : Int) (B : Nat) (hB : B < (ends v).length) (r : DX) :
    ∀ (d n : Nat) (acc : List Int), n + d = B + 1 → acc.length ≤ n * 5000 → Ev (fun k => subst_Do.l0 k y v (acc ++ ints (allP (lineP v s pat l y every) n d)) ((B + 1 : Nat) : Int) s l A (B : Int) pat rep every) r →
      Ev (fun k => subst_Do.l0 k y v acc (n : Int) s l A (B : Int) pat rep every) r := by
  have h4 := h.size.1
  have hends := ends_len_le v
  intro d
  induction d with
  | zero =>
    intro n acc hn hacc hr
    have : n = B + 1 := by omega
    subst this
    rw [show allP (lineP v s pat l y every) (B + 1) 0 = [] from rfl, show ints [] = [] from rfl, List.append_nil] at hr
    exact hr
  | succ d ih =>
    intro n acc hn hacc hr
    have hne : n < (ends v).length := by omega
    have hrg := line_range v n hne
    have hpl := lineP_len v s pat l y every hp n hne
    have hb := bounds_ev v (by omega) n hne
    have hps := places_ev h A (B : Int) pat rep every hp (lineFrom v n) (lineTo v n) hrg.1 (by omega)
    refine Ev.step (fun k => by simp only [subst_Do.l0]; rfl) (Ev.pos (by omega) (Ev.bind hb (Ev.bind hps ?_)))
    have hl1 : (ints (lineP v s pat l y every n)).length = (lineP v s pat l y every n).length := List.length_map _
    rw [wadd1 n (by omega)]
    refine Ev.pos ?_ (ih (n + 1) _ (by omega) ?_ ?_)
    · show acc.length + (ints (lineP v s pat l y every n)).length < _
      omega
    · show (acc ++ ints (lineP v s pat l y every n)).length ≤ _
      rw [List.length_append]
      omega
    · show Ev (fun k => subst_Do.l0 k y v ((acc ++ ints (lineP v s pat l y every n)) ++ ints (allP (lineP v s pat l y every) (n + 1) d)) ((B + 1 : Nat) : Int) s l A (B : Int) pat rep every) r
      rw [show allP (lineP v s pat l y every) n (d + 1) = lineP v s pat l y every n ++ allP (lineP v s pat l y every) (n + 1) d from rfl, show ints (lineP v s pat l y every n ++ allP (lineP v s pat l y every) (n + 1) d) = ints (lineP v s pat l y every n) ++ ints (allP (lineP v s pat l y every) (n + 1) d) from List.map_append, ← List.append_assoc] at hr
      exact hr
theorem wcount (n a b z : Nat) (hn : n ≤ 5000) (ha : a ≤ 5000) (hb : b ≤ 5000) (hz : z ≤ 5000) : wrap64 ((z : Int) + wrap64 ((n : Int) * wrap64 ((a : Int) - (b : Int)))) = (z : Int) + (((n * a : Nat) : Int) - ((n * b : Nat) : Int)) := by
  have h1 : n * a ≤ 5000 * 5000 := Nat.mul_le_mul hn ha
  have h2 : n * b ≤ 5000 * 5000 := Nat.mul_le_mul hn hb
  rw [show wrap64 ((a : Int) - (b : Int)) = (a : Int) - (b : Int) by unfold wrap64; omega, Int.mul_sub, ← Int.natCast_mul, ← Int.natCast_mul]
  generalize n * a = u at *
  generalize n * b = w at *
  rw [show wrap64 ((u : Int) - (w : Int)) = (u : Int) - (w : Int) by unfold wrap64; omega]
  unfold wrap64
  omega
def tailD (s : ByteArray) (l : List S51) (y : Int) (fr e : Nat) (ps : List Nat) (pat rep : ByteArray) : DX :=
  if ps.length = 0 then badD 6 else if (s.size : Int) + (((ps.length * rep.size : Nat) : Int) - ((ps.length * pat.size : Nat) : Int)) > 4096 then badD 3
  else okD s l fr e (bld s rep pat.size fr ps e) (buildS (bytes l) (List.replicate rep.size y) pat.size fr ps e) (ps.length : Int)
theorem bld_room (s rep : ByteArray) (m fr e : Nat) (ps : List Nat) (hs : spaced m fr ps e) (he : e ≤ s.size) (h4 : s.size ≤ 4096) (hc : ¬ (s.size : Int) + (((ps.length * rep.size : Nat) : Int) - ((ps.length * m : Nat) : Int)) > 4096) :
    (bld s rep m fr ps e).size ≤ 4096 ∧ (s.size : Int) - ((e : Int) - (fr : Int)) + ((bld s rep m fr ps e).size : Int) = (s.size : Int) + (((ps.length * rep.size : Nat) : Int) - ((ps.length * m : Nat) : Int)) := by
  have hb := build_len s.data.toList rep.data.toList m ps fr e (by rw [← Lib.size_eq]; exact he) hs
  have hle := spaced_le hs
  rw [← bld_size, ← Lib.size_eq] at hb
  generalize (bld s rep m fr ps e).size = u at *
  generalize ps.length * rep.size = x at *
  generalize ps.length * m = z at *
  generalize s.size = n at *
  omega
theorem sub_tail_ev (h : Fine s l y) (v pat rep : ByteArray) (every : Bool) (hv : v.size = s.size) (hp : 1 ≤ pat.size) (hp4 : pat.size ≤ 5000) (hr4 : rep.size ≤ 4096) (A B : Nat) (hAB : A ≤ B) (hB : B < (ends v).length) (ps : List Nat) (hps : spaced pat.size (lineFrom v A) ps (lineTo v B)) :
    Ev (fun k => subst_Do.l0 k y v (ints ps) ((B + 1 : Nat) : Int) s l (A : Int) (B : Int) pat rep every) (tailD s l y (lineFrom v A) (lineTo v B) ps pat rep) := by
  have h4 := h.size.1
  have hle := spaced_le hps
  have hz := spaced_len hp hps
  have hz2 := Nat.le_mul_of_pos_right ps.length hp
  have hrA := line_range v A (by omega)
  have hrB := line_range v B hB
  have hil : (ints ps).length = ps.length := List.length_map _
  have hn5 : ps.length ≤ 5000 := by omega
  have hbA := bounds_ev v (by omega) A (by omega)
  have hbB := bounds_ev v (by omega) B hB
  have hmk : makeS rep y = (rep, pack (List.replicate rep.size y), 0) := by unfold makeS; rw [if_neg (by omega)]
  have hbl := fun hc => bld_room s rep pat.size (lineFrom v A) (lineTo v B) ps hps (by omega) h4 hc
  refine Ev.step (fun k => by simp only [subst_Do.l0]; rfl) (Ev.neg (by omega) ?_)
  rw [hil, wcount ps.length rep.size pat.size s.size hn5 (by omega) hp4 (by omega)]
  unfold tailD
  by_cases h0 : ps.length = 0
  · rw [if_pos h0]
    exact Ev.pos (by omega) (Ev.now _)
  · rw [if_neg h0]
    refine Ev.neg (by omega) ?_
    by_cases hc : (s.size : Int) + (((ps.length * rep.size : Nat) : Int) - ((ps.length * pat.size : Nat) : Int)) > 4096
    · rw [if_pos hc]
      exact Ev.pos hc (Ev.now _)
    · rw [if_neg hc]
      refine Ev.neg hc (Ev.bind (ev_val (make_ev rep y) hmk) (Ev.bind hbA (Ev.bind hbB (Ev.pos (by omega) (Ev.bind (Ev.now _) ?_)))))
      have hq := hbl hc
      have hF := fwd_ev h (A : Int) (B : Int) pat rep every (lineFrom v A) (lineTo v B) (ints ps) ps hp hle (by omega) hn5 (fun T D _ hT => by subst hT; exact ⟨hq.1, by rw [hq.2]; omega⟩) ps 0 (lineFrom v A) ⟨#[]⟩ [] rfl (by omega) (by omega) hps rfl (data_inj (by rw [app_list]; rfl)) rfl
      rw [hil] at hF
      exact hF
end
end Go.Proofs.Ytnbdldpjiofafaa.PB
end

section
namespace Go.Proofs.Ytnbdldpjiofafaa.PB
open Go.RowKit Go.Proofs.YtnbdldpjiofafaaW.PrintWords
set_option linter.unusedVariables false
set_option maxHeartbeats 1000000
theorem has10 (pat : ByteArray) : strings_Contains.f pat ⟨#[10]⟩ = some (decide ((10 : UInt8) ∈ pat.data.toList)) := by
  unfold strings_Contains.f
  rw [if_pos (show (⟨#[10]⟩ : ByteArray).size = 1 from rfl)]
  congr 1
  rw [decide_eq_decide]
  rw [show (⟨#[10]⟩ : ByteArray).data.toList.getD 0 0 = 10 from rfl]
  rcases ib_cases pat.data.toList with ⟨h, hn⟩ | ⟨o, h, ho, h1, h2⟩
  · rw [h]
    exact ⟨fun q => absurd q (by decide), fun q => absurd rfl (hn _ q)⟩
  · rw [h]
    exact ⟨fun _ => List.mem_of_getElem? h1, fun _ => by omega⟩
def mayD (v : ByteArray) (A B : Int) (pat rep : ByteArray) : Bool :=
  decide (0 ≤ A) && (decide (A ≤ B) && (decide (B < ((ends v).length : Int)) && (decide (1 ≤ pat.size) && (!decide ((10 : UInt8) ∈ pat.data.toList) && decide (rep.size ≤ 4096)))))
theorem mayD_iff {v : ByteArray} {A B : Int} {pat rep : ByteArray} : mayD v A B pat rep = true ↔ 0 ≤ A ∧ A ≤ B ∧ B < ((ends v).length : Int) ∧ 1 ≤ pat.size ∧ ¬ (10 : UInt8) ∈ pat.data.toList ∧ rep.size ≤ 4096 := by simp [mayD]
def doG (s : ByteArray) (l : List S51) (y : Int) (v : ByteArray) (A B : Nat) (pat rep : ByteArray) (every : Bool) : DX :=
  tailD s l y (lineFrom v A) (lineTo v B) (allP (lineP v s pat l y every) A (B + 1 - A)) pat rep
def doD (s : ByteArray) (l : List S51) (y A B : Int) (pat rep : ByteArray) (every : Bool) : DX :=
  if goodT s l = true ∧ mayD (viewS s l y).1 A B pat rep = true then doG s l y (viewS s l y).1 A.toNat B.toNat pat rep every else badD 2
theorem view_size {s : ByteArray} {l : List S51} {y : Int} (h : goodT s l = true) : (viewS s l y).1.size = s.size ∧ (viewS s l y).2 = 0 := by
  obtain ⟨g1, g2, g3, g4, g5⟩ := goodT_facts h
  unfold viewS
  rw [if_pos h]
  refine ⟨?_, rfl⟩
  show (strOfNums _).size = _
  rw [strOfNums_size, hideAll_len, bytesOf_len, g3, Nat.min_self]
theorem sub_may_ev {s : ByteArray} {l : List S51} {y : Int} (h : Fine s l y) (v pat rep : ByteArray) (every : Bool) (hv : v.size = s.size) (hp4 : pat.size ≤ 5000) (A B : Int) (hm : mayD v A B pat rep = true) :
    Ev (fun k => subst_Do.j0 k y v false s l A B pat rep every) (doG s l y v A.toNat B.toNat pat rep every) := by
  obtain ⟨h1, h2, h3, h4, h5, h6⟩ := mayD_iff.1 hm
  obtain ⟨a, rfl⟩ := Int.eq_ofNat_of_zero_le h1
  obtain ⟨b, rfl⟩ := Int.eq_ofNat_of_zero_le (show 0 ≤ B by omega)
  have hb : b < (ends v).length := by omega
  have hab : a ≤ b := by omega
  have hsp := (allP_spaced v s pat l y every h4 (b - a) a (by omega)).1
  rw [show a + (b - a) = b by omega, show b - a + 1 = b + 1 - a by omega] at hsp
  refine Ev.step (fun k => by simp only [subst_Do.j0]; rfl) (Ev.neg (by simp) ?_)
  rw [Int.toNat_natCast, Int.toNat_natCast]
  exact sub_lines_ev h v pat rep every hv h4 (a : Int) b hb _ (b + 1 - a) a [] (by omega) (by simp) (by rw [List.nil_append]; exact sub_tail_ev h v pat rep every hv h4 hp4 h6 a b hab hb _ hsp)
theorem do_ev (s : ByteArray) (l : List S51) (y A B : Int) (pat rep : ByteArray) (every : Bool) (hl : l.length ≤ big) (hw : ∀ r ∈ l, 0 ≤ r.f0 ∧ r.f0 < 18446744073709551616) (hy : 0 ≤ y ∧ y < 18446744073709551616) (hp4 : pat.size ≤ 5000) :
    Ev (fun k => subst_Do.f k s l y A B pat rep every) (doD s l y A B pat rep every) := by
  have bad : ∀ v, Ev (fun k => subst_Do.j0 k y v true s l A B pat rep every) (badD 2) := fun v => Ev.step (fun k => by simp only [subst_Do.j0]; rfl) (Ev.pos (c := true = true) rfl (Ev.now _))
  unfold subst_Do.f doD
  refine Ev.bind (view_ev s l hl y) ?_
  by_cases hg : goodT s l = true
  case neg =>
    rw [if_neg (fun q => hg q.1)]
    refine Ev.neg ?_ (bad _)
    unfold viewS
    rw [if_neg hg]
    decide
  obtain ⟨hv, hv2⟩ := view_size (y := y) hg
  refine Ev.pos hv2 ?_
  have hF : Fine s l y := ⟨hg, hl, hw, hy⟩
  have hend := ends_len_le (viewS s l y).1
  have h4 := hF.size.1
  have hcnt := count_ev (viewS s l y).1 (by omega)
  have hgo := sub_may_ev hF (viewS s l y).1 pat rep every hv hp4 A B
  generalize (viewS s l y).1 = v at *
  clear hv2
  by_cases hm : mayD v A B pat rep = true
  · rw [if_pos ⟨hg, hm⟩]
    obtain ⟨m1, m2, m3, m4, m5, m6⟩ := mayD_iff.1 hm
    refine Ev.neg (by omega) (Ev.neg (by omega) ?_)
    rw [hcnt, has10, decide_eq_false m5, decide_eq_false (show ¬ ((rep.size : Int) > 4096) by omega)]
    refine Ev.bind (Ev.now _) (Ev.neg (by omega) (Ev.neg ?_ (Ev.bind (Ev.now _) (Ev.neg (by simp) (hgo hm)))))
    rw [toList_data]
    intro q
    have hz := (Lib.size_eq pat).trans (congrArg List.length q)
    rw [List.length_nil] at hz
    omega
  · rw [if_neg (fun q => hm q.2)]
    refine Ev.ite' (fun _ => bad _) (fun m1 => Ev.ite' (fun _ => bad _) (fun m2 => ?_))
    rw [hcnt, has10]
    refine Ev.bind (Ev.now _) (Ev.ite' (fun _ => bad _) (fun m3 => Ev.ite' (fun _ => bad _) (fun m4 => Ev.bind (Ev.now _) (Ev.ite' (fun _ => bad _) (fun m5 => ?_)))))
    have : decide ((rep.size : Int) > 4096) = true := by
      rw [decide_eq_true_eq]
      refine Int.not_le.1 (fun q => hm (mayD_iff.2 ⟨by omega, by omega, by omega, ?_, by simpa using m5, by omega⟩))
      rcases Nat.eq_zero_or_pos pat.size with z | z
      · refine absurd ?_ m4
        rw [toList_data]
        rw [Lib.size_eq] at z
        exact List.eq_nil_of_length_eq_zero z
      · exact z
    rw [this]
    exact bad _
end Go.Proofs.Ytnbdldpjiofafaa.PB
end

section
namespace Go.Proofs.Ytnbdldpjiofafaa.PB
open Go.RowKit Go.Proofs.YtnbdldpjiofafaaW.PrintWords
set_option linter.unusedVariables false
set_option maxHeartbeats 1000000
theorem bld_lab (s rep : ByteArray) (l : List S51) (y : Int) (m fr e : Nat) (ps : List Nat) (hs : spaced m fr ps e) (he : e ≤ s.size) (hL : (bytes l).length = s.size) :
    (buildS (bytes l) (List.replicate rep.size y) m fr ps e).length = (bld s rep m fr ps e).size := by
  have h1 := build_len s.data.toList rep.data.toList m ps fr e (by rw [← Lib.size_eq]; exact he) hs
  have h2 := build_len (bytes l) (List.replicate rep.size y) m ps fr e (by omega) hs
  rw [← bld_size, ← Lib.size_eq] at h1
  rw [List.length_replicate] at h2
  generalize ps.length * rep.size = x at *
  generalize ps.length * m = z at *
  omega
section
variable {s : ByteArray} {l : List S51} {y : Int}
end
end Go.Proofs.Ytnbdldpjiofafaa.PB
end

section
namespace Go.Proofs.Ytnbdldpjiofafaa.PB
open Go.RowKit Go.Proofs.YtnbdldpjiofafaaW.PrintWords
set_option linter.unusedVariables false
set_option maxHeartbeats 1000000
section
variable {y : Int} {s s' : ByteArray} {l l' : List S51}
theorem hide_seen {x c c' : Int} (h : hide y x c = hide y x c') (hs : seen x y = true) : c = c' := by
  unfold hide at h
  rw [if_pos hs, if_pos hs] at h
  exact h
theorem alike_at (h : Alike y s l s' l') (hg : goodT s l = true) (i : Nat) (hi : i < s.size) (hs : seen ((bytes l).getD i 0) y = true) : s.data.toList.getD i 0 = s'.data.toList.getD i 0 := by
  obtain ⟨hl, hz, hh⟩ := h
  have h2 := hh hg
  obtain ⟨g1, g2, g3, g4, g5⟩ := goodT_facts hg
  have e := congrArg (fun L : List Int => L.getD i 0) h2
  change (hideAll y (bytes l) (bytesOf s)).getD i 0 = (hideAll y (bytes l) (bytesOf s')).getD i 0 at e
  rw [hideAll_getD _ _ _ _ (by omega) (by rw [bytesOf_len]; omega), hideAll_getD _ _ _ _ (by omega) (by rw [bytesOf_len]; omega), bytesOf_getD s i hi, bytesOf_getD s' i (by omega)] at e
  have := hide_seen e hs
  exact UInt8.toNat_inj.1 (by omega)
theorem take_drop_getD {α : Type} (L M : List α) (p n : Nat) (d : α) (hL : p + n ≤ L.length) (hM : p + n ≤ M.length) (h : ∀ i, p ≤ i → i < p + n → L.getD i d = M.getD i d) : (L.drop p).take n = (M.drop p).take n := by
  refine List.ext_getElem (by rw [List.length_take, List.length_take, List.length_drop, List.length_drop]; omega) (fun i h1 h2 => ?_)
  rw [List.length_take, List.length_drop] at h1
  have := h (p + i) (by omega) (by omega)
  rw [List.getD_eq_getElem?_getD, List.getD_eq_getElem?_getD, List.getElem?_eq_getElem (show p + i < L.length by omega), List.getElem?_eq_getElem (show p + i < M.length by omega)] at this
  rw [List.getElem_take, List.getElem_take, List.getElem_drop, List.getElem_drop]
  exact this
theorem alike_hit1 (h : Alike y s l s' l') (hg : goodT s l = true) (pat : List UInt8) (e p : Nat) (he : e ≤ s.size) (hh : hitS s.data.toList pat (bytes l) y e p = true) : hitS s'.data.toList pat (bytes l') y e p = true := by
  obtain ⟨h1, h2, h3⟩ := hitS_iff.1 hh
  have hl := h.runs
  have hz := h.size
  obtain ⟨g1, g2, g3, g4, g5⟩ := goodT_facts hg
  rw [← hl]
  refine hitS_iff.2 ⟨h1, ?_, h3⟩
  refine (take_drop_getD s.data.toList s'.data.toList p pat.length 0 (by rw [← Lib.size_eq]; omega) (by rw [← Lib.size_eq]; omega) (fun i i1 i2 => ?_)).symm.trans h2
  refine alike_at h hg i (by omega) ?_
  rw [List.all_eq_true] at h3
  refine h3 _ ?_
  rw [List.getD_eq_getElem?_getD, List.getElem?_eq_getElem (show i < (bytes l).length by omega)]
  show (bytes l)[i] ∈ _
  rw [List.mem_take_iff_getElem]
  refine ⟨i - p, by rw [List.length_drop]; omega, ?_⟩
  rw [List.getElem_drop]
  congr 1
  omega
end
end Go.Proofs.Ytnbdldpjiofafaa.PB
end

section
namespace Go.Proofs.Ytnbdldpjiofafaa.PB
open Go.RowKit Go.Proofs.YtnbdldpjiofafaaW.PrintWords
set_option linter.unusedVariables false
set_option maxHeartbeats 1000000
theorem alive15 : bureaulaw15_alive.f 80 = some true := by decide +kernel
theorem alive15_ev : Ev (fun k => bureaulaw15_alive.f k) true := Ev.of (bureaulaw15_alive.mono) alive15
def fitD (s : ByteArray) (l : List S51) (pat rep : ByteArray) : Prop := s.size ≤ 1024 ∧ l.length ≤ 5000 ∧ pat.size ≤ 5000 ∧ rep.size ≤ 5000
instance (s : ByteArray) (l : List S51) (pat rep : ByteArray) : Decidable (fitD s l pat rep) := inferInstanceAs (Decidable (_ ∧ _))
theorem fits15_eq (s : ByteArray) (l : List S51) (A B : Int) (pat rep : ByteArray) (every : Bool) : bureaulaw15_fits.f s l A B pat rep every = some (decide (fitD s l pat rep)) := by
  unfold bureaulaw15_fits.f bureaulaw14_Fits.f
  by_cases h1 : s.size ≤ 1024
  · rw [if_pos (by omega), Option.bind_some]
    by_cases h2 : l.length ≤ 5000
    · rw [if_pos (by rw [decide_eq_true_eq]; omega)]
      by_cases h3 : pat.size ≤ 5000
      · rw [if_pos (by omega)]
        congr 1
        rw [decide_eq_decide]
        unfold fitD
        omega
      · rw [if_neg (by omega)]
        congr 1
        symm
        rw [decide_eq_false_iff_not]
        exact fun q => h3 q.2.2.1
    · rw [if_neg (by rw [decide_eq_true_eq]; omega)]
      congr 1
      symm
      rw [decide_eq_false_iff_not]
      exact fun q => h2 q.2.1
  · rw [if_neg (by omega), Option.bind_some, if_neg (by decide)]
    congr 1
    symm
    rw [decide_eq_false_iff_not]
    exact fun q => h1 q.1
theorem fitBig {s : ByteArray} {l : List S51} {pat rep : ByteArray} (h : fitD s l pat rep) : l.length ≤ big := by have := h.2.1; unfold big; omega
end Go.Proofs.Ytnbdldpjiofafaa.PB
end

section
namespace Go.Proofs.Ytnbdldpjiofafaa.PB
open Go.RowKit Go.Proofs.YtnbdldpjiofafaaW.PrintWords
set_option linter.unusedVariables false
set_option maxHeartbeats 1000000
section
variable {y : Int} {s s' : ByteArray} {l : List S51}
theorem Alike.back (h : Alike y s l s' l) (hg : goodT s l = true) : Alike y s' l s l := ⟨rfl, h.size.symm, fun _ => (h.view hg).symm⟩
theorem alike_hit (h : Alike y s l s' l) (hg : goodT s l = true) (pat : List UInt8) (e : Nat) (he : e ≤ s.size) : hitS s.data.toList pat (bytes l) y e = hitS s'.data.toList pat (bytes l) y e := by
  funext p
  rw [Bool.eq_iff_iff]
  exact ⟨alike_hit1 h hg pat e p he, alike_hit1 (h.back hg) (h.good ▸ hg) pat e p (by have := h.size; omega)⟩
theorem alike_view (h : Alike y s l s' l) (hg : goodT s l = true) : viewS s l y = viewS s' l y := by
  unfold viewS
  rw [if_pos hg, if_pos (h.good ▸ hg), h.view hg]
theorem allP_congr {f g : Nat → List Nat} : ∀ (d n : Nat), (∀ q, n ≤ q → q < n + d → f q = g q) → allP f n d = allP g n d
  | 0, n, _ => rfl
  | d + 1, n, h => by rw [allP, allP, h n (Nat.le_refl _) (by omega), allP_congr d (n + 1) (fun q h1 h2 => h q (by omega) (by omega))]
theorem alike_ps (h : Alike y s l s' l) (hg : goodT s l = true) (v pat : ByteArray) (every : Bool) (hv : v.size = s.size) (a b : Nat) (hb : b < (ends v).length) : allP (lineP v s pat l y every) a (b + 1 - a) = allP (lineP v s' pat l y every) a (b + 1 - a) := by
  refine allP_congr _ _ (fun q h1 h2 => ?_)
  unfold lineP
  have := (line_range v q (by omega)).2
  rw [alike_hit h hg _ _ (by omega)]
theorem bytesOf_bld (s rep : ByteArray) (m fr e : Nat) (ps : List Nat) : bytesOf (bld s rep m fr ps e) = buildS (bytesOf s) (bytesOf rep) m fr ps e := by
  unfold bytesOf
  rw [bld_list, build_map]
theorem alike_bld (h : Alike y s l s' l) (hg : goodT s l = true) (rep : ByteArray) (m fr e : Nat) (ps : List Nat) (hs : spaced m fr ps e) (he : e ≤ s.size) (hT : (bld s rep m fr ps e).size ≤ 4096) :
    goodT (bld s rep m fr ps e) (pack (buildS (bytes l) (List.replicate rep.size y) m fr ps e)) = true ∧
    Alike y (bld s rep m fr ps e) (pack (buildS (bytes l) (List.replicate rep.size y) m fr ps e)) (bld s' rep m fr ps e) (pack (buildS (bytes l) (List.replicate rep.size y) m fr ps e)) := by
  obtain ⟨g1, g2, g3, g4, g5⟩ := goodT_facts hg
  have hz := h.size
  have l1 := bld_lab s rep l y m fr e ps hs he g3
  have l2 := bld_lab s' rep l y m fr e ps hs (by omega) (by omega)
  refine ⟨goodT_pack l1 hT, rfl, by omega, fun _ => ?_⟩
  rw [pack_bytes, bytesOf_bld, bytesOf_bld]
  have hv := h.view hg
  unfold hideAll at hv ⊢
  rw [build_zip _ _ _ _ _ m (by rw [bytesOf_len, g3]) (by rw [bytesOf_len, List.length_replicate]), build_zip _ _ _ _ _ m (by rw [bytesOf_len, g3, hz]) (by rw [bytesOf_len, List.length_replicate]), hv]
theorem alike_do (h : Alike y s l s' l) (hl : l.length ≤ big) (hw : ∀ r ∈ l, 0 ≤ r.f0 ∧ r.f0 < 18446744073709551616) (hy : 0 ≤ y ∧ y < 18446744073709551616) (A B : Int) (pat rep : ByteArray) (every : Bool) :
    (∃ c : Int, doD s l y A B pat rep every = badD c ∧ doD s' l y A B pat rep every = badD c) ∨
    ∃ (fr e : Nat) (T T' : ByteArray) (D : List Int) (n : Int), rangeL D ∧ D.length = T.size ∧ T.size ≤ 4096 ∧ fr ≤ e ∧ e ≤ s.size ∧ goodT s l = true ∧ doD s l y A B pat rep every = okD s l fr e T D n ∧ doD s' l y A B pat rep every = okD s' l fr e T' D n ∧ goodT T (pack D) = true ∧ Alike y T (pack D) T' (pack D) := by
  have hgg := h.good
  unfold doD
  by_cases hg : goodT s l = true
  case neg => exact .inl ⟨2, by rw [if_neg (fun q => hg q.1)], by rw [if_neg (fun q => hg (hgg.trans q.1))]⟩
  have hg' : goodT s' l = true := hgg ▸ hg
  rw [← alike_view h hg]
  have hvz := (view_size (y := y) hg).1
  generalize (viewS s l y).1 = v at *
  by_cases hm : mayD v A B pat rep = true
  case neg => exact .inl ⟨2, by rw [if_neg (fun q => hm q.2)], by rw [if_neg (fun q => hm q.2)]⟩
  rw [if_pos ⟨hg, hm⟩, if_pos ⟨hg', hm⟩]
  obtain ⟨h1, h2, h3, h4, h5, h6⟩ := mayD_iff.1 hm
  obtain ⟨a, rfl⟩ := Int.eq_ofNat_of_zero_le h1
  obtain ⟨b, rfl⟩ := Int.eq_ofNat_of_zero_le (show 0 ≤ B by omega)
  have hb : b < (ends v).length := by omega
  have hab : a ≤ b := by omega
  have hsp := (allP_spaced v s pat l y every h4 (b - a) a (by omega)).1
  rw [show a + (b - a) = b by omega, show b - a + 1 = b + 1 - a by omega] at hsp
  have hle := spaced_le hsp
  have hr := (line_range v b hb).2
  unfold doG
  rw [Int.toNat_natCast, Int.toNat_natCast, ← alike_ps h hg v pat every hvz a b hb]
  generalize hps : allP (lineP v s pat l y every) a (b + 1 - a) = ps at *
  unfold tailD
  rw [← h.size]
  by_cases h0 : ps.length = 0
  · exact .inl ⟨6, by rw [if_pos h0], by rw [if_pos h0]⟩
  rw [if_neg h0, if_neg h0]
  by_cases hc : (s.size : Int) + (((ps.length * rep.size : Nat) : Int) - ((ps.length * pat.size : Nat) : Int)) > 4096
  · exact .inl ⟨3, by rw [if_pos hc], by rw [if_pos hc]⟩
  rw [if_neg hc, if_neg hc]
  have hF : Fine s l y := ⟨hg, hl, hw, hy⟩
  have hes : lineTo v b ≤ s.size := by omega
  have hroom := (bld_room s rep pat.size (lineFrom v a) (lineTo v b) ps hsp hes hF.size.1 hc).1
  have hal := alike_bld h hg rep pat.size (lineFrom v a) (lineTo v b) ps hsp hes hroom
  refine .inr ⟨lineFrom v a, lineTo v b, _, _, _, _, ?_, bld_lab s rep l y pat.size _ _ ps hsp hes hF.size.2, hroom, hle, hes, hg, rfl, rfl, hal.1, hal.2⟩
  have hmem : ∀ (ps : List Nat) (a e : Nat) (x : Int), x ∈ buildS (bytes l) (List.replicate rep.size y) pat.size a ps e → x ∈ bytes l ∨ x = y := by
    intro ps
    induction ps with
    | nil => intro a e x hx; exact .inl (List.mem_of_mem_take (List.mem_of_mem_drop hx))
    | cons p ps ih =>
      intro a e x hx
      rw [buildS, List.mem_append, List.mem_append] at hx
      rcases hx with hx | hx | hx
      · exact .inl (List.mem_of_mem_take (List.mem_of_mem_drop hx))
      · exact .inr (List.eq_of_mem_replicate hx)
      · exact ih _ _ _ hx
  intro x hx
  rcases hmem _ _ _ _ hx with q | q
  · exact hF.range x q
  · rw [q]; exact hy
theorem pack_lab {D : List Int} (h : rangeL D) : ∀ r ∈ pack D, 0 ≤ r.f0 ∧ r.f0 < 18446744073709551616 := by
  intro r hrm
  have hm : r.f0 ∈ bytes (pack D) := by
    unfold bytes
    rw [List.mem_flatMap]
    have hpos : 1 ≤ r.f1 := nrm_pos (pack_nrm D) r hrm
    refine ⟨r, hrm, ?_⟩
    rw [List.mem_replicate]
    exact ⟨by omega, rfl⟩
  rw [pack_bytes] at hm
  exact h _ hm
theorem low_ok {T T' : ByteArray} {D : List Int} {n : Nat} (hD : D.length = n) (hn : n ≤ 20000) (hr : rangeL D) (hy : 0 ≤ y ∧ y < 18446744073709551616) (hg : goodT T (pack D) = true) (ha : Alike y T (pack D) T' (pack D)) : Ev (fun k => bureauref04_Low.f k T (pack D) T' (pack D) y) true :=
  ev_val (rlow_ev T (pack D) (packBig hD hn) T' (pack D) (packBig hD hn) y (pack_lab hr) (pack_lab hr) hy) (low_of_alike ha hg)
theorem low_bad (hy : 0 ≤ y ∧ y < 18446744073709551616) (c : Int) : Ev (fun k => bureauref04_Low.f k (badD c).2.1 (badD c).2.2.1 (badD c).2.1 (badD c).2.2.1 y) true ∧ Ev (fun k => bureauref04_Low.f k (badD c).2.2.2.1 (badD c).2.2.2.2.1 (badD c).2.2.2.1 (badD c).2.2.2.2.1 y) true := by
  have : Ev (fun k => bureauref04_Low.f k ⟨#[]⟩ [] ⟨#[]⟩ [] y) true := low_ok (T := ⟨#[]⟩) (T' := ⟨#[]⟩) (D := []) (n := 0) rfl (by omega) (fun x hx => absurd hx (by simp)) hy (goodT_pack rfl (by decide)) ⟨rfl, rfl, fun _ => rfl⟩
  exact ⟨this, this⟩
end
theorem SubstHides_pure (t : S24) (y : Int) (j : S46) (wt : wf24 t) (wy : (Lit.int .u64 y).wf = true) (wj : wf46 j) : ∃ k, bureaulaw15_SubstHides.f k t.f0 t.f1 y j.f0.f0 j.f0.f1 j.f0.f2 j.f0.f3 j.f0.f4 j.f1 = some true := by
  refine Ev.rounds (g := fun k => bureaulaw15_SubstHides.f k t.f0 t.f1 y j.f0.f0 j.f0.f1 j.f0.f2 j.f0.f3 j.f0.f4 j.f1) ?_
  have hw := wfT wt
  have hy := wf_u64 wy
  generalize t.f0 = s at *
  generalize t.f1 = l at *
  generalize j.f0.f0 = A at *
  generalize j.f0.f1 = B at *
  generalize j.f0.f2 = pat at *
  generalize j.f0.f3 = rep at *
  generalize j.f0.f4 = every at *
  generalize j.f1 = o at *
  clear wt wy wj
  unfold bureaulaw15_SubstHides.f
  refine Ev.bind alive15_ev (Ev.pos rfl ?_)
  rw [fits15_eq]
  have out : Ev (fun k => bureaulaw15_SubstHides.j0 k y true s l A B pat rep every o) true := by
    refine Ev.step (fun k => by simp only [bureaulaw15_SubstHides.j0]; rfl) ?_
    exact Ev.pos (by simp) (Ev.now _)
  refine Ev.bind (Ev.now _) (Ev.ite' (fun hf => ?_) (fun _ => out))
  have hf := of_decide_eq_true hf
  have hl := fitBig hf
  by_cases ho : (o.size : Int) > 5000
  case pos => rw [decide_eq_true ho]; exact out
  rw [decide_eq_false ho]
  refine Ev.step (fun k => by simp only [bureaulaw15_SubstHides.j0]; rfl) (Ev.neg (by simp) (Ev.bind (other_ev s l hl y o hw hy) ?_))
  have hal := other_alike s l y o
  have e2 : (otherS s l y o).2 = l := hal.runs.symm
  rw [e2] at hal ⊢
  generalize (otherS s l y o).1 = s' at *
  refine Ev.bind (do_ev s l y A B pat rep every hl hw hy hf.2.2.1) (Ev.bind (do_ev s' l y A B pat rep every hl hw hy hf.2.2.1) ?_)
  rcases alike_do hal hl hw hy A B pat rep every with ⟨c, e1, e2⟩ | ⟨fr, e, T, T', D, n, hD, hDl, hT, hfe, hes, hg, e1, e2, hgT, haT⟩
  · rw [e1, e2]
    exact Ev.pos rfl (Ev.pos rfl (Ev.pos rfl (Ev.bind (low_bad hy c).1 (Ev.pos rfl (Ev.bind (low_bad hy c).2 (Ev.now _))))))
  · rw [e1, e2]
    have hF : Fine s l y := ⟨hg, hl, hw, hy⟩
    have hF' : Fine s' l y := ⟨hal.good ▸ hg, hl, hw, hy⟩
    have hz := hal.size
    have hc := hal.cut (fr : Int) (e : Int)
    rw [cut_ok hF fr e hfe hes, cut_ok hF' fr e hfe (by omega)] at hc
    obtain ⟨c1, c2⟩ := hc.2 rfl
    have hL := hF.size
    exact Ev.pos rfl (Ev.pos rfl (Ev.pos rfl (Ev.bind (low_ok (n := e - fr) (by rw [List.length_drop, List.length_take]; omega) (by omega) (fun x hx => hF.range x (List.mem_of_mem_take (List.mem_of_mem_drop hx))) hy c1 c2) (Ev.pos rfl (Ev.bind (low_ok hDl (by omega) hD hy hgT haT) (Ev.now _))))))
end Go.Proofs.Ytnbdldpjiofafaa.PB
end

section
namespace Go.Proofs.Ytnbdldpjiofafaa.PB
open Go.ChangeShapes Go.WideShapes Go.ChangeAt Go.RowKit Go.Proofs.YtnbdldpjiofafaaW.PrintWords
open Go.ChangeMaps (open_string shut_string)
set_option linter.unusedVariables false
namespace substHides
open Go.Proofs.Ytnbdldpjiofafaa
theorem own : ownKnob Try.prog.godebug = none := by kernel_rfl
theorem laidOut : laidOutB Try.prog = true := by kernel_rfl
set_option maxRecDepth 100000 in
theorem lifted (os : Os) (started : os.Started) (H : Type) (enc : TypeId × Value → H) :
    ReturnsInHanded {} Try.checked os 7 .any (Rows.substHidesSpec.pre6 enc Try.prog Try.f7 Rows.substHidesRow.domain false) (Rows.substHidesSpec.post enc Try.prog Try.f7 false true false false) := by
  refine returnsInHanded_of_change_shaped (C := Try.checked) own started (by kernel_rfl) Try.func7
    (ChangeSpec.witness6 (enc := enc) (C := Try.checked) false ⟨#[], #[.agg #[.string ByteArray.empty, .slice none 0 0], .int .u64 0, .agg #[.int .i64 0, .int .i64 0, .string ByteArray.empty, .string ByteArray.empty, .bool false, .string ByteArray.empty]], []⟩ 8 (by kernel_rfl) (by kernel_rfl) (by kernel_rfl) (by kernel_rfl)) ?_
  intro W base args ds gs before hval0 hW hcnd hsz0 hsh _
  have hsz : (DataW.weightsEach Try.prog (Try.f7.params.toList ++ Rows.substHidesSpec.plain.varTypes Try.prog) (ds ++ gs)).all (· ≤ reachBytes) = true := hsz0
  have hval : ∀ (j : Nat) t v, Try.f7.params[j]? = some t → args[j]? = some v → Value.okWide Try.prog W .any base t v := hval0
  have hW' := hW
  obtain ⟨p, q, hA0, hV, rfl, hfz, hnd⟩ := hW
  have hA : DataW.TrodAll enc Try.prog W 0 (fun _ => true) true Try.f7.params.toList args.toList ds p := hA0
  rw [Try.params7] at hA hval hsz
  obtain ⟨v0, vs0, d0, ds0, p0, q0, hargs, rfl, rfl, h0, r0⟩ := trodAll_cons hA
  obtain ⟨v1, vs1, d1, ds1, p1, q1, rfl, rfl, rfl, h1, r1⟩ := trodAll_cons r0
  obtain ⟨v2, vs2, d2, ds2, p2, q2, rfl, rfl, rfl, h2, r2⟩ := trodAll_cons r1
  obtain ⟨rfl, rfl, rfl⟩ := trodAll_nil r2
  obtain rfl : args = #[v0, v1, v2] := by cases args; simp_all
  obtain ⟨rfl, rfl⟩ := trodVars_none hV
  have hz0 : ∀ n ∈ d0.weights Try.prog 24, n ≤ reachBytes := fun n hn => by have z := List.all_eq_true.1 hsz n (DataW.weights_mem_each (j := 0) rfl rfl n hn); simpa using z
  have kk0 := h0
  have lt0 : ∀ x ∈ p0, x.block < W.heap.size := by obtain ⟨m, hm⟩ := kk0; exact DataW.trod_lt m _ _ _ hm
  obtain ⟨cs0, rfl, cz0⟩ := okWide_struct Try.underlying24 (hval 0 24 v0 rfl rfl)
  obtain ⟨x0, hK0, w0⟩ : ∃ x : S24, k24.K W x cs0.toList ∧ wf24 x := by
    obtain ⟨fuel, hf⟩ := h0
    exact opn24 H enc _ _ _ fuel _ _ hf hz0
  obtain ⟨A0_1, c0_1, hcs0, hc0_1, hr0_1⟩ := k24_open hK0
  obtain rfl : cs0 = #[.string x0.f0, .slice A0_1 x0.f1.length c0_1] := Array.toList_inj.1 hcs0
  obtain ⟨a1, rfl, rfl, rfl, w1⟩ := open_int Try.underlying26 (hval 1 26 v1 rfl rfl) h1
  have hz2 : ∀ n ∈ d2.weights Try.prog 46, n ≤ reachBytes := fun n hn => by have z := List.all_eq_true.1 hsz n (DataW.weights_mem_each (j := 2) rfl rfl n hn); simpa using z
  have kk2 := h2
  have lt2 : ∀ x ∈ p2, x.block < W.heap.size := by obtain ⟨m, hm⟩ := kk2; exact DataW.trod_lt m _ _ _ hm
  obtain ⟨cs2, rfl, cz2⟩ := okWide_struct Try.underlying46 (hval 2 46 v2 rfl rfl)
  obtain ⟨x2, hK2, w2⟩ : ∃ x : S46, k46.K W x cs2.toList ∧ wf46 x := by
    obtain ⟨fuel, hf⟩ := h2
    exact opn46 H enc _ _ _ fuel _ _ hf hz2
  obtain hcs2 := k46_open hK2
  obtain rfl : cs2 = #[.int .i64 x2.f0.f0, .int .i64 x2.f0.f1, .string x2.f0.f2, .string x2.f0.f3, .bool x2.f0.f4, .string x2.f1] := Array.toList_inj.1 hcs2
  clear hA0 hval0 hsz0 hsz
  obtain ⟨k, hk⟩ := SubstHides_pure x0 a1 x2 w0 w1 w2
  refine (bureaulaw15_SubstHides.calls k x0.f0 _ _ x0.f1 a1 x2.f0.f0 x2.f0.f1 x2.f0.f2 x2.f0.f3 x2.f0.f4 x2.f1 true W (Try.laysM143.s1_3 W hsh) hr0_1 hc0_1 hk).mono fun e W' ⟨he, bel⟩ => ?_
  subst he
  exact ⟨_, rfl, _, _, _, [], _, [], hW', trodAll_mk1 (shut_bool Try.underlying4 _), (trodAll_cons_mk (Below.trod laidOut (by kernel_rfl) (of_decide_eq_true (by kernel_rfl)) kk0 bel lt0) (trodAll_cons_mk (shut_int Try.underlying26 w1) (trodAll_cons_mk (Below.trod laidOut (by kernel_rfl) (of_decide_eq_true (by kernel_rfl)) kk2 bel lt2) trodAll_mk0))), rfl, bel.frame _, fun h => by cases h⟩
theorem over : Rows.substHidesRow.holds Try.pinned (OpenSpec.ofChange Rows.substHidesSpec) :=
  OpenClaim.holds_of_wide 7 Try.f7 rfl rfl rfl rfl rfl rfl rfl ⟨rfl, rfl, rfl, rfl, rfl⟩ rfl rfl rfl rfl rfl (by kernel_rfl) Try.func7 (by kernel_rfl)
    (of_decide_eq_true (by kernel_rfl)) (by unfold Func.isWrapper; first | (rw [if_pos (by decide +kernel)]; kernel_rfl) | (rw [if_neg (by decide +kernel)]; exact ⟨rfl, rfl⟩))
    (fun os started H enc _ => lifted os started H enc)
theorem proved : Rows.SubstHidesSaid := over
end substHides
end Go.Proofs.Ytnbdldpjiofafaa.PB
namespace Go.Proofs.Ytnbdldpjiofafaa
theorem substHides_holds : Rows.SubstHidesSaid := PB.substHides.proved
#print axioms substHides_holds
end Go.Proofs.Ytnbdldpjiofafaa
end
