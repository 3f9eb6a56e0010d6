/- The row of a law out of its contract and its pure theorem. No condition. -/
import Derived.Test.YtnbdldpjiofafaaRows
import Derived.ProofKit
import Derived.ShutString
import Derived.ChangeOld
import Derived.Carry
import Derived.HandedShaped
import Derived.Test.YtnbdldpjiofafaaQSubstNone6
section
namespace Go.Proofs.Ytnbdldpjiofafaa.PB
open Go.RowKit Go.Proofs.YtnbdldpjiofafaaW.PrintWords
set_option linter.unusedVariables false
def seen (x y : Int) : Bool := Go.bits .andNot .u64 x y == 0
def hide (y x c : Int) : Int := if seen x y = true then c else 35
def hideAll (y : Int) (L B : List Int) : List Int := List.zipWith (hide y) L B
theorem hideAll_len (y : Int) (L B : List Int) : (hideAll y L B).length = min L.length B.length := List.length_zipWith
theorem paintN_app : ∀ (n : Nat) (P B : List Int), n ≤ B.length → paintN P.length n (P ++ B) = P ++ (List.replicate n 35 ++ B.drop n)
 | 0, P, B, _ => by simp [paintN]
 | n + 1, P, [], h => by simp at h
 | n + 1, P, b :: B, h => by
  have := paintN_app n (P ++ [35]) B (by simpa using h)
  rw [List.length_append, List.length_singleton] at this
  simp only [paintN]
  rw [show (P ++ b :: B).set P.length 35 = P ++ [35] ++ B by simp, this]
  simp [List.replicate_succ]
theorem hide_rep (y x : Int) : ∀ (n : Nat) (B : List Int), n ≤ B.length → List.zipWith (hide y) (List.replicate n x) (B.take n) = if seen x y = true then B.take n else List.replicate n 35
 | 0, B, _ => by simp
 | n + 1, [], h => by simp at h
 | n + 1, b :: B, h => by
  rw [List.replicate_succ, List.take_succ_cons, List.zipWith_cons_cons, hide_rep y x n B (by simpa using h)]
  unfold hide
  by_cases hs : seen x y = true
  ·rw [if_pos hs, if_pos hs, if_pos hs]
  ·rw [if_neg hs, if_neg hs, if_neg hs, List.replicate_succ]
theorem viewTo_app (y : Int) : ∀ (l : List S51) (P B : List Int), B.length = (bytes l).length → viewTo y l P.length (P ++ B) = P ++ hideAll y (bytes l) B
 | [], P, B, h => by
  have : B = [] := List.eq_nil_of_length_eq_zero (by simpa [bytes] using h)
  subst this
  simp [viewTo, hideAll, bytes]
 | r :: l, P, B, h => by
  rw [bytes_cons, List.length_append, List.length_replicate] at h
  have hn : r.f1.toNat ≤ B.length := by omega
  have hz : hideAll y (bytes (r :: l)) B = List.zipWith (hide y) (List.replicate r.f1.toNat r.f0) (B.take r.f1.toNat) ++ hideAll y (bytes l) (B.drop r.f1.toNat) := by
   unfold hideAll
   rw [bytes_cons]
   conv => lhs; rw [← List.take_append_drop r.f1.toNat B]
   rw [List.zipWith_append]
   rw [List.length_replicate, List.length_take]
   omega
  rw [hz, hide_rep _ _ _ _ hn]
  simp only [viewTo]
  by_cases hs : seen r.f0 y = true
  ·rw [if_pos (show (Go.bits .andNot .u64 r.f0 y == 0) = true from hs), if_pos hs]
   have := viewTo_app y l (P ++ B.take r.f1.toNat) (B.drop r.f1.toNat) (by rw [List.length_drop]; omega)
   rw [List.length_append, List.length_take, show min r.f1.toNat B.length = r.f1.toNat by omega, List.append_assoc, List.take_append_drop, List.append_assoc] at this
   exact this
  ·rw [if_neg (show ¬ (Go.bits .andNot .u64 r.f0 y == 0) = true from hs), if_neg hs, paintN_app _ _ _ hn]
   have := viewTo_app y l (P ++ List.replicate r.f1.toNat 35) (B.drop r.f1.toNat) (by rw [List.length_drop]; omega)
   rw [List.length_append, List.length_replicate, List.append_assoc, List.append_assoc] at this
   exact this
def viewS (s : ByteArray) (l : List S51) (y : Int) : ByteArray × Int := if goodT s l = true then (strOfNums (hideAll y (bytes l) (bytesOf s)), 0) else (⟨#[]⟩, 2)
theorem view_ev (s : ByteArray) (l : List S51) (hl : l.length ≤ big) (y : Int) : Ev (fun k => strip_View.f k s l y) (viewS s l y) := by
 unfold strip_View.f viewS
 refine Ev.bind (goodT_ev s l hl) ?_
 refine Ev.ite (fun hg => ?_) (fun _ => Ev.now _)
 obtain ⟨g1, g2, g3, g4, g5⟩ := goodT_facts hg
 refine Ev.pos ⟨nrm_nonneg g2, by omega, by omega⟩ (ev_val (Ev.now _) ?_)
 have := viewTo_app y l [] (bytesOf s) (by rw [bytesOf_len, g3])
 simp only [List.length_nil, List.nil_append] at this
 rw [this]
theorem bt_bytesOf (s : ByteArray) (i : Nat) (hi : i < s.size) : (bytesOf s).getD i 0 = bt s (i : Int) := by
 rw [bytesOf_getD s i hi]
 unfold bt
 rw [dif_pos (show ((i : Int).toNat) < s.size by rw [Int.toNat_natCast]; exact hi)]
 have hd : i < s.data.toList.length := by rw [Array.length_toList]; exact hi
 rw [List.getD_eq_getElem?_getD, List.getElem?_eq_getElem hd]
 rfl
theorem byte_range {s : ByteArray} {x : Int} (h : x ∈ bytesOf s) : 0 ≤ x ∧ x ≤ 255 := by
 obtain ⟨b, hb, rfl⟩ := List.mem_map.1 h
 have := b.toNat_lt
 omega
theorem strOf_bt (xs : List Int) (i : Nat) (hi : i < xs.length) (hr : 0 ≤ xs.getD i 0 ∧ xs.getD i 0 ≤ 255) : bt (strOfNums xs) (i : Int) = xs.getD i 0 := by
 have hs : i < (strOfNums xs).size := by rw [strOfNums_size]; exact hi
 rw [← bt_bytesOf _ _ hs, bytesOf_getD _ _ hs, strOfNums_data]
 have hg : xs.getD i 0 = xs[i] := by rw [List.getD_eq_getElem?_getD, List.getElem?_eq_getElem hi]; rfl
 rw [hg] at hr ⊢
 rw [List.getD_eq_getElem?_getD, List.getElem?_map, List.getElem?_eq_getElem hi]
 simp only [Option.map_some, Option.getD_some]
 rw [UInt8.toNat_ofNat']
 omega
theorem hideAll_getD (y : Int) (L B : List Int) (i : Nat) (h1 : i < L.length) (h2 : i < B.length) : (hideAll y L B).getD i 0 = hide y (L.getD i 0) (B.getD i 0) := by
 unfold hideAll
 rw [List.getD_eq_getElem?_getD, List.getElem?_zipWith, List.getD_eq_getElem?_getD, List.getD_eq_getElem?_getD, List.getElem?_eq_getElem h1, List.getElem?_eq_getElem h2]
 rfl
theorem hide_range {y x c : Int} (h : 0 ≤ c ∧ c ≤ 255) : 0 ≤ hide y x c ∧ hide y x c ≤ 255 := by
 unfold hide
 split <;> omega
theorem hideAll_range {y : Int} {L : List Int} {s : ByteArray} : ∀ x ∈ hideAll y L (bytesOf s), 0 ≤ x ∧ x ≤ 255 := by
 intro x hx
 obtain ⟨i, hi, rfl⟩ := List.mem_iff_getElem.1 hx
 rw [hideAll_len] at hi
 have := hideAll_getD y L (bytesOf s) i (by omega) (by omega)
 rw [List.getD_eq_getElem?_getD, List.getElem?_eq_getElem (by rw [hideAll_len]; exact hi)] at this
 simp only [Option.getD_some] at this
 rw [this]
 exact hide_range (byte_range (by rw [List.getD_eq_getElem?_getD, List.getElem?_eq_getElem (show i < (bytesOf s).length by omega)]; exact List.getElem_mem _))
end Go.Proofs.Ytnbdldpjiofafaa.PB
end

section
namespace Go.Proofs.Ytnbdldpjiofafaa.PB
open Go.RowKit Go.Proofs.YtnbdldpjiofafaaW.PrintWords
set_option linter.unusedVariables false
theorem wfT {x : S24} (h : wf24 x) : ∀ r ∈ x.f1, 0 ≤ r.f0 ∧ r.f0 < 18446744073709551616 := wf_labels h.2.2
theorem ext_all (s : ByteArray) : s.extract 0 s.size = s := by
  apply ByteArray.ext
  rw [ByteArray.data_extract]
  exact Array.extract_size
theorem ext_none (s : ByteArray) : s.extract s.size s.size = ByteArray.empty := by
  apply ByteArray.ext
  rw [ByteArray.data_extract]
  simp
theorem goodT_pack {s : ByteArray} {B : List Int} (h : B.length = s.size) (h4 : s.size ≤ 4096) : goodT s (pack B) = true := by
  obtain ⟨g1, t1⟩ := good_pack (show B.length ≤ 4096 by omega)
  exact goodT_iff.2 ⟨g1, by omega⟩
theorem catT_pack (s x : ByteArray) (B C : List Int) (hB : B.length = s.size) (hC : C.length = x.size) (h : s.size + x.size ≤ 4096) : catT s (pack B) x (pack C) = (s ++ x, pack (B ++ C), 0) := by
  have g1 := goodT_pack hB (by omega)
  have g2 := goodT_pack hC (by omega)
  unfold catT spliceT
  rw [if_pos (withinT_iff.2 ⟨g1, by omega, by omega, by omega⟩), if_pos g2, if_neg (by omega), Int.toNat_natCast, pack_bytes, pack_bytes, ext_all, ext_none, ← hB, List.take_length, List.drop_length, List.append_nil, ByteArray.append_empty]
end Go.Proofs.Ytnbdldpjiofafaa.PB
end

section
namespace Go.Proofs.Ytnbdldpjiofafaa.PB
open Go.RowKit Go.Proofs.YtnbdldpjiofafaaW.PrintWords
set_option linter.unusedVariables false
def goodE (a : Int) (o : ByteArray) (ol : List S51) (n : ByteArray) (nl : List S51) : Bool := goodT o ol && (goodT n nl && (decide (0 ≤ a) && decide (a ≤ 4096)))
theorem goodE_iff {a : Int} {o n : ByteArray} {ol nl : List S51} : goodE a o ol n nl = true ↔ goodT o ol = true ∧ goodT n nl = true ∧ 0 ≤ a ∧ a ≤ 4096 := by simp [goodE]
theorem rgoodE_ev (a : Int) (o : ByteArray) (ol : List S51) (n : ByteArray) (nl : List S51) (hl : ol.length ≤ big) (hm : nl.length ≤ big) : Ev (fun k => bureauref07_Good.f k a o ol n nl) (goodE a o ol n nl) := by
 unfold bureauref07_Good.f
 refine Ev.bind (rgoodT_ev o ol hl) ?_
 by_cases h1 : goodT o ol = true
 ·refine Ev.pos h1 (Ev.bind (rgoodT_ev n nl hm) ?_)
  by_cases h2 : goodT n nl = true
  ·refine Ev.pos h2 ?_
   by_cases h3 : 0 ≤ a
   ·exact Ev.pos h3 (ev_val (Ev.now _) (by simp [goodE, h1, h2, h3]))
   ·exact Ev.neg h3 (ev_val (Ev.now _) (by simp [goodE, h3]))
  ·exact Ev.neg h2 (ev_val (Ev.now _) (by simp [goodE, h2]))
 ·exact Ev.neg h1 (ev_val (Ev.now _) (by simp [goodE, h1]))
theorem own_eq (s : ByteArray) (l : List S51) (hl : l.length ≤ big) : edit_own.f s l = some (s, l) := by
 unfold edit_own.f
 unfold big at hl
 rw [if_pos (by omega)]
theorem ext_list (s : ByteArray) (i j : Nat) : (s.extract i j).data.toList = (s.data.toList.take j).drop i := by
 rw [ByteArray.data_extract, Array.toList_extract, List.extract_eq_take_drop, List.drop_take]
theorem app_list (s t : ByteArray) : (s ++ t).data.toList = s.data.toList ++ t.data.toList := by rw [ByteArray.data_append, Array.toList_append]
theorem data_inj {a b : ByteArray} (h : a.data.toList = b.data.toList) : a = b := ByteArray.ext (Array.toList_inj.1 h)
end Go.Proofs.Ytnbdldpjiofafaa.PB
end

section
namespace Go.Proofs.Ytnbdldpjiofafaa.PB
open Go.RowKit Go.Proofs.YtnbdldpjiofafaaW.PrintWords
set_option linter.unusedVariables false
def fitE (o : ByteArray) (ol : List S51) (n : ByteArray) (nl : List S51) : Prop := (o.size ≤ 5000 ∧ ol.length ≤ 5000) ∧ (n.size ≤ 5000 ∧ nl.length ≤ 5000)
instance (o : ByteArray) (ol : List S51) (n : ByteArray) (nl : List S51) : Decidable (fitE o ol n nl) := inferInstanceAs (Decidable (_ ∧ _))
end Go.Proofs.Ytnbdldpjiofafaa.PB
end

section
namespace Go.Proofs.Ytnbdldpjiofafaa.PB
open Go.RowKit Go.Proofs.YtnbdldpjiofafaaW.PrintWords
set_option linter.unusedVariables false
abbrev EX := Int × ByteArray × List S51 × ByteArray × List S51 × Int
def ofS (s : ByteArray) (l : List S51) (a b : Int) (x : ByteArray) (m : List S51) : EX :=
  if (spliceT s l a b x m).2.2 = 0 then (a, (cutS s l a b).1, (cutS s l a b).2.1, x, m, 0) else (0, ⟨#[]⟩, [], ⟨#[]⟩, [], (spliceT s l a b x m).2.2)
theorem splice_cut {s : ByteArray} {l : List S51} {a b : Int} {x : ByteArray} {m : List S51} (h : (spliceT s l a b x m).2.2 = 0) : withinT s l a b = true ∧ goodT x m = true ∧ ¬ (s.size : Int) - (b - a) + (x.size : Int) > 4096 ∧ (cutS s l a b).2.2 = 0 := by
  unfold spliceT at h
  by_cases hw : withinT s l a b = true
  · rw [if_pos hw] at h
    by_cases hg : goodT x m = true
    · rw [if_pos hg] at h
      by_cases hb : (s.size : Int) - (b - a) + (x.size : Int) > 4096
      · rw [if_pos hb] at h; cases h
      · exact ⟨hw, hg, hb, by unfold cutS; rw [if_pos hw]⟩
    · rw [if_neg hg] at h; cases h
  · rw [if_neg hw] at h; cases h
theorem of_ev (s : ByteArray) (l : List S51) (hl : l.length ≤ big) (a b : Int) (x : ByteArray) (m : List S51) (hm : m.length ≤ big) : Ev (fun k => edit_Of.f k s l a b x m) (ofS s l a b x m) := by
  unfold edit_Of.f ofS
  refine Ev.bind (splice4_ev s l hl a b x m hm) (Ev.ite (fun h => ?_) (fun _ => Ev.now _))
  refine Ev.bind (cut_ev s l hl a b) ?_
  rw [own_eq x m hm]
  refine Ev.bind (Ev.now _) (ev_val (Ev.now _) ?_)
  rw [(splice_cut h).2.2.2]
end Go.Proofs.Ytnbdldpjiofafaa.PB
end

section
namespace Go.Proofs.Ytnbdldpjiofafaa.PB
open Go.RowKit Go.Proofs.YtnbdldpjiofafaaW.PrintWords
set_option linter.unusedVariables false
theorem bytesOf_strOf (xs : List Int) (h : ∀ x ∈ xs, 0 ≤ x ∧ x ≤ 255) : bytesOf (strOfNums xs) = xs := by
 have hl : (bytesOf (strOfNums xs)).length = xs.length := by rw [bytesOf_len, strOfNums_size]
 apply List.ext_getElem?
 intro i
 by_cases hi : i < xs.length
 ·have hg : ∀ (zs : List Int), i < zs.length → zs[i]? = some (zs.getD i 0) := fun zs hz => by rw [List.getD_eq_getElem?_getD, List.getElem?_eq_getElem hz]; rfl
  have hm : xs.getD i 0 ∈ xs := by rw [List.getD_eq_getElem?_getD, List.getElem?_eq_getElem hi]; exact List.getElem_mem hi
  rw [hg _ (by omega), hg _ hi, bt_bytesOf _ _ (by rw [strOfNums_size]; exact hi), strOf_bt xs i hi (h _ hm)]
 ·rw [List.getElem?_eq_none (by omega), List.getElem?_eq_none (by omega)]
structure Alike (y : Int) (s : ByteArray) (l : List S51) (s' : ByteArray) (l' : List S51) : Prop where
 runs : l = l'
 size : s.size = s'.size
 view : goodT s l = true → hideAll y (bytes l) (bytesOf s) = hideAll y (bytes l) (bytesOf s')
theorem Alike.good {y : Int} {s s' : ByteArray} {l l' : List S51} (h : Alike y s l s' l') : goodT s l = goodT s' l' := by
 obtain ⟨rfl, h2, _⟩ := h
 unfold goodT
 rw [h2]
theorem hideAll_app (y : Int) (L M B C : List Int) (h : L.length = B.length) : hideAll y (L ++ M) (B ++ C) = hideAll y L B ++ hideAll y M C := by unfold hideAll; exact List.zipWith_append h
theorem hideAll_take (y : Int) (L B : List Int) (i : Nat) : hideAll y (L.take i) (B.take i) = (hideAll y L B).take i := by unfold hideAll; rw [List.take_zipWith]
theorem hideAll_drop (y : Int) (L B : List Int) (i : Nat) : hideAll y (L.drop i) (B.drop i) = (hideAll y L B).drop i := by unfold hideAll; rw [List.drop_zipWith]
section
variable {y : Int} {s s' x x' : ByteArray} {l l' m m' : List S51}
end
end Go.Proofs.Ytnbdldpjiofafaa.PB
end

section
namespace Go.Proofs.Ytnbdldpjiofafaa.PB
open Go.RowKit Go.Proofs.YtnbdldpjiofafaaW.PrintWords
set_option linter.unusedVariables false
set_option maxHeartbeats 1000000
def rangeL (L : List Int) : Prop := ∀ x ∈ L, 0 ≤ x ∧ x < 18446744073709551616
theorem seen_or2 {x z y : Int} (hx : 0 ≤ x ∧ x < 18446744073709551616) (hz : 0 ≤ z ∧ z < 18446744073709551616) (hy : 0 ≤ y ∧ y < 18446744073709551616) : seen (Go.bits .or .u64 x z) y = (seen x y && seen z y) := by
 obtain ⟨x, rfl⟩ := Int.eq_ofNat_of_zero_le hx.1
 obtain ⟨z, rfl⟩ := Int.eq_ofNat_of_zero_le hz.1
 obtain ⟨y, rfl⟩ := Int.eq_ofNat_of_zero_le hy.1
 have hx' : x < 2 ^ 64 := by omega
 have hy' : y < 2 ^ 64 := by omega
 have hz' : z < 2 ^ 64 := by omega
 unfold seen
 rw [u64_or_nat x z (by omega) (by omega), belowN_bits (x ||| z) y (Nat.or_lt_two_pow hx' hz') hy', belowN_bits x y hx' hy', belowN_bits z y hz' hy', Bool.eq_iff_iff, Bool.and_eq_true]
 unfold belowN
 rw [List.all_eq_true, List.all_eq_true, List.all_eq_true]
 constructor
 ·intro h
  refine ⟨fun i hi => ?_, fun i hi => ?_⟩ <;> (have := h i hi; rw [Nat.testBit_or] at this; cases hx : x.testBit i <;> cases hz : z.testBit i <;> simp_all)
 ·rintro ⟨h1, h2⟩ i hi
  have a := h1 i hi
  have b := h2 i hi
  rw [Nat.testBit_or]
  cases hx : x.testBit i <;> cases hz : z.testBit i <;> simp_all
theorem or_range {x z : Int} (hx : 0 ≤ x ∧ x < 18446744073709551616) (hz : 0 ≤ z ∧ z < 18446744073709551616) : 0 ≤ Go.bits .or .u64 x z ∧ Go.bits .or .u64 x z < 18446744073709551616 := by
 obtain ⟨x, rfl⟩ := Int.eq_ofNat_of_zero_le hx.1
 obtain ⟨z, rfl⟩ := Int.eq_ofNat_of_zero_le hz.1
 have h := Nat.or_lt_two_pow (n := 64) (show x < 2 ^ 64 by omega) (show z < 2 ^ 64 by omega)
 rw [u64_or_nat x z (by omega) (by omega)]
 omega
theorem seen_zero {y : Int} (hy : 0 ≤ y ∧ y < 18446744073709551616) : seen 0 y = true := by
 obtain ⟨y, rfl⟩ := Int.eq_ofNat_of_zero_le hy.1
 unfold seen
 have := belowN_bits 0 y (by decide) (by omega)
 rw [show ((0 : Nat) : Int) = 0 from rfl] at this
 rw [this]
 exact belowN_yes (fun i _ h => by simp at h)
theorem seen_all {y : Int} (hy : 0 ≤ y ∧ y < 18446744073709551616) (B : List Int) (hB : rangeL B) : seen (orAllI B) y = B.all (fun x => seen x y) := by
 have : ∀ (B : List Int) (a : Int), 0 ≤ a ∧ a < 18446744073709551616 → rangeL B → seen (B.foldl (fun a x => Go.bits .or .u64 a x) a) y = (seen a y && B.all (fun x => seen x y)) := by
  intro B
  induction B with
  | nil => intro a ha _; simp
  | cons x B ih =>
   intro a ha hB
   have hx := hB x List.mem_cons_self
   rw [List.foldl_cons, ih _ (or_range ha hx) (fun z hz => hB z (List.mem_cons_of_mem _ hz)), seen_or2 ha hx hy, List.all_cons, Bool.and_assoc]
 unfold orAllI
 rw [this B 0 (by decide) hB, seen_zero hy, Bool.true_and]
theorem wadd (a b : Nat) (h : a + b ≤ 1000000000000000) : wrap64 ((a : Int) + (b : Int)) = ((a + b : Nat) : Int) := by unfold wrap64; omega
theorem wadd1 (a : Nat) (h : a ≤ 1000000000000000) : wrap64 ((a : Int) + 1) = ((a + 1 : Nat) : Int) := by unfold wrap64; omega
def hitS (cs pat : List UInt8) (L : List Int) (y : Int) (e p : Nat) : Bool := decide (p + pat.length ≤ e) && (((cs.drop p).take pat.length == pat) && ((L.drop p).take pat.length).all (fun x => seen x y))
theorem hitS_iff {cs pat : List UInt8} {L : List Int} {y : Int} {e p : Nat} : hitS cs pat L y e p = true ↔ p + pat.length ≤ e ∧ (cs.drop p).take pat.length = pat ∧ ((L.drop p).take pat.length).all (fun x => seen x y) = true := by
 unfold hitS; simp only [Bool.and_eq_true, decide_eq_true_eq, beq_iff_eq]
structure Fine (s : ByteArray) (l : List S51) (y : Int) : Prop where
 good : goodT s l = true
 len : l.length ≤ big
 lab : ∀ r ∈ l, 0 ≤ r.f0 ∧ r.f0 < 18446744073709551616
 lev : 0 ≤ y ∧ y < 18446744073709551616
theorem Fine.size {s : ByteArray} {l : List S51} {y : Int} (h : Fine s l y) : s.size ≤ 4096 ∧ (bytes l).length = s.size := by
 obtain ⟨g1, g2, g3, g4, g5⟩ := goodT_facts h.good
 exact ⟨g4, g3⟩
theorem Fine.range {s : ByteArray} {l : List S51} {y : Int} (h : Fine s l y) : rangeL (bytes l) := fun x hx => by
 obtain ⟨r, hr, e⟩ := bytes_mem hx
 rw [← e]; exact h.lab r hr
theorem seen_ev {s : ByteArray} {l : List S51} {y : Int} (h : Fine s l y) (p q : Nat) (hpq : p ≤ q) (hq : q ≤ s.size) : Ev (fun k => subst_seen.f k s l y (p : Int) (q : Int)) ((((bytes l).take q).drop p).all (fun x => seen x y)) := by
 obtain ⟨g1, g2, g3, g4, g5⟩ := goodT_facts h.good
 have hw : withinB l (p : Int) (q : Int) = true := withinB_iff.2 ⟨g1, by omega, by omega, by omega⟩
 have hr : rangeL (((bytes l).take q).drop p) := fun x hx => h.range x (List.mem_of_mem_take (List.mem_of_mem_drop hx))
 have hlen : (((bytes l).take q).drop p).length ≤ 4096 := by rw [List.length_drop, List.length_take]; omega
 unfold subst_seen.f
 refine Ev.bind (slice_ev l h.len (p : Int) (q : Int)) ?_
 unfold sliceS
 rw [if_pos hw, Int.toNat_natCast, Int.toNat_natCast]
 generalize ((bytes l).take q).drop p = B at *
 have hpl : (pack B).length ≤ big := by have := pack_len B; unfold big; omega
 refine Ev.bind (all_ev (pack B) hpl) ?_
 have e : orAllI (pos1 (pack B)) = orAllI B := by
  rw [← orAllI_bytes, pack_bytes]
  intro r hrm
  have hm : r.f0 ∈ bytes (pack B) := by
   unfold bytes
   rw [List.mem_flatMap]
   have hn := pack_nrm B
   refine ⟨r, hrm, ?_⟩
   have hpos : 1 ≤ r.f1 := nrm_pos hn r hrm
   rw [List.mem_replicate]
   exact ⟨by omega, rfl⟩
  rw [pack_bytes] at hm
  exact hr _ hm
 rw [e]
 unfold label_Below.f
 refine Ev.bind (Ev.now _) (ev_val (Ev.now _) ?_)
 exact seen_all h.lev B hr
theorem occ_iff (l sub : List UInt8) (i : Nat) : Lib.occAt l sub i = true ↔ (l.drop i).take sub.length = sub := by
 unfold Lib.occAt
 rw [List.isPrefixOf_iff_prefix, List.prefix_iff_eq_take]
 exact ⟨fun h => h.symm, fun h => h.symm⟩
theorem drop_take_drop {α : Type} (l : List α) (a e p m : Nat) (h1 : a ≤ p) (h2 : p + m ≤ e) : ((((l.take e).drop a).drop (p - a)).take m) = (l.drop p).take m := by
 rw [List.drop_drop, show a + (p - a) = p by omega, List.drop_take, List.take_take, Nat.min_eq_left (by omega)]
theorem index_step (cs pat : List UInt8) (L : List Int) (y : Int) (every : Bool) (e a : Nat) (hp : 1 ≤ pat.length) (hlt : a < e) (he : e ≤ cs.length) :
  (Lib.index ((cs.take e).drop a) pat = -1 ∧ places every (hitS cs pat L y e) pat.length e a = []) ∨
  ∃ i : Nat, Lib.index ((cs.take e).drop a) pat = (i : Int) ∧ a + i + pat.length ≤ e ∧ places every (hitS cs pat L y e) pat.length e a = places every (hitS cs pat L y e) pat.length e (a + i) ∧
   hitS cs pat L y e (a + i) = ((L.drop (a + i)).take pat.length).all (fun x => seen x y) := by
 have hlen : ((cs.take e).drop a).length = e - a := by rw [List.length_drop, List.length_take]; omega
 rcases Lib.index_spec ((cs.take e).drop a) pat with ⟨hi, hno⟩ | ⟨i, hi, hil, hocc, hno⟩
 ·refine .inl ⟨hi, places_none hp (fun k h1 h2 hh => ?_)⟩
  obtain ⟨e1, e2, _⟩ := hitS_iff.1 hh
  have := hno (k - a) (by omega)
  rw [Bool.eq_false_iff] at this
  exact this ((occ_iff _ _ _).2 (by rw [drop_take_drop _ _ _ _ _ h1 e1]; exact e2))
 ·have hroom := Lib.index_room ((cs.take e).drop a) pat (by rw [hi]; omega)
  rw [hi, hlen] at hroom
  have hm := (occ_iff _ _ _).1 hocc
  have hpe : a + i + pat.length ≤ e := by omega
  have hm2 : (cs.drop (a + i)).take pat.length = pat := by
   have := drop_take_drop cs a e (a + i) pat.length (by omega) (by omega)
   rw [show a + i - a = i by omega] at this
   rw [← this]; exact hm
  refine .inr ⟨i, hi, hpe, places_skip hp i a (by omega) (fun k hk hh => ?_), ?_⟩
  ·obtain ⟨e1, e2, _⟩ := hitS_iff.1 hh
   have := hno k hk
   rw [Bool.eq_false_iff] at this
   exact this ((occ_iff _ _ _).2 (by
    have q := drop_take_drop cs a e (a + k) pat.length (by omega) e1
    rw [show a + k - a = k by omega] at q
    rw [q]; exact e2))
  ·rw [Bool.eq_iff_iff, hitS_iff]
   exact ⟨fun q => q.2.2, fun q => ⟨hpe, hm2, q⟩⟩
theorem idx_is (s pat : ByteArray) (a e : Nat) (hs : s.size ≤ 4096) : strings_Index.f (s.extract a e) pat = some (Lib.index ((s.data.toList.take e).drop a) pat.data.toList) := by
 unfold strings_Index.f
 have hsz : (s.extract a e).size < 4294967281 := by rw [ByteArray.size_extract]; omega
 rw [if_pos hsz, ext_list]
theorem places_ev {s : ByteArray} {l : List S51} {y : Int} (h : Fine s l y) (A B : Int) (pat rep : ByteArray) (every : Bool) (hp : 1 ≤ pat.size) (a e : Nat) (hae : a ≤ e) (he : e ≤ s.size) :
  Ev (fun k => subst_places.f k s l y A B pat rep every (a : Int) (e : Int)) ((places every (hitS s.data.toList pat.data.toList (bytes l) y e) pat.data.toList.length e a).map (fun i : Nat => (i : Int))) := by
 have h4 := h.size.1
 have hidx := fun a e => idx_is s pat a e h4
 have hcs : e ≤ s.data.toList.length := by rw [← Lib.size_eq]; exact he
 have hps : pat.size = pat.data.toList.length := Lib.size_eq pat
 have hpl : 1 ≤ pat.data.toList.length := by rw [← hps]; exact hp
 have hstep := fun a ha => index_step s.data.toList pat.data.toList (bytes l) y every e a hpl ha hcs
 have hseen := fun p q hpq hq => seen_ev h p q hpq hq
 obtain ⟨n, hn⟩ : ∃ n, s.size = n := ⟨_, rfl⟩
 have hsn : (s.size : Int) = (n : Int) := by rw [hn]
 have hpn : (pat.size : Int) = (pat.data.toList.length : Int) := by rw [hps]
 rw [hn] at he h4 hseen
 generalize pat.data.toList.length = m at *
 generalize hhit : hitS s.data.toList pat.data.toList (bytes l) y e = hit at *
 clear hhit hps hcs
 have loop : ∀ (d a : Nat) (acc : List Int), e - a ≤ d → a ≤ e → acc.length ≤ a → Ev (fun k => subst_places.l0 k y (e : Int) acc (a : Int) s l A B pat rep every) (acc ++ (places every hit m e a).map (fun i : Nat => (i : Int))) := by
  intro d
  induction d with
  | zero =>
   intro a acc hd ha hacc
   refine Ev.step (fun k => by simp only [subst_places.l0]; rfl) ?_
   refine Ev.neg (by omega) ?_
   rw [places_end (by omega), List.map_nil, List.append_nil]
   exact Ev.now _
  | succ d ih =>
   intro a acc hd ha hacc
   refine Ev.step (fun k => by simp only [subst_places.l0]; rfl) ?_
   by_cases hlt : a < e
   ·refine Ev.pos (by omega) (Ev.pos (by omega) (Ev.pos (by omega) (Ev.pos (by rw [hsn]; omega) ?_)))
    rw [Int.toNat_natCast, Int.toNat_natCast, hidx]
    refine Ev.bind (Ev.now _) ?_
    rcases hstep a hlt with ⟨hi, hno⟩ | ⟨i, hi, hpe, hskip, hs⟩
    ·rw [hi, hno, List.map_nil, List.append_nil]
     exact Ev.pos (by decide) (Ev.now _)
    ·rw [hi, hskip]
     clear hi hskip hidx
     have hb : a + i + m ≤ 4096 := Nat.le_trans hpe (Nat.le_trans he h4)
     rw [hpn, wadd a i (by omega), wadd (a + i) m (by omega), wadd1 (a + i) (by omega)]
     refine Ev.neg (by omega) ?_
     have hsv := hseen (a + i) (a + i + m) (by omega) (by omega)
     rw [List.drop_take, show a + i + m - (a + i) = m by omega, ← hs] at hsv
     refine Ev.bind hsv ?_
     by_cases hh : hit (a + i) = true
     ·rw [places_hit hpl (by omega) hh]
      refine Ev.pos hh (Ev.pos (by omega) (Ev.bind (Ev.now _) ?_))
      by_cases hev : every = true
      ·rw [if_pos hev]
       refine Ev.pos hev (ev_val (ih (a + i + m) (acc ++ [((a + i : Nat) : Int)]) (by omega) (by omega) (by rw [List.length_append, List.length_singleton]; omega)) ?_)
       simp
      ·rw [if_neg hev]
       exact Ev.neg hev (ev_val (Ev.now _) (by simp))
     ·rw [places_miss hpl (by omega) hh]
      exact Ev.neg hh (ih (a + i + 1) acc (by omega) (by omega) (by omega))
   ·refine Ev.neg (by omega) ?_
    rw [places_end (by omega), List.map_nil, List.append_nil]
    exact Ev.now _
 unfold subst_places.f
 exact loop (e - a) a [] (Nat.le_refl _) hae (by simp)
end Go.Proofs.Ytnbdldpjiofafaa.PB
end

section
namespace Go.Proofs.Ytnbdldpjiofafaa.PB
open Go.RowKit Go.Proofs.YtnbdldpjiofafaaW.PrintWords
set_option linter.unusedVariables false
set_option maxHeartbeats 1000000
def allP (f : Nat → List Nat) : Nat → Nat → List Nat
 | _, 0 => []
 | n, d + 1 => f n ++ allP f (n + 1) d
def lineP (v s pat : ByteArray) (l : List S51) (y : Int) (every : Bool) (n : Nat) : List Nat :=
 places every (hitS s.data.toList pat.data.toList (bytes l) y (lineTo v n)) pat.data.toList.length (lineTo v n) (lineFrom v n)
end Go.Proofs.Ytnbdldpjiofafaa.PB
end

section
namespace Go.Proofs.Ytnbdldpjiofafaa.PB
open Go.RowKit Go.Proofs.YtnbdldpjiofafaaW.PrintWords
set_option linter.unusedVariables false
set_option maxHeartbeats 1000000
abbrev ints (l : List Nat) : List Int := l.map (fun i : Nat => (i : Int))
def bld (s r : ByteArray) (m a : Nat) (ps : List Nat) (e : Nat) : ByteArray := ⟨(buildS s.data.toList r.data.toList m a ps e).toArray⟩
theorem bld_list (s r : ByteArray) (m a : Nat) (ps : List Nat) (e : Nat) : (bld s r m a ps e).data.toList = buildS s.data.toList r.data.toList m a ps e := by unfold bld; rfl
theorem bld_size (s r : ByteArray) (m a : Nat) (ps : List Nat) (e : Nat) : (bld s r m a ps e).size = (buildS s.data.toList r.data.toList m a ps e).length := by rw [Lib.size_eq, bld_list]
theorem bld_nil (s r : ByteArray) (m a e : Nat) : bld s r m a [] e = s.extract a e := data_inj (by rw [bld_list, ext_list]; rfl)
theorem bld_cons (s r : ByteArray) (m a p : Nat) (ps : List Nat) (e : Nat) : bld s r m a (p :: ps) e = s.extract a p ++ (r ++ bld s r m (p + m) ps e) := data_inj (by rw [bld_list, app_list, app_list, bld_list, ext_list]; rfl)
theorem cut_ok {s : ByteArray} {l : List S51} {y : Int} (h : Fine s l y) (a p : Nat) (h1 : a ≤ p) (h2 : p ≤ s.size) : cutS s l (a : Int) (p : Int) = (s.extract a p, pack (((bytes l).take p).drop a), 0) := by
 unfold cutS
 rw [if_pos (withinT_iff.2 ⟨h.good, by omega, by omega, by omega⟩), Int.toNat_natCast, Int.toNat_natCast]
theorem packBig {C : List Int} {n : Nat} (h : C.length = n) (hn : n ≤ 20000) : (pack C).length ≤ big := by have := pack_len C; unfold big; omega
theorem cut_ev' {s : ByteArray} {l : List S51} {y : Int} (h : Fine s l y) (a p : Nat) (h1 : a ≤ p) (h2 : p ≤ s.size) : Ev (fun k => strip_Cut.f k s l (a : Int) (p : Int)) (s.extract a p, pack (((bytes l).take p).drop a), 0) := ev_val (cut_ev s l h.len _ _) (cut_ok h a p h1 h2)
theorem cat_ev' (X Z : ByteArray) (C D : List Int) (hC : C.length = X.size) (hD : D.length = Z.size) (h : X.size + Z.size ≤ 4096) : Ev (fun k => strip_Cat.f k X (pack C) Z (pack D)) (X ++ Z, pack (C ++ D), 0) :=
 ev_val (cat4_ev X (pack C) (packBig hC (by omega)) Z (pack D) (packBig hD (by omega))) (catT_pack X Z C D hC hD h)
theorem rd_at {all ps : List Nat} {i p : Nat} (h : all.drop i = p :: ps) (z : Int) : rd (ints all ++ [z]) (i : Int) = (p : Int) := by
 have hi : i < all.length := by
  rcases Nat.lt_or_ge i all.length with q | q
  ·exact q
  ·rw [List.drop_eq_nil_of_le q] at h; cases h
 rw [List.drop_eq_getElem_cons hi] at h
 injection h with h _
 unfold rd ints
 rw [Int.toNat_natCast, List.getD_eq_getElem?_getD, List.getElem?_append_left (by rw [List.length_map]; exact hi), List.getElem?_map, List.getElem?_eq_getElem hi, h]
 rfl
theorem rd_end {all : List Nat} {i : Nat} (h : i = all.length) (z : Int) : rd (ints all ++ [z]) (i : Int) = z := by
 subst h
 unfold rd ints
 rw [Int.toNat_natCast, List.getD_eq_getElem?_getD, List.getElem?_append_right (by rw [List.length_map]; exact Nat.le_refl _), List.length_map, Nat.sub_self]
 rfl
theorem ints_len (all : List Nat) (z : Int) : (ints all ++ [z]).length = all.length + 1 := by simp [ints]
abbrev DX := Int × ByteArray × (List S51) × ByteArray × (List S51) × Int × Int
def badD (c : Int) : DX := (0, ⟨#[]⟩, [], ⟨#[]⟩, [], 0, c)
def okD (s : ByteArray) (l : List S51) (fr e : Nat) (T : ByteArray) (D : List Int) (n : Int) : DX := ((fr : Int), s.extract fr e, pack (((bytes l).take e).drop fr), T, pack D, n, 0)
theorem splice_ok0 {s : ByteArray} {l : List S51} {y : Int} (h : Fine s l y) (fr e : Nat) (T : ByteArray) (D : List Int) (h1 : fr ≤ e) (h2 : e ≤ s.size) (hD : D.length = T.size) (hT : T.size ≤ 4096) (hz : (s.size : Int) - ((e : Int) - (fr : Int)) + (T.size : Int) ≤ 4096) :
  (spliceT s l (fr : Int) (e : Int) T (pack D)).2.2 = 0 := by
 unfold spliceT
 rw [if_pos (withinT_iff.2 ⟨h.good, by omega, by omega, by omega⟩), if_pos (goodT_pack hD hT), if_neg (by omega)]
theorem of_ok {s : ByteArray} {l : List S51} {y : Int} (h : Fine s l y) (fr e : Nat) (T : ByteArray) (D : List Int) (h1 : fr ≤ e) (h2 : e ≤ s.size) (hD : D.length = T.size) (hT : T.size ≤ 4096) (hz : (s.size : Int) - ((e : Int) - (fr : Int)) + (T.size : Int) ≤ 4096) :
  ofS s l (fr : Int) (e : Int) T (pack D) = ((fr : Int), s.extract fr e, pack (((bytes l).take e).drop fr), T, pack D, 0) := by
 unfold ofS
 rw [if_pos (splice_ok0 h fr e T D h1 h2 hD hT hz), cut_ok h fr e h1 h2]
theorem fwd_ev {s : ByteArray} {l : List S51} {y : Int} (h : Fine s l y) (A B : Int) (pat rep : ByteArray) (every : Bool) (fr e : Nat) (x11 : List Int) (all : List Nat) (hp : 1 ≤ pat.size) (hfe : fr ≤ e) (he : e ≤ s.size) (hall : all.length ≤ 5000) (hfin : ∀ T : ByteArray, ∀ D : List Int, D.length = T.size → T = bld s rep pat.size fr all e → T.size ≤ 4096 ∧ (s.size : Int) - ((e : Int) - (fr : Int)) + (T.size : Int) ≤ 4096) :
  ∀ (ps : List Nat) (i a : Nat) (X : ByteArray) (C : List Int), all.drop i = ps → i + ps.length = all.length → a ≤ e + pat.size → spaced pat.size a ps e → C.length = X.size → X ++ bld s rep pat.size a ps e = bld s rep pat.size fr all e → C ++ buildS (bytes l) (List.replicate rep.size y) pat.size a ps e = buildS (bytes l) (List.replicate rep.size y) pat.size fr all e →
   Ev (fun k => subst_Do.l1 k x11 (fr : Int) (e : Int) (a : Int) (ints all ++ [(e : Int)]) ((ints all ++ [(e : Int)]).length : Int) (i : Int) s l A B pat rep every rep (pack (List.replicate rep.size y)) X (pack C))
    (okD s l fr e (bld s rep pat.size fr all e) (buildS (bytes l) (List.replicate rep.size y) pat.size fr all e) (x11.length : Int)) := by
 have h4 := h.size.1
 have hL := h.size.2
 have hlen := ints_len all (e : Int)
 have hF := hfin
 have hR : (List.replicate rep.size y).length = rep.size := List.length_replicate
 have hbd := fun (a p : Nat) (hap : a ≤ p) (hpe : p ≤ e) => show (((bytes l).take p).drop a).length = (s.extract a p).size from by
  rw [ByteArray.size_extract, List.length_drop, List.length_take]; omega
 have hbz := fun (a p : Nat) (hpe : p ≤ e) => show (s.extract a p).size = p - a from by rw [ByteArray.size_extract]; omega
 intro ps
 induction ps with
 | nil =>
  intro i a X C hd hi ha hsp hC hT hB
  have hil : i = all.length := by simpa using hi
  have hae : a ≤ e := hsp
  have hq := hF (X ++ s.extract a e) (C ++ ((bytes l).take e).drop a) (by rw [List.length_append, ByteArray.size_append, hC, hbd a e hae (Nat.le_refl _)]) (by rw [← hT, bld_nil])
  have hsum : X.size + (s.extract a e).size ≤ 4096 := by have := hq.1; rw [ByteArray.size_append] at this; exact this
  refine Ev.step (fun k => by simp only [subst_Do.l1]; rfl) ?_
  rw [rd_end hil, hlen]
  refine Ev.pos (by omega) (Ev.pos (by omega) (Ev.pos (by omega) (Ev.bind (cut_ev' h a e hae he) (Ev.bind (cat_ev' X (s.extract a e) C _ hC (hbd a e hae (Nat.le_refl _)) hsum) (Ev.neg (by omega) ?_)))))
  rw [wadd1 i (by omega)]
  refine Ev.step (fun k => by simp only [subst_Do.l1]; rfl) (Ev.neg (by omega) ?_)
  refine Ev.bind (of_ev s l h.len _ _ _ _ (packBig (n := (X ++ s.extract a e).size) (by rw [List.length_append, ByteArray.size_append, hC, hbd a e hae (Nat.le_refl _)]) (by have := hq.1; omega))) (ev_val (Ev.now _) ?_)
  rw [of_ok h fr e _ _ hfe he (by rw [List.length_append, ByteArray.size_append, hC, hbd a e hae (Nat.le_refl _)]) hq.1 hq.2]
  rw [← hT, ← hB, bld_nil]
  rfl
 | cons p ps ih =>
  intro i a X C hd hi ha hsp hC hT hB
  have hap : a ≤ p := hsp.1
  have hpe := spaced_le hsp.2
  have hpe' : p < e := by omega
  have hi' : i + ps.length + 1 = all.length := by rw [List.length_cons] at hi; omega
  rw [bld_cons] at hT
  have hB' : C ++ (((bytes l).take p).drop a ++ (List.replicate rep.size y ++ buildS (bytes l) (List.replicate rep.size y) pat.size (p + pat.size) ps e)) = buildS (bytes l) (List.replicate rep.size y) pat.size fr all e := hB
  have hz : (X ++ (s.extract a p ++ (rep ++ bld s rep pat.size (p + pat.size) ps e))).size ≤ 4096 := by
   have hq := hF (bld s rep pat.size fr all e) (List.replicate (bld s rep pat.size fr all e).size 0) List.length_replicate rfl
   rw [hT]; exact hq.1
  rw [ByteArray.size_append, ByteArray.size_append, ByteArray.size_append] at hz
  have hb1 := hbd a p hap (by omega)
  refine Ev.step (fun k => by simp only [subst_Do.l1]; rfl) ?_
  rw [rd_at hd, hlen]
  refine Ev.pos (by omega) (Ev.pos (by omega) (Ev.pos (by omega) (Ev.bind (cut_ev' h a p hap (by omega)) (Ev.bind (cat_ev' X (s.extract a p) C _ hC hb1 (by omega)) (Ev.pos (by omega) (Ev.bind (cat_ev' (X ++ s.extract a p) rep _ _ (by rw [List.length_append, ByteArray.size_append, hC, hb1]) hR (by rw [ByteArray.size_append]; omega)) ?_))))))
  rw [wadd1 i (by omega), wadd p pat.size (by omega), ← hlen]
  refine ih (i + 1) (p + pat.size) _ _ ?_ (by omega) (by omega) hsp.2 ?_ ?_ ?_
  ·rw [← List.drop_drop, hd]; rfl
  ·rw [List.length_append, List.length_append, ByteArray.size_append, ByteArray.size_append, hC, hb1, hR]
  ·rw [← hT]; exact data_inj (by simp only [app_list, List.append_assoc])
  ·rw [← hB']; simp only [List.append_assoc]
end Go.Proofs.Ytnbdldpjiofafaa.PB
end

section
namespace Go.Proofs.Ytnbdldpjiofafaa.PB
open Go.RowKit Go.Proofs.YtnbdldpjiofafaaW.PrintWords
set_option linter.unusedVariables false
set_option maxHeartbeats 1000000
section
variable {s : ByteArray} {l : List S51} {y : Int}
theorem lineP_spaced (v s pat : ByteArray) (l : List S51) (y : Int) (every : Bool) (hp : 1 ≤ pat.size) (n : Nat) (h : n < (ends v).length) :
  spaced pat.size (lineFrom v n) (lineP v s pat l y every n) (lineTo v n) ∧ ∀ p ∈ lineP v s pat l y every n, hitS s.data.toList pat.data.toList (bytes l) y (lineTo v n) p = true := by
 have hr := line_range v n h
 rw [Lib.size_eq] at hp ⊢
 exact places_spaced (every := every) (hit := hitS s.data.toList pat.data.toList (bytes l) y (lineTo v n)) (m := pat.data.toList.length) (e := lineTo v n) hp (fun k hk => (hitS_iff.1 hk).1) (lineTo v n - lineFrom v n) (lineFrom v n) (Nat.le_refl _) hr.1
theorem lineP_len (v s pat : ByteArray) (l : List S51) (y : Int) (every : Bool) (hp : 1 ≤ pat.size) (n : Nat) (h : n < (ends v).length) : (lineP v s pat l y every n).length ≤ v.size := by
 have hr := line_range v n h
 have q1 := (lineP_spaced v s pat l y every hp n h).1
 have q2 := spaced_len hp q1
 have q3 := Nat.le_mul_of_pos_right (lineP v s pat l y every n).length hp
 omega
theorem allP_spaced (v s pat : ByteArray) (l : List S51) (y : Int) (every : Bool) (hp : 1 ≤ pat.size) : ∀ (d n : Nat), n + d < (ends v).length →
  spaced pat.size (lineFrom v n) (allP (lineP v s pat l y every) n (d + 1)) (lineTo v (n + d)) ∧ ∀ p ∈ allP (lineP v s pat l y every) n (d + 1), ∃ q, n ≤ q ∧ q ≤ n + d ∧ p ∈ lineP v s pat l y every q ∧ hitS s.data.toList pat.data.toList (bytes l) y (lineTo v q) p = true := by
 intro d
 induction d with
 | zero =>
  intro n hn
  obtain ⟨q1, q2⟩ := lineP_spaced v s pat l y every hp n hn
  simp only [allP, List.append_nil, Nat.add_zero]
  exact ⟨q1, fun p hp => ⟨n, Nat.le_refl _, Nat.le_refl _, hp, q2 p hp⟩⟩
 | succ d ih =>
  intro n hn
  obtain ⟨q1, q2⟩ := lineP_spaced v s pat l y every hp n (by omega)
  obtain ⟨i1, i2⟩ := ih (n + 1) (by omega)
  have hnx := line_next v n (by omega)
  rw [show n + 1 + d = n + (d + 1) by omega] at i1
  rw [show allP (lineP v s pat l y every) n (d + 1 + 1) = lineP v s pat l y every n ++ allP (lineP v s pat l y every) (n + 1) (d + 1) from rfl]
  refine ⟨spaced_app q1 (spaced_mono (by omega) i1), fun p hpm => ?_⟩
  rcases List.mem_append.1 hpm with hpm | hpm
  ·exact ⟨n, Nat.le_refl _, by omega, hpm, q2 p hpm⟩
  ·obtain ⟨q, w1, w2, w3, w4⟩ := i2 p hpm
   exact ⟨q, by omega, by omega, w3, w4⟩
theorem sub_lines_ev (h : Fine s l y) (v pat rep : ByteArray) (every : Bool) (hv : v.size = s.size) (hp : 1 ≤ pat.size) (A : Int) (B : Nat) (hB : B < (ends v).length) (r : DX) :
  ∀ (d n : Nat) (acc : List Int), n + d = B + 1 → acc.length ≤ n * 5000 → Ev (fun k => subst_Do.l0 k y v (acc ++ ints (allP (lineP v s pat l y every) n d)) ((B + 1 : Nat) : Int) s l A (B : Int) pat rep every) r →
   Ev (fun k => subst_Do.l0 k y v acc (n : Int) s l A (B : Int) pat rep every) r := by
 have h4 := h.size.1
 have hends := ends_len_le v
 intro d
 induction d with
 | zero =>
  intro n acc hn hacc hr
  have : n = B + 1 := by omega
  subst this
  rw [show allP (lineP v s pat l y every) (B + 1) 0 = [] from rfl, show ints [] = [] from rfl, List.append_nil] at hr
  exact hr
 | succ d ih =>
  intro n acc hn hacc hr
  have hne : n < (ends v).length := by omega
  have hrg := line_range v n hne
  have hpl := lineP_len v s pat l y every hp n hne
  have hb := bounds_ev v (by omega) n hne
  have hps := places_ev h A (B : Int) pat rep every hp (lineFrom v n) (lineTo v n) hrg.1 (by omega)
  refine Ev.step (fun k => by simp only [subst_Do.l0]; rfl) (Ev.pos (by omega) (Ev.bind hb (Ev.bind hps ?_)))
  have hl1 : (ints (lineP v s pat l y every n)).length = (lineP v s pat l y every n).length := List.length_map _
  rw [wadd1 n (by omega)]
  refine Ev.pos ?_ (ih (n + 1) _ (by omega) ?_ ?_)
  ·show acc.length + (ints (lineP v s pat l y every n)).length < _
   omega
  ·show (acc ++ ints (lineP v s pat l y every n)).length ≤ _
   rw [List.length_append]
   omega
  ·show Ev (fun k => subst_Do.l0 k y v ((acc ++ ints (lineP v s pat l y every n)) ++ ints (allP (lineP v s pat l y every) (n + 1) d)) ((B + 1 : Nat) : Int) s l A (B : Int) pat rep every) r
   rw [show allP (lineP v s pat l y every) n (d + 1) = lineP v s pat l y every n ++ allP (lineP v s pat l y every) (n + 1) d from rfl, show ints (lineP v s pat l y every n ++ allP (lineP v s pat l y every) (n + 1) d) = ints (lineP v s pat l y every n) ++ ints (allP (lineP v s pat l y every) (n + 1) d) from List.map_append, ← List.append_assoc] at hr
   exact hr
theorem wcount (n a b z : Nat) (hn : n ≤ 5000) (ha : a ≤ 5000) (hb : b ≤ 5000) (hz : z ≤ 5000) : wrap64 ((z : Int) + wrap64 ((n : Int) * wrap64 ((a : Int) - (b : Int)))) = (z : Int) + (((n * a : Nat) : Int) - ((n * b : Nat) : Int)) := by
 have h1 : n * a ≤ 5000 * 5000 := Nat.mul_le_mul hn ha
 have h2 : n * b ≤ 5000 * 5000 := Nat.mul_le_mul hn hb
 rw [show wrap64 ((a : Int) - (b : Int)) = (a : Int) - (b : Int) by unfold wrap64; omega, Int.mul_sub, ← Int.natCast_mul, ← Int.natCast_mul]
 generalize n * a = u at *
 generalize n * b = w at *
 rw [show wrap64 ((u : Int) - (w : Int)) = (u : Int) - (w : Int) by unfold wrap64; omega]
 unfold wrap64
 omega
def tailD (s : ByteArray) (l : List S51) (y : Int) (fr e : Nat) (ps : List Nat) (pat rep : ByteArray) : DX :=
 if ps.length = 0 then badD 6 else if (s.size : Int) + (((ps.length * rep.size : Nat) : Int) - ((ps.length * pat.size : Nat) : Int)) > 4096 then badD 3
 else okD s l fr e (bld s rep pat.size fr ps e) (buildS (bytes l) (List.replicate rep.size y) pat.size fr ps e) (ps.length : Int)
theorem bld_room (s rep : ByteArray) (m fr e : Nat) (ps : List Nat) (hs : spaced m fr ps e) (he : e ≤ s.size) (h4 : s.size ≤ 4096) (hc : ¬ (s.size : Int) + (((ps.length * rep.size : Nat) : Int) - ((ps.length * m : Nat) : Int)) > 4096) :
  (bld s rep m fr ps e).size ≤ 4096 ∧ (s.size : Int) - ((e : Int) - (fr : Int)) + ((bld s rep m fr ps e).size : Int) = (s.size : Int) + (((ps.length * rep.size : Nat) : Int) - ((ps.length * m : Nat) : Int)) := by
 have hb := build_len s.data.toList rep.data.toList m ps fr e (by rw [← Lib.size_eq]; exact he) hs
 have hle := spaced_le hs
 rw [← bld_size, ← Lib.size_eq] at hb
 generalize (bld s rep m fr ps e).size = u at *
 generalize ps.length * rep.size = x at *
 generalize ps.length * m = z at *
 generalize s.size = n at *
 omega
theorem sub_tail_ev (h : Fine s l y) (v pat rep : ByteArray) (every : Bool) (hv : v.size = s.size) (hp : 1 ≤ pat.size) (hp4 : pat.size ≤ 5000) (hr4 : rep.size ≤ 4096) (A B : Nat) (hAB : A ≤ B) (hB : B < (ends v).length) (ps : List Nat) (hps : spaced pat.size (lineFrom v A) ps (lineTo v B)) :
  Ev (fun k => subst_Do.l0 k y v (ints ps) ((B + 1 : Nat) : Int) s l (A : Int) (B : Int) pat rep every) (tailD s l y (lineFrom v A) (lineTo v B) ps pat rep) := by
 have h4 := h.size.1
 have hle := spaced_le hps
 have hz := spaced_len hp hps
 have hz2 := Nat.le_mul_of_pos_right ps.length hp
 have hrA := line_range v A (by omega)
 have hrB := line_range v B hB
 have hil : (ints ps).length = ps.length := List.length_map _
 have hn5 : ps.length ≤ 5000 := by omega
 have hbA := bounds_ev v (by omega) A (by omega)
 have hbB := bounds_ev v (by omega) B hB
 have hmk : makeS rep y = (rep, pack (List.replicate rep.size y), 0) := by unfold makeS; rw [if_neg (by omega)]
 have hbl := fun hc => bld_room s rep pat.size (lineFrom v A) (lineTo v B) ps hps (by omega) h4 hc
 refine Ev.step (fun k => by simp only [subst_Do.l0]; rfl) (Ev.neg (by omega) ?_)
 rw [hil, wcount ps.length rep.size pat.size s.size hn5 (by omega) hp4 (by omega)]
 unfold tailD
 by_cases h0 : ps.length = 0
 ·rw [if_pos h0]
  exact Ev.pos (by omega) (Ev.now _)
 ·rw [if_neg h0]
  refine Ev.neg (by omega) ?_
  by_cases hc : (s.size : Int) + (((ps.length * rep.size : Nat) : Int) - ((ps.length * pat.size : Nat) : Int)) > 4096
  ·rw [if_pos hc]
   exact Ev.pos hc (Ev.now _)
  ·rw [if_neg hc]
   refine Ev.neg hc (Ev.bind (ev_val (make_ev rep y) hmk) (Ev.bind hbA (Ev.bind hbB (Ev.pos (by omega) (Ev.bind (Ev.now _) ?_)))))
   have hq := hbl hc
   have hF := fwd_ev h (A : Int) (B : Int) pat rep every (lineFrom v A) (lineTo v B) (ints ps) ps hp hle (by omega) hn5 (fun T D _ hT => by subst hT; exact ⟨hq.1, by rw [hq.2]; omega⟩) ps 0 (lineFrom v A) ⟨#[]⟩ [] rfl (by omega) (by omega) hps rfl (data_inj (by rw [app_list]; rfl)) rfl
   rw [hil] at hF
   exact hF
end
end Go.Proofs.Ytnbdldpjiofafaa.PB
end

section
namespace Go.Proofs.Ytnbdldpjiofafaa.PB
open Go.RowKit Go.Proofs.YtnbdldpjiofafaaW.PrintWords
set_option linter.unusedVariables false
set_option maxHeartbeats 1000000
theorem has10 (pat : ByteArray) : strings_Contains.f pat ⟨#[10]⟩ = some (decide ((10 : UInt8) ∈ pat.data.toList)) := by
 unfold strings_Contains.f
 rw [if_pos (show (⟨#[10]⟩ : ByteArray).size = 1 from rfl)]
 congr 1
 rw [decide_eq_decide]
 rw [show (⟨#[10]⟩ : ByteArray).data.toList.getD 0 0 = 10 from rfl]
 rcases ib_cases pat.data.toList with ⟨h, hn⟩ | ⟨o, h, ho, h1, h2⟩
 ·rw [h]
  exact ⟨fun q => absurd q (by decide), fun q => absurd rfl (hn _ q)⟩
 ·rw [h]
  exact ⟨fun _ => List.mem_of_getElem? h1, fun _ => by omega⟩
def mayD (v : ByteArray) (A B : Int) (pat rep : ByteArray) : Bool :=
 decide (0 ≤ A) && (decide (A ≤ B) && (decide (B < ((ends v).length : Int)) && (decide (1 ≤ pat.size) && (!decide ((10 : UInt8) ∈ pat.data.toList) && decide (rep.size ≤ 4096)))))
theorem mayD_iff {v : ByteArray} {A B : Int} {pat rep : ByteArray} : mayD v A B pat rep = true ↔ 0 ≤ A ∧ A ≤ B ∧ B < ((ends v).length : Int) ∧ 1 ≤ pat.size ∧ ¬ (10 : UInt8) ∈ pat.data.toList ∧ rep.size ≤ 4096 := by simp [mayD]
def doG (s : ByteArray) (l : List S51) (y : Int) (v : ByteArray) (A B : Nat) (pat rep : ByteArray) (every : Bool) : DX :=
 tailD s l y (lineFrom v A) (lineTo v B) (allP (lineP v s pat l y every) A (B + 1 - A)) pat rep
def doD (s : ByteArray) (l : List S51) (y A B : Int) (pat rep : ByteArray) (every : Bool) : DX :=
 if goodT s l = true ∧ mayD (viewS s l y).1 A B pat rep = true then doG s l y (viewS s l y).1 A.toNat B.toNat pat rep every else badD 2
theorem view_size {s : ByteArray} {l : List S51} {y : Int} (h : goodT s l = true) : (viewS s l y).1.size = s.size ∧ (viewS s l y).2 = 0 := by
 obtain ⟨g1, g2, g3, g4, g5⟩ := goodT_facts h
 unfold viewS
 rw [if_pos h]
 refine ⟨?_, rfl⟩
 show (strOfNums _).size = _
 rw [strOfNums_size, hideAll_len, bytesOf_len, g3, Nat.min_self]
theorem sub_may_ev {s : ByteArray} {l : List S51} {y : Int} (h : Fine s l y) (v pat rep : ByteArray) (every : Bool) (hv : v.size = s.size) (hp4 : pat.size ≤ 5000) (A B : Int) (hm : mayD v A B pat rep = true) :
  Ev (fun k => subst_Do.j0 k y v false s l A B pat rep every) (doG s l y v A.toNat B.toNat pat rep every) := by
 obtain ⟨h1, h2, h3, h4, h5, h6⟩ := mayD_iff.1 hm
 obtain ⟨a, rfl⟩ := Int.eq_ofNat_of_zero_le h1
 obtain ⟨b, rfl⟩ := Int.eq_ofNat_of_zero_le (show 0 ≤ B by omega)
 have hb : b < (ends v).length := by omega
 have hab : a ≤ b := by omega
 have hsp := (allP_spaced v s pat l y every h4 (b - a) a (by omega)).1
 rw [show a + (b - a) = b by omega, show b - a + 1 = b + 1 - a by omega] at hsp
 refine Ev.step (fun k => by simp only [subst_Do.j0]; rfl) (Ev.neg (by simp) ?_)
 rw [Int.toNat_natCast, Int.toNat_natCast]
 exact sub_lines_ev h v pat rep every hv h4 (a : Int) b hb _ (b + 1 - a) a [] (by omega) (by simp) (by rw [List.nil_append]; exact sub_tail_ev h v pat rep every hv h4 hp4 h6 a b hab hb _ hsp)
theorem do_ev (s : ByteArray) (l : List S51) (y A B : Int) (pat rep : ByteArray) (every : Bool) (hl : l.length ≤ big) (hw : ∀ r ∈ l, 0 ≤ r.f0 ∧ r.f0 < 18446744073709551616) (hy : 0 ≤ y ∧ y < 18446744073709551616) (hp4 : pat.size ≤ 5000) :
  Ev (fun k => subst_Do.f k s l y A B pat rep every) (doD s l y A B pat rep every) := by
 have bad : ∀ v, Ev (fun k => subst_Do.j0 k y v true s l A B pat rep every) (badD 2) := fun v => Ev.step (fun k => by simp only [subst_Do.j0]; rfl) (Ev.pos (c := true = true) rfl (Ev.now _))
 unfold subst_Do.f doD
 refine Ev.bind (view_ev s l hl y) ?_
 by_cases hg : goodT s l = true
 case neg =>
  rw [if_neg (fun q => hg q.1)]
  refine Ev.neg ?_ (bad _)
  unfold viewS
  rw [if_neg hg]
  decide
 obtain ⟨hv, hv2⟩ := view_size (y := y) hg
 refine Ev.pos hv2 ?_
 have hF : Fine s l y := ⟨hg, hl, hw, hy⟩
 have hend := ends_len_le (viewS s l y).1
 have h4 := hF.size.1
 have hcnt := count_ev (viewS s l y).1 (by omega)
 have hgo := sub_may_ev hF (viewS s l y).1 pat rep every hv hp4 A B
 generalize (viewS s l y).1 = v at *
 clear hv2
 by_cases hm : mayD v A B pat rep = true
 ·rw [if_pos ⟨hg, hm⟩]
  obtain ⟨m1, m2, m3, m4, m5, m6⟩ := mayD_iff.1 hm
  refine Ev.neg (by omega) (Ev.neg (by omega) ?_)
  rw [hcnt, has10, decide_eq_false m5, decide_eq_false (show ¬ ((rep.size : Int) > 4096) by omega)]
  refine Ev.bind (Ev.now _) (Ev.neg (by omega) (Ev.neg ?_ (Ev.bind (Ev.now _) (Ev.neg (by simp) (hgo hm)))))
  rw [toList_data]
  intro q
  have hz := (Lib.size_eq pat).trans (congrArg List.length q)
  rw [List.length_nil] at hz
  omega
 ·rw [if_neg (fun q => hm q.2)]
  refine Ev.ite' (fun _ => bad _) (fun m1 => Ev.ite' (fun _ => bad _) (fun m2 => ?_))
  rw [hcnt, has10]
  refine Ev.bind (Ev.now _) (Ev.ite' (fun _ => bad _) (fun m3 => Ev.ite' (fun _ => bad _) (fun m4 => Ev.bind (Ev.now _) (Ev.ite' (fun _ => bad _) (fun m5 => ?_)))))
  have : decide ((rep.size : Int) > 4096) = true := by
   rw [decide_eq_true_eq]
   refine Int.not_le.1 (fun q => hm (mayD_iff.2 ⟨by omega, by omega, by omega, ?_, by simpa using m5, by omega⟩))
   rcases Nat.eq_zero_or_pos pat.size with z | z
   ·refine absurd ?_ m4
    rw [toList_data]
    rw [Lib.size_eq] at z
    exact List.eq_nil_of_length_eq_zero z
   ·exact z
  rw [this]
  exact bad _
end Go.Proofs.Ytnbdldpjiofafaa.PB
end

section
namespace Go.Proofs.Ytnbdldpjiofafaa.PB
open Go.RowKit Go.Proofs.YtnbdldpjiofafaaW.PrintWords
set_option linter.unusedVariables false
set_option maxHeartbeats 1000000
theorem doD_cases (s : ByteArray) (l : List S51) (y A B : Int) (pat rep : ByteArray) (every : Bool) (v : ByteArray) (hv : v = (viewS s l y).1) :
  (∃ c : Int, c ≠ 0 ∧ doD s l y A B pat rep every = badD c) ∨
  ∃ (a b : Nat) (ps : List Nat) (fr e : Nat), A = a ∧ B = b ∧ a ≤ b ∧ b < (ends v).length ∧ goodT s l = true ∧ mayD v A B pat rep = true ∧ ps = allP (lineP v s pat l y every) a (b + 1 - a) ∧ fr = lineFrom v a ∧ e = lineTo v b ∧
   spaced pat.size fr ps e ∧ fr ≤ e ∧ e ≤ s.size ∧ 1 ≤ ps.length ∧ ¬ (s.size : Int) + (((ps.length * rep.size : Nat) : Int) - ((ps.length * pat.size : Nat) : Int)) > 4096 ∧
   doD s l y A B pat rep every = okD s l fr e (bld s rep pat.size fr ps e) (buildS (bytes l) (List.replicate rep.size y) pat.size fr ps e) (ps.length : Int) := by
 subst hv
 unfold doD
 by_cases h : goodT s l = true ∧ mayD (viewS s l y).1 A B pat rep = true
 case neg => exact .inl ⟨2, by decide, by rw [if_neg h]⟩
 rw [if_pos h]
 obtain ⟨hg, hm⟩ := h
 have hv := (view_size (y := y) hg).1
 generalize (viewS s l y).1 = v at *
 obtain ⟨h1, h2, h3, h4, h5, h6⟩ := mayD_iff.1 hm
 obtain ⟨a, rfl⟩ := Int.eq_ofNat_of_zero_le h1
 obtain ⟨b, rfl⟩ := Int.eq_ofNat_of_zero_le (show 0 ≤ B by omega)
 have hb : b < (ends v).length := by omega
 have hab : a ≤ b := by omega
 have hsp := (allP_spaced v s pat l y every h4 (b - a) a (by omega)).1
 rw [show a + (b - a) = b by omega, show b - a + 1 = b + 1 - a by omega] at hsp
 have hle := spaced_le hsp
 have hr := (line_range v b hb).2
 unfold doG
 rw [Int.toNat_natCast, Int.toNat_natCast]
 generalize hps : allP (lineP v s pat l y every) a (b + 1 - a) = ps at *
 unfold tailD
 by_cases h0 : ps.length = 0
 ·exact .inl ⟨6, by decide, by rw [if_pos h0]⟩
 rw [if_neg h0]
 by_cases hc : (s.size : Int) + (((ps.length * rep.size : Nat) : Int) - ((ps.length * pat.size : Nat) : Int)) > 4096
 ·exact .inl ⟨3, by decide, by rw [if_pos hc]⟩
 rw [if_neg hc]
 exact .inr ⟨a, b, ps, lineFrom v a, lineTo v b, rfl, rfl, hab, hb, hg, hm, hps.symm, rfl, rfl, hsp, hle, by omega, by omega, hc, rfl⟩
theorem bld_lab (s rep : ByteArray) (l : List S51) (y : Int) (m fr e : Nat) (ps : List Nat) (hs : spaced m fr ps e) (he : e ≤ s.size) (hL : (bytes l).length = s.size) :
  (buildS (bytes l) (List.replicate rep.size y) m fr ps e).length = (bld s rep m fr ps e).size := by
 have h1 := build_len s.data.toList rep.data.toList m ps fr e (by rw [← Lib.size_eq]; exact he) hs
 have h2 := build_len (bytes l) (List.replicate rep.size y) m ps fr e (by omega) hs
 rw [← bld_size, ← Lib.size_eq] at h1
 rw [List.length_replicate] at h2
 generalize ps.length * rep.size = x at *
 generalize ps.length * m = z at *
 omega
section
variable {s : ByteArray} {l : List S51} {y : Int}
theorem splice_is (h : Fine s l y) (fr e : Nat) (T : ByteArray) (D : List Int) (h1 : fr ≤ e) (h2 : e ≤ s.size) (hD : D.length = T.size) (hT : T.size ≤ 4096) (hz : (s.size : Int) - ((e : Int) - (fr : Int)) + (T.size : Int) ≤ 4096) :
  spliceT s l (fr : Int) (e : Int) T (pack D) = (s.extract 0 fr ++ T ++ s.extract e s.size, pack ((bytes l).take fr ++ D ++ (bytes l).drop e), 0) := by
 unfold spliceT
 rw [if_pos (withinT_iff.2 ⟨h.good, by omega, by omega, by omega⟩), if_pos (goodT_pack hD hT), if_neg (by omega), Int.toNat_natCast, Int.toNat_natCast, pack_bytes]
theorem apply_sums (n fr e m o : Nat) (h1 : fr ≤ e) (h2 : e ≤ n) (h4 : n ≤ 4096) (hT : m ≤ 4096) (hz : (n : Int) - ((e : Int) - (fr : Int)) + (m : Int) ≤ 4096) (ho : o = e - fr) :
  wrap64 ((fr : Int) + (o : Int)) = (e : Int) ∧ decide (wrap64 ((n : Int) - (fr : Int)) < (o : Int)) = false ∧ ¬ wrap64 (wrap64 ((n : Int) - (o : Int)) + (m : Int)) > 4096 := by
 subst ho
 refine ⟨?_, ?_, ?_⟩
 ·rw [wadd fr (e - fr) (by omega)]; omega
 ·rw [decide_eq_false_iff_not, show wrap64 ((n : Int) - (fr : Int)) = (n : Int) - (fr : Int) by unfold wrap64; omega]
  omega
 ·rw [show wrap64 ((n : Int) - ((e - fr : Nat) : Int)) = ((n - (e - fr) : Nat) : Int) by unfold wrap64; omega, wadd _ _ (by omega)]
  omega
theorem rapply_ok (h : Fine s l y) (fr e : Nat) (T : ByteArray) (D : List Int) (h1 : fr ≤ e) (h2 : e ≤ s.size) (hD : D.length = T.size) (hT : T.size ≤ 4096) (hz : (s.size : Int) - ((e : Int) - (fr : Int)) + (T.size : Int) ≤ 4096) :
  Ev (fun k => bureauref07_Apply.f k s l (fr : Int) (s.extract fr e) (pack (((bytes l).take e).drop fr)) T (pack D)) (s.extract 0 fr ++ T ++ s.extract e s.size, pack ((bytes l).take fr ++ D ++ (bytes l).drop e), 0) := by
 have h4 := h.size.1
 have hL := h.size.2
 have hz1 : (s.extract fr e).size = e - fr := by rw [ByteArray.size_extract]; omega
 have hb : (((bytes l).take e).drop fr).length = (s.extract fr e).size := by rw [hz1, List.length_drop, List.length_take]; omega
 have hbp := packBig hb (by omega)
 have hbd := packBig hD (by omega)
 have hgE : goodE (fr : Int) (s.extract fr e) (pack (((bytes l).take e).drop fr)) T (pack D) = true := goodE_iff.2 ⟨goodT_pack hb (by omega), goodT_pack hD hT, by omega, by omega⟩
 have hcut := ev_val (rcut_ev s l h.len (fr : Int) (e : Int)) (cut_ok h fr e h1 h2)
 have hsame := rsame4_ev (s.extract fr e) (pack (((bytes l).take e).drop fr)) (s.extract fr e) (pack (((bytes l).take e).drop fr)) hbp
 have hspl := ev_val (rsplice4_ev s l h.len (fr : Int) (e : Int) T (pack D) hbd) (splice_is h fr e T D h1 h2 hD hT hz)
 have hgo := rgoodE_ev (fr : Int) (s.extract fr e) (pack (((bytes l).take e).drop fr)) T (pack D) hbp hbd
 rw [hgE] at hgo
 rw [sameT_self] at hsame
 have hgd := rgoodT_ev s l h.len
 rw [h.good] at hgd
 obtain ⟨hsum, hd, hf⟩ := apply_sums s.size fr e T.size (s.extract fr e).size h1 h2 h4 hT hz hz1
 unfold bureauref07_Apply.f bureauref07_Check.f
 rw [hsum, hd]
 refine Ev.bind (Ev.bind hgd (Ev.pos rfl (Ev.bind hgo (Ev.pos rfl ?_)))) (Ev.pos rfl (Ev.bind hspl (Ev.now _)))
 refine Ev.step (fun k => by simp only [bureauref07_Check.j0]; rfl) (Ev.neg (by simp) ?_)
 rw [hsum]
 exact Ev.bind hcut (Ev.bind hsame (Ev.pos rfl (Ev.neg hf (Ev.now _))))
end
end Go.Proofs.Ytnbdldpjiofafaa.PB
end

section
namespace Go.Proofs.Ytnbdldpjiofafaa.PB
open Go.RowKit Go.Proofs.YtnbdldpjiofafaaW.PrintWords
set_option linter.unusedVariables false
set_option maxHeartbeats 1000000
section
variable {y : Int} {s s' : ByteArray} {l l' : List S51}
theorem take_drop_getD {α : Type} (L M : List α) (p n : Nat) (d : α) (hL : p + n ≤ L.length) (hM : p + n ≤ M.length) (h : ∀ i, p ≤ i → i < p + n → L.getD i d = M.getD i d) : (L.drop p).take n = (M.drop p).take n := by
 refine List.ext_getElem (by rw [List.length_take, List.length_take, List.length_drop, List.length_drop]; omega) (fun i h1 h2 => ?_)
 rw [List.length_take, List.length_drop] at h1
 have := h (p + i) (by omega) (by omega)
 rw [List.getD_eq_getElem?_getD, List.getD_eq_getElem?_getD, List.getElem?_eq_getElem (show p + i < L.length by omega), List.getElem?_eq_getElem (show p + i < M.length by omega)] at this
 rw [List.getElem_take, List.getElem_take, List.getElem_drop, List.getElem_drop]
 exact this
end
end Go.Proofs.Ytnbdldpjiofafaa.PB
end

section
namespace Go.Proofs.Ytnbdldpjiofafaa.PB
open Go.RowKit Go.Proofs.YtnbdldpjiofafaaW.PrintWords
set_option linter.unusedVariables false
set_option maxHeartbeats 1000000
theorem alive15 : bureaulaw15_alive.f 80 = some true := by decide +kernel
theorem alive15_ev : Ev (fun k => bureaulaw15_alive.f k) true := Ev.of (bureaulaw15_alive.mono) alive15
def fitD (s : ByteArray) (l : List S51) (pat rep : ByteArray) : Prop := s.size ≤ 1024 ∧ l.length ≤ 5000 ∧ pat.size ≤ 5000 ∧ rep.size ≤ 5000
instance (s : ByteArray) (l : List S51) (pat rep : ByteArray) : Decidable (fitD s l pat rep) := inferInstanceAs (Decidable (_ ∧ _))
theorem fits15_eq (s : ByteArray) (l : List S51) (A B : Int) (pat rep : ByteArray) (every : Bool) : bureaulaw15_fits.f s l A B pat rep every = some (decide (fitD s l pat rep)) := by
 unfold bureaulaw15_fits.f bureaulaw14_Fits.f
 by_cases h1 : s.size ≤ 1024
 ·rw [if_pos (by omega), Option.bind_some]
  by_cases h2 : l.length ≤ 5000
  ·rw [if_pos (by rw [decide_eq_true_eq]; omega)]
   by_cases h3 : pat.size ≤ 5000
   ·rw [if_pos (by omega)]
    congr 1
    rw [decide_eq_decide]
    unfold fitD
    omega
   ·rw [if_neg (by omega)]
    congr 1
    symm
    rw [decide_eq_false_iff_not]
    exact fun q => h3 q.2.2.1
  ·rw [if_neg (by rw [decide_eq_true_eq]; omega)]
   congr 1
   symm
   rw [decide_eq_false_iff_not]
   exact fun q => h2 q.2.1
 ·rw [if_neg (by omega), Option.bind_some, if_neg (by decide)]
  congr 1
  symm
  rw [decide_eq_false_iff_not]
  exact fun q => h1 q.1
theorem fitBig {s : ByteArray} {l : List S51} {pat rep : ByteArray} (h : fitD s l pat rep) : l.length ≤ big := by have := h.2.1; unfold big; omega
end Go.Proofs.Ytnbdldpjiofafaa.PB
end

section
namespace Go.Proofs.Ytnbdldpjiofafaa.PB
open Go.RowKit Go.Proofs.YtnbdldpjiofafaaW.PrintWords
set_option linter.unusedVariables false
set_option maxHeartbeats 1000000
section
variable {y : Int} {s s' : ByteArray} {l : List S51}
theorem pack_lab {D : List Int} (h : rangeL D) : ∀ r ∈ pack D, 0 ≤ r.f0 ∧ r.f0 < 18446744073709551616 := by
 intro r hrm
 have hm : r.f0 ∈ bytes (pack D) := by
  unfold bytes
  rw [List.mem_flatMap]
  have hpos : 1 ≤ r.f1 := nrm_pos (pack_nrm D) r hrm
  refine ⟨r, hrm, ?_⟩
  rw [List.mem_replicate]
  exact ⟨by omega, rfl⟩
 rw [pack_bytes] at hm
 exact h _ hm
end
end Go.Proofs.Ytnbdldpjiofafaa.PB
end

section
namespace Go.Proofs.Ytnbdldpjiofafaa.PB
open Go.RowKit Go.Proofs.YtnbdldpjiofafaaW.PrintWords
set_option linter.unusedVariables false
set_option maxHeartbeats 1000000
theorem cnt_le {P : List UInt8} (Q : List UInt8) (p : Nat) (h : p ≤ P.length) : cnt (P ++ Q) p = cnt P p := by unfold cnt; rw [List.take_append_of_le_length h]
theorem cnt_take (L : List UInt8) (fr p : Nat) (h : p ≤ fr) : cnt (L.take fr) p = cnt L p := by unfold cnt; rw [List.take_take, Nat.min_eq_left h]
theorem cnt_new (vl M2 : List UInt8) (fr e : Nat) (hfe : fr ≤ e) (he : e ≤ vl.length) (hM : M2.count 10 = ((vl.take e).drop fr).count 10) :
  (∀ p, p ≤ fr → cnt (vl.take fr ++ M2 ++ vl.drop e) p = cnt vl p) ∧ (∀ j, cnt (vl.take fr ++ M2 ++ vl.drop e) (fr + M2.length + j) = cnt vl (e + j)) := by
 have hl : (vl.take fr).length = fr := by rw [List.length_take]; omega
 constructor
 ·intro p hp
  rw [List.append_assoc, cnt_le _ _ (by omega), cnt_take _ _ _ hp]
 ·intro j
  rw [cnt_split vl e (e + j) (by omega), cnt_split vl fr e hfe, ← hM, drop_take']
  unfold cnt
  rw [List.take_append, List.take_of_length_le (by rw [List.length_append, hl]; omega), List.count_append, List.count_append, List.length_append, hl, Nat.add_sub_cancel_left]
theorem mem_allP {f : Nat → List Nat} {q : Nat} : ∀ (d n i : Nat), n ≤ i → i < n + d → q ∈ f i → q ∈ allP f n d
 | 0, n, i, h1, h2, h => by omega
 | d + 1, n, i, h1, h2, h => by
  rw [allP, List.mem_append]
  by_cases e : i = n
  ·subst e; exact .inl h
  ·exact .inr (mem_allP d (n + 1) i (by omega) (by omega) h)
theorem mid_win {α : Type} (P T Q : List α) (p m : Nat) (h1 : P.length ≤ p) (h2 : p + m ≤ P.length + T.length) : ((P ++ T ++ Q).drop p).take m = (T.drop (p - P.length)).take m := by
 rw [List.append_assoc, List.drop_append, List.drop_eq_nil_of_le h1, List.nil_append, List.drop_append_of_le_length (by omega), List.take_append_of_le_length (by rw [List.length_drop]; omega)]
section
variable {s : ByteArray} {l : List S51} {y : Int}
theorem new_old (sl pl rl : List UInt8) (L R : List Int) (m fr e k : Nat) (ps : List Nat) (hL : L.length = sl.length) (hR : R.length = rl.length) (hr : 1 ≤ rl.length) (hm : 1 ≤ m) (hpl : pl.length = m) (hdis : ∀ c ∈ pl, ¬ c ∈ rl)
  (he : e ≤ sl.length) (hsp : spaced m fr ps e) (hk : k + m ≤ (buildS sl rl m fr ps e).length) (hw : ((buildS sl rl m fr ps e).drop k).take m = pl) :
  ∃ p, fr ≤ p ∧ p + m ≤ e ∧ (sl.drop p).take m = pl ∧ (L.drop p).take m = ((buildS L R m fr ps e).drop k).take m ∧ ∀ q ∈ ps, q + m ≤ p ∨ p + m ≤ q := by
 have hz := build_zip Prod.mk sl rl L R m hL.symm hR.symm ps fr e
 have hlen : (buildS sl rl m fr ps e).length = (buildS L R m fr ps e).length := by
  have b1 := build_len sl rl m ps fr e he hsp
  have b2 := build_len L R m ps fr e (by omega) hsp
  rw [hR] at b2
  omega
 have hfst : ∀ (A : List UInt8) (B : List Int), A.length = B.length → (List.zipWith Prod.mk A B).map Prod.fst = A := fun A B h => List.map_fst_zip (by omega)
 have hsnd : ∀ (A : List UInt8) (B : List Int), A.length = B.length → (List.zipWith Prod.mk A B).map Prod.snd = B := fun A B h => List.map_snd_zip (by omega)
 have f1 : (buildS (List.zipWith Prod.mk sl L) (List.zipWith Prod.mk rl R) m fr ps e).map Prod.fst = buildS sl rl m fr ps e := by rw [← hz]; exact hfst _ _ hlen
 have f2 : (buildS (List.zipWith Prod.mk sl L) (List.zipWith Prod.mk rl R) m fr ps e).map Prod.snd = buildS L R m fr ps e := by rw [← hz]; exact hsnd _ _ hlen
 have hl2 : (buildS (List.zipWith Prod.mk sl L) (List.zipWith Prod.mk rl R) m fr ps e).length = (buildS sl rl m fr ps e).length := by rw [← f1, List.length_map]
 have hwl : (List.zipWith Prod.mk sl L).length = sl.length := by rw [List.length_zipWith]; omega
 have hrl : (List.zipWith Prod.mk rl R).length = rl.length := by rw [List.length_zipWith]; omega
 obtain ⟨p, h1, h2, h3, h4⟩ := gap (List.zipWith Prod.mk sl L) (List.zipWith Prod.mk rl R) m m (by omega) hm ps fr e k (by omega) hsp (by omega) (fun x hx hxr => by
  have m1 : x.1 ∈ pl := by
   rw [← hw, ← f1, ← List.map_drop, ← List.map_take]
   exact List.mem_map_of_mem hx
  have m2 : x.1 ∈ rl := by
   have := hfst rl R hR.symm
   rw [← this]
   exact List.mem_map_of_mem hxr
  exact hdis _ m1 m2)
 refine ⟨p, h1, h2, ?_, ?_, h4⟩
 ·have := congrArg (List.map Prod.fst) h3
  rw [List.map_take, List.map_drop, f1, hw, List.map_take, List.map_drop, hfst _ _ hL.symm] at this
  exact this.symm
 ·have := congrArg (List.map Prod.snd) h3
  rw [List.map_take, List.map_drop, f2, List.map_take, List.map_drop, hsnd _ _ hL.symm] at this
  exact this.symm
end
end Go.Proofs.Ytnbdldpjiofafaa.PB
end

section
namespace Go.Proofs.Ytnbdldpjiofafaa.PB
open Go.RowKit Go.Proofs.YtnbdldpjiofafaaW.PrintWords
set_option linter.unusedVariables false
set_option maxHeartbeats 1000000
section
variable {s : ByteArray} {l : List S51} {y : Int}
theorem none_left (v v2 s2 pat : ByteArray) (rl : List UInt8) (L2 : List Int) (a b fr e : Nat) (ps : List Nat) (M2 : List UInt8) (N : Nat) (hN : s.size = N)
  (hp : 1 ≤ pat.size) (hrep : 1 ≤ rl.length) (hdis : ∀ c ∈ pat.data.toList, ¬ c ∈ rl) (hp10 : pat.data.toList.count 10 = 0)
  (hab : a ≤ b) (hb : b < (ends v).length) (hfr : fr = lineFrom v a) (he : e = lineTo v b) (hps : ps = allP (lineP v s pat l y true) a (b + 1 - a)) (hsp : spaced pat.size fr ps e) (hes : e ≤ N) (hvs : v.size = N) (hL : (bytes l).length = N)
  (hview : ∀ p, p + pat.size ≤ N → (s.data.toList.drop p).take pat.size = pat.data.toList → (((bytes l).drop p).take pat.size).all (fun x => seen x y) = true → (v.data.toList.drop p).take pat.size = pat.data.toList)
  (hs2 : s2.data.toList = s.data.toList.take fr ++ buildS s.data.toList rl pat.size fr ps e ++ s.data.toList.drop e)
  (hv2 : v2.data.toList = v.data.toList.take fr ++ M2 ++ v.data.toList.drop e) (hMl : M2.length = (buildS s.data.toList rl pat.size fr ps e).length) (hMc : M2.count 10 = ((v.data.toList.take e).drop fr).count 10)
  (hL2 : L2 = (bytes l).take fr ++ buildS (bytes l) (List.replicate rl.length y) pat.size fr ps e ++ (bytes l).drop e) :
  (ends v2).length = (ends v).length ∧ ∀ n, a ≤ n → n ≤ b → ∀ p, lineFrom v2 n ≤ p → ¬ hitS s2.data.toList pat.data.toList L2 y (lineTo v2 n) p = true := by
 have hfe : fr ≤ e := spaced_le hsp
 have hsl : s.data.toList.length = N := by rw [← Lib.size_eq]; exact hN
 have hvl : v.data.toList.length = N := by rw [← Lib.size_eq]; exact hvs
 have hpl : pat.data.toList.length = pat.size := (Lib.size_eq pat).symm
 obtain ⟨c1, c2⟩ := cnt_new v.data.toList M2 fr e hfe (by omega) hMc
 rw [← hv2] at c1 c2
 have hA := (line_cnt v a (by omega)).1
 have hB := (line_cnt v b hb).2.1
 rw [← hfr] at hA
 rw [← he] at hB
 have hv2s : v2.size = fr + M2.length + (N - e) := by
  rw [Lib.size_eq, hv2, List.length_append, List.length_append, List.length_take, List.length_drop]; omega
 have hends : (ends v2).length = (ends v).length := by
  have e1 : (ends v2).length = v2.data.toList.count 10 + 1 := lineEnds_len _ _
  have e2 : (ends v).length = v.data.toList.count 10 + 1 := lineEnds_len _ _
  have q := c2 (N - e)
  rw [← hv2s, show e + (N - e) = N by omega] at q
  have q1 : cnt v2.data.toList v2.size = v2.data.toList.count 10 := by unfold cnt; rw [List.take_of_length_le (by rw [← Lib.size_eq]; exact Nat.le_refl _)]
  have q2 : cnt v.data.toList N = v.data.toList.count 10 := by unfold cnt; rw [List.take_of_length_le (by omega)]
  omega
 refine ⟨hends, fun n hn1 hn2 p hp1 hh => ?_⟩
 obtain ⟨h1, h2, h3⟩ := hitS_iff.1 hh
 rw [hpl] at h1 h2 h3
 have hn : n < (ends v2).length := by omega
 have hto := (line_range v2 n hn).2
 have k1 := of_line v2 n p hn hp1 (by omega)
 have k2 := of_line v2 n (p + pat.size) hn (by omega) h1
 have hfp : fr ≤ p := by
  refine Nat.le_of_not_lt (fun hlt => ?_)
  have q := c1 p (by omega)
  have q2 := cnt_mono v.data.toList p fr (by omega)
  have q3 := (in_line v a p (by omega) (by omega) (by omega)).1
  omega
 have hpe : p + pat.size ≤ fr + M2.length := by
  refine Nat.le_of_not_lt (fun hlt => ?_)
  obtain ⟨j, hj⟩ : ∃ j, p + pat.size = fr + M2.length + j := ⟨p + pat.size - (fr + M2.length), by omega⟩
  have q := c2 j
  rw [← hj] at q
  have q2 := cnt_mono v.data.toList e (e + j) (by omega)
  have q3 := (in_line v b (e + j) hb (by omega) (by omega)).2
  omega
 have hlf : (s.data.toList.take fr).length = fr := by rw [List.length_take]; omega
 have hlg : ((bytes l).take fr).length = fr := by rw [List.length_take]; omega
 have hDl : (buildS (bytes l) (List.replicate rl.length y) pat.size fr ps e).length = (buildS s.data.toList rl pat.size fr ps e).length := by
  have b1 := build_len s.data.toList rl pat.size ps fr e (by omega) hsp
  have b2 := build_len (bytes l) (List.replicate rl.length y) pat.size ps fr e (by omega) hsp
  rw [List.length_replicate] at b2
  omega
 have w1 := mid_win (s.data.toList.take fr) (buildS s.data.toList rl pat.size fr ps e) (s.data.toList.drop e) p pat.size (by omega) (by omega)
 have w2 := mid_win ((bytes l).take fr) (buildS (bytes l) (List.replicate rl.length y) pat.size fr ps e) ((bytes l).drop e) p pat.size (by omega) (by omega)
 rw [← hs2, h2, hlf] at w1
 rw [← hL2, hlg] at w2
 rw [w2] at h3
 obtain ⟨p', g1, g2, g3, g4, g5⟩ := new_old s.data.toList pat.data.toList rl (bytes l) (List.replicate rl.length y) pat.size fr e (p - fr) ps (by omega) List.length_replicate hrep hp hpl hdis (by omega) hsp (by omega) w1.symm
 rw [← g4] at h3
 have hvw := hview p' (by omega) g3 h3
 have hc0 : cnt v.data.toList (p' + pat.size) = cnt v.data.toList p' := by rw [cnt_split _ p' _ (by omega), drop_take', hvw, hp10]; rfl
 have hnl := cnt_ends v p'
 obtain ⟨z1, _⟩ := in_line v (cnt v.data.toList p') p' hnl (by omega) rfl
 obtain ⟨_, z2⟩ := in_line v (cnt v.data.toList p') (p' + pat.size) hnl (by omega) hc0
 have za := cnt_mono v.data.toList fr p' g1
 have zb := cnt_mono v.data.toList (p' + pat.size) e g2
 have hit' : hitS s.data.toList pat.data.toList (bytes l) y (lineTo v (cnt v.data.toList p')) p' = true := hitS_iff.2 ⟨by omega, by rw [hpl]; exact g3, by rw [hpl]; exact h3⟩
 obtain ⟨q, hq, q1, q2⟩ := scan_full (hit := hitS s.data.toList pat.data.toList (bytes l) y (lineTo v (cnt v.data.toList p'))) (m := pat.data.toList.length) (by omega) (lineTo v (cnt v.data.toList p') - lineFrom v (cnt v.data.toList p')) (lineFrom v (cnt v.data.toList p')) p' (Nat.le_refl _) z1 (by omega) hit'
 have hqm : q ∈ ps := by
  rw [hps]
  exact mem_allP (b + 1 - a) a (cnt v.data.toList p') (by omega) (by omega) hq
 rcases g5 q hqm with w | w <;> omega
end
end Go.Proofs.Ytnbdldpjiofafaa.PB
end

section
namespace Go.Proofs.Ytnbdldpjiofafaa.PB
open Go.RowKit Go.Proofs.YtnbdldpjiofafaaW.PrintWords
set_option linter.unusedVariables false
set_option maxHeartbeats 1000000
theorem common_ev (a b : ByteArray) (ha : a.size ≤ 1000) (hb : b.size ≤ 1000) : ∃ r, Ev (fun k => bureaulaw15_common.f k a b) r ∧ (r = false → ∀ c ∈ a.data.toList, ¬ c ∈ b.data.toList) := by
 have hal := Lib.size_eq a
 have hbl := Lib.size_eq b
 have hba := fun i hi => bt_list a i hi
 have hbb := fun i hi => bt_list b i hi
 obtain ⟨n, hn⟩ : ∃ n, a.size = n := ⟨_, rfl⟩
 obtain ⟨m, hm⟩ : ∃ m, b.size = m := ⟨_, rfl⟩
 have hnI : (a.size : Int) = (n : Int) := by rw [hn]
 have hmI : (b.size : Int) = (m : Int) := by rw [hm]
 rw [hn] at ha hba hal
 rw [hm] at hb hbb hbl
 have inner : ∀ (d j i : Nat) (r0 : Bool), j + d = m → i < n → Ev (fun k => bureaulaw15_common.l0 k a b (n : Int) ((i + 1 : Nat) : Int)) r0 → ∃ r, Ev (fun k => bureaulaw15_common.l1 k a b (i : Int) (n : Int) (i : Int) (m : Int) (j : Int)) r ∧ (r = false → r0 = false ∧ ∀ j', j ≤ j' → j' < m → bt a (i : Int) ≠ bt b (j' : Int)) := by
  intro d
  induction d with
  | zero =>
   intro j i r0 hj hi hr
   refine ⟨r0, Ev.step (fun k => by simp only [bureaulaw15_common.l1]; rfl) (Ev.neg (by omega) ?_), fun q => ⟨q, fun j' h1 h2 => by omega⟩⟩
   rw [wadd1 i (by omega)]
   exact hr
  | succ d ih =>
   intro j i r0 hj hi hr
   by_cases hq : bt a (i : Int) = bt b (j : Int)
   ·refine ⟨true, Ev.step (fun k => by simp only [bureaulaw15_common.l1]; rfl) ?_, fun q => by cases q⟩
    rw [hnI, hmI]
    exact Ev.pos (by omega) (Ev.pos (by omega) (Ev.pos (by omega) (Ev.pos (by omega) (Ev.pos (by omega) (Ev.pos hq (Ev.now _))))))
   ·obtain ⟨r, h1, h2⟩ := ih (j + 1) i r0 (by omega) hi hr
    refine ⟨r, Ev.step (fun k => by simp only [bureaulaw15_common.l1]; rfl) ?_, fun q => ⟨(h2 q).1, fun j' h3 h4 => ?_⟩⟩
    ·rw [hnI, hmI, wadd1 j (by omega)]
     exact Ev.pos (by omega) (Ev.pos (by omega) (Ev.pos (by omega) (Ev.pos (by omega) (Ev.pos (by omega) (Ev.neg hq h1)))))
    ·by_cases e : j' = j
     ·subst e; exact hq
     ·exact (h2 q).2 j' (by omega) h4
 have outer : ∀ (d i : Nat), i + d = n → ∃ r, Ev (fun k => bureaulaw15_common.l0 k a b (n : Int) (i : Int)) r ∧ (r = false → ∀ i', i ≤ i' → i' < n → ∀ j', j' < m → bt a (i' : Int) ≠ bt b (j' : Int)) := by
  intro d
  induction d with
  | zero =>
   intro i hi
   exact ⟨false, Ev.step (fun k => by simp only [bureaulaw15_common.l0]; rfl) (Ev.neg (by omega) (Ev.now _)), fun _ i' h1 h2 => by omega⟩
  | succ d ih =>
   intro i hi
   obtain ⟨r0, h1, h2⟩ := ih (i + 1) (by omega)
   obtain ⟨r, h3, h4⟩ := inner m 0 i r0 (by omega) (by omega) h1
   refine ⟨r, Ev.step (fun k => by simp only [bureaulaw15_common.l0]; rfl) (Ev.pos (by omega) ?_), fun q i' w1 w2 j' w3 => ?_⟩
   ·rw [hmI]; exact h3
   ·by_cases e : i' = i
    ·subst e; exact (h4 q).2 j' (by omega) w3
    ·exact h2 (h4 q).1 i' (by omega) w2 j' w3
 obtain ⟨r, h1, h2⟩ := outer n 0 (by omega)
 refine ⟨r, ?_, fun q c hc hd => ?_⟩
 ·unfold bureaulaw15_common.f
  rw [hnI]
  exact h1
 ·obtain ⟨i, hi, e1⟩ := List.mem_iff_getElem.1 hc
  obtain ⟨j, hj, e2⟩ := List.mem_iff_getElem.1 hd
  refine h2 q i (by omega) (by omega) j (by omega) ?_
  rw [hba i (by omega), hbb j (by omega), List.getD_eq_getElem?_getD, List.getD_eq_getElem?_getD, List.getElem?_eq_getElem hi, List.getElem?_eq_getElem hj, e1, e2]
theorem seen_self {y : Int} (hy : 0 ≤ y ∧ y < 18446744073709551616) : seen y y = true := by
 obtain ⟨y, rfl⟩ := Int.eq_ofNat_of_zero_le hy.1
 unfold seen
 rw [belowN_bits y y (by omega) (by omega)]
 exact belowN_yes (fun i _ h => h)
theorem bytesOf_inj {a b : ByteArray} (h : bytesOf a = bytesOf b) : a = b := by
 refine data_inj ?_
 have := congrArg (List.map (fun n : Int => UInt8.ofNat n.toNat)) h
 unfold bytesOf at this
 rw [List.map_map, List.map_map] at this
 have e : ((fun n : Int => UInt8.ofNat n.toNat) ∘ fun c : UInt8 => (c.toNat : Int)) = id := by
  funext c
  simp
 rw [e, List.map_id, List.map_id] at this
 exact this
section
variable {s : ByteArray} {l : List S51} {y : Int}
theorem view_bytes (hg : goodT s l = true) : bytesOf (viewS s l y).1 = hideAll y (bytes l) (bytesOf s) := by
 unfold viewS
 rw [if_pos hg]
 exact bytesOf_strOf _ hideAll_range
theorem view_win (hg : goodT s l = true) (v : ByteArray) (hv : v = (viewS s l y).1) (pl : List UInt8) (m p : Nat) (hp : p + m ≤ s.size) (hs : (s.data.toList.drop p).take m = pl) (hseen : (((bytes l).drop p).take m).all (fun x => seen x y) = true) : (v.data.toList.drop p).take m = pl := by
 obtain ⟨g1, g2, g3, g4, g5⟩ := goodT_facts hg
 have hvz := (view_size (y := y) hg).1
 have hb := view_bytes (y := y) hg
 rw [← hv] at hvz hb
 refine (take_drop_getD v.data.toList s.data.toList p m 0 (by rw [← Lib.size_eq]; omega) (by rw [← Lib.size_eq]; omega) (fun i i1 i2 => ?_)).trans hs
 have e := congrArg (fun L : List Int => L.getD i 0) hb
 change (bytesOf v).getD i 0 = (hideAll y (bytes l) (bytesOf s)).getD i 0 at e
 rw [hideAll_getD _ _ _ _ (by omega) (by rw [bytesOf_len]; omega), bytesOf_getD v i (by omega), bytesOf_getD s i (by omega)] at e
 have hsn : seen ((bytes l).getD i 0) y = true := by
  rw [List.all_eq_true] at hseen
  refine hseen _ ?_
  rw [List.getD_eq_getElem?_getD, List.getElem?_eq_getElem (show i < (bytes l).length by omega)]
  show (bytes l)[i] ∈ _
  rw [List.mem_take_iff_getElem]
  refine ⟨i - p, by rw [List.length_drop]; omega, ?_⟩
  rw [List.getElem_drop]
  congr 1
  omega
 unfold hide at e
 rw [if_pos hsn] at e
 exact UInt8.toNat_inj.1 (by omega)
theorem view_new (hg : goodT s l = true) (hy : 0 ≤ y ∧ y < 18446744073709551616) (v v2 s2 rep : ByteArray) (hv : v = (viewS s l y).1) (L2 : List Int) (m fr e : Nat) (ps : List Nat) (hsp : spaced m fr ps e) (he : e ≤ s.size) (hg2 : goodT s2 (pack L2) = true)
  (hs2 : s2.data.toList = s.data.toList.take fr ++ buildS s.data.toList rep.data.toList m fr ps e ++ s.data.toList.drop e)
  (hL2 : L2 = (bytes l).take fr ++ buildS (bytes l) (List.replicate rep.size y) m fr ps e ++ (bytes l).drop e)
  (hv2 : v2.data.toList = v.data.toList.take fr ++ buildS v.data.toList rep.data.toList m fr ps e ++ v.data.toList.drop e) : viewS s2 (pack L2) y = (v2, 0) := by
 obtain ⟨g1, g2, g3, g4, g5⟩ := goodT_facts hg
 have hb2 := view_bytes (y := y) hg2
 have h0 := (view_size (y := y) hg2).2
 have hb := view_bytes (y := y) hg
 rw [← hv] at hb
 have hfe := spaced_le hsp
 refine Prod.ext (bytesOf_inj ?_) h0
 rw [hb2, pack_bytes, hL2]
 have e1 : bytesOf s2 = (bytesOf s).take fr ++ buildS (bytesOf s) (bytesOf rep) m fr ps e ++ (bytesOf s).drop e := by
  unfold bytesOf
  rw [hs2, List.map_append, List.map_append, List.map_take, List.map_drop, build_map]
 have e2 : bytesOf v2 = (bytesOf v).take fr ++ buildS (bytesOf v) (bytesOf rep) m fr ps e ++ (bytesOf v).drop e := by
  unfold bytesOf
  rw [hv2, List.map_append, List.map_append, List.map_take, List.map_drop, build_map]
 have hbs : (bytesOf s).length = s.size := bytesOf_len s
 have hbr : (bytesOf rep).length = rep.size := bytesOf_len rep
 have hrp : hideAll y (List.replicate rep.size y) (bytesOf rep) = bytesOf rep := by
  have := hide_rep y y rep.size (bytesOf rep) (by omega)
  rw [if_pos (seen_self hy), List.take_of_length_le (by omega)] at this
  exact this
 have b1 := build_len (bytes l) (List.replicate rep.size y) m ps fr e (by omega) hsp
 have b2 := build_len (bytesOf s) (bytesOf rep) m ps fr e (by omega) hsp
 rw [List.length_replicate] at b1
 rw [hbr] at b2
 have hmid : hideAll y (buildS (bytes l) (List.replicate rep.size y) m fr ps e) (buildS (bytesOf s) (bytesOf rep) m fr ps e) = buildS (bytesOf v) (bytesOf rep) m fr ps e := by
  have := build_zip (hide y) (bytes l) (List.replicate rep.size y) (bytesOf s) (bytesOf rep) m (by omega) (by rw [List.length_replicate]; omega) ps fr e
  rw [hb]
  rw [← hrp]
  unfold hideAll
  unfold hideAll at hrp
  rw [hrp]
  rw [hrp] at this
  exact this
 rw [e1, e2, hideAll_app _ _ _ _ _ (by rw [List.length_append, List.length_append, List.length_take, List.length_take]; omega), hideAll_app _ _ _ _ _ (by rw [List.length_take, List.length_take]; omega), hideAll_take, hideAll_drop, hmid, hb]
end
end Go.Proofs.Ytnbdldpjiofafaa.PB
end

section
namespace Go.Proofs.Ytnbdldpjiofafaa.PB
open Go.RowKit Go.Proofs.YtnbdldpjiofafaaW.PrintWords
set_option linter.unusedVariables false
set_option maxHeartbeats 1000000
theorem allP_nil {f : Nat → List Nat} : ∀ (d n : Nat), (∀ q, n ≤ q → q < n + d → f q = []) → allP f n d = []
 | 0, n, _ => rfl
 | d + 1, n, h => by rw [allP, h n (Nat.le_refl _) (by omega), allP_nil d (n + 1) (fun q h1 h2 => h q (by omega) (by omega))]; rfl
theorem build_mem {L : List Int} {y : Int} {k m : Nat} : ∀ (ps : List Nat) (a e : Nat) (x : Int), x ∈ buildS L (List.replicate k y) m a ps e → x ∈ L ∨ x = y := by
 intro ps
 induction ps with
 | nil => intro a e x hx; exact .inl (List.mem_of_mem_take (List.mem_of_mem_drop hx))
 | cons p ps ih =>
  intro a e x hx
  rw [buildS, List.mem_append, List.mem_append] at hx
  rcases hx with hx | hx | hx
  ·exact .inl (List.mem_of_mem_take (List.mem_of_mem_drop hx))
  ·exact .inr (List.eq_of_mem_replicate hx)
  ·exact ih _ _ _ hx
theorem none_do {s : ByteArray} {l : List S51} {y : Int} (hF : Fine s l y) (pat rep : ByteArray) (a b : Nat) (ps : List Nat) (fr e : Nat) (hrep : 1 ≤ rep.size) (hdis : ∀ c ∈ rep.data.toList, ¬ c ∈ pat.data.toList) (hr10 : ¬ (10 : UInt8) ∈ rep.data.toList)
  (hab : a ≤ b) (hb : b < (ends (viewS s l y).1).length) (hm : mayD (viewS s l y).1 (a : Int) (b : Int) pat rep = true) (hps : ps = allP (lineP (viewS s l y).1 s pat l y true) a (b + 1 - a)) (hfr : fr = lineFrom (viewS s l y).1 a) (he : e = lineTo (viewS s l y).1 b)
  (hsp : spaced pat.size fr ps e) (hes : e ≤ s.size) (s2 : ByteArray) (L2 : List Int)
  (hs2 : s2.data.toList = s.data.toList.take fr ++ buildS s.data.toList rep.data.toList pat.size fr ps e ++ s.data.toList.drop e)
  (hL2 : L2 = (bytes l).take fr ++ buildS (bytes l) (List.replicate rep.size y) pat.size fr ps e ++ (bytes l).drop e) (hg2 : goodT s2 (pack L2) = true) :
  doD s2 (pack L2) y (a : Int) (b : Int) pat rep true = badD 6 := by
 have hg := hF.good
 have hy := hF.lev
 have hL := hF.size.2
 obtain ⟨hvz, _⟩ := view_size (y := y) hg
 obtain ⟨m1, m2, m3, hp1, m5, m6⟩ := mayD_iff.1 hm
 have hwin := fun p hp hs hn => view_win (y := y) hg (viewS s l y).1 rfl pat.data.toList pat.size p hp hs hn
 have hnew := fun v2 hv2 => view_new hg hy (viewS s l y).1 v2 s2 rep rfl L2 pat.size fr e ps hsp hes hg2 hs2 hL2 hv2
 generalize hv : (viewS s l y).1 = v at *
 have hfe := spaced_le hsp
 have hpl : pat.data.toList.length = pat.size := (Lib.size_eq pat).symm
 have hpin : ∀ p ∈ ps, (v.data.toList.drop p).take pat.size = pat.data.toList := by
  intro p hp
  rw [hps, show b + 1 - a = b - a + 1 by omega] at hp
  obtain ⟨q, q1, q2, _, hh⟩ := (allP_spaced v s pat l y true hp1 (b - a) a (by omega)).2 p hp
  obtain ⟨h1, h2, h3⟩ := hitS_iff.1 hh
  rw [hpl] at h1 h2 h3
  have := (line_range v q (by omega)).2
  exact hwin p (by omega) h2 h3
 have hp10 : pat.data.toList.count 10 = 0 := List.count_eq_zero.2 m5
 have hvl : v.data.toList.length = s.size := by rw [← Lib.size_eq]; exact hvz
 have hsl : s.data.toList.length = s.size := (Lib.size_eq s).symm
 have hMc := build_cnt v.data.toList rep.data.toList pat.size (List.count_eq_zero.2 hr10) ps fr e hsp (fun p hp => by rw [drop_take', hpin p hp, hp10])
 have hMl : (buildS v.data.toList rep.data.toList pat.size fr ps e).length = (buildS s.data.toList rep.data.toList pat.size fr ps e).length := by
  have b1 := build_len v.data.toList rep.data.toList pat.size ps fr e (by omega) hsp
  have b2 := build_len s.data.toList rep.data.toList pat.size ps fr e (by omega) hsp
  omega
 have hrl : rep.data.toList.length = rep.size := (Lib.size_eq rep).symm
 obtain ⟨v2, hv2⟩ : ∃ v2 : ByteArray, v2.data.toList = v.data.toList.take fr ++ buildS v.data.toList rep.data.toList pat.size fr ps e ++ v.data.toList.drop e := ⟨⟨(v.data.toList.take fr ++ buildS v.data.toList rep.data.toList pat.size fr ps e ++ v.data.toList.drop e).toArray⟩, rfl⟩
 have hvw := hnew v2 hv2
 obtain ⟨n1, n2⟩ := none_left (s := s) (l := l) (y := y) v v2 s2 pat rep.data.toList L2 a b fr e ps _ s.size rfl hp1 (by omega) (fun c hc hd => hdis c hd hc) hp10 hab hb hfr he hps hsp hes hvz hL hwin hs2 hv2 hMl hMc (by rw [hrl]; exact hL2)
 have hmay : mayD v2 (a : Int) (b : Int) pat rep = true := mayD_iff.2 ⟨m1, m2, by rw [n1]; exact m3, hp1, m5, m6⟩
 have hemp : allP (lineP v2 s2 pat (pack L2) y true) a (b + 1 - a) = [] := by
  refine allP_nil _ _ (fun q q1 q2 => ?_)
  unfold lineP
  rw [pack_bytes]
  exact places_none (by omega) (fun k k1 k2 => n2 q q1 (by omega) k k1)
 unfold doD
 rw [hvw, if_pos ⟨hg2, hmay⟩]
 unfold doG
 rw [Int.toNat_natCast, Int.toNat_natCast, hemp]
 rfl
theorem SubstNone_pure (t : S24) (y : Int) (j : S28) (wt : wf24 t) (wy : (Lit.int .u64 y).wf = true) (wj : wf28 j) : ∃ k, bureaulaw15_SubstNone.f k t.f0 t.f1 y j.f0 j.f1 j.f2 j.f3 j.f4 = some true := by
 refine Ev.rounds (g := fun k => bureaulaw15_SubstNone.f k t.f0 t.f1 y j.f0 j.f1 j.f2 j.f3 j.f4) ?_
 have hw := wfT wt
 have hy := wf_u64 wy
 generalize t.f0 = s at *
 generalize t.f1 = l at *
 generalize j.f0 = A at *
 generalize j.f1 = B at *
 generalize j.f2 = pat at *
 generalize j.f3 = rep at *
 generalize j.f4 = every at *
 clear wt wy wj
 unfold bureaulaw15_SubstNone.f
 refine Ev.bind alive15_ev (Ev.pos rfl ?_)
 rw [fits15_eq]
 have out : Ev (fun k => bureaulaw15_SubstNone.j0 k y true s l A B pat rep every) true := by
  refine Ev.step (fun k => by simp only [bureaulaw15_SubstNone.j0]; rfl) ?_
  exact Ev.pos (by simp) (Ev.now _)
 refine Ev.bind (Ev.now _) (Ev.ite' (fun hf => ?_) (fun _ => out))
 have hf := of_decide_eq_true hf
 have hl := fitBig hf
 refine Ev.ite' (fun _ => out) (fun c1 => Ev.ite' (fun _ => out) (fun c2 => Ev.ite' (fun _ => out) (fun c3 => Ev.pos (by omega) ?_)))
 obtain ⟨r, hr1, hr2⟩ := common_ev rep (pat ++ ⟨#[10]⟩) (by omega) (by rw [ByteArray.size_append]; show pat.size + 1 ≤ 1000; omega)
 refine Ev.bind hr1 ?_
 cases r with
 | true => exact out
 | false =>
  have hdj := hr2 rfl
  have hdis : ∀ c ∈ rep.data.toList, ¬ c ∈ pat.data.toList := fun c hc hd => hdj c hc (by rw [app_list]; exact List.mem_append_left _ hd)
  have hr10 : ¬ (10 : UInt8) ∈ rep.data.toList := fun hc => hdj 10 hc (by rw [app_list]; exact List.mem_append_right _ (List.mem_cons_self))
  refine Ev.step (fun k => by simp only [bureaulaw15_SubstNone.j0]; rfl) (Ev.neg (by simp) ?_)
  refine Ev.bind (do_ev s l y A B pat rep true hl hw hy hf.2.2.1) ?_
  rcases doD_cases s l y A B pat rep true _ rfl with ⟨c, hc, e⟩ | ⟨a, b, ps, fr, e, rfl, rfl, hab, hb, hg, hm, hps, hfr, he, hsp, hfe, hes, h1, hn, ed⟩
  ·rw [e]
   exact Ev.neg hc (Ev.now _)
  ·rw [ed]
   have hF : Fine s l y := ⟨hg, hl, hw, hy⟩
   have hL := hF.size.2
   have hr := bld_room s rep pat.size fr e ps hsp hes hF.size.1 hn
   have hlab := bld_lab s rep l y pat.size fr e ps hsp hes hL
   have hs2z : (s.extract 0 fr ++ bld s rep pat.size fr ps e ++ s.extract e s.size).size = fr + (bld s rep pat.size fr ps e).size + (s.size - e) := by
    rw [ByteArray.size_append, ByteArray.size_append, ByteArray.size_extract, ByteArray.size_extract]; omega
   have hL2z : ((bytes l).take fr ++ buildS (bytes l) (List.replicate rep.size y) pat.size fr ps e ++ (bytes l).drop e).length = (s.extract 0 fr ++ bld s rep pat.size fr ps e ++ s.extract e s.size).size := by
    rw [hs2z, List.length_append, List.length_append, hlab, List.length_take, List.length_drop]; omega
   have h4 : (s.extract 0 fr ++ bld s rep pat.size fr ps e ++ s.extract e s.size).size ≤ 4096 := by
    rw [hs2z]
    have := Int.le_trans (Int.le_of_eq hr.2) (Int.not_lt.1 hn)
    omega
   have hg2 := goodT_pack hL2z h4
   have hrange : rangeL ((bytes l).take fr ++ buildS (bytes l) (List.replicate rep.size y) pat.size fr ps e ++ (bytes l).drop e) := by
    intro x hx
    rw [List.mem_append, List.mem_append] at hx
    rcases hx with (hx | hx) | hx
    ·exact hF.range x (List.mem_of_mem_take hx)
    ·rcases build_mem _ _ _ _ hx with q | q
     ·exact hF.range x q
     ·rw [q]; exact hy
    ·exact hF.range x (List.mem_of_mem_drop hx)
   have hd2 := none_do hF pat rep a b ps fr e (by omega) hdis hr10 hab hb hm hps hfr he hsp hes (s.extract 0 fr ++ bld s rep pat.size fr ps e ++ s.extract e s.size) _ (by rw [app_list, app_list, bld_list, ext_list, extract_rest, List.drop_zero]) rfl hg2
   have hdo := do_ev (s.extract 0 fr ++ bld s rep pat.size fr ps e ++ s.extract e s.size) (pack ((bytes l).take fr ++ buildS (bytes l) (List.replicate rep.size y) pat.size fr ps e ++ (bytes l).drop e)) y (a : Int) (b : Int) pat rep true (packBig hL2z (by omega)) (pack_lab hrange) hy hf.2.2.1
   rw [hd2] at hdo
   refine Ev.pos rfl (Ev.bind (rapply_ok hF fr e _ _ hfe hes hlab hr.1 (Int.le_trans (Int.le_of_eq hr.2) (Int.not_lt.1 hn))) (Ev.bind hdo (Ev.pos rfl (Ev.now _))))
end Go.Proofs.Ytnbdldpjiofafaa.PB
end

section
namespace Go.Proofs.Ytnbdldpjiofafaa.PB
open Go.ChangeShapes Go.WideShapes Go.ChangeAt Go.RowKit Go.Proofs.YtnbdldpjiofafaaW.PrintWords
open Go.ChangeMaps (open_string shut_string)
set_option linter.unusedVariables false
namespace substNone
open Go.Proofs.Ytnbdldpjiofafaa
theorem own : ownKnob Try.prog.godebug = none := by kernel_rfl
theorem laidOut : laidOutB Try.prog = true := by kernel_rfl
set_option maxRecDepth 100000 in
theorem lifted (os : Os) (started : os.Started) (H : Type) (enc : TypeId × Value → H) :
    ReturnsInHanded {} Try.checked os 5 .any (Rows.substNoneSpec.pre6 enc Try.prog Try.f5 Rows.substNoneRow.domain false) (Rows.substNoneSpec.post enc Try.prog Try.f5 false true false false) := by
  refine returnsInHanded_of_change_shaped (C := Try.checked) own started (by kernel_rfl) Try.func5
    (ChangeSpec.witness6 (enc := enc) (C := Try.checked) false ⟨#[], #[.agg #[.string ByteArray.empty, .slice none 0 0], .int .u64 0, .agg #[.int .i64 0, .int .i64 0, .string ByteArray.empty, .string ByteArray.empty, .bool false]], []⟩ 8 (by kernel_rfl) (by kernel_rfl) (by kernel_rfl) (by kernel_rfl)) ?_
  intro W base args ds gs before hval0 hW hcnd hsz0 hsh _
  have hsz : (DataW.weightsEach Try.prog (Try.f5.params.toList ++ Rows.substNoneSpec.plain.varTypes Try.prog) (ds ++ gs)).all (· ≤ reachBytes) = true := hsz0
  have hval : ∀ (j : Nat) t v, Try.f5.params[j]? = some t → args[j]? = some v → Value.okWide Try.prog W .any base t v := hval0
  have hW' := hW
  obtain ⟨p, q, hA0, hV, rfl, hfz, hnd⟩ := hW
  have hA : DataW.TrodAll enc Try.prog W 0 (fun _ => true) true Try.f5.params.toList args.toList ds p := hA0
  rw [Try.params5] at hA hval hsz
  obtain ⟨v0, vs0, d0, ds0, p0, q0, hargs, rfl, rfl, h0, r0⟩ := trodAll_cons hA
  obtain ⟨v1, vs1, d1, ds1, p1, q1, rfl, rfl, rfl, h1, r1⟩ := trodAll_cons r0
  obtain ⟨v2, vs2, d2, ds2, p2, q2, rfl, rfl, rfl, h2, r2⟩ := trodAll_cons r1
  obtain ⟨rfl, rfl, rfl⟩ := trodAll_nil r2
  obtain rfl : args = #[v0, v1, v2] := by cases args; simp_all
  obtain ⟨rfl, rfl⟩ := trodVars_none hV
  have hz0 : ∀ n ∈ d0.weights Try.prog 24, n ≤ reachBytes := fun n hn => by have z := List.all_eq_true.1 hsz n (DataW.weights_mem_each (j := 0) rfl rfl n hn); simpa using z
  have kk0 := h0
  have lt0 : ∀ x ∈ p0, x.block < W.heap.size := by obtain ⟨m, hm⟩ := kk0; exact DataW.trod_lt m _ _ _ hm
  obtain ⟨cs0, rfl, cz0⟩ := okWide_struct Try.underlying24 (hval 0 24 v0 rfl rfl)
  obtain ⟨x0, hK0, w0⟩ : ∃ x : S24, k24.K W x cs0.toList ∧ wf24 x := by
    obtain ⟨fuel, hf⟩ := h0
    exact opn24 H enc _ _ _ fuel _ _ hf hz0
  obtain ⟨A0_1, c0_1, hcs0, hc0_1, hr0_1⟩ := k24_open hK0
  obtain rfl : cs0 = #[.string x0.f0, .slice A0_1 x0.f1.length c0_1] := Array.toList_inj.1 hcs0
  obtain ⟨a1, rfl, rfl, rfl, w1⟩ := open_int Try.underlying26 (hval 1 26 v1 rfl rfl) h1
  have hz2 : ∀ n ∈ d2.weights Try.prog 28, n ≤ reachBytes := fun n hn => by have z := List.all_eq_true.1 hsz n (DataW.weights_mem_each (j := 2) rfl rfl n hn); simpa using z
  have kk2 := h2
  have lt2 : ∀ x ∈ p2, x.block < W.heap.size := by obtain ⟨m, hm⟩ := kk2; exact DataW.trod_lt m _ _ _ hm
  obtain ⟨cs2, rfl, cz2⟩ := okWide_struct Try.underlying28 (hval 2 28 v2 rfl rfl)
  obtain ⟨x2, hK2, w2⟩ : ∃ x : S28, k28.K W x cs2.toList ∧ wf28 x := by
    obtain ⟨fuel, hf⟩ := h2
    exact opn28 H enc _ _ _ fuel _ _ hf hz2
  obtain hcs2 := k28_open hK2
  obtain rfl : cs2 = #[.int .i64 x2.f0, .int .i64 x2.f1, .string x2.f2, .string x2.f3, .bool x2.f4] := Array.toList_inj.1 hcs2
  clear hA0 hval0 hsz0 hsz
  obtain ⟨k, hk⟩ := SubstNone_pure x0 a1 x2 w0 w1 w2
  refine (bureaulaw15_SubstNone.calls k x0.f0 _ _ x0.f1 a1 x2.f0 x2.f1 x2.f2 x2.f3 x2.f4 true W (Try.laysM143.s1_3 W hsh) hr0_1 hc0_1 hk).mono fun e W' ⟨he, bel⟩ => ?_
  subst he
  exact ⟨_, rfl, _, _, _, [], _, [], hW', trodAll_mk1 (shut_bool Try.underlying4 _), (trodAll_cons_mk (Below.trod laidOut (by kernel_rfl) (of_decide_eq_true (by kernel_rfl)) kk0 bel lt0) (trodAll_cons_mk (shut_int Try.underlying26 w1) (trodAll_cons_mk (Below.trod laidOut (by kernel_rfl) (of_decide_eq_true (by kernel_rfl)) kk2 bel lt2) trodAll_mk0))), rfl, bel.frame _, fun h => by cases h⟩
theorem over : Rows.substNoneRow.holds Try.pinned (OpenSpec.ofChange Rows.substNoneSpec) :=
  OpenClaim.holds_of_wide 5 Try.f5 rfl rfl rfl rfl rfl rfl rfl ⟨rfl, rfl, rfl, rfl, rfl⟩ rfl rfl rfl rfl rfl (by kernel_rfl) Try.func5 (by kernel_rfl)
    (of_decide_eq_true (by kernel_rfl)) (by unfold Func.isWrapper; first | (rw [if_pos (by decide +kernel)]; kernel_rfl) | (rw [if_neg (by decide +kernel)]; exact ⟨rfl, rfl⟩))
    (fun os started H enc _ => lifted os started H enc)
theorem proved : Rows.SubstNoneSaid := over
end substNone
end Go.Proofs.Ytnbdldpjiofafaa.PB
namespace Go.Proofs.Ytnbdldpjiofafaa
theorem substNone_holds : Rows.SubstNoneSaid := PB.substNone.proved
#print axioms substNone_holds
end Go.Proofs.Ytnbdldpjiofafaa
end
