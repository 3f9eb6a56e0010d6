/- The row of a law out of its contract and its pure theorem. No condition. -/
import Derived.Test.YtnbdldpjiofafaaRows
import Derived.ProofKit
import Derived.ShutString
import Derived.ChangeOld
import Derived.Carry
import Derived.HandedShaped
import Derived.Test.YtnbdldpjiofafaaQSubstCounts6
section
namespace Go.Proofs.Ytnbdldpjiofafaa.PB
open Go.RowKit Go.Proofs.YtnbdldpjiofafaaW.PrintWords
set_option linter.unusedVariables false
def goodT (s : ByteArray) (l : List S51) : Bool := good l && decide (tot l = (s.size : Int))
theorem goodT_iff {s : ByteArray} {l : List S51} : goodT s l = true ↔ good l = true ∧ tot l = (s.size : Int) := by simp [goodT]
theorem goodT_facts {s : ByteArray} {l : List S51} (h : goodT s l = true) : good l = true ∧ nrm l ∧ (bytes l).length = s.size ∧ s.size ≤ 4096 ∧ tot l = (s.size : Int) := by
  obtain ⟨h1, h2⟩ := goodT_iff.1 h
  obtain ⟨h3, h4, h5⟩ := good_facts h1
  exact ⟨h1, h3, by omega, by omega, h2⟩
theorem goodT_ev (s : ByteArray) (l : List S51) (hl : l.length ≤ big) : Ev (fun k => strip_Good.f k s l) (goodT s l) := by
  unfold strip_Good.f
  refine Ev.bind (good_ev l hl) ?_
  by_cases hg : good l = true
  · rw [hg]
    exact Ev.pos rfl (Ev.bind (total_ev l hl) (ev_val (Ev.now _) (by rw [Bool.eq_iff_iff]; simp [goodT, hg])))
  · exact Ev.neg hg (ev_val (Ev.now _) (by simp [goodT, hg]))
theorem rgoodT_ev (s : ByteArray) (l : List S51) (hl : l.length ≤ big) : Ev (fun k => bureauref04_Good.f k s l) (goodT s l) := by
  unfold bureauref04_Good.f
  refine Ev.bind (rgood_ev l hl) ?_
  by_cases hg : good l = true
  · rw [hg]
    exact Ev.pos rfl (Ev.bind (rtotal_ev l hl) (ev_val (Ev.now _) (by rw [Bool.eq_iff_iff]; simp [goodT, hg])))
  · exact Ev.neg hg (ev_val (Ev.now _) (by simp [goodT, hg]))
def withinT (s : ByteArray) (l : List S51) (a b : Int) : Bool := goodT s l && (decide (0 ≤ a) && (decide (a ≤ b) && decide (b ≤ (s.size : Int))))
theorem withinT_iff {s : ByteArray} {l : List S51} {a b : Int} : withinT s l a b = true ↔ goodT s l = true ∧ 0 ≤ a ∧ a ≤ b ∧ b ≤ (s.size : Int) := by simp [withinT]
theorem withinT_ev (s : ByteArray) (l : List S51) (hl : l.length ≤ big) (a b : Int) : Ev (fun k => strip_within.f k s l a b) (withinT s l a b) := by
  unfold strip_within.f
  refine Ev.bind (goodT_ev s l hl) ?_
  by_cases hg : goodT s l = true
  · refine Ev.pos hg ?_
    by_cases h0 : 0 ≤ a
    · refine Ev.pos h0 ?_
      by_cases h1 : a ≤ b
      · exact Ev.pos h1 (ev_val (Ev.now _) (by simp [withinT, hg, h0, h1]))
      · exact Ev.neg h1 (ev_val (Ev.now _) (by simp [withinT, h1]))
    · exact Ev.neg h0 (ev_val (Ev.now _) (by simp [withinT, h0]))
  · exact Ev.neg hg (ev_val (Ev.now _) (by simp [withinT, hg]))
theorem rwithinT_ev (s : ByteArray) (l : List S51) (hl : l.length ≤ big) (a b : Int) : Ev (fun k => bureauref04_Within.f k s l a b) (withinT s l a b) := by
  unfold bureauref04_Within.f
  refine Ev.bind (rgoodT_ev s l hl) ?_
  by_cases hg : goodT s l = true
  · refine Ev.pos hg ?_
    by_cases h0 : 0 ≤ a
    · refine Ev.pos h0 ?_
      by_cases h1 : a ≤ b
      · exact Ev.pos h1 (ev_val (Ev.now _) (by simp [withinT, hg, h0, h1]))
      · exact Ev.neg h1 (ev_val (Ev.now _) (by simp [withinT, h1]))
    · exact Ev.neg h0 (ev_val (Ev.now _) (by simp [withinT, h0]))
  · exact Ev.neg hg (ev_val (Ev.now _) (by simp [withinT, hg]))
theorem withinT_facts {s : ByteArray} {l : List S51} {a b : Int} (h : withinT s l a b = true) : ∃ i j : Nat, a = i ∧ b = j ∧ i ≤ j ∧ j ≤ s.size ∧ goodT s l = true ∧ withinB l a b = true := by
  obtain ⟨h1, h2, h3, h4⟩ := withinT_iff.1 h
  obtain ⟨g1, g2, g3, g4, g5⟩ := goodT_facts h1
  obtain ⟨i, rfl⟩ := Int.eq_ofNat_of_zero_le h2
  obtain ⟨j, rfl⟩ := Int.eq_ofNat_of_zero_le (show 0 ≤ b by omega)
  exact ⟨i, j, rfl, rfl, by omega, by omega, h1, withinB_iff.2 ⟨g1, by omega, by omega, by omega⟩⟩
abbrev TX := ByteArray × List S51 × Int
def makeS (s : ByteArray) (y : Int) : TX := if (s.size : Int) > 4096 then (⟨#[]⟩, [], 3) else (s, pack (List.replicate s.size y), 0)
theorem normal_one (y : Int) (n : Nat) : normalS [⟨y, (n : Int)⟩] = if (n : Int) > 4096 then ([], 3) else (pack (List.replicate n y), 0) := by
  unfold normalS
  rw [if_neg (fun ⟨j, hj, hh⟩ => by
    have : j = 0 := by simpa using hj
    subst this
    have : ((n : Nat) : Int) < 0 := hh
    omega)]
  have ht : tot [(⟨y, (n : Int)⟩ : S51)] = if (n : Int) > 4096 then 4097 else (n : Int) := by
    simp only [tot, totF]
    by_cases h : (n : Int) > 4096
    · rw [if_pos h, if_pos (by omega)]
    · rw [if_neg h, if_neg (by omega), if_neg (by omega)]; omega
  rw [ht]
  by_cases h : (n : Int) > 4096
  · rw [if_pos h, if_pos h, if_pos (by omega)]
  · rw [if_neg h, if_neg h, if_neg h]
    simp [bytes]
theorem make_ev (s : ByteArray) (y : Int) : Ev (fun k => strip_Make.f k s y) (makeS s y) := by
  unfold strip_Make.f makeS
  refine Ev.bind (normal_ev _ (by simp [big])) ?_
  rw [normal_one]
  by_cases h : (s.size : Int) > 4096
  · rw [if_pos h, if_pos h]
    exact Ev.neg (by decide) (Ev.now _)
  · rw [if_neg h, if_neg h]
    exact Ev.pos rfl (Ev.now _)
theorem or_rep (a x : Nat) : ∀ n, (List.replicate (n + 1) x).foldl (· ||| ·) a = a ||| x
  | 0 => rfl
  | n + 1 => by
    rw [List.replicate_succ, List.foldl_cons, or_rep (a ||| x) x n, Nat.or_assoc, Nat.or_self]
theorem or_bytes : ∀ (l : List S51) (a : Nat), ((bytes l).map Int.toNat).foldl (· ||| ·) a = ((pos1 l).map Int.toNat).foldl (· ||| ·) a
  | [], _ => rfl
  | r :: l, a => by
    rw [bytes_cons, pos1_cons, List.map_append, List.map_replicate, List.foldl_append]
    by_cases h : r.f1 > 0
    · obtain ⟨n, hn⟩ : ∃ n, r.f1.toNat = n + 1 := ⟨r.f1.toNat - 1, by omega⟩
      rw [if_pos h, hn, or_rep, List.map_cons, List.foldl_cons, or_bytes l]
    · rw [if_neg h, show r.f1.toNat = 0 by omega]
      exact or_bytes l a
theorem toNat_map {L : List Int} (h : ∀ x ∈ L, 0 ≤ x ∧ x < 18446744073709551616) : L = (L.map Int.toNat).map (fun x : Nat => (x : Int)) := by
  induction L with
  | nil => rfl
  | cons x L ih =>
    rw [List.map_cons, List.map_cons, ← ih (fun z hz => h z (List.mem_cons_of_mem _ hz))]
    have := h x List.mem_cons_self
    congr 1
    omega
theorem orAllI_bytes {l : List S51} (hw : ∀ r ∈ l, 0 ≤ r.f0 ∧ r.f0 < 18446744073709551616) : orAllI (bytes l) = orAllI (pos1 l) := by
  have h1 : ∀ x ∈ bytes l, 0 ≤ x ∧ x < 18446744073709551616 := fun x hx => by obtain ⟨r, hr, rfl⟩ := bytes_mem hx; exact hw r hr
  have h2 : ∀ x ∈ pos1 l, 0 ≤ x ∧ x < 18446744073709551616 := fun x hx => by
    obtain ⟨r, hr, rfl⟩ := List.mem_map.1 hx
    exact hw r (List.mem_filter.1 hr).1
  rw [toNat_map h1, toNat_map h2, orAllI_nat _ (fun x hx => by obtain ⟨y, hy, rfl⟩ := List.mem_map.1 hx; have := h1 y hy; omega), orAllI_nat _ (fun x hx => by obtain ⟨y, hy, rfl⟩ := List.mem_map.1 hx; have := h2 y hy; omega)]
  congr 1
  exact or_bytes l 0
def sameT (s : ByteArray) (l : List S51) (t : ByteArray) (m : List S51) : Bool := if s.toList = t.toList then decide (l = m) else false
theorem sameT_self (s : ByteArray) (l : List S51) : sameT s l s l = true := by simp [sameT]
theorem rsame4_ev (s : ByteArray) (l : List S51) (t : ByteArray) (m : List S51) (hl : l.length ≤ big) : Ev (fun k => bureauref04_Same.f k s l t m) (sameT s l t m) := by
  unfold bureauref04_Same.f sameT
  exact Ev.ite (fun _ => Ev.bind (same_ev l m hl) (Ev.now _)) (fun _ => Ev.now _)
def cutS (s : ByteArray) (l : List S51) (a b : Int) : TX := if withinT s l a b = true then (s.extract a.toNat b.toNat, pack (((bytes l).take b.toNat).drop a.toNat), 0) else (⟨#[]⟩, [], 2)
theorem cut_ev (s : ByteArray) (l : List S51) (hl : l.length ≤ big) (a b : Int) : Ev (fun k => strip_Cut.f k s l a b) (cutS s l a b) := by
  unfold strip_Cut.f cutS
  refine Ev.bind (withinT_ev s l hl a b) ?_
  refine Ev.ite (fun hw => ?_) (fun _ => Ev.now _)
  obtain ⟨h1, h2, h3, h4⟩ := withinT_iff.1 hw
  obtain ⟨i, j, rfl, rfl, hij, hj, hg, hwb⟩ := withinT_facts hw
  refine Ev.bind (slice_ev l hl _ _) (Ev.pos h2 (Ev.pos h3 (Ev.pos h4 (ev_val (Ev.now _) ?_))))
  unfold sliceS
  rw [if_pos hwb]
theorem rcut_ev (s : ByteArray) (l : List S51) (hl : l.length ≤ big) (a b : Int) : Ev (fun k => bureauref04_Cut.f k s l a b) (cutS s l a b) := by
  unfold bureauref04_Cut.f cutS
  refine Ev.bind (rwithinT_ev s l hl a b) ?_
  refine Ev.ite (fun hw => ?_) (fun _ => Ev.now _)
  obtain ⟨h1, h2, h3, h4⟩ := withinT_iff.1 hw
  obtain ⟨g1, g2, g3, g4, g5⟩ := goodT_facts h1
  refine Ev.bind (bytes_ev l hl (by omega)) (Ev.pos h2 (Ev.pos h3 (Ev.pos h4 (Ev.pos (by omega) (Ev.bind (pack_ev _ ?_) (Ev.now _))))))
  rw [List.length_drop, List.length_take]
  omega
def spliceT (s : ByteArray) (l : List S51) (a b : Int) (x : ByteArray) (m : List S51) : TX :=
  if withinT s l a b = true then (if goodT x m = true then (if (s.size : Int) - (b - a) + (x.size : Int) > 4096 then (⟨#[]⟩, [], 3) else
    (s.extract 0 a.toNat ++ x ++ s.extract b.toNat s.size, pack ((bytes l).take a.toNat ++ bytes m ++ (bytes l).drop b.toNat), 0)) else (⟨#[]⟩, [], 2)) else (⟨#[]⟩, [], 2)
theorem ext_size (s : ByteArray) (i j : Nat) : (s.extract i j).size ≤ s.size := by rw [ByteArray.size_extract]; omega
theorem splice4_ev (s : ByteArray) (l : List S51) (hl : l.length ≤ big) (a b : Int) (x : ByteArray) (m : List S51) (hm : m.length ≤ big) : Ev (fun k => strip_Splice.f k s l a b x m) (spliceT s l a b x m) := by
  unfold strip_Splice.f spliceT
  refine Ev.bind (withinT_ev s l hl a b) ?_
  have bad : Ev (fun k => strip_Splice.j0 k a b true s l x m) (⟨#[]⟩, [], 2) := by
    refine Ev.step (fun k => by simp only [strip_Splice.j0]; rfl) ?_
    exact Ev.pos (by simp) (Ev.now _)
  refine Ev.ite (fun hw => ?_) (fun _ => bad)
  refine Ev.bind (goodT_ev x m hm) ?_
  by_cases hg : goodT x m = true
  · rw [if_pos hg, hg]
    refine Ev.step (fun k => by simp only [strip_Splice.j0]; rfl) ?_
    refine Ev.neg (by simp) (Ev.bind (splice_ev l hl a b m hm) ?_)
    obtain ⟨h1, h2, h3, h4⟩ := withinT_iff.1 hw
    obtain ⟨i, j, rfl, rfl, hij, hj, hgl, hwb⟩ := withinT_facts hw
    obtain ⟨g1, g2, g3, g4, g5⟩ := goodT_facts hgl
    obtain ⟨q1, q2, q3, q4, q5⟩ := goodT_facts hg
    have he : spliceS l (i : Int) (j : Int) m = if (s.size : Int) - ((j : Int) - (i : Int)) + (x.size : Int) > 4096 then ([], 3) else (pack ((bytes l).take (i : Int).toNat ++ bytes m ++ (bytes l).drop (j : Int).toNat), 0) := by
      unfold spliceS
      rw [if_pos hwb, if_pos q1, g5, q5]
    rw [he]
    by_cases hb : (s.size : Int) - ((j : Int) - (i : Int)) + (x.size : Int) > 4096
    · rw [if_pos hb, if_pos hb]
      exact Ev.neg (by decide) (Ev.now _)
    · rw [if_neg hb, if_neg hb]
      have e1 := ext_size s 0 (i : Int).toNat
      have e2 := ext_size s (j : Int).toNat s.size
      refine Ev.pos rfl (Ev.pos h2 (Ev.pos (by omega) (Ev.pos (by omega) (Ev.pos (by omega) (Ev.pos h4 (Ev.pos ?_ (Ev.now _)))))))
      rw [ByteArray.size_append]
      omega
  · rw [if_neg hg, show goodT x m = false by simpa using hg]
    exact bad
theorem rsplice4_ev (s : ByteArray) (l : List S51) (hl : l.length ≤ big) (a b : Int) (x : ByteArray) (m : List S51) (hm : m.length ≤ big) : Ev (fun k => bureauref04_Splice.f k s l a b x m) (spliceT s l a b x m) := by
  unfold bureauref04_Splice.f spliceT
  refine Ev.bind (rwithinT_ev s l hl a b) ?_
  have bad : Ev (fun k => bureauref04_Splice.j0 k a b true s l x m) (⟨#[]⟩, [], 2) := by
    refine Ev.step (fun k => by simp only [bureauref04_Splice.j0]; rfl) ?_
    exact Ev.pos (by simp) (Ev.now _)
  refine Ev.ite (fun hw => ?_) (fun _ => bad)
  refine Ev.bind (rgoodT_ev x m hm) ?_
  by_cases hg : goodT x m = true
  · rw [if_pos hg, hg]
    refine Ev.step (fun k => by simp only [bureauref04_Splice.j0]; rfl) ?_
    refine Ev.neg (by simp) ?_
    obtain ⟨h1, h2, h3, h4⟩ := withinT_iff.1 hw
    obtain ⟨i, j, rfl, rfl, hij, hj, hgl, hwb⟩ := withinT_facts hw
    obtain ⟨g1, g2, g3, g4, g5⟩ := goodT_facts hgl
    obtain ⟨q1, q2, q3, q4, q5⟩ := goodT_facts hg
    rw [show wrap64 (wrap64 ((s.size : Int) - wrap64 ((j : Int) - (i : Int))) + (x.size : Int)) = (s.size : Int) - ((j : Int) - (i : Int)) + (x.size : Int) by unfold wrap64; omega]
    refine Ev.ite (fun _ => Ev.now _) (fun hb => ?_)
    refine Ev.bind (bytes_ev l hl (by omega)) (Ev.bind (bytes_ev m hm (by omega)) ?_)
    generalize hB : bytes l = B at *
    generalize hM : bytes m = M at *
    have hrd : ∀ (L : List Int) (q : Nat), rd L (q : Int) = L.getD q 0 := fun L q => by unfold rd; rw [Int.toNat_natCast]
    have l2 : ∀ (d q : Nat) (acc : List Int), q + d = B.length → acc.length ≤ 8192 + q → Ev (fun k => bureauref04_Splice.l2 k (i : Int) (j : Int) B acc (q : Int) s l x m)
        (s.extract 0 (i : Int).toNat ++ x ++ s.extract (j : Int).toNat s.size, pack (acc ++ B.drop q), 0) := by
      intro d
      induction d with
      | zero =>
        intro q acc hq ha
        refine Ev.step (fun k => by simp only [bureauref04_Splice.l2]; rfl) ?_
        have e1 := ext_size s 0 (i : Int).toNat
        have e2 := ext_size s (j : Int).toNat s.size
        refine Ev.neg (by omega) (Ev.pos h2 (Ev.pos (by omega) (Ev.pos (by omega) (Ev.pos (by omega) (Ev.pos h4 (Ev.pos ?_ ?_))))))
        · rw [ByteArray.size_append]; omega
        · rw [List.drop_eq_nil_of_le (by omega), List.append_nil]
          exact Ev.bind (pack_ev _ (by omega)) (Ev.now _)
      | succ d ih =>
        intro q acc hq ha
        have hlt : q < B.length := by omega
        refine Ev.step (fun k => by simp only [bureauref04_Splice.l2]; rfl) ?_
        refine Ev.pos (by omega) (Ev.pos (by omega) (Ev.pos (by omega) ?_))
        rw [w1 hlt (by omega), dropI hlt, hrd]
        exact ev_val (ih (q + 1) _ (by omega) (by simp; omega)) (by rw [List.append_assoc]; rfl)
    have l1 : ∀ (d q : Nat) (acc : List Int), q + d = M.length → acc.length ≤ 4096 + q → Ev (fun k => bureauref04_Splice.l1 k (i : Int) (j : Int) B M acc (q : Int) s l x m)
        (s.extract 0 (i : Int).toNat ++ x ++ s.extract (j : Int).toNat s.size, pack (acc ++ M.drop q ++ B.drop j), 0) := by
      intro d
      induction d with
      | zero =>
        intro q acc hq ha
        refine Ev.step (fun k => by simp only [bureauref04_Splice.l1]; rfl) ?_
        refine Ev.neg (by omega) ?_
        rw [List.drop_eq_nil_of_le (show M.length ≤ q by omega), List.append_nil]
        exact l2 (B.length - j) j acc (by omega) (by omega)
      | succ d ih =>
        intro q acc hq ha
        have hlt : q < M.length := by omega
        refine Ev.step (fun k => by simp only [bureauref04_Splice.l1]; rfl) ?_
        refine Ev.pos (by omega) (Ev.pos (by omega) (Ev.pos (by omega) ?_))
        rw [w1 hlt (by omega), dropI hlt, hrd]
        exact ev_val (ih (q + 1) _ (by omega) (by simp; omega)) (by rw [List.append_assoc acc]; rfl)
    have l0 : ∀ (d q : Nat), q + d = i → Ev (fun k => bureauref04_Splice.l0 k (i : Int) (j : Int) B M (B.take q) (q : Int) s l x m)
        (s.extract 0 (i : Int).toNat ++ x ++ s.extract (j : Int).toNat s.size, pack (B.take i ++ M ++ B.drop j), 0) := by
      intro d
      induction d with
      | zero =>
        intro q hq
        refine Ev.step (fun k => by simp only [bureauref04_Splice.l0]; rfl) ?_
        refine Ev.neg (by omega) ?_
        obtain rfl : q = i := by omega
        exact l1 M.length 0 (B.take q) (by omega) (by rw [List.length_take]; omega)
      | succ d ih =>
        intro q hq
        have hlt : q < B.length := by omega
        refine Ev.step (fun k => by simp only [bureauref04_Splice.l0]; rfl) ?_
        refine Ev.pos (by omega) (Ev.pos (by omega) (Ev.pos (by omega) (Ev.pos (by rw [List.length_take]; omega) ?_)))
        rw [w1 hlt (by omega), hrd]
        have ht : B.take q ++ [B.getD q 0] = B.take (q + 1) := by
          rw [List.take_add_one, List.getD_eq_getElem?_getD, List.getElem?_eq_getElem hlt]; rfl
        rw [ht]
        exact ih (q + 1) (by omega)
    exact l0 i 0 (by omega)
  · rw [if_neg hg, show goodT x m = false by simpa using hg]
    exact bad
def catT (s : ByteArray) (l : List S51) (x : ByteArray) (m : List S51) : TX := spliceT s l (s.size : Int) (s.size : Int) x m
theorem cat4_ev (s : ByteArray) (l : List S51) (hl : l.length ≤ big) (x : ByteArray) (m : List S51) (hm : m.length ≤ big) : Ev (fun k => strip_Cat.f k s l x m) (catT s l x m) := by
  unfold strip_Cat.f catT
  exact Ev.bind (splice4_ev s l hl _ _ x m hm) (Ev.now _)
theorem toList_loop (a : ByteArray) : ∀ (n i : Nat) (r : List UInt8), i + n = a.size → ByteArray.toList.loop a i r = r.reverse ++ a.data.toList.drop i
  | 0, i, r, h => by
    unfold ByteArray.toList.loop
    rw [if_neg (by omega), List.drop_eq_nil_of_le (by rw [Array.length_toList]; show a.size ≤ i; omega), List.append_nil]
  | n + 1, i, r, h => by
    unfold ByteArray.toList.loop
    have hi : i < a.data.toList.length := by rw [Array.length_toList]; show i < a.size; omega
    rw [if_pos (by omega), toList_loop a n (i + 1) _ (by omega), List.reverse_cons, List.append_assoc, List.drop_eq_getElem_cons hi]
    congr 1
    show [a.get! i] ++ _ = _
    rw [List.singleton_append]
    congr 1
    show a.data[i]! = _
    rw [getElem!_pos a.data i (by rw [Array.length_toList] at hi; exact hi)]
    simp
theorem toList_data (a : ByteArray) : a.toList = a.data.toList := by
  unfold ByteArray.toList
  rw [toList_loop a a.size 0 [] (by omega)]
  rfl
theorem toList_inj {a b : ByteArray} (h : a.toList = b.toList) : a = b := by
  rw [toList_data, toList_data] at h
  exact ByteArray.ext (Array.toList_inj.1 h)
end Go.Proofs.Ytnbdldpjiofafaa.PB
end

section
namespace Go.Proofs.Ytnbdldpjiofafaa.PB
open Go.RowKit Go.Proofs.YtnbdldpjiofafaaW.PrintWords
set_option linter.unusedVariables false
def seen (x y : Int) : Bool := Go.bits .andNot .u64 x y == 0
def hide (y x c : Int) : Int := if seen x y = true then c else 35
def hideAll (y : Int) (L B : List Int) : List Int := List.zipWith (hide y) L B
theorem hideAll_len (y : Int) (L B : List Int) : (hideAll y L B).length = min L.length B.length := List.length_zipWith
theorem paintN_app : ∀ (n : Nat) (P B : List Int), n ≤ B.length → paintN P.length n (P ++ B) = P ++ (List.replicate n 35 ++ B.drop n)
  | 0, P, B, _ => by simp [paintN]
  | n + 1, P, [], h => by simp at h
  | n + 1, P, b :: B, h => by
    have := paintN_app n (P ++ [35]) B (by simpa using h)
    rw [List.length_append, List.length_singleton] at this
    simp only [paintN]
    rw [show (P ++ b :: B).set P.length 35 = P ++ [35] ++ B by simp, this]
    simp [List.replicate_succ]
theorem hide_rep (y x : Int) : ∀ (n : Nat) (B : List Int), n ≤ B.length → List.zipWith (hide y) (List.replicate n x) (B.take n) = if seen x y = true then B.take n else List.replicate n 35
  | 0, B, _ => by simp
  | n + 1, [], h => by simp at h
  | n + 1, b :: B, h => by
    rw [List.replicate_succ, List.take_succ_cons, List.zipWith_cons_cons, hide_rep y x n B (by simpa using h)]
    unfold hide
    by_cases hs : seen x y = true
    · rw [if_pos hs, if_pos hs, if_pos hs]
    · rw [if_neg hs, if_neg hs, if_neg hs, List.replicate_succ]
theorem viewTo_app (y : Int) : ∀ (l : List S51) (P B : List Int), B.length = (bytes l).length → viewTo y l P.length (P ++ B) = P ++ hideAll y (bytes l) B
  | [], P, B, h => by
    have : B = [] := List.eq_nil_of_length_eq_zero (by simpa [bytes] using h)
    subst this
    simp [viewTo, hideAll, bytes]
  | r :: l, P, B, h => by
    rw [bytes_cons, List.length_append, List.length_replicate] at h
    have hn : r.f1.toNat ≤ B.length := by omega
    have hz : hideAll y (bytes (r :: l)) B = List.zipWith (hide y) (List.replicate r.f1.toNat r.f0) (B.take r.f1.toNat) ++ hideAll y (bytes l) (B.drop r.f1.toNat) := by
      unfold hideAll
      rw [bytes_cons]
      conv => lhs; rw [← List.take_append_drop r.f1.toNat B]
      rw [List.zipWith_append]
      rw [List.length_replicate, List.length_take]
      omega
    rw [hz, hide_rep _ _ _ _ hn]
    simp only [viewTo]
    by_cases hs : seen r.f0 y = true
    · rw [if_pos (show (Go.bits .andNot .u64 r.f0 y == 0) = true from hs), if_pos hs]
      have := viewTo_app y l (P ++ B.take r.f1.toNat) (B.drop r.f1.toNat) (by rw [List.length_drop]; omega)
      rw [List.length_append, List.length_take, show min r.f1.toNat B.length = r.f1.toNat by omega, List.append_assoc, List.take_append_drop, List.append_assoc] at this
      exact this
    · rw [if_neg (show ¬ (Go.bits .andNot .u64 r.f0 y == 0) = true from hs), if_neg hs, paintN_app _ _ _ hn]
      have := viewTo_app y l (P ++ List.replicate r.f1.toNat 35) (B.drop r.f1.toNat) (by rw [List.length_drop]; omega)
      rw [List.length_append, List.length_replicate, List.append_assoc, List.append_assoc] at this
      exact this
def viewS (s : ByteArray) (l : List S51) (y : Int) : ByteArray × Int := if goodT s l = true then (strOfNums (hideAll y (bytes l) (bytesOf s)), 0) else (⟨#[]⟩, 2)
theorem view_ev (s : ByteArray) (l : List S51) (hl : l.length ≤ big) (y : Int) : Ev (fun k => strip_View.f k s l y) (viewS s l y) := by
  unfold strip_View.f viewS
  refine Ev.bind (goodT_ev s l hl) ?_
  refine Ev.ite (fun hg => ?_) (fun _ => Ev.now _)
  obtain ⟨g1, g2, g3, g4, g5⟩ := goodT_facts hg
  refine Ev.pos ⟨nrm_nonneg g2, by omega, by omega⟩ (ev_val (Ev.now _) ?_)
  have := viewTo_app y l [] (bytesOf s) (by rw [bytesOf_len, g3])
  simp only [List.length_nil, List.nil_append] at this
  rw [this]
end Go.Proofs.Ytnbdldpjiofafaa.PB
end

section
namespace Go.Proofs.Ytnbdldpjiofafaa.PB
open Go.RowKit Go.Proofs.YtnbdldpjiofafaaW.PrintWords
set_option linter.unusedVariables false
theorem wfT {x : S24} (h : wf24 x) : ∀ r ∈ x.f1, 0 ≤ r.f0 ∧ r.f0 < 18446744073709551616 := wf_labels h.2.2
theorem ext_all (s : ByteArray) : s.extract 0 s.size = s := by
  apply ByteArray.ext
  rw [ByteArray.data_extract]
  exact Array.extract_size
theorem ext_none (s : ByteArray) : s.extract s.size s.size = ByteArray.empty := by
  apply ByteArray.ext
  rw [ByteArray.data_extract]
  simp
theorem goodT_pack {s : ByteArray} {B : List Int} (h : B.length = s.size) (h4 : s.size ≤ 4096) : goodT s (pack B) = true := by
  obtain ⟨g1, t1⟩ := good_pack (show B.length ≤ 4096 by omega)
  exact goodT_iff.2 ⟨g1, by omega⟩
theorem catT_pack (s x : ByteArray) (B C : List Int) (hB : B.length = s.size) (hC : C.length = x.size) (h : s.size + x.size ≤ 4096) : catT s (pack B) x (pack C) = (s ++ x, pack (B ++ C), 0) := by
  have g1 := goodT_pack hB (by omega)
  have g2 := goodT_pack hC (by omega)
  unfold catT spliceT
  rw [if_pos (withinT_iff.2 ⟨g1, by omega, by omega, by omega⟩), if_pos g2, if_neg (by omega), Int.toNat_natCast, pack_bytes, pack_bytes, ext_all, ext_none, ← hB, List.take_length, List.drop_length, List.append_nil, ByteArray.append_empty]
end Go.Proofs.Ytnbdldpjiofafaa.PB
end

section
namespace Go.Proofs.Ytnbdldpjiofafaa.PB
open Go.RowKit Go.Proofs.YtnbdldpjiofafaaW.PrintWords
set_option linter.unusedVariables false
def goodE (a : Int) (o : ByteArray) (ol : List S51) (n : ByteArray) (nl : List S51) : Bool := goodT o ol && (goodT n nl && (decide (0 ≤ a) && decide (a ≤ 4096)))
theorem goodE_iff {a : Int} {o n : ByteArray} {ol nl : List S51} : goodE a o ol n nl = true ↔ goodT o ol = true ∧ goodT n nl = true ∧ 0 ≤ a ∧ a ≤ 4096 := by simp [goodE]
theorem rgoodE_ev (a : Int) (o : ByteArray) (ol : List S51) (n : ByteArray) (nl : List S51) (hl : ol.length ≤ big) (hm : nl.length ≤ big) : Ev (fun k => bureauref07_Good.f k a o ol n nl) (goodE a o ol n nl) := by
  unfold bureauref07_Good.f
  refine Ev.bind (rgoodT_ev o ol hl) ?_
  by_cases h1 : goodT o ol = true
  · refine Ev.pos h1 (Ev.bind (rgoodT_ev n nl hm) ?_)
    by_cases h2 : goodT n nl = true
    · refine Ev.pos h2 ?_
      by_cases h3 : 0 ≤ a
      · exact Ev.pos h3 (ev_val (Ev.now _) (by simp [goodE, h1, h2, h3]))
      · exact Ev.neg h3 (ev_val (Ev.now _) (by simp [goodE, h3]))
    · exact Ev.neg h2 (ev_val (Ev.now _) (by simp [goodE, h2]))
  · exact Ev.neg h1 (ev_val (Ev.now _) (by simp [goodE, h1]))
theorem own_eq (s : ByteArray) (l : List S51) (hl : l.length ≤ big) : edit_own.f s l = some (s, l) := by
  unfold edit_own.f
  unfold big at hl
  rw [if_pos (by omega)]
theorem ext_list (s : ByteArray) (i j : Nat) : (s.extract i j).data.toList = (s.data.toList.take j).drop i := by
  rw [ByteArray.data_extract, Array.toList_extract, List.extract_eq_take_drop, List.drop_take]
theorem app_list (s t : ByteArray) : (s ++ t).data.toList = s.data.toList ++ t.data.toList := by rw [ByteArray.data_append, Array.toList_append]
theorem data_inj {a b : ByteArray} (h : a.data.toList = b.data.toList) : a = b := ByteArray.ext (Array.toList_inj.1 h)
end Go.Proofs.Ytnbdldpjiofafaa.PB
end

section
namespace Go.Proofs.Ytnbdldpjiofafaa.PB
open Go.RowKit Go.Proofs.YtnbdldpjiofafaaW.PrintWords
set_option linter.unusedVariables false
def fitE (o : ByteArray) (ol : List S51) (n : ByteArray) (nl : List S51) : Prop := (o.size ≤ 5000 ∧ ol.length ≤ 5000) ∧ (n.size ≤ 5000 ∧ nl.length ≤ 5000)
instance (o : ByteArray) (ol : List S51) (n : ByteArray) (nl : List S51) : Decidable (fitE o ol n nl) := inferInstanceAs (Decidable (_ ∧ _))
end Go.Proofs.Ytnbdldpjiofafaa.PB
end

section
namespace Go.Proofs.Ytnbdldpjiofafaa.PB
open Go.RowKit Go.Proofs.YtnbdldpjiofafaaW.PrintWords
set_option linter.unusedVariables false
abbrev EX := Int × ByteArray × List S51 × ByteArray × List S51 × Int
def ofS (s : ByteArray) (l : List S51) (a b : Int) (x : ByteArray) (m : List S51) : EX :=
  if (spliceT s l a b x m).2.2 = 0 then (a, (cutS s l a b).1, (cutS s l a b).2.1, x, m, 0) else (0, ⟨#[]⟩, [], ⟨#[]⟩, [], (spliceT s l a b x m).2.2)
theorem splice_cut {s : ByteArray} {l : List S51} {a b : Int} {x : ByteArray} {m : List S51} (h : (spliceT s l a b x m).2.2 = 0) : withinT s l a b = true ∧ goodT x m = true ∧ ¬ (s.size : Int) - (b - a) + (x.size : Int) > 4096 ∧ (cutS s l a b).2.2 = 0 := by
  unfold spliceT at h
  by_cases hw : withinT s l a b = true
  · rw [if_pos hw] at h
    by_cases hg : goodT x m = true
    · rw [if_pos hg] at h
      by_cases hb : (s.size : Int) - (b - a) + (x.size : Int) > 4096
      · rw [if_pos hb] at h; cases h
      · exact ⟨hw, hg, hb, by unfold cutS; rw [if_pos hw]⟩
    · rw [if_neg hg] at h; cases h
  · rw [if_neg hw] at h; cases h
theorem of_ev (s : ByteArray) (l : List S51) (hl : l.length ≤ big) (a b : Int) (x : ByteArray) (m : List S51) (hm : m.length ≤ big) : Ev (fun k => edit_Of.f k s l a b x m) (ofS s l a b x m) := by
  unfold edit_Of.f ofS
  refine Ev.bind (splice4_ev s l hl a b x m hm) (Ev.ite (fun h => ?_) (fun _ => Ev.now _))
  refine Ev.bind (cut_ev s l hl a b) ?_
  rw [own_eq x m hm]
  refine Ev.bind (Ev.now _) (ev_val (Ev.now _) ?_)
  rw [(splice_cut h).2.2.2]
theorem rsame7_self (a : Int) (o : ByteArray) (ol : List S51) (n : ByteArray) (nl : List S51) (hl : ol.length ≤ big) (hm : nl.length ≤ big) : Ev (fun k => bureauref07_Same.f k a o ol n nl a o ol n nl) true := by
  unfold bureauref07_Same.f
  exact Ev.pos rfl (Ev.bind (rsame4_ev _ _ _ _ hl) (Ev.pos (sameT_self _ _) (Ev.bind (rsame4_ev _ _ _ _ hm) (ev_val (Ev.now _) (sameT_self _ _)))))
end Go.Proofs.Ytnbdldpjiofafaa.PB
end

section
namespace Go.Proofs.Ytnbdldpjiofafaa.PB
open Go.RowKit Go.Proofs.YtnbdldpjiofafaaW.PrintWords
set_option linter.unusedVariables false
structure Alike (y : Int) (s : ByteArray) (l : List S51) (s' : ByteArray) (l' : List S51) : Prop where
  runs : l = l'
  size : s.size = s'.size
  view : goodT s l = true → hideAll y (bytes l) (bytesOf s) = hideAll y (bytes l) (bytesOf s')
theorem Alike.good {y : Int} {s s' : ByteArray} {l l' : List S51} (h : Alike y s l s' l') : goodT s l = goodT s' l' := by
  obtain ⟨rfl, h2, _⟩ := h
  unfold goodT
  rw [h2]
section
variable {y : Int} {s s' x x' : ByteArray} {l l' m m' : List S51}
end
end Go.Proofs.Ytnbdldpjiofafaa.PB
end

section
namespace Go.Proofs.Ytnbdldpjiofafaa.PB
open Go.RowKit Go.Proofs.YtnbdldpjiofafaaW.PrintWords
set_option linter.unusedVariables false
set_option maxHeartbeats 1000000
def rangeL (L : List Int) : Prop := ∀ x ∈ L, 0 ≤ x ∧ x < 18446744073709551616
theorem seen_or2 {x z y : Int} (hx : 0 ≤ x ∧ x < 18446744073709551616) (hz : 0 ≤ z ∧ z < 18446744073709551616) (hy : 0 ≤ y ∧ y < 18446744073709551616) : seen (Go.bits .or .u64 x z) y = (seen x y && seen z y) := by
  obtain ⟨x, rfl⟩ := Int.eq_ofNat_of_zero_le hx.1
  obtain ⟨z, rfl⟩ := Int.eq_ofNat_of_zero_le hz.1
  obtain ⟨y, rfl⟩ := Int.eq_ofNat_of_zero_le hy.1
  have hx' : x < 2 ^ 64 := by omega
  have hy' : y < 2 ^ 64 := by omega
  have hz' : z < 2 ^ 64 := by omega
  unfold seen
  rw [u64_or_nat x z (by omega) (by omega), belowN_bits (x ||| z) y (Nat.or_lt_two_pow hx' hz') hy', belowN_bits x y hx' hy', belowN_bits z y hz' hy', Bool.eq_iff_iff, Bool.and_eq_true]
  unfold belowN
  rw [List.all_eq_true, List.all_eq_true, List.all_eq_true]
  constructor
  · intro h
    refine ⟨fun i hi => ?_, fun i hi => ?_⟩ <;> (have := h i hi; rw [Nat.testBit_or] at this; cases hx : x.testBit i <;> cases hz : z.testBit i <;> simp_all)
  · rintro ⟨h1, h2⟩ i hi
    have a := h1 i hi
    have b := h2 i hi
    rw [Nat.testBit_or]
    cases hx : x.testBit i <;> cases hz : z.testBit i <;> simp_all
theorem or_range {x z : Int} (hx : 0 ≤ x ∧ x < 18446744073709551616) (hz : 0 ≤ z ∧ z < 18446744073709551616) : 0 ≤ Go.bits .or .u64 x z ∧ Go.bits .or .u64 x z < 18446744073709551616 := by
  obtain ⟨x, rfl⟩ := Int.eq_ofNat_of_zero_le hx.1
  obtain ⟨z, rfl⟩ := Int.eq_ofNat_of_zero_le hz.1
  have h := Nat.or_lt_two_pow (n := 64) (show x < 2 ^ 64 by omega) (show z < 2 ^ 64 by omega)
  rw [u64_or_nat x z (by omega) (by omega)]
  omega
theorem seen_zero {y : Int} (hy : 0 ≤ y ∧ y < 18446744073709551616) : seen 0 y = true := by
  obtain ⟨y, rfl⟩ := Int.eq_ofNat_of_zero_le hy.1
  unfold seen
  have := belowN_bits 0 y (by decide) (by omega)
  rw [show ((0 : Nat) : Int) = 0 from rfl] at this
  rw [this]
  exact belowN_yes (fun i _ h => by simp at h)
theorem seen_all {y : Int} (hy : 0 ≤ y ∧ y < 18446744073709551616) (B : List Int) (hB : rangeL B) : seen (orAllI B) y = B.all (fun x => seen x y) := by
  have : ∀ (B : List Int) (a : Int), 0 ≤ a ∧ a < 18446744073709551616 → rangeL B → seen (B.foldl (fun a x => Go.bits .or .u64 a x) a) y = (seen a y && B.all (fun x => seen x y)) := by
    intro B
    induction B with
    | nil => intro a ha _; simp
    | cons x B ih =>
      intro a ha hB
      have hx := hB x List.mem_cons_self
      rw [List.foldl_cons, ih _ (or_range ha hx) (fun z hz => hB z (List.mem_cons_of_mem _ hz)), seen_or2 ha hx hy, List.all_cons, Bool.and_assoc]
  unfold orAllI
  rw [this B 0 (by decide) hB, seen_zero hy, Bool.true_and]
theorem wadd (a b : Nat) (h : a + b ≤ 1000000000000000) : wrap64 ((a : Int) + (b : Int)) = ((a + b : Nat) : Int) := by unfold wrap64; omega
theorem wadd1 (a : Nat) (h : a ≤ 1000000000000000) : wrap64 ((a : Int) + 1) = ((a + 1 : Nat) : Int) := by unfold wrap64; omega
def hitS (cs pat : List UInt8) (L : List Int) (y : Int) (e p : Nat) : Bool := decide (p + pat.length ≤ e) && (((cs.drop p).take pat.length == pat) && ((L.drop p).take pat.length).all (fun x => seen x y))
theorem hitS_iff {cs pat : List UInt8} {L : List Int} {y : Int} {e p : Nat} : hitS cs pat L y e p = true ↔ p + pat.length ≤ e ∧ (cs.drop p).take pat.length = pat ∧ ((L.drop p).take pat.length).all (fun x => seen x y) = true := by
  unfold hitS; simp only [Bool.and_eq_true, decide_eq_true_eq, beq_iff_eq]
structure Fine (s : ByteArray) (l : List S51) (y : Int) : Prop where
  good : goodT s l = true
  len : l.length ≤ big
  lab : ∀ r ∈ l, 0 ≤ r.f0 ∧ r.f0 < 18446744073709551616
  lev : 0 ≤ y ∧ y < 18446744073709551616
theorem Fine.size {s : ByteArray} {l : List S51} {y : Int} (h : Fine s l y) : s.size ≤ 4096 ∧ (bytes l).length = s.size := by
  obtain ⟨g1, g2, g3, g4, g5⟩ := goodT_facts h.good
  exact ⟨g4, g3⟩
theorem Fine.range {s : ByteArray} {l : List S51} {y : Int} (h : Fine s l y) : rangeL (bytes l) := fun x hx => by
  obtain ⟨r, hr, e⟩ := bytes_mem hx
  rw [← e]; exact h.lab r hr
theorem seen_ev {s : ByteArray} {l : List S51} {y : Int} (h : Fine s l y) (p q : Nat) (hpq : p ≤ q) (hq : q ≤ s.size) : Ev (fun k => subst_seen.f k s l y (p : Int) (q : Int)) ((((bytes l).take q).drop p).all (fun x => seen x y)) := by
  obtain ⟨g1, g2, g3, g4, g5⟩ := goodT_facts h.good
  have hw : withinB l (p : Int) (q : Int) = true := withinB_iff.2 ⟨g1, by omega, by omega, by omega⟩
  have hr : rangeL (((bytes l).take q).drop p) := fun x hx => h.range x (List.mem_of_mem_take (List.mem_of_mem_drop hx))
  have hlen : (((bytes l).take q).drop p).length ≤ 4096 := by rw [List.length_drop, List.length_take]; omega
  unfold subst_seen.f
  refine Ev.bind (slice_ev l h.len (p : Int) (q : Int)) ?_
  unfold sliceS
  rw [if_pos hw, Int.toNat_natCast, Int.toNat_natCast]
  generalize ((bytes l).take q).drop p = B at *
  have hpl : (pack B).length ≤ big := by have := pack_len B; unfold big; omega
  refine Ev.bind (all_ev (pack B) hpl) ?_
  have e : orAllI (pos1 (pack B)) = orAllI B := by
    rw [← orAllI_bytes, pack_bytes]
    intro r hrm
    have hm : r.f0 ∈ bytes (pack B) := by
      unfold bytes
      rw [List.mem_flatMap]
      have hn := pack_nrm B
      refine ⟨r, hrm, ?_⟩
      have hpos : 1 ≤ r.f1 := nrm_pos hn r hrm
      rw [List.mem_replicate]
      exact ⟨by omega, rfl⟩
    rw [pack_bytes] at hm
    exact hr _ hm
  rw [e]
  unfold label_Below.f
  refine Ev.bind (Ev.now _) (ev_val (Ev.now _) ?_)
  exact seen_all h.lev B hr
theorem occ_iff (l sub : List UInt8) (i : Nat) : Lib.occAt l sub i = true ↔ (l.drop i).take sub.length = sub := by
  unfold Lib.occAt
  rw [List.isPrefixOf_iff_prefix, List.prefix_iff_eq_take]
  exact ⟨fun h => h.symm, fun h => h.symm⟩
theorem drop_take_drop {α : Type} (l : List α) (a e p m : Nat) (h1 : a ≤ p) (h2 : p + m ≤ e) : ((((l.take e).drop a).drop (p - a)).take m) = (l.drop p).take m := by
  rw [List.drop_drop, show a + (p - a) = p by omega, List.drop_take, List.take_take, Nat.min_eq_left (by omega)]
theorem index_step (cs pat : List UInt8) (L : List Int) (y : Int) (every : Bool) (e a : Nat) (hp : 1 ≤ pat.length) (hlt : a < e) (he : e ≤ cs.length) :
    (Lib.index ((cs.take e).drop a) pat = -1 ∧ places every (hitS cs pat L y e) pat.length e a = []) ∨
    ∃ i : Nat, Lib.index ((cs.take e).drop a) pat = (i : Int) ∧ a + i + pat.length ≤ e ∧ places every (hitS cs pat L y e) pat.length e a = places every (hitS cs pat L y e) pat.length e (a + i) ∧
      hitS cs pat L y e (a + i) = ((L.drop (a + i)).take pat.length).all (fun x => seen x y) := by
  have hlen : ((cs.take e).drop a).length = e - a := by rw [List.length_drop, List.length_take]; omega
  rcases Lib.index_spec ((cs.take e).drop a) pat with ⟨hi, hno⟩ | ⟨i, hi, hil, hocc, hno⟩
  · refine .inl ⟨hi, places_none hp (fun k h1 h2 hh => ?_)⟩
    obtain ⟨e1, e2, _⟩ := hitS_iff.1 hh
    have := hno (k - a) (by omega)
    rw [Bool.eq_false_iff] at this
    exact this ((occ_iff _ _ _).2 (by rw [drop_take_drop _ _ _ _ _ h1 e1]; exact e2))
  · have hroom := Lib.index_room ((cs.take e).drop a) pat (by rw [hi]; omega)
    rw [hi, hlen] at hroom
    have hm := (occ_iff _ _ _).1 hocc
    have hpe : a + i + pat.length ≤ e := by omega
    have hm2 : (cs.drop (a + i)).take pat.length = pat := by
      have := drop_take_drop cs a e (a + i) pat.length (by omega) (by omega)
      rw [show a + i - a = i by omega] at this
      rw [← this]; exact hm
    refine .inr ⟨i, hi, hpe, places_skip hp i a (by omega) (fun k hk hh => ?_), ?_⟩
    · obtain ⟨e1, e2, _⟩ := hitS_iff.1 hh
      have := hno k hk
      rw [Bool.eq_false_iff] at this
      exact this ((occ_iff _ _ _).2 (by
        have q := drop_take_drop cs a e (a + k) pat.length (by omega) e1
        rw [show a + k - a = k by omega] at q
        rw [q]; exact e2))
    · rw [Bool.eq_iff_iff, hitS_iff]
      exact ⟨fun q => q.2.2, fun q => ⟨hpe, hm2, q⟩⟩
theorem idx_is (s pat : ByteArray) (a e : Nat) (hs : s.size ≤ 4096) : strings_Index.f (s.extract a e) pat = some (Lib.index ((s.data.toList.take e).drop a) pat.data.toList) := by
  unfold strings_Index.f
  have hsz : (s.extract a e).size < 4294967281 := by rw [ByteArray.size_extract]; omega
  rw [if_pos hsz, ext_list]
theorem places_ev {s : ByteArray} {l : List S51} {y : Int} (h : Fine s l y) (A B : Int) (pat rep : ByteArray) (every : Bool) (hp : 1 ≤ pat.size) (a e : Nat) (hae : a ≤ e) (he : e ≤ s.size) :
    Ev (fun k => subst_places.f k s l y A B pat rep every (a : Int) (e : Int)) ((places every (hitS s.data.toList pat.data.toList (bytes l) y e) pat.data.toList.length e a).map (fun i : Nat => (i : Int))) := by
  have h4 := h.size.1
  have hidx := fun a e => idx_is s pat a e h4
  have hcs : e ≤ s.data.toList.length := by rw [← Lib.size_eq]; exact he
  have hps : pat.size = pat.data.toList.length := Lib.size_eq pat
  have hpl : 1 ≤ pat.data.toList.length := by rw [← hps]; exact hp
  have hstep := fun a ha => index_step s.data.toList pat.data.toList (bytes l) y every e a hpl ha hcs
  have hseen := fun p q hpq hq => seen_ev h p q hpq hq
  obtain ⟨n, hn⟩ : ∃ n, s.size = n := ⟨_, rfl⟩
  have hsn : (s.size : Int) = (n : Int) := by rw [hn]
  have hpn : (pat.size : Int) = (pat.data.toList.length : Int) := by rw [hps]
  rw [hn] at he h4 hseen
  generalize pat.data.toList.length = m at *
  generalize hhit : hitS s.data.toList pat.data.toList (bytes l) y e = hit at *
  clear hhit hps hcs
  have loop : ∀ (d a : Nat) (acc : List Int), e - a ≤ d → a ≤ e → acc.length ≤ a → Ev (fun k => subst_places.l0 k y (e : Int) acc (a : Int) s l A B pat rep every) (acc ++ (places every hit m e a).map (fun i : Nat => (i : Int))) := by
    intro d
    induction d with
    | zero =>
      intro a acc hd ha hacc
      refine Ev.step (fun k => by simp only [subst_places.l0]; rfl) ?_
      refine Ev.neg (by omega) ?_
      rw [places_end (by omega), List.map_nil, List.append_nil]
      exact Ev.now _
    | succ d ih =>
      intro a acc hd ha hacc
      refine Ev.step (fun k => by simp only [subst_places.l0]; rfl) ?_
      by_cases hlt : a < e
      · refine Ev.pos (by omega) (Ev.pos (by omega) (Ev.pos (by omega) (Ev.pos (by rw [hsn]; omega) ?_)))
        rw [Int.toNat_natCast, Int.toNat_natCast, hidx]
        refine Ev.bind (Ev.now _) ?_
        rcases hstep a hlt with ⟨hi, hno⟩ | ⟨i, hi, hpe, hskip, hs⟩
        · rw [hi, hno, List.map_nil, List.append_nil]
          exact Ev.pos (by decide) (Ev.now _)
        · rw [hi, hskip]
          clear hi hskip hidx
          have hb : a + i + m ≤ 4096 := Nat.le_trans hpe (Nat.le_trans he h4)
          rw [hpn, wadd a i (by omega), wadd (a + i) m (by omega), wadd1 (a + i) (by omega)]
          refine Ev.neg (by omega) ?_
          have hsv := hseen (a + i) (a + i + m) (by omega) (by omega)
          rw [List.drop_take, show a + i + m - (a + i) = m by omega, ← hs] at hsv
          refine Ev.bind hsv ?_
          by_cases hh : hit (a + i) = true
          · rw [places_hit hpl (by omega) hh]
            refine Ev.pos hh (Ev.pos (by omega) (Ev.bind (Ev.now _) ?_))
            by_cases hev : every = true
            · rw [if_pos hev]
              refine Ev.pos hev (ev_val (ih (a + i + m) (acc ++ [((a + i : Nat) : Int)]) (by omega) (by omega) (by rw [List.length_append, List.length_singleton]; omega)) ?_)
              simp
            · rw [if_neg hev]
              exact Ev.neg hev (ev_val (Ev.now _) (by simp))
          · rw [places_miss hpl (by omega) hh]
            exact Ev.neg hh (ih (a + i + 1) acc (by omega) (by omega) (by omega))
      · refine Ev.neg (by omega) ?_
        rw [places_end (by omega), List.map_nil, List.append_nil]
        exact Ev.now _
  unfold subst_places.f
  exact loop (e - a) a [] (Nat.le_refl _) hae (by simp)
end Go.Proofs.Ytnbdldpjiofafaa.PB
end

section
namespace Go.Proofs.Ytnbdldpjiofafaa.PB
open Go.RowKit Go.Proofs.YtnbdldpjiofafaaW.PrintWords
set_option linter.unusedVariables false
set_option maxHeartbeats 1000000
def allP (f : Nat → List Nat) : Nat → Nat → List Nat
  | _, 0 => []
  | n, d + 1 => f n ++ allP f (n + 1) d
def lineP (v s pat : ByteArray) (l : List S51) (y : Int) (every : Bool) (n : Nat) : List Nat :=
  places every (hitS s.data.toList pat.data.toList (bytes l) y (lineTo v n)) pat.data.toList.length (lineTo v n) (lineFrom v n)
end Go.Proofs.Ytnbdldpjiofafaa.PB
end

section
namespace Go.Proofs.Ytnbdldpjiofafaa.PB
open Go.RowKit Go.Proofs.YtnbdldpjiofafaaW.PrintWords
set_option linter.unusedVariables false
set_option maxHeartbeats 1000000
abbrev ints (l : List Nat) : List Int := l.map (fun i : Nat => (i : Int))
def bld (s r : ByteArray) (m a : Nat) (ps : List Nat) (e : Nat) : ByteArray := ⟨(buildS s.data.toList r.data.toList m a ps e).toArray⟩
theorem bld_list (s r : ByteArray) (m a : Nat) (ps : List Nat) (e : Nat) : (bld s r m a ps e).data.toList = buildS s.data.toList r.data.toList m a ps e := by unfold bld; rfl
theorem bld_size (s r : ByteArray) (m a : Nat) (ps : List Nat) (e : Nat) : (bld s r m a ps e).size = (buildS s.data.toList r.data.toList m a ps e).length := by rw [Lib.size_eq, bld_list]
theorem bld_nil (s r : ByteArray) (m a e : Nat) : bld s r m a [] e = s.extract a e := data_inj (by rw [bld_list, ext_list]; rfl)
theorem bld_cons (s r : ByteArray) (m a p : Nat) (ps : List Nat) (e : Nat) : bld s r m a (p :: ps) e = s.extract a p ++ (r ++ bld s r m (p + m) ps e) := data_inj (by rw [bld_list, app_list, app_list, bld_list, ext_list]; rfl)
theorem cut_ok {s : ByteArray} {l : List S51} {y : Int} (h : Fine s l y) (a p : Nat) (h1 : a ≤ p) (h2 : p ≤ s.size) : cutS s l (a : Int) (p : Int) = (s.extract a p, pack (((bytes l).take p).drop a), 0) := by
  unfold cutS
  rw [if_pos (withinT_iff.2 ⟨h.good, by omega, by omega, by omega⟩), Int.toNat_natCast, Int.toNat_natCast]
theorem packBig {C : List Int} {n : Nat} (h : C.length = n) (hn : n ≤ 20000) : (pack C).length ≤ big := by have := pack_len C; unfold big; omega
theorem cut_ev' {s : ByteArray} {l : List S51} {y : Int} (h : Fine s l y) (a p : Nat) (h1 : a ≤ p) (h2 : p ≤ s.size) : Ev (fun k => strip_Cut.f k s l (a : Int) (p : Int)) (s.extract a p, pack (((bytes l).take p).drop a), 0) := ev_val (cut_ev s l h.len _ _) (cut_ok h a p h1 h2)
theorem cat_ev' (X Z : ByteArray) (C D : List Int) (hC : C.length = X.size) (hD : D.length = Z.size) (h : X.size + Z.size ≤ 4096) : Ev (fun k => strip_Cat.f k X (pack C) Z (pack D)) (X ++ Z, pack (C ++ D), 0) :=
  ev_val (cat4_ev X (pack C) (packBig hC (by omega)) Z (pack D) (packBig hD (by omega))) (catT_pack X Z C D hC hD h)
theorem rd_at {all ps : List Nat} {i p : Nat} (h : all.drop i = p :: ps) (z : Int) : rd (ints all ++ [z]) (i : Int) = (p : Int) := by
  have hi : i < all.length := by
    rcases Nat.lt_or_ge i all.length with q | q
    · exact q
    · rw [List.drop_eq_nil_of_le q] at h; cases h
  rw [List.drop_eq_getElem_cons hi] at h
  injection h with h _
  unfold rd ints
  rw [Int.toNat_natCast, List.getD_eq_getElem?_getD, List.getElem?_append_left (by rw [List.length_map]; exact hi), List.getElem?_map, List.getElem?_eq_getElem hi, h]
  rfl
theorem rd_end {all : List Nat} {i : Nat} (h : i = all.length) (z : Int) : rd (ints all ++ [z]) (i : Int) = z := by
  subst h
  unfold rd ints
  rw [Int.toNat_natCast, List.getD_eq_getElem?_getD, List.getElem?_append_right (by rw [List.length_map]; exact Nat.le_refl _), List.length_map, Nat.sub_self]
  rfl
theorem ints_len (all : List Nat) (z : Int) : (ints all ++ [z]).length = all.length + 1 := by simp [ints]
abbrev DX := Int × ByteArray × (List S51) × ByteArray × (List S51) × Int × Int
def badD (c : Int) : DX := (0, ⟨#[]⟩, [], ⟨#[]⟩, [], 0, c)
def okD (s : ByteArray) (l : List S51) (fr e : Nat) (T : ByteArray) (D : List Int) (n : Int) : DX := ((fr : Int), s.extract fr e, pack (((bytes l).take e).drop fr), T, pack D, n, 0)
theorem splice_ok0 {s : ByteArray} {l : List S51} {y : Int} (h : Fine s l y) (fr e : Nat) (T : ByteArray) (D : List Int) (h1 : fr ≤ e) (h2 : e ≤ s.size) (hD : D.length = T.size) (hT : T.size ≤ 4096) (hz : (s.size : Int) - ((e : Int) - (fr : Int)) + (T.size : Int) ≤ 4096) :
    (spliceT s l (fr : Int) (e : Int) T (pack D)).2.2 = 0 := by
  unfold spliceT
  rw [if_pos (withinT_iff.2 ⟨h.good, by omega, by omega, by omega⟩), if_pos (goodT_pack hD hT), if_neg (by omega)]
theorem of_ok {s : ByteArray} {l : List S51} {y : Int} (h : Fine s l y) (fr e : Nat) (T : ByteArray) (D : List Int) (h1 : fr ≤ e) (h2 : e ≤ s.size) (hD : D.length = T.size) (hT : T.size ≤ 4096) (hz : (s.size : Int) - ((e : Int) - (fr : Int)) + (T.size : Int) ≤ 4096) :
    ofS s l (fr : Int) (e : Int) T (pack D) = ((fr : Int), s.extract fr e, pack (((bytes l).take e).drop fr), T, pack D, 0) := by
  unfold ofS
  rw [if_pos (splice_ok0 h fr e T D h1 h2 hD hT hz), cut_ok h fr e h1 h2]
theorem fwd_ev {s : ByteArray} {l : List S51} {y : Int} (h : Fine s l y) (A B : Int) (pat rep : ByteArray) (every : Bool) (fr e : Nat) (x11 : List Int) (all : List Nat) (hp : 1 ≤ pat.size) (hfe : fr ≤ e) (he : e ≤ s.size) (hall : all.length ≤ 5000) (hfin : ∀ T : ByteArray, ∀ D : List Int, D.length = T.size → T = bld s rep pat.size fr all e → T.size ≤ 4096 ∧ (s.size : Int) - ((e : Int) - (fr : Int)) + (T.size : Int) ≤ 4096) :
    ∀ (ps : List Nat) (i a : Nat) (X : ByteArray) (C : List Int), all.drop i = ps → i + ps.length = all.length → a ≤ e + pat.size → spaced pat.size a ps e → C.length = X.size → X ++ bld s rep pat.size a ps e = bld s rep pat.size fr all e → C ++ buildS (bytes l) (List.replicate rep.size y) pat.size a ps e = buildS (bytes l) (List.replicate rep.size y) pat.size fr all e →
      Ev (fun k => subst_Do.l1 k x11 (fr : Int) (e : Int) (a : Int) (ints all ++ [(e : Int)]) ((ints all ++ [(e : Int)]).length : Int) (i : Int) s l A B pat rep every rep (pack (List.replicate rep.size y)) X (pack C))
        (okD s l fr e (bld s rep pat.size fr all e) (buildS (bytes l) (List.replicate rep.size y) pat.size fr all e) (x11.length : Int)) := by
  have h4 := h.size.1
  have hL := h.size.2
  have hlen := ints_len all (e : Int)
  have hF := hfin
  have hR : (List.replicate rep.size y).length = rep.size := List.length_replicate
  have hbd := fun (a p : Nat) (hap : a ≤ p) (hpe : p ≤ e) => show (((bytes l).take p).drop a).length = (s.extract a p).size from by
    rw [ByteArray.size_extract, List.length_drop, List.length_take]; omega
  have hbz := fun (a p : Nat) (hpe : p ≤ e) => show (s.extract a p).size = p - a from by rw [ByteArray.size_extract]; omega
  intro ps
  induction ps with
  | nil =>
    intro i a X C hd hi ha hsp hC hT hB
    have hil : i = all.length := by simpa using hi
    have hae : a ≤ e := hsp
    have hq := hF (X ++ s.extract a e) (C ++ ((bytes l).take e).drop a) (by rw [List.length_append, ByteArray.size_append, hC, hbd a e hae (Nat.le_refl _)]) (by rw [← hT, bld_nil])
    have hsum : X.size + (s.extract a e).size ≤ 4096 := by have := hq.1; rw [ByteArray.size_append] at this; exact this
    refine Ev.step (fun k => by simp only [subst_Do.l1]; rfl) ?_
    rw [rd_end hil, hlen]
    refine Ev.pos (by omega) (Ev.pos (by omega) (Ev.pos (by omega) (Ev.bind (cut_ev' h a e hae he) (Ev.bind (cat_ev' X (s.extract a e) C _ hC (hbd a e hae (Nat.le_refl _)) hsum) (Ev.neg (by omega) ?_)))))
    rw [wadd1 i (by omega)]
    refine Ev.step (fun k => by simp only [subst_Do.l1]; rfl) (Ev.neg (by omega) ?_)
    refine Ev.bind (of_ev s l h.len _ _ _ _ (packBig (n := (X ++ s.extract a e).size) (by rw [List.length_append, ByteArray.size_append, hC, hbd a e hae (Nat.le_refl _)]) (by have := hq.1; omega))) (ev_val (Ev.now _) ?_)
    rw [of_ok h fr e _ _ hfe he (by rw [List.length_append, ByteArray.size_append, hC, hbd a e hae (Nat.le_refl _)]) hq.1 hq.2]
    rw [← hT, ← hB, bld_nil]
    rfl
  | cons p ps ih =>
    intro i a X C hd hi ha hsp hC hT hB
    have hap : a ≤ p := hsp.1
    have hpe := spaced_le hsp.2
    have hpe' : p < e := by omega
    have hi' : i + ps.length + 1 = all.length := by rw [List.length_cons] at hi; omega
    rw [bld_cons] at hT
    have hB' : C ++ (((bytes l).take p).drop a ++ (List.replicate rep.size y ++ buildS (bytes l) (List.replicate rep.size y) pat.size (p + pat.size) ps e)) = buildS (bytes l) (List.replicate rep.size y) pat.size fr all e := hB
    have hz : (X ++ (s.extract a p ++ (rep ++ bld s rep pat.size (p + pat.size) ps e))).size ≤ 4096 := by
      have hq := hF (bld s rep pat.size fr all e) (List.replicate (bld s rep pat.size fr all e).size 0) List.length_replicate rfl
      rw [hT]; exact hq.1
    rw [ByteArray.size_append, ByteArray.size_append, ByteArray.size_append] at hz
    have hb1 := hbd a p hap (by omega)
    refine Ev.step (fun k => by simp only [subst_Do.l1]; rfl) ?_
    rw [rd_at hd, hlen]
    refine Ev.pos (by omega) (Ev.pos (by omega) (Ev.pos (by omega) (Ev.bind (cut_ev' h a p hap (by omega)) (Ev.bind (cat_ev' X (s.extract a p) C _ hC hb1 (by omega)) (Ev.pos (by omega) (Ev.bind (cat_ev' (X ++ s.extract a p) rep _ _ (by rw [List.length_append, ByteArray.size_append, hC, hb1]) hR (by rw [ByteArray.size_append]; omega)) ?_))))))
    rw [wadd1 i (by omega), wadd p pat.size (by omega), ← hlen]
    refine ih (i + 1) (p + pat.size) _ _ ?_ (by omega) (by omega) hsp.2 ?_ ?_ ?_
    · rw [← List.drop_drop, hd]; rfl
    · rw [List.length_append, List.length_append, ByteArray.size_append, ByteArray.size_append, hC, hb1, hR]
    · rw [← hT]; exact data_inj (by simp only [app_list, List.append_assoc])
    · rw [← hB']; simp only [List.append_assoc]
end Go.Proofs.Ytnbdldpjiofafaa.PB
end

section
namespace Go.Proofs.Ytnbdldpjiofafaa.PB
open Go.RowKit Go.Proofs.YtnbdldpjiofafaaW.PrintWords
set_option linter.unusedVariables false
set_option maxHeartbeats 1000000
section
variable {s : ByteArray} {l : List S51} {y : Int}
theorem lineP_spaced (v s pat : ByteArray) (l : List S51) (y : Int) (every : Bool) (hp : 1 ≤ pat.size) (n : Nat) (h : n < (ends v).length) :
    spaced pat.size (lineFrom v n) (lineP v s pat l y every n) (lineTo v n) ∧ ∀ p ∈ lineP v s pat l y every n, hitS s.data.toList pat.data.toList (bytes l) y (lineTo v n) p = true := by
  have hr := line_range v n h
  rw [Lib.size_eq] at hp ⊢
  exact places_spaced (every := every) (hit := hitS s.data.toList pat.data.toList (bytes l) y (lineTo v n)) (m := pat.data.toList.length) (e := lineTo v n) hp (fun k hk => (hitS_iff.1 hk).1) (lineTo v n - lineFrom v n) (lineFrom v n) (Nat.le_refl _) hr.1
theorem lineP_len (v s pat : ByteArray) (l : List S51) (y : Int) (every : Bool) (hp : 1 ≤ pat.size) (n : Nat) (h : n < (ends v).length) : (lineP v s pat l y every n).length ≤ v.size := by
  have hr := line_range v n h
  have q1 := (lineP_spaced v s pat l y every hp n h).1
  have q2 := spaced_len hp q1
  have q3 := Nat.le_mul_of_pos_right (lineP v s pat l y every n).length hp
  omega
theorem allP_spaced (v s pat : ByteArray) (l : List S51) (y : Int) (every : Bool) (hp : 1 ≤ pat.size) : ∀ (d n : Nat), n + d < (ends v).length →
    spaced pat.size (lineFrom v n) (allP (lineP v s pat l y every) n (d + 1)) (lineTo v (n + d)) ∧ ∀ p ∈ allP (lineP v s pat l y every) n (d + 1), ∃ q, n ≤ q ∧ q ≤ n + d ∧ p ∈ lineP v s pat l y every q ∧ hitS s.data.toList pat.data.toList (bytes l) y (lineTo v q) p = true := by
  intro d
  induction d with
  | zero =>
    intro n hn
    obtain ⟨q1, q2⟩ := lineP_spaced v s pat l y every hp n hn
    simp only [allP, List.append_nil, Nat.add_zero]
    exact ⟨q1, fun p hp => ⟨n, Nat.le_refl _, Nat.le_refl _, hp, q2 p hp⟩⟩
  | succ d ih =>
    intro n hn
    obtain ⟨q1, q2⟩ := lineP_spaced v s pat l y every hp n (by omega)
    obtain ⟨i1, i2⟩ := ih (n + 1) (by omega)
    have hnx := line_next v n (by omega)
    rw [show n + 1 + d = n + (d + 1) by omega] at i1
    rw [show allP (lineP v s pat l y every) n (d + 1 + 1) = lineP v s pat l y every n ++ allP (lineP v s pat l y every) (n + 1) (d + 1) from rfl]
    refine ⟨spaced_app q1 (spaced_mono (by omega) i1), fun p hpm => ?_⟩
    rcases List.mem_append.1 hpm with hpm | hpm
    · exact ⟨n, Nat.le_refl _, by omega, hpm, q2 p hpm⟩
    · obtain ⟨q, w1, w2, w3, w4⟩ := i2 p hpm
      exact ⟨q, by omega, by omega, w3, w4⟩
theorem sub_lines_ev (h : Fine s l y) (v pat rep : ByteArray) (every : Bool) (hv : v.size = s.size) (hp : 1 ≤ pat.size) (A : Int) (B : Nat) (hB : B < (ends v).length) (r : DX) :
    ∀ (d n : Nat) (acc : List Int), n + d = B + 1 → acc.length ≤ n * 5000 → Ev (fun k => subst_Do.l0 k y v (acc ++ ints (allP (lineP v s pat l y every) n d)) ((B + 1 : Nat) : Int) s l A (B : Int) pat rep every) r →
      Ev (fun k => subst_Do.l0 k y v acc (n : Int) s l A (B : Int) pat rep every) r := by
  have h4 := h.size.1
  have hends := ends_len_le v
  intro d
  induction d with
  | zero =>
    intro n acc hn hacc hr
    have : n = B + 1 := by omega
    subst this
    rw [show allP (lineP v s pat l y every) (B + 1) 0 = [] from rfl, show ints [] = [] from rfl, List.append_nil] at hr
    exact hr
  | succ d ih =>
    intro n acc hn hacc hr
    have hne : n < (ends v).length := by omega
    have hrg := line_range v n hne
    have hpl := lineP_len v s pat l y every hp n hne
    have hb := bounds_ev v (by omega) n hne
    have hps := places_ev h A (B : Int) pat rep every hp (lineFrom v n) (lineTo v n) hrg.1 (by omega)
    refine Ev.step (fun k => by simp only [subst_Do.l0]; rfl) (Ev.pos (by omega) (Ev.bind hb (Ev.bind hps ?_)))
    have hl1 : (ints (lineP v s pat l y every n)).length = (lineP v s pat l y every n).length := List.length_map _
    rw [wadd1 n (by omega)]
    refine Ev.pos ?_ (ih (n + 1) _ (by omega) ?_ ?_)
    · show acc.length + (ints (lineP v s pat l y every n)).length < _
      omega
    · show (acc ++ ints (lineP v s pat l y every n)).length ≤ _
      rw [List.length_append]
      omega
    · show Ev (fun k => subst_Do.l0 k y v ((acc ++ ints (lineP v s pat l y every n)) ++ ints (allP (lineP v s pat l y every) (n + 1) d)) ((B + 1 : Nat) : Int) s l A (B : Int) pat rep every) r
      rw [show allP (lineP v s pat l y every) n (d + 1) = lineP v s pat l y every n ++ allP (lineP v s pat l y every) (n + 1) d from rfl, show ints (lineP v s pat l y every n ++ allP (lineP v s pat l y every) (n + 1) d) = ints (lineP v s pat l y every n) ++ ints (allP (lineP v s pat l y every) (n + 1) d) from List.map_append, ← List.append_assoc] at hr
      exact hr
theorem wcount (n a b z : Nat) (hn : n ≤ 5000) (ha : a ≤ 5000) (hb : b ≤ 5000) (hz : z ≤ 5000) : wrap64 ((z : Int) + wrap64 ((n : Int) * wrap64 ((a : Int) - (b : Int)))) = (z : Int) + (((n * a : Nat) : Int) - ((n * b : Nat) : Int)) := by
  have h1 : n * a ≤ 5000 * 5000 := Nat.mul_le_mul hn ha
  have h2 : n * b ≤ 5000 * 5000 := Nat.mul_le_mul hn hb
  rw [show wrap64 ((a : Int) - (b : Int)) = (a : Int) - (b : Int) by unfold wrap64; omega, Int.mul_sub, ← Int.natCast_mul, ← Int.natCast_mul]
  generalize n * a = u at *
  generalize n * b = w at *
  rw [show wrap64 ((u : Int) - (w : Int)) = (u : Int) - (w : Int) by unfold wrap64; omega]
  unfold wrap64
  omega
def tailD (s : ByteArray) (l : List S51) (y : Int) (fr e : Nat) (ps : List Nat) (pat rep : ByteArray) : DX :=
  if ps.length = 0 then badD 6 else if (s.size : Int) + (((ps.length * rep.size : Nat) : Int) - ((ps.length * pat.size : Nat) : Int)) > 4096 then badD 3
  else okD s l fr e (bld s rep pat.size fr ps e) (buildS (bytes l) (List.replicate rep.size y) pat.size fr ps e) (ps.length : Int)
theorem bld_room (s rep : ByteArray) (m fr e : Nat) (ps : List Nat) (hs : spaced m fr ps e) (he : e ≤ s.size) (h4 : s.size ≤ 4096) (hc : ¬ (s.size : Int) + (((ps.length * rep.size : Nat) : Int) - ((ps.length * m : Nat) : Int)) > 4096) :
    (bld s rep m fr ps e).size ≤ 4096 ∧ (s.size : Int) - ((e : Int) - (fr : Int)) + ((bld s rep m fr ps e).size : Int) = (s.size : Int) + (((ps.length * rep.size : Nat) : Int) - ((ps.length * m : Nat) : Int)) := by
  have hb := build_len s.data.toList rep.data.toList m ps fr e (by rw [← Lib.size_eq]; exact he) hs
  have hle := spaced_le hs
  rw [← bld_size, ← Lib.size_eq] at hb
  generalize (bld s rep m fr ps e).size = u at *
  generalize ps.length * rep.size = x at *
  generalize ps.length * m = z at *
  generalize s.size = n at *
  omega
theorem sub_tail_ev (h : Fine s l y) (v pat rep : ByteArray) (every : Bool) (hv : v.size = s.size) (hp : 1 ≤ pat.size) (hp4 : pat.size ≤ 5000) (hr4 : rep.size ≤ 4096) (A B : Nat) (hAB : A ≤ B) (hB : B < (ends v).length) (ps : List Nat) (hps : spaced pat.size (lineFrom v A) ps (lineTo v B)) :
    Ev (fun k => subst_Do.l0 k y v (ints ps) ((B + 1 : Nat) : Int) s l (A : Int) (B : Int) pat rep every) (tailD s l y (lineFrom v A) (lineTo v B) ps pat rep) := by
  have h4 := h.size.1
  have hle := spaced_le hps
  have hz := spaced_len hp hps
  have hz2 := Nat.le_mul_of_pos_right ps.length hp
  have hrA := line_range v A (by omega)
  have hrB := line_range v B hB
  have hil : (ints ps).length = ps.length := List.length_map _
  have hn5 : ps.length ≤ 5000 := by omega
  have hbA := bounds_ev v (by omega) A (by omega)
  have hbB := bounds_ev v (by omega) B hB
  have hmk : makeS rep y = (rep, pack (List.replicate rep.size y), 0) := by unfold makeS; rw [if_neg (by omega)]
  have hbl := fun hc => bld_room s rep pat.size (lineFrom v A) (lineTo v B) ps hps (by omega) h4 hc
  refine Ev.step (fun k => by simp only [subst_Do.l0]; rfl) (Ev.neg (by omega) ?_)
  rw [hil, wcount ps.length rep.size pat.size s.size hn5 (by omega) hp4 (by omega)]
  unfold tailD
  by_cases h0 : ps.length = 0
  · rw [if_pos h0]
    exact Ev.pos (by omega) (Ev.now _)
  · rw [if_neg h0]
    refine Ev.neg (by omega) ?_
    by_cases hc : (s.size : Int) + (((ps.length * rep.size : Nat) : Int) - ((ps.length * pat.size : Nat) : Int)) > 4096
    · rw [if_pos hc]
      exact Ev.pos hc (Ev.now _)
    · rw [if_neg hc]
      refine Ev.neg hc (Ev.bind (ev_val (make_ev rep y) hmk) (Ev.bind hbA (Ev.bind hbB (Ev.pos (by omega) (Ev.bind (Ev.now _) ?_)))))
      have hq := hbl hc
      have hF := fwd_ev h (A : Int) (B : Int) pat rep every (lineFrom v A) (lineTo v B) (ints ps) ps hp hle (by omega) hn5 (fun T D _ hT => by subst hT; exact ⟨hq.1, by rw [hq.2]; omega⟩) ps 0 (lineFrom v A) ⟨#[]⟩ [] rfl (by omega) (by omega) hps rfl (data_inj (by rw [app_list]; rfl)) rfl
      rw [hil] at hF
      exact hF
end
end Go.Proofs.Ytnbdldpjiofafaa.PB
end

section
namespace Go.Proofs.Ytnbdldpjiofafaa.PB
open Go.RowKit Go.Proofs.YtnbdldpjiofafaaW.PrintWords
set_option linter.unusedVariables false
set_option maxHeartbeats 1000000
theorem has10 (pat : ByteArray) : strings_Contains.f pat ⟨#[10]⟩ = some (decide ((10 : UInt8) ∈ pat.data.toList)) := by
  unfold strings_Contains.f
  rw [if_pos (show (⟨#[10]⟩ : ByteArray).size = 1 from rfl)]
  congr 1
  rw [decide_eq_decide]
  rw [show (⟨#[10]⟩ : ByteArray).data.toList.getD 0 0 = 10 from rfl]
  rcases ib_cases pat.data.toList with ⟨h, hn⟩ | ⟨o, h, ho, h1, h2⟩
  · rw [h]
    exact ⟨fun q => absurd q (by decide), fun q => absurd rfl (hn _ q)⟩
  · rw [h]
    exact ⟨fun _ => List.mem_of_getElem? h1, fun _ => by omega⟩
def mayD (v : ByteArray) (A B : Int) (pat rep : ByteArray) : Bool :=
  decide (0 ≤ A) && (decide (A ≤ B) && (decide (B < ((ends v).length : Int)) && (decide (1 ≤ pat.size) && (!decide ((10 : UInt8) ∈ pat.data.toList) && decide (rep.size ≤ 4096)))))
theorem mayD_iff {v : ByteArray} {A B : Int} {pat rep : ByteArray} : mayD v A B pat rep = true ↔ 0 ≤ A ∧ A ≤ B ∧ B < ((ends v).length : Int) ∧ 1 ≤ pat.size ∧ ¬ (10 : UInt8) ∈ pat.data.toList ∧ rep.size ≤ 4096 := by simp [mayD]
def doG (s : ByteArray) (l : List S51) (y : Int) (v : ByteArray) (A B : Nat) (pat rep : ByteArray) (every : Bool) : DX :=
  tailD s l y (lineFrom v A) (lineTo v B) (allP (lineP v s pat l y every) A (B + 1 - A)) pat rep
def doD (s : ByteArray) (l : List S51) (y A B : Int) (pat rep : ByteArray) (every : Bool) : DX :=
  if goodT s l = true ∧ mayD (viewS s l y).1 A B pat rep = true then doG s l y (viewS s l y).1 A.toNat B.toNat pat rep every else badD 2
theorem view_size {s : ByteArray} {l : List S51} {y : Int} (h : goodT s l = true) : (viewS s l y).1.size = s.size ∧ (viewS s l y).2 = 0 := by
  obtain ⟨g1, g2, g3, g4, g5⟩ := goodT_facts h
  unfold viewS
  rw [if_pos h]
  refine ⟨?_, rfl⟩
  show (strOfNums _).size = _
  rw [strOfNums_size, hideAll_len, bytesOf_len, g3, Nat.min_self]
theorem sub_may_ev {s : ByteArray} {l : List S51} {y : Int} (h : Fine s l y) (v pat rep : ByteArray) (every : Bool) (hv : v.size = s.size) (hp4 : pat.size ≤ 5000) (A B : Int) (hm : mayD v A B pat rep = true) :
    Ev (fun k => subst_Do.j0 k y v false s l A B pat rep every) (doG s l y v A.toNat B.toNat pat rep every) := by
  obtain ⟨h1, h2, h3, h4, h5, h6⟩ := mayD_iff.1 hm
  obtain ⟨a, rfl⟩ := Int.eq_ofNat_of_zero_le h1
  obtain ⟨b, rfl⟩ := Int.eq_ofNat_of_zero_le (show 0 ≤ B by omega)
  have hb : b < (ends v).length := by omega
  have hab : a ≤ b := by omega
  have hsp := (allP_spaced v s pat l y every h4 (b - a) a (by omega)).1
  rw [show a + (b - a) = b by omega, show b - a + 1 = b + 1 - a by omega] at hsp
  refine Ev.step (fun k => by simp only [subst_Do.j0]; rfl) (Ev.neg (by simp) ?_)
  rw [Int.toNat_natCast, Int.toNat_natCast]
  exact sub_lines_ev h v pat rep every hv h4 (a : Int) b hb _ (b + 1 - a) a [] (by omega) (by simp) (by rw [List.nil_append]; exact sub_tail_ev h v pat rep every hv h4 hp4 h6 a b hab hb _ hsp)
theorem do_ev (s : ByteArray) (l : List S51) (y A B : Int) (pat rep : ByteArray) (every : Bool) (hl : l.length ≤ big) (hw : ∀ r ∈ l, 0 ≤ r.f0 ∧ r.f0 < 18446744073709551616) (hy : 0 ≤ y ∧ y < 18446744073709551616) (hp4 : pat.size ≤ 5000) :
    Ev (fun k => subst_Do.f k s l y A B pat rep every) (doD s l y A B pat rep every) := by
  have bad : ∀ v, Ev (fun k => subst_Do.j0 k y v true s l A B pat rep every) (badD 2) := fun v => Ev.step (fun k => by simp only [subst_Do.j0]; rfl) (Ev.pos (c := true = true) rfl (Ev.now _))
  unfold subst_Do.f doD
  refine Ev.bind (view_ev s l hl y) ?_
  by_cases hg : goodT s l = true
  case neg =>
    rw [if_neg (fun q => hg q.1)]
    refine Ev.neg ?_ (bad _)
    unfold viewS
    rw [if_neg hg]
    decide
  obtain ⟨hv, hv2⟩ := view_size (y := y) hg
  refine Ev.pos hv2 ?_
  have hF : Fine s l y := ⟨hg, hl, hw, hy⟩
  have hend := ends_len_le (viewS s l y).1
  have h4 := hF.size.1
  have hcnt := count_ev (viewS s l y).1 (by omega)
  have hgo := sub_may_ev hF (viewS s l y).1 pat rep every hv hp4 A B
  generalize (viewS s l y).1 = v at *
  clear hv2
  by_cases hm : mayD v A B pat rep = true
  · rw [if_pos ⟨hg, hm⟩]
    obtain ⟨m1, m2, m3, m4, m5, m6⟩ := mayD_iff.1 hm
    refine Ev.neg (by omega) (Ev.neg (by omega) ?_)
    rw [hcnt, has10, decide_eq_false m5, decide_eq_false (show ¬ ((rep.size : Int) > 4096) by omega)]
    refine Ev.bind (Ev.now _) (Ev.neg (by omega) (Ev.neg ?_ (Ev.bind (Ev.now _) (Ev.neg (by simp) (hgo hm)))))
    rw [toList_data]
    intro q
    have hz := (Lib.size_eq pat).trans (congrArg List.length q)
    rw [List.length_nil] at hz
    omega
  · rw [if_neg (fun q => hm q.2)]
    refine Ev.ite' (fun _ => bad _) (fun m1 => Ev.ite' (fun _ => bad _) (fun m2 => ?_))
    rw [hcnt, has10]
    refine Ev.bind (Ev.now _) (Ev.ite' (fun _ => bad _) (fun m3 => Ev.ite' (fun _ => bad _) (fun m4 => Ev.bind (Ev.now _) (Ev.ite' (fun _ => bad _) (fun m5 => ?_)))))
    have : decide ((rep.size : Int) > 4096) = true := by
      rw [decide_eq_true_eq]
      refine Int.not_le.1 (fun q => hm (mayD_iff.2 ⟨by omega, by omega, by omega, ?_, by simpa using m5, by omega⟩))
      rcases Nat.eq_zero_or_pos pat.size with z | z
      · refine absurd ?_ m4
        rw [toList_data]
        rw [Lib.size_eq] at z
        exact List.eq_nil_of_length_eq_zero z
      · exact z
    rw [this]
    exact bad _
end Go.Proofs.Ytnbdldpjiofafaa.PB
end

section
namespace Go.Proofs.Ytnbdldpjiofafaa.PB
open Go.RowKit Go.Proofs.YtnbdldpjiofafaaW.PrintWords
set_option linter.unusedVariables false
set_option maxHeartbeats 1000000
theorem doD_cases (s : ByteArray) (l : List S51) (y A B : Int) (pat rep : ByteArray) (every : Bool) (v : ByteArray) (hv : v = (viewS s l y).1) :
    (∃ c : Int, c ≠ 0 ∧ doD s l y A B pat rep every = badD c) ∨
    ∃ (a b : Nat) (ps : List Nat) (fr e : Nat), A = a ∧ B = b ∧ a ≤ b ∧ b < (ends v).length ∧ goodT s l = true ∧ mayD v A B pat rep = true ∧ ps = allP (lineP v s pat l y every) a (b + 1 - a) ∧ fr = lineFrom v a ∧ e = lineTo v b ∧
      spaced pat.size fr ps e ∧ fr ≤ e ∧ e ≤ s.size ∧ 1 ≤ ps.length ∧ ¬ (s.size : Int) + (((ps.length * rep.size : Nat) : Int) - ((ps.length * pat.size : Nat) : Int)) > 4096 ∧
      doD s l y A B pat rep every = okD s l fr e (bld s rep pat.size fr ps e) (buildS (bytes l) (List.replicate rep.size y) pat.size fr ps e) (ps.length : Int) := by
  subst hv
  unfold doD
  by_cases h : goodT s l = true ∧ mayD (viewS s l y).1 A B pat rep = true
  case neg => exact .inl ⟨2, by decide, by rw [if_neg h]⟩
  rw [if_pos h]
  obtain ⟨hg, hm⟩ := h
  have hv := (view_size (y := y) hg).1
  generalize (viewS s l y).1 = v at *
  obtain ⟨h1, h2, h3, h4, h5, h6⟩ := mayD_iff.1 hm
  obtain ⟨a, rfl⟩ := Int.eq_ofNat_of_zero_le h1
  obtain ⟨b, rfl⟩ := Int.eq_ofNat_of_zero_le (show 0 ≤ B by omega)
  have hb : b < (ends v).length := by omega
  have hab : a ≤ b := by omega
  have hsp := (allP_spaced v s pat l y every h4 (b - a) a (by omega)).1
  rw [show a + (b - a) = b by omega, show b - a + 1 = b + 1 - a by omega] at hsp
  have hle := spaced_le hsp
  have hr := (line_range v b hb).2
  unfold doG
  rw [Int.toNat_natCast, Int.toNat_natCast]
  generalize hps : allP (lineP v s pat l y every) a (b + 1 - a) = ps at *
  unfold tailD
  by_cases h0 : ps.length = 0
  · exact .inl ⟨6, by decide, by rw [if_pos h0]⟩
  rw [if_neg h0]
  by_cases hc : (s.size : Int) + (((ps.length * rep.size : Nat) : Int) - ((ps.length * pat.size : Nat) : Int)) > 4096
  · exact .inl ⟨3, by decide, by rw [if_pos hc]⟩
  rw [if_neg hc]
  exact .inr ⟨a, b, ps, lineFrom v a, lineTo v b, rfl, rfl, hab, hb, hg, hm, hps.symm, rfl, rfl, hsp, hle, by omega, by omega, hc, rfl⟩
theorem bld_lab (s rep : ByteArray) (l : List S51) (y : Int) (m fr e : Nat) (ps : List Nat) (hs : spaced m fr ps e) (he : e ≤ s.size) (hL : (bytes l).length = s.size) :
    (buildS (bytes l) (List.replicate rep.size y) m fr ps e).length = (bld s rep m fr ps e).size := by
  have h1 := build_len s.data.toList rep.data.toList m ps fr e (by rw [← Lib.size_eq]; exact he) hs
  have h2 := build_len (bytes l) (List.replicate rep.size y) m ps fr e (by omega) hs
  rw [← bld_size, ← Lib.size_eq] at h1
  rw [List.length_replicate] at h2
  generalize ps.length * rep.size = x at *
  generalize ps.length * m = z at *
  omega
section
variable {s : ByteArray} {l : List S51} {y : Int}
theorem splice_is (h : Fine s l y) (fr e : Nat) (T : ByteArray) (D : List Int) (h1 : fr ≤ e) (h2 : e ≤ s.size) (hD : D.length = T.size) (hT : T.size ≤ 4096) (hz : (s.size : Int) - ((e : Int) - (fr : Int)) + (T.size : Int) ≤ 4096) :
    spliceT s l (fr : Int) (e : Int) T (pack D) = (s.extract 0 fr ++ T ++ s.extract e s.size, pack ((bytes l).take fr ++ D ++ (bytes l).drop e), 0) := by
  unfold spliceT
  rw [if_pos (withinT_iff.2 ⟨h.good, by omega, by omega, by omega⟩), if_pos (goodT_pack hD hT), if_neg (by omega), Int.toNat_natCast, Int.toNat_natCast, pack_bytes]
theorem apply_sums (n fr e m o : Nat) (h1 : fr ≤ e) (h2 : e ≤ n) (h4 : n ≤ 4096) (hT : m ≤ 4096) (hz : (n : Int) - ((e : Int) - (fr : Int)) + (m : Int) ≤ 4096) (ho : o = e - fr) :
    wrap64 ((fr : Int) + (o : Int)) = (e : Int) ∧ decide (wrap64 ((n : Int) - (fr : Int)) < (o : Int)) = false ∧ ¬ wrap64 (wrap64 ((n : Int) - (o : Int)) + (m : Int)) > 4096 := by
  subst ho
  refine ⟨?_, ?_, ?_⟩
  · rw [wadd fr (e - fr) (by omega)]; omega
  · rw [decide_eq_false_iff_not, show wrap64 ((n : Int) - (fr : Int)) = (n : Int) - (fr : Int) by unfold wrap64; omega]
    omega
  · rw [show wrap64 ((n : Int) - ((e - fr : Nat) : Int)) = ((n - (e - fr) : Nat) : Int) by unfold wrap64; omega, wadd _ _ (by omega)]
    omega
theorem rapply_ok (h : Fine s l y) (fr e : Nat) (T : ByteArray) (D : List Int) (h1 : fr ≤ e) (h2 : e ≤ s.size) (hD : D.length = T.size) (hT : T.size ≤ 4096) (hz : (s.size : Int) - ((e : Int) - (fr : Int)) + (T.size : Int) ≤ 4096) :
    Ev (fun k => bureauref07_Apply.f k s l (fr : Int) (s.extract fr e) (pack (((bytes l).take e).drop fr)) T (pack D)) (s.extract 0 fr ++ T ++ s.extract e s.size, pack ((bytes l).take fr ++ D ++ (bytes l).drop e), 0) := by
  have h4 := h.size.1
  have hL := h.size.2
  have hz1 : (s.extract fr e).size = e - fr := by rw [ByteArray.size_extract]; omega
  have hb : (((bytes l).take e).drop fr).length = (s.extract fr e).size := by rw [hz1, List.length_drop, List.length_take]; omega
  have hbp := packBig hb (by omega)
  have hbd := packBig hD (by omega)
  have hgE : goodE (fr : Int) (s.extract fr e) (pack (((bytes l).take e).drop fr)) T (pack D) = true := goodE_iff.2 ⟨goodT_pack hb (by omega), goodT_pack hD hT, by omega, by omega⟩
  have hcut := ev_val (rcut_ev s l h.len (fr : Int) (e : Int)) (cut_ok h fr e h1 h2)
  have hsame := rsame4_ev (s.extract fr e) (pack (((bytes l).take e).drop fr)) (s.extract fr e) (pack (((bytes l).take e).drop fr)) hbp
  have hspl := ev_val (rsplice4_ev s l h.len (fr : Int) (e : Int) T (pack D) hbd) (splice_is h fr e T D h1 h2 hD hT hz)
  have hgo := rgoodE_ev (fr : Int) (s.extract fr e) (pack (((bytes l).take e).drop fr)) T (pack D) hbp hbd
  rw [hgE] at hgo
  rw [sameT_self] at hsame
  have hgd := rgoodT_ev s l h.len
  rw [h.good] at hgd
  obtain ⟨hsum, hd, hf⟩ := apply_sums s.size fr e T.size (s.extract fr e).size h1 h2 h4 hT hz hz1
  unfold bureauref07_Apply.f bureauref07_Check.f
  rw [hsum, hd]
  refine Ev.bind (Ev.bind hgd (Ev.pos rfl (Ev.bind hgo (Ev.pos rfl ?_)))) (Ev.pos rfl (Ev.bind hspl (Ev.now _)))
  refine Ev.step (fun k => by simp only [bureauref07_Check.j0]; rfl) (Ev.neg (by simp) ?_)
  rw [hsum]
  exact Ev.bind hcut (Ev.bind hsame (Ev.pos rfl (Ev.neg hf (Ev.now _))))
end
end Go.Proofs.Ytnbdldpjiofafaa.PB
end

section
namespace Go.Proofs.Ytnbdldpjiofafaa.PB
open Go.RowKit Go.Proofs.YtnbdldpjiofafaaW.PrintWords
set_option linter.unusedVariables false
set_option maxHeartbeats 1000000
theorem alive15 : bureaulaw15_alive.f 80 = some true := by decide +kernel
theorem alive15_ev : Ev (fun k => bureaulaw15_alive.f k) true := Ev.of (bureaulaw15_alive.mono) alive15
def fitD (s : ByteArray) (l : List S51) (pat rep : ByteArray) : Prop := s.size ≤ 1024 ∧ l.length ≤ 5000 ∧ pat.size ≤ 5000 ∧ rep.size ≤ 5000
instance (s : ByteArray) (l : List S51) (pat rep : ByteArray) : Decidable (fitD s l pat rep) := inferInstanceAs (Decidable (_ ∧ _))
theorem fits15_eq (s : ByteArray) (l : List S51) (A B : Int) (pat rep : ByteArray) (every : Bool) : bureaulaw15_fits.f s l A B pat rep every = some (decide (fitD s l pat rep)) := by
  unfold bureaulaw15_fits.f bureaulaw14_Fits.f
  by_cases h1 : s.size ≤ 1024
  · rw [if_pos (by omega), Option.bind_some]
    by_cases h2 : l.length ≤ 5000
    · rw [if_pos (by rw [decide_eq_true_eq]; omega)]
      by_cases h3 : pat.size ≤ 5000
      · rw [if_pos (by omega)]
        congr 1
        rw [decide_eq_decide]
        unfold fitD
        omega
      · rw [if_neg (by omega)]
        congr 1
        symm
        rw [decide_eq_false_iff_not]
        exact fun q => h3 q.2.2.1
    · rw [if_neg (by rw [decide_eq_true_eq]; omega)]
      congr 1
      symm
      rw [decide_eq_false_iff_not]
      exact fun q => h2 q.2.1
  · rw [if_neg (by omega), Option.bind_some, if_neg (by decide)]
    congr 1
    symm
    rw [decide_eq_false_iff_not]
    exact fun q => h1 q.1
theorem fitBig {s : ByteArray} {l : List S51} {pat rep : ByteArray} (h : fitD s l pat rep) : l.length ≤ big := by have := h.2.1; unfold big; omega
theorem badSame (c : Int) : Ev (fun k => bureauref07_Same.f k (badD c).1 (badD c).2.1 (badD c).2.2.1 (badD c).2.2.2.1 (badD c).2.2.2.2.1 0 (⟨#[]⟩ : ByteArray) ([] : List S51) (⟨#[]⟩ : ByteArray) ([] : List S51)) true :=
  rsame7_self 0 ⟨#[]⟩ [] ⟨#[]⟩ [] (by simp [big]) (by simp [big])
theorem SubstCounts_pure (t : S24) (y : Int) (j : S28) (wt : wf24 t) (wy : (Lit.int .u64 y).wf = true) (wj : wf28 j) : ∃ k, bureaulaw15_SubstCounts.f k t.f0 t.f1 y j.f0 j.f1 j.f2 j.f3 j.f4 = some true := by
  refine Ev.rounds (g := fun k => bureaulaw15_SubstCounts.f k t.f0 t.f1 y j.f0 j.f1 j.f2 j.f3 j.f4) ?_
  have hw := wfT wt
  have hy := wf_u64 wy
  generalize t.f0 = s at *
  generalize t.f1 = l at *
  generalize j.f0 = A at *
  generalize j.f1 = B at *
  generalize j.f2 = pat at *
  generalize j.f3 = rep at *
  generalize j.f4 = every at *
  clear wt wy wj
  unfold bureaulaw15_SubstCounts.f
  refine Ev.bind alive15_ev (Ev.pos rfl ?_)
  rw [fits15_eq]
  refine Ev.bind (Ev.now _) (Ev.ite' (fun hf => ?_) (fun _ => Ev.now _))
  have hf := of_decide_eq_true hf
  have hl := fitBig hf
  refine Ev.bind (do_ev s l y A B pat rep every hl hw hy hf.2.2.1) ?_
  rcases doD_cases s l y A B pat rep every _ rfl with ⟨c, hc, e⟩ | ⟨a, b, ps, fr, e, rfl, rfl, hab, hb, hg, hm, hps, hfr, he, hsp, hfe, hes, h1, hn, ed⟩
  · rw [e]
    exact Ev.neg hc (Ev.bind (badSame c) (Ev.pos rfl (Ev.now _)))
  · rw [ed]
    have hF : Fine s l y := ⟨hg, hl, hw, hy⟩
    have hr := bld_room s rep pat.size fr e ps hsp hes hF.size.1 hn
    have hp1 := (mayD_iff.1 hm).2.2.2.1
    have hsl := spaced_len hp1 hsp
    have hn2 := Nat.le_mul_of_pos_right ps.length hp1
    have h10 := hf.1
    refine Ev.pos rfl (Ev.bind (rapply_ok hF fr e _ _ hfe hes (bld_lab s rep l y pat.size fr e ps hsp hes hF.size.2) hr.1 (Int.le_trans (Int.le_of_eq hr.2) (Int.not_lt.1 hn))) (Ev.pos rfl (Ev.pos ?_ (ev_val (Ev.now _) ?_))))
    · show (ps.length : Int) ≥ 1
      omega
    · show (((s.extract 0 fr ++ bld s rep pat.size fr ps e ++ s.extract e s.size).size : Int) == wrap64 ((s.size : Int) + wrap64 ((ps.length : Int) * wrap64 ((rep.size : Int) - (pat.size : Int))))) = true
      rw [wcount ps.length rep.size pat.size s.size (by omega) hf.2.2.2 hf.2.2.1 (by omega), beq_iff_eq, ByteArray.size_append, ByteArray.size_append, ByteArray.size_extract, ByteArray.size_extract]
      have := hr.2
      generalize (bld s rep pat.size fr ps e).size = u at *
      omega
end Go.Proofs.Ytnbdldpjiofafaa.PB
end

section
namespace Go.Proofs.Ytnbdldpjiofafaa.PB
open Go.ChangeShapes Go.WideShapes Go.ChangeAt Go.RowKit Go.Proofs.YtnbdldpjiofafaaW.PrintWords
open Go.ChangeMaps (open_string shut_string)
set_option linter.unusedVariables false
namespace substCounts
open Go.Proofs.Ytnbdldpjiofafaa
theorem own : ownKnob Try.prog.godebug = none := by kernel_rfl
theorem laidOut : laidOutB Try.prog = true := by kernel_rfl
set_option maxRecDepth 100000 in
theorem lifted (os : Os) (started : os.Started) (H : Type) (enc : TypeId × Value → H) :
    ReturnsInHanded {} Try.checked os 4 .any (Rows.substCountsSpec.pre6 enc Try.prog Try.f4 Rows.substCountsRow.domain false) (Rows.substCountsSpec.post enc Try.prog Try.f4 false true false false) := by
  refine returnsInHanded_of_change_shaped (C := Try.checked) own started (by kernel_rfl) Try.func4
    (ChangeSpec.witness6 (enc := enc) (C := Try.checked) false ⟨#[], #[.agg #[.string ByteArray.empty, .slice none 0 0], .int .u64 0, .agg #[.int .i64 0, .int .i64 0, .string ByteArray.empty, .string ByteArray.empty, .bool false]], []⟩ 8 (by kernel_rfl) (by kernel_rfl) (by kernel_rfl) (by kernel_rfl)) ?_
  intro W base args ds gs before hval0 hW hcnd hsz0 hsh _
  have hsz : (DataW.weightsEach Try.prog (Try.f4.params.toList ++ Rows.substCountsSpec.plain.varTypes Try.prog) (ds ++ gs)).all (· ≤ reachBytes) = true := hsz0
  have hval : ∀ (j : Nat) t v, Try.f4.params[j]? = some t → args[j]? = some v → Value.okWide Try.prog W .any base t v := hval0
  have hW' := hW
  obtain ⟨p, q, hA0, hV, rfl, hfz, hnd⟩ := hW
  have hA : DataW.TrodAll enc Try.prog W 0 (fun _ => true) true Try.f4.params.toList args.toList ds p := hA0
  rw [Try.params4] at hA hval hsz
  obtain ⟨v0, vs0, d0, ds0, p0, q0, hargs, rfl, rfl, h0, r0⟩ := trodAll_cons hA
  obtain ⟨v1, vs1, d1, ds1, p1, q1, rfl, rfl, rfl, h1, r1⟩ := trodAll_cons r0
  obtain ⟨v2, vs2, d2, ds2, p2, q2, rfl, rfl, rfl, h2, r2⟩ := trodAll_cons r1
  obtain ⟨rfl, rfl, rfl⟩ := trodAll_nil r2
  obtain rfl : args = #[v0, v1, v2] := by cases args; simp_all
  obtain ⟨rfl, rfl⟩ := trodVars_none hV
  have hz0 : ∀ n ∈ d0.weights Try.prog 24, n ≤ reachBytes := fun n hn => by have z := List.all_eq_true.1 hsz n (DataW.weights_mem_each (j := 0) rfl rfl n hn); simpa using z
  have kk0 := h0
  have lt0 : ∀ x ∈ p0, x.block < W.heap.size := by obtain ⟨m, hm⟩ := kk0; exact DataW.trod_lt m _ _ _ hm
  obtain ⟨cs0, rfl, cz0⟩ := okWide_struct Try.underlying24 (hval 0 24 v0 rfl rfl)
  obtain ⟨x0, hK0, w0⟩ : ∃ x : S24, k24.K W x cs0.toList ∧ wf24 x := by
    obtain ⟨fuel, hf⟩ := h0
    exact opn24 H enc _ _ _ fuel _ _ hf hz0
  obtain ⟨A0_1, c0_1, hcs0, hc0_1, hr0_1⟩ := k24_open hK0
  obtain rfl : cs0 = #[.string x0.f0, .slice A0_1 x0.f1.length c0_1] := Array.toList_inj.1 hcs0
  obtain ⟨a1, rfl, rfl, rfl, w1⟩ := open_int Try.underlying26 (hval 1 26 v1 rfl rfl) h1
  have hz2 : ∀ n ∈ d2.weights Try.prog 28, n ≤ reachBytes := fun n hn => by have z := List.all_eq_true.1 hsz n (DataW.weights_mem_each (j := 2) rfl rfl n hn); simpa using z
  have kk2 := h2
  have lt2 : ∀ x ∈ p2, x.block < W.heap.size := by obtain ⟨m, hm⟩ := kk2; exact DataW.trod_lt m _ _ _ hm
  obtain ⟨cs2, rfl, cz2⟩ := okWide_struct Try.underlying28 (hval 2 28 v2 rfl rfl)
  obtain ⟨x2, hK2, w2⟩ : ∃ x : S28, k28.K W x cs2.toList ∧ wf28 x := by
    obtain ⟨fuel, hf⟩ := h2
    exact opn28 H enc _ _ _ fuel _ _ hf hz2
  obtain hcs2 := k28_open hK2
  obtain rfl : cs2 = #[.int .i64 x2.f0, .int .i64 x2.f1, .string x2.f2, .string x2.f3, .bool x2.f4] := Array.toList_inj.1 hcs2
  clear hA0 hval0 hsz0 hsz
  obtain ⟨k, hk⟩ := SubstCounts_pure x0 a1 x2 w0 w1 w2
  refine (bureaulaw15_SubstCounts.calls k x0.f0 _ _ x0.f1 a1 x2.f0 x2.f1 x2.f2 x2.f3 x2.f4 true W (Try.laysM143.s1_3 W hsh) hr0_1 hc0_1 hk).mono fun e W' ⟨he, bel⟩ => ?_
  subst he
  exact ⟨_, rfl, _, _, _, [], _, [], hW', trodAll_mk1 (shut_bool Try.underlying4 _), (trodAll_cons_mk (Below.trod laidOut (by kernel_rfl) (of_decide_eq_true (by kernel_rfl)) kk0 bel lt0) (trodAll_cons_mk (shut_int Try.underlying26 w1) (trodAll_cons_mk (Below.trod laidOut (by kernel_rfl) (of_decide_eq_true (by kernel_rfl)) kk2 bel lt2) trodAll_mk0))), rfl, bel.frame _, fun h => by cases h⟩
theorem over : Rows.substCountsRow.holds Try.pinned (OpenSpec.ofChange Rows.substCountsSpec) :=
  OpenClaim.holds_of_wide 4 Try.f4 rfl rfl rfl rfl rfl rfl rfl ⟨rfl, rfl, rfl, rfl, rfl⟩ rfl rfl rfl rfl rfl (by kernel_rfl) Try.func4 (by kernel_rfl)
    (of_decide_eq_true (by kernel_rfl)) (by unfold Func.isWrapper; first | (rw [if_pos (by decide +kernel)]; kernel_rfl) | (rw [if_neg (by decide +kernel)]; exact ⟨rfl, rfl⟩))
    (fun os started H enc _ => lifted os started H enc)
theorem proved : Rows.SubstCountsSaid := over
end substCounts
end Go.Proofs.Ytnbdldpjiofafaa.PB
namespace Go.Proofs.Ytnbdldpjiofafaa
theorem substCounts_holds : Rows.SubstCountsSaid := PB.substCounts.proved
#print axioms substCounts_holds
end Go.Proofs.Ytnbdldpjiofafaa
end
