/- The row of a law out of its contract and its pure theorem. No condition. -/
import Derived.Test.YthpjagblnddjaaaRows
import Derived.ProofKit
import Derived.ShutString
import Derived.ChangeOld
import Derived.Carry
import Derived.Test.YthpjagblnddjaaaQStripCats6
section
namespace Go.Proofs.Ythpjagblnddjaaa.PB
open Go.RowKit Go.Proofs.YthpjagblnddjaaaW.PrintWords
set_option linter.unusedVariables false
def lift (y : Int) (b : List Int) : List Int := b.map (fun x => Go.bits .or .u64 x y)
def liftRuns (y : Int) (l : List S100) : List S100 := l.map (fun r => ⟨Go.bits .or .u64 r.f0 y, r.f1⟩)
theorem lift_bytes (y : Int) (l : List S100) : bytes (liftRuns y l) = lift y (bytes l) := by
  induction l with
  | nil => rfl
  | cons r l ih =>
    show bytes (_ :: liftRuns y l) = _
    rw [bytes_cons, bytes_cons, ih]
    unfold lift
    rw [List.map_append, List.map_replicate]
theorem someTo_join (y a b : Int) : ∀ (l : List S100) (p : Int) (acc : List S100), someTo (joinRun y) a b l p acc = someTo addRun a b (liftRuns y l) p acc
  | [], _, _ => rfl
  | r :: l, p, acc => by
    have := someTo_join y a b l (wrap64 (p + r.f1))
    simp only [liftRuns] at this
    simp only [someTo, liftRuns, List.map_cons, joinRun]
    exact this _
theorem liftRuns_nonneg {y : Int} {l : List S100} (h : ∀ r ∈ l, 0 ≤ r.f1) : ∀ r ∈ liftRuns y l, 0 ≤ r.f1 := by
  intro r hr
  obtain ⟨s, hs, rfl⟩ := List.mem_map.1 hr
  exact h s hs
theorem lift_len (y : Int) (b : List Int) : (lift y b).length = b.length := by simp [lift]
theorem raiseRuns_pack (l : List S100) (i j : Nat) (y : Int) (hij : i ≤ j) (hj : j ≤ 4096) (hl : (bytes l).length ≤ 4096) (hn : nrm l) :
    raiseRuns l i j y = pack ((bytes l).take i ++ lift y (((bytes l).take j).drop i) ++ (bytes l).drop j) := by
  unfold raiseRuns
  have e1 := someTo_pack 0 i l 0 [] 0 (nrm_nonneg hn) capped_nil (by omega) (by omega) (by omega) (by omega) (by omega)
  rw [show ((0 : Nat) : Int) = 0 from rfl, Nat.sub_zero, Nat.sub_zero, List.drop_zero] at e1
  rw [e1]
  have c1 := packTo_capped ((bytes l).take i) (capped_nil) (show (0 : Int) ≤ 0 by omega)
  have hlen1 : ((bytes l).take i).length ≤ 4096 := by rw [List.length_take]; omega
  have e2 := someTo_pack i j (liftRuns y l) 0 _ _ (liftRuns_nonneg (nrm_nonneg hn)) c1 (by omega) (by rw [lift_bytes, lift_len]; omega) (by rw [lift_bytes, lift_len]; omega) (by omega) (by omega)
  rw [show ((0 : Nat) : Int) = 0 from rfl, Nat.sub_zero, Nat.sub_zero, lift_bytes] at e2
  rw [someTo_join, e2]
  have c2 := packTo_capped (((lift y (bytes l)).take j).drop i) c1 (by omega)
  have hlen2 : (((lift y (bytes l)).take j).drop i).length ≤ 4096 := by rw [List.length_drop, List.length_take, lift_len]; omega
  have e3 := someTo_pack j 4096 l 0 _ _ (nrm_nonneg hn) c2 (by omega) (by omega) (by omega) (by omega) (by omega)
  rw [show ((0 : Nat) : Int) = 0 from rfl, show ((4096 : Nat) : Int) = 4096 from rfl, Nat.sub_zero, Nat.sub_zero, List.take_of_length_le hl] at e3
  rw [e3]
  unfold pack
  rw [packTo_append, packTo_append]
  unfold lift
  rw [List.map_drop, List.map_take]
def raiseS (l : List S100) (a b y : Int) : List S100 × Int := if withinB l a b = true then (pack ((bytes l).take a.toNat ++ lift y (((bytes l).take b.toNat).drop a.toNat) ++ (bytes l).drop b.toNat), 0) else ([], 2)
theorem raise_ev (l : List S100) (hl : l.length ≤ big) (a b y : Int) : Ev (fun k => runs_Raise.f k l a b y) (raiseS l a b y) := by
  unfold runs_Raise.f raiseS
  refine Ev.bind (within_ev l hl a b) ?_
  refine Ev.ite (fun hw => ?_) (fun _ => Ev.now _)
  unfold big at hl
  refine Ev.pos (by omega) (ev_val (Ev.now _) ?_)
  obtain ⟨i, j, rfl, rfl, hij, hj, h4, hn, ht⟩ := within_facts hw
  rw [raiseRuns_pack l i j y hij (by omega) h4 hn]
  rfl
theorem bytes_mem {l : List S100} {x : Int} (h : x ∈ bytes l) : ∃ r ∈ l, r.f0 = x := by
  obtain ⟨r, hr, hx⟩ := List.mem_flatMap.1 h
  exact ⟨r, hr, (List.eq_of_mem_replicate hx).symm⟩
end Go.Proofs.Ythpjagblnddjaaa.PB
end

section
namespace Go.Proofs.Ythpjagblnddjaaa.PB
open Go.RowKit Go.Proofs.YthpjagblnddjaaaW.PrintWords
set_option linter.unusedVariables false
def goodT (s : ByteArray) (l : List S100) : Bool := good l && decide (tot l = (s.size : Int))
theorem goodT_iff {s : ByteArray} {l : List S100} : goodT s l = true ↔ good l = true ∧ tot l = (s.size : Int) := by simp [goodT]
theorem goodT_facts {s : ByteArray} {l : List S100} (h : goodT s l = true) : good l = true ∧ nrm l ∧ (bytes l).length = s.size ∧ s.size ≤ 4096 ∧ tot l = (s.size : Int) := by
  obtain ⟨h1, h2⟩ := goodT_iff.1 h
  obtain ⟨h3, h4, h5⟩ := good_facts h1
  exact ⟨h1, h3, by omega, by omega, h2⟩
theorem goodT_ev (s : ByteArray) (l : List S100) (hl : l.length ≤ big) : Ev (fun k => strip_Good.f k s l) (goodT s l) := by
  unfold strip_Good.f
  refine Ev.bind (good_ev l hl) ?_
  by_cases hg : good l = true
  · rw [hg]
    exact Ev.pos rfl (Ev.bind (total_ev l hl) (ev_val (Ev.now _) (by rw [Bool.eq_iff_iff]; simp [goodT, hg])))
  · exact Ev.neg hg (ev_val (Ev.now _) (by simp [goodT, hg]))
theorem rgoodT_ev (s : ByteArray) (l : List S100) (hl : l.length ≤ big) : Ev (fun k => bureauref04_Good.f k s l) (goodT s l) := by
  unfold bureauref04_Good.f
  refine Ev.bind (rgood_ev l hl) ?_
  by_cases hg : good l = true
  · rw [hg]
    exact Ev.pos rfl (Ev.bind (rtotal_ev l hl) (ev_val (Ev.now _) (by rw [Bool.eq_iff_iff]; simp [goodT, hg])))
  · exact Ev.neg hg (ev_val (Ev.now _) (by simp [goodT, hg]))
def withinT (s : ByteArray) (l : List S100) (a b : Int) : Bool := goodT s l && (decide (0 ≤ a) && (decide (a ≤ b) && decide (b ≤ (s.size : Int))))
theorem withinT_iff {s : ByteArray} {l : List S100} {a b : Int} : withinT s l a b = true ↔ goodT s l = true ∧ 0 ≤ a ∧ a ≤ b ∧ b ≤ (s.size : Int) := by simp [withinT]
theorem withinT_ev (s : ByteArray) (l : List S100) (hl : l.length ≤ big) (a b : Int) : Ev (fun k => strip_within.f k s l a b) (withinT s l a b) := by
  unfold strip_within.f
  refine Ev.bind (goodT_ev s l hl) ?_
  by_cases hg : goodT s l = true
  · refine Ev.pos hg ?_
    by_cases h0 : 0 ≤ a
    · refine Ev.pos h0 ?_
      by_cases h1 : a ≤ b
      · exact Ev.pos h1 (ev_val (Ev.now _) (by simp [withinT, hg, h0, h1]))
      · exact Ev.neg h1 (ev_val (Ev.now _) (by simp [withinT, h1]))
    · exact Ev.neg h0 (ev_val (Ev.now _) (by simp [withinT, h0]))
  · exact Ev.neg hg (ev_val (Ev.now _) (by simp [withinT, hg]))
theorem rwithinT_ev (s : ByteArray) (l : List S100) (hl : l.length ≤ big) (a b : Int) : Ev (fun k => bureauref04_Within.f k s l a b) (withinT s l a b) := by
  unfold bureauref04_Within.f
  refine Ev.bind (rgoodT_ev s l hl) ?_
  by_cases hg : goodT s l = true
  · refine Ev.pos hg ?_
    by_cases h0 : 0 ≤ a
    · refine Ev.pos h0 ?_
      by_cases h1 : a ≤ b
      · exact Ev.pos h1 (ev_val (Ev.now _) (by simp [withinT, hg, h0, h1]))
      · exact Ev.neg h1 (ev_val (Ev.now _) (by simp [withinT, h1]))
    · exact Ev.neg h0 (ev_val (Ev.now _) (by simp [withinT, h0]))
  · exact Ev.neg hg (ev_val (Ev.now _) (by simp [withinT, hg]))
theorem withinT_facts {s : ByteArray} {l : List S100} {a b : Int} (h : withinT s l a b = true) : ∃ i j : Nat, a = i ∧ b = j ∧ i ≤ j ∧ j ≤ s.size ∧ goodT s l = true ∧ withinB l a b = true := by
  obtain ⟨h1, h2, h3, h4⟩ := withinT_iff.1 h
  obtain ⟨g1, g2, g3, g4, g5⟩ := goodT_facts h1
  obtain ⟨i, rfl⟩ := Int.eq_ofNat_of_zero_le h2
  obtain ⟨j, rfl⟩ := Int.eq_ofNat_of_zero_le (show 0 ≤ b by omega)
  exact ⟨i, j, rfl, rfl, by omega, by omega, h1, withinB_iff.2 ⟨g1, by omega, by omega, by omega⟩⟩
abbrev TX := ByteArray × List S100 × Int
def sameT (s : ByteArray) (l : List S100) (t : ByteArray) (m : List S100) : Bool := if s.toList = t.toList then decide (l = m) else false
theorem sameT_self (s : ByteArray) (l : List S100) : sameT s l s l = true := by simp [sameT]
theorem rsame4_ev (s : ByteArray) (l : List S100) (t : ByteArray) (m : List S100) (hl : l.length ≤ big) : Ev (fun k => bureauref04_Same.f k s l t m) (sameT s l t m) := by
  unfold bureauref04_Same.f sameT
  exact Ev.ite (fun _ => Ev.bind (same_ev l m hl) (Ev.now _)) (fun _ => Ev.now _)
def spliceT (s : ByteArray) (l : List S100) (a b : Int) (x : ByteArray) (m : List S100) : TX :=
  if withinT s l a b = true then (if goodT x m = true then (if (s.size : Int) - (b - a) + (x.size : Int) > 4096 then (⟨#[]⟩, [], 3) else
    (s.extract 0 a.toNat ++ x ++ s.extract b.toNat s.size, pack ((bytes l).take a.toNat ++ bytes m ++ (bytes l).drop b.toNat), 0)) else (⟨#[]⟩, [], 2)) else (⟨#[]⟩, [], 2)
theorem ext_size (s : ByteArray) (i j : Nat) : (s.extract i j).size ≤ s.size := by rw [ByteArray.size_extract]; omega
theorem splice4_ev (s : ByteArray) (l : List S100) (hl : l.length ≤ big) (a b : Int) (x : ByteArray) (m : List S100) (hm : m.length ≤ big) : Ev (fun k => strip_Splice.f k s l a b x m) (spliceT s l a b x m) := by
  unfold strip_Splice.f spliceT
  refine Ev.bind (withinT_ev s l hl a b) ?_
  have bad : Ev (fun k => strip_Splice.j0 k a b true s l x m) (⟨#[]⟩, [], 2) := by
    refine Ev.step (fun k => by simp only [strip_Splice.j0]; rfl) ?_
    exact Ev.pos (by simp) (Ev.now _)
  refine Ev.ite (fun hw => ?_) (fun _ => bad)
  refine Ev.bind (goodT_ev x m hm) ?_
  by_cases hg : goodT x m = true
  · rw [if_pos hg, hg]
    refine Ev.step (fun k => by simp only [strip_Splice.j0]; rfl) ?_
    refine Ev.neg (by simp) (Ev.bind (splice_ev l hl a b m hm) ?_)
    obtain ⟨h1, h2, h3, h4⟩ := withinT_iff.1 hw
    obtain ⟨i, j, rfl, rfl, hij, hj, hgl, hwb⟩ := withinT_facts hw
    obtain ⟨g1, g2, g3, g4, g5⟩ := goodT_facts hgl
    obtain ⟨q1, q2, q3, q4, q5⟩ := goodT_facts hg
    have he : spliceS l (i : Int) (j : Int) m = if (s.size : Int) - ((j : Int) - (i : Int)) + (x.size : Int) > 4096 then ([], 3) else (pack ((bytes l).take (i : Int).toNat ++ bytes m ++ (bytes l).drop (j : Int).toNat), 0) := by
      unfold spliceS
      rw [if_pos hwb, if_pos q1, g5, q5]
    rw [he]
    by_cases hb : (s.size : Int) - ((j : Int) - (i : Int)) + (x.size : Int) > 4096
    · rw [if_pos hb, if_pos hb]
      exact Ev.neg (by decide) (Ev.now _)
    · rw [if_neg hb, if_neg hb]
      have e1 := ext_size s 0 (i : Int).toNat
      have e2 := ext_size s (j : Int).toNat s.size
      refine Ev.pos rfl (Ev.pos h2 (Ev.pos (by omega) (Ev.pos (by omega) (Ev.pos (by omega) (Ev.pos h4 (Ev.pos ?_ (Ev.now _)))))))
      rw [ByteArray.size_append]
      omega
  · rw [if_neg hg, show goodT x m = false by simpa using hg]
    exact bad
theorem rsplice4_ev (s : ByteArray) (l : List S100) (hl : l.length ≤ big) (a b : Int) (x : ByteArray) (m : List S100) (hm : m.length ≤ big) : Ev (fun k => bureauref04_Splice.f k s l a b x m) (spliceT s l a b x m) := by
  unfold bureauref04_Splice.f spliceT
  refine Ev.bind (rwithinT_ev s l hl a b) ?_
  have bad : Ev (fun k => bureauref04_Splice.j0 k a b true s l x m) (⟨#[]⟩, [], 2) := by
    refine Ev.step (fun k => by simp only [bureauref04_Splice.j0]; rfl) ?_
    exact Ev.pos (by simp) (Ev.now _)
  refine Ev.ite (fun hw => ?_) (fun _ => bad)
  refine Ev.bind (rgoodT_ev x m hm) ?_
  by_cases hg : goodT x m = true
  · rw [if_pos hg, hg]
    refine Ev.step (fun k => by simp only [bureauref04_Splice.j0]; rfl) ?_
    refine Ev.neg (by simp) ?_
    obtain ⟨h1, h2, h3, h4⟩ := withinT_iff.1 hw
    obtain ⟨i, j, rfl, rfl, hij, hj, hgl, hwb⟩ := withinT_facts hw
    obtain ⟨g1, g2, g3, g4, g5⟩ := goodT_facts hgl
    obtain ⟨q1, q2, q3, q4, q5⟩ := goodT_facts hg
    rw [show wrap64 (wrap64 ((s.size : Int) - wrap64 ((j : Int) - (i : Int))) + (x.size : Int)) = (s.size : Int) - ((j : Int) - (i : Int)) + (x.size : Int) by unfold wrap64; omega]
    refine Ev.ite (fun _ => Ev.now _) (fun hb => ?_)
    refine Ev.bind (bytes_ev l hl (by omega)) (Ev.bind (bytes_ev m hm (by omega)) ?_)
    generalize hB : bytes l = B at *
    generalize hM : bytes m = M at *
    have hrd : ∀ (L : List Int) (q : Nat), rd L (q : Int) = L.getD q 0 := fun L q => by unfold rd; rw [Int.toNat_natCast]
    have l2 : ∀ (d q : Nat) (acc : List Int), q + d = B.length → acc.length ≤ 8192 + q → Ev (fun k => bureauref04_Splice.l2 k (i : Int) (j : Int) B acc (q : Int) s l x m)
        (s.extract 0 (i : Int).toNat ++ x ++ s.extract (j : Int).toNat s.size, pack (acc ++ B.drop q), 0) := by
      intro d
      induction d with
      | zero =>
        intro q acc hq ha
        refine Ev.step (fun k => by simp only [bureauref04_Splice.l2]; rfl) ?_
        have e1 := ext_size s 0 (i : Int).toNat
        have e2 := ext_size s (j : Int).toNat s.size
        refine Ev.neg (by omega) (Ev.pos h2 (Ev.pos (by omega) (Ev.pos (by omega) (Ev.pos (by omega) (Ev.pos h4 (Ev.pos ?_ ?_))))))
        · rw [ByteArray.size_append]; omega
        · rw [List.drop_eq_nil_of_le (by omega), List.append_nil]
          exact Ev.bind (pack_ev _ (by omega)) (Ev.now _)
      | succ d ih =>
        intro q acc hq ha
        have hlt : q < B.length := by omega
        refine Ev.step (fun k => by simp only [bureauref04_Splice.l2]; rfl) ?_
        refine Ev.pos (by omega) (Ev.pos (by omega) (Ev.pos (by omega) ?_))
        rw [w1 hlt (by omega), dropI hlt, hrd]
        exact ev_val (ih (q + 1) _ (by omega) (by simp; omega)) (by rw [List.append_assoc]; rfl)
    have l1 : ∀ (d q : Nat) (acc : List Int), q + d = M.length → acc.length ≤ 4096 + q → Ev (fun k => bureauref04_Splice.l1 k (i : Int) (j : Int) B M acc (q : Int) s l x m)
        (s.extract 0 (i : Int).toNat ++ x ++ s.extract (j : Int).toNat s.size, pack (acc ++ M.drop q ++ B.drop j), 0) := by
      intro d
      induction d with
      | zero =>
        intro q acc hq ha
        refine Ev.step (fun k => by simp only [bureauref04_Splice.l1]; rfl) ?_
        refine Ev.neg (by omega) ?_
        rw [List.drop_eq_nil_of_le (show M.length ≤ q by omega), List.append_nil]
        exact l2 (B.length - j) j acc (by omega) (by omega)
      | succ d ih =>
        intro q acc hq ha
        have hlt : q < M.length := by omega
        refine Ev.step (fun k => by simp only [bureauref04_Splice.l1]; rfl) ?_
        refine Ev.pos (by omega) (Ev.pos (by omega) (Ev.pos (by omega) ?_))
        rw [w1 hlt (by omega), dropI hlt, hrd]
        exact ev_val (ih (q + 1) _ (by omega) (by simp; omega)) (by rw [List.append_assoc acc]; rfl)
    have l0 : ∀ (d q : Nat), q + d = i → Ev (fun k => bureauref04_Splice.l0 k (i : Int) (j : Int) B M (B.take q) (q : Int) s l x m)
        (s.extract 0 (i : Int).toNat ++ x ++ s.extract (j : Int).toNat s.size, pack (B.take i ++ M ++ B.drop j), 0) := by
      intro d
      induction d with
      | zero =>
        intro q hq
        refine Ev.step (fun k => by simp only [bureauref04_Splice.l0]; rfl) ?_
        refine Ev.neg (by omega) ?_
        obtain rfl : q = i := by omega
        exact l1 M.length 0 (B.take q) (by omega) (by rw [List.length_take]; omega)
      | succ d ih =>
        intro q hq
        have hlt : q < B.length := by omega
        refine Ev.step (fun k => by simp only [bureauref04_Splice.l0]; rfl) ?_
        refine Ev.pos (by omega) (Ev.pos (by omega) (Ev.pos (by omega) (Ev.pos (by rw [List.length_take]; omega) ?_)))
        rw [w1 hlt (by omega), hrd]
        have ht : B.take q ++ [B.getD q 0] = B.take (q + 1) := by
          rw [List.take_add_one, List.getD_eq_getElem?_getD, List.getElem?_eq_getElem hlt]; rfl
        rw [ht]
        exact ih (q + 1) (by omega)
    exact l0 i 0 (by omega)
  · rw [if_neg hg, show goodT x m = false by simpa using hg]
    exact bad
theorem spliceT_len (s : ByteArray) (l : List S100) (a b : Int) (x : ByteArray) (m : List S100) : (spliceT s l a b x m).2.1.length ≤ 20000 := by
  unfold spliceT
  split
  · rename_i hw
    split
    · rename_i hg
      split
      · simp
      · obtain ⟨i, j, rfl, rfl, hij, hj, hgl, hwb⟩ := withinT_facts hw
        obtain ⟨g1, g2, g3, g4, g5⟩ := goodT_facts hgl
        obtain ⟨q1, q2, q3, q4, q5⟩ := goodT_facts hg
        have := pack_len ((bytes l).take (i : Int).toNat ++ bytes m ++ (bytes l).drop (j : Int).toNat)
        simp only [List.length_append, List.length_take, List.length_drop] at this
        show (pack _).length ≤ 20000
        omega
    · simp
  · simp
def catT (s : ByteArray) (l : List S100) (x : ByteArray) (m : List S100) : TX := spliceT s l (s.size : Int) (s.size : Int) x m
theorem cat4_ev (s : ByteArray) (l : List S100) (hl : l.length ≤ big) (x : ByteArray) (m : List S100) (hm : m.length ≤ big) : Ev (fun k => strip_Cat.f k s l x m) (catT s l x m) := by
  unfold strip_Cat.f catT
  exact Ev.bind (splice4_ev s l hl _ _ x m hm) (Ev.now _)
theorem rcat4_ev (s : ByteArray) (l : List S100) (hl : l.length ≤ big) (x : ByteArray) (m : List S100) (hm : m.length ≤ big) : Ev (fun k => bureauref04_Cat.f k s l x m) (catT s l x m) := by
  unfold bureauref04_Cat.f catT
  refine Ev.bind (rgoodT_ev s l hl) ?_
  by_cases hg : goodT s l = true
  · refine Ev.pos hg (Ev.bind (rgoodT_ev x m hm) ?_)
    by_cases hx : goodT x m = true
    · exact Ev.pos hx (Ev.bind (rsplice4_ev s l hl _ _ x m hm) (Ev.now _))
    · refine Ev.neg hx (ev_val (Ev.now _) ?_)
      unfold spliceT
      rw [if_neg hx]
      split <;> rfl
  · refine Ev.neg hg (ev_val (Ev.now _) ?_)
    unfold spliceT
    rw [if_neg (fun h => hg (withinT_iff.1 h).1)]
theorem catT_len (s : ByteArray) (l : List S100) (x : ByteArray) (m : List S100) : (catT s l x m).2.1.length ≤ 20000 := spliceT_len _ _ _ _ _ _
def raiseT (s : ByteArray) (l : List S100) (y : Int) : TX := if goodT s l = true then (s, pack (lift y (bytes l)), 0) else (⟨#[]⟩, [], 2)
theorem raise4_ev (s : ByteArray) (l : List S100) (hl : l.length ≤ big) (y : Int) : Ev (fun k => strip_Raise.f k s l y) (raiseT s l y) := by
  unfold strip_Raise.f raiseT
  refine Ev.bind (goodT_ev s l hl) ?_
  refine Ev.ite (fun hg => ?_) (fun _ => Ev.now _)
  obtain ⟨g1, g2, g3, g4, g5⟩ := goodT_facts hg
  refine Ev.bind (raise_ev l hl 0 _ y) (ev_val (Ev.now _) ?_)
  unfold raiseS
  rw [if_pos (withinB_iff.2 ⟨g1, by omega, by omega, by omega⟩), Int.toNat_natCast, ← g3]
  simp
theorem rraise4_ev (s : ByteArray) (l : List S100) (hl : l.length ≤ big) (y : Int) (hw : ∀ r ∈ l, 0 ≤ r.f0 ∧ r.f0 < 18446744073709551616) (hy : 0 ≤ y ∧ y < 18446744073709551616) : Ev (fun k => bureauref04_Raise.f k s l y) (raiseT s l y) := by
  unfold bureauref04_Raise.f raiseT
  refine Ev.bind (rgoodT_ev s l hl) ?_
  refine Ev.ite (fun hg => ?_) (fun _ => Ev.now _)
  obtain ⟨g1, g2, g3, g4, g5⟩ := goodT_facts hg
  refine Ev.bind (bytes_ev l hl (by omega)) ?_
  have loop : ∀ (Q P : List Int), (∀ x ∈ Q, 0 ≤ x ∧ x < 18446744073709551616) → P.length + Q.length ≤ 4096 →
      Ev (fun k => bureauref04_Raise.l0 k y (P ++ Q) (P.length : Int) s l) (s, pack (P ++ lift y Q), 0) := by
    intro Q
    induction Q with
    | nil =>
      intro P _ hlen
      refine Ev.step (fun k => by simp only [bureauref04_Raise.l0]; rfl) ?_
      rw [List.append_nil]
      refine Ev.neg (by omega) ?_
      refine Ev.bind (pack_ev _ (by simp at hlen; omega)) (ev_val (Ev.now _) ?_)
      simp [lift]
    | cons x Q ih =>
      intro P hQ hlen
      rw [List.length_cons] at hlen
      have hx := hQ x List.mem_cons_self
      refine Ev.step (fun k => by simp only [bureauref04_Raise.l0]; rfl) ?_
      refine Ev.pos (by rw [List.length_append, List.length_cons]; omega) (Ev.pos (by omega) ?_)
      have hrd : rd (P ++ x :: Q) (P.length : Int) = x := by unfold rd; rw [Int.toNat_natCast]; simp [List.getD_eq_getElem?_getD]
      rw [hrd]
      have hj : bureauref01_Join.f x y = some (Go.bits .or .u64 x y) := by unfold bureauref01_Join.f; rw [if_pos ⟨hx.1, hx.2, hy.1, hy.2⟩]
      rw [hj]
      have hset : (P ++ x :: Q).set (P.length : Int).toNat (Go.bits .or .u64 x y) = (P ++ [Go.bits .or .u64 x y]) ++ Q := by rw [Int.toNat_natCast]; simp
      have hw : wrap64 ((P.length : Int) + 1) = (((P ++ [Go.bits .or .u64 x y]).length : Nat) : Int) := by rw [List.length_append, List.length_singleton]; unfold wrap64; omega
      have := ih (P ++ [Go.bits .or .u64 x y]) (fun z hz => hQ z (List.mem_cons_of_mem _ hz)) (by rw [List.length_append, List.length_singleton]; omega)
      rw [← hset, ← hw] at this
      refine ev_val (a := _) this ?_
      simp [lift]
  exact loop (bytes l) [] (fun x hx => by obtain ⟨r, hr, rfl⟩ := bytes_mem hx; exact hw r hr) (by simp; omega)
theorem raiseT_len (s : ByteArray) (l : List S100) (y : Int) : (raiseT s l y).2.1.length ≤ 20000 := by
  unfold raiseT
  split
  · rename_i hg
    obtain ⟨g1, g2, g3, g4, g5⟩ := goodT_facts hg
    have := pack_len (lift y (bytes l))
    rw [lift_len] at this
    show (pack _).length ≤ 20000
    omega
  · simp
theorem toList_loop (a : ByteArray) : ∀ (n i : Nat) (r : List UInt8), i + n = a.size → ByteArray.toList.loop a i r = r.reverse ++ a.data.toList.drop i
  | 0, i, r, h => by
    unfold ByteArray.toList.loop
    rw [if_neg (by omega), List.drop_eq_nil_of_le (by rw [Array.length_toList]; show a.size ≤ i; omega), List.append_nil]
  | n + 1, i, r, h => by
    unfold ByteArray.toList.loop
    have hi : i < a.data.toList.length := by rw [Array.length_toList]; show i < a.size; omega
    rw [if_pos (by omega), toList_loop a n (i + 1) _ (by omega), List.reverse_cons, List.append_assoc, List.drop_eq_getElem_cons hi]
    congr 1
    show [a.get! i] ++ _ = _
    rw [List.singleton_append]
    congr 1
    show a.data[i]! = _
    rw [getElem!_pos a.data i (by rw [Array.length_toList] at hi; exact hi)]
    simp
theorem toList_data (a : ByteArray) : a.toList = a.data.toList := by
  unfold ByteArray.toList
  rw [toList_loop a a.size 0 [] (by omega)]
  rfl
theorem toList_inj {a b : ByteArray} (h : a.toList = b.toList) : a = b := by
  rw [toList_data, toList_data] at h
  exact ByteArray.ext (Array.toList_inj.1 h)
end Go.Proofs.Ythpjagblnddjaaa.PB
end

section
namespace Go.Proofs.Ythpjagblnddjaaa.PB
open Go.RowKit Go.Proofs.YthpjagblnddjaaaW.PrintWords
set_option linter.unusedVariables false
theorem alive4 : bureaulaw04_alive.f 60 = some true := by decide +kernel
theorem alive4_ev : Ev (fun k => bureaulaw04_alive.f k) true := Ev.of (bureaulaw04_alive.mono) alive4
theorem fits_eq (s : ByteArray) (l : List S100) : bureaulaw04_Fits.f s l = some (decide (s.size ≤ 5000 ∧ l.length ≤ 5000)) := by
  unfold bureaulaw04_Fits.f
  by_cases h : s.size ≤ 5000
  · rw [if_pos (by omega)]
    congr 1
    rw [Bool.eq_iff_iff, decide_eq_true_iff, decide_eq_true_iff]
    omega
  · rw [if_neg (by omega)]
    simp [h]
theorem fits_big {s : ByteArray} {l : List S100} (h : s.size ≤ 5000 ∧ l.length ≤ 5000) : l.length ≤ big := by unfold big; omega
theorem wfT {x : S51} (h : wf51 x) : ∀ r ∈ x.f1, 0 ≤ r.f0 ∧ r.f0 < 18446744073709551616 := wf_labels h.2.2
theorem len_big {n : Nat} (h : n ≤ 20000) : n ≤ big := by unfold big; omega
theorem StripCats_pure (a b : S51) (y : Int) (wa : wf51 a) (wb : wf51 b) (wy : (Lit.int .u64 y).wf = true) : ∃ k, bureaulaw04_StripCats.f k a.f0 a.f1 b.f0 b.f1 y = some true := by
  refine Ev.rounds (g := fun k => bureaulaw04_StripCats.f k a.f0 a.f1 b.f0 b.f1 y) ?_
  unfold bureaulaw04_StripCats.f
  refine Ev.bind alive4_ev (Ev.pos rfl ?_)
  rw [fits_eq, fits_eq]
  have out : Ev (fun k => bureaulaw04_StripCats.j0 k y true a.f0 a.f1 b.f0 b.f1) true := by
    refine Ev.step (fun k => by simp only [bureaulaw04_StripCats.j0]; rfl) ?_
    exact Ev.pos (by simp) (Ev.now _)
  refine Ev.bind (Ev.now _) ?_
  by_cases hf : a.f0.size ≤ 5000 ∧ a.f1.length ≤ 5000
  · refine Ev.pos (by simpa using hf) (Ev.bind (Ev.now _) ?_)
    have hl := fits_big hf
    by_cases hx : b.f0.size ≤ 5000 ∧ b.f1.length ≤ 5000
    · have hm := fits_big hx
      rw [decide_eq_true hx]
      refine Ev.step (fun k => by simp only [bureaulaw04_StripCats.j0]; rfl) ?_
      refine Ev.neg (by simp) ?_
      refine Ev.bind (cat4_ev _ _ hl _ _ hm) (Ev.bind (rcat4_ev _ _ hl _ _ hm) (Ev.bind (raise4_ev _ _ hl y) (Ev.bind (rraise4_ev _ _ hl y (wfT wa) (wf_u64 wy)) ?_)))
      exact Ev.bind (rsame4_ev _ _ _ _ (len_big (catT_len _ _ _ _))) (Ev.pos (sameT_self _ _) (Ev.pos rfl (Ev.bind (rsame4_ev _ _ _ _ (len_big (raiseT_len _ _ _))) (Ev.pos (sameT_self _ _) (ev_val (Ev.now _) (by simp))))))
    · rw [decide_eq_false hx]
      exact out
  · exact Ev.neg (by simpa using hf) out
end Go.Proofs.Ythpjagblnddjaaa.PB
end

section
namespace Go.Proofs.Ythpjagblnddjaaa.PB
open Go.ChangeShapes Go.WideShapes Go.ChangeAt Go.RowKit Go.Proofs.YthpjagblnddjaaaW.PrintWords
open Go.ChangeMaps (open_string shut_string)
set_option linter.unusedVariables false
namespace stripCats
open Go.Proofs.Ythpjagblnddjaaa
theorem own : ownKnob Try.prog.godebug = none := by kernel_rfl
theorem laidOut : laidOutB Try.prog = true := by kernel_rfl
set_option maxRecDepth 100000 in
theorem lifted (os : Os) (started : os.Started) (H : Type) (enc : TypeId × Value → H) :
    ReturnsInHanded {} Try.checked os 22 .any (Rows.stripCatsSpec.pre6 enc Try.prog Try.f22 Rows.stripCatsRow.domain false) (Rows.stripCatsSpec.post enc Try.prog Try.f22 false true false false) := by
  refine returnsInHanded_of_change_sized (C := Try.checked) own started (by kernel_rfl) Try.func22
    (ChangeSpec.witness6 (enc := enc) (C := Try.checked) false ⟨#[], #[.agg #[.string ByteArray.empty, .slice none 0 0], .agg #[.string ByteArray.empty, .slice none 0 0], .int .u64 0], []⟩ 8 (by kernel_rfl) (by kernel_rfl) (by kernel_rfl) (by kernel_rfl)) ?_
  intro W base args ds gs before hval0 hW hcnd hsz0 _
  have hsz : (DataW.weightsEach Try.prog (Try.f22.params.toList ++ Rows.stripCatsSpec.plain.varTypes Try.prog) (ds ++ gs)).all (· ≤ reachBytes) = true := hsz0
  have hval : ∀ (j : Nat) t v, Try.f22.params[j]? = some t → args[j]? = some v → Value.okWide Try.prog W .any base t v := hval0
  have hW' := hW
  obtain ⟨p, q, hA0, hV, rfl, hfz, hnd⟩ := hW
  have hA : DataW.TrodAll enc Try.prog W 0 (fun _ => true) true Try.f22.params.toList args.toList ds p := hA0
  rw [Try.params22] at hA hval hsz
  obtain ⟨v0, vs0, d0, ds0, p0, q0, hargs, rfl, rfl, h0, r0⟩ := trodAll_cons hA
  obtain ⟨v1, vs1, d1, ds1, p1, q1, rfl, rfl, rfl, h1, r1⟩ := trodAll_cons r0
  obtain ⟨v2, vs2, d2, ds2, p2, q2, rfl, rfl, rfl, h2, r2⟩ := trodAll_cons r1
  obtain ⟨rfl, rfl, rfl⟩ := trodAll_nil r2
  obtain rfl : args = #[v0, v1, v2] := by cases args; simp_all
  obtain ⟨rfl, rfl⟩ := trodVars_none hV
  have hz0 : ∀ n ∈ d0.weights Try.prog 51, n ≤ reachBytes := fun n hn => by have z := List.all_eq_true.1 hsz n (DataW.weights_mem_each (j := 0) rfl rfl n hn); simpa using z
  have kk0 := h0
  have lt0 : ∀ x ∈ p0, x.block < W.heap.size := by obtain ⟨m, hm⟩ := kk0; exact DataW.trod_lt m _ _ _ hm
  obtain ⟨cs0, rfl, cz0⟩ := okWide_struct Try.underlying51 (hval 0 51 v0 rfl rfl)
  obtain ⟨x0, hK0, w0⟩ : ∃ x : S51, k51.K W x cs0.toList ∧ wf51 x := by
    obtain ⟨fuel, hf⟩ := h0
    exact opn51 H enc _ _ _ fuel _ _ hf hz0
  obtain ⟨A0_1, c0_1, hcs0, hc0_1, hr0_1⟩ := k51_open hK0
  obtain rfl : cs0 = #[.string x0.f0, .slice A0_1 x0.f1.length c0_1] := Array.toList_inj.1 hcs0
  have hz1 : ∀ n ∈ d1.weights Try.prog 51, n ≤ reachBytes := fun n hn => by have z := List.all_eq_true.1 hsz n (DataW.weights_mem_each (j := 1) rfl rfl n hn); simpa using z
  have kk1 := h1
  have lt1 : ∀ x ∈ p1, x.block < W.heap.size := by obtain ⟨m, hm⟩ := kk1; exact DataW.trod_lt m _ _ _ hm
  obtain ⟨cs1, rfl, cz1⟩ := okWide_struct Try.underlying51 (hval 1 51 v1 rfl rfl)
  obtain ⟨x1, hK1, w1⟩ : ∃ x : S51, k51.K W x cs1.toList ∧ wf51 x := by
    obtain ⟨fuel, hf⟩ := h1
    exact opn51 H enc _ _ _ fuel _ _ hf hz1
  obtain ⟨A1_1, c1_1, hcs1, hc1_1, hr1_1⟩ := k51_open hK1
  obtain rfl : cs1 = #[.string x1.f0, .slice A1_1 x1.f1.length c1_1] := Array.toList_inj.1 hcs1
  obtain ⟨a2, rfl, rfl, rfl, w2⟩ := open_int Try.underlying36 (hval 2 36 v2 rfl rfl) h2
  clear hA0 hval0 hsz0 hsz
  obtain ⟨k, hk⟩ := StripCats_pure x0 x1 a2 w0 w1 w2
  refine (bureaulaw04_StripCats.calls k x0.f0 _ _ x0.f1 x1.f0 _ _ x1.f1 a2 true W hr0_1 hc0_1 hr1_1 hc1_1 hk).mono fun e W' ⟨he, bel⟩ => ?_
  subst he
  exact ⟨_, rfl, _, _, _, [], _, [], hW', trodAll_mk1 (shut_bool Try.underlying4 _), (trodAll_cons_mk (Below.trod laidOut (by kernel_rfl) (of_decide_eq_true (by kernel_rfl)) kk0 bel lt0) (trodAll_cons_mk (Below.trod laidOut (by kernel_rfl) (of_decide_eq_true (by kernel_rfl)) kk1 bel lt1) (trodAll_cons_mk (shut_int Try.underlying36 w2) trodAll_mk0))), rfl, bel.frame _, fun h => by cases h⟩
theorem over : Rows.stripCatsRow.holds Try.pinned (OpenSpec.ofChange Rows.stripCatsSpec) :=
  OpenClaim.holds_of_wide 22 Try.f22 rfl rfl rfl rfl rfl rfl rfl ⟨rfl, rfl, rfl, rfl, rfl⟩ rfl rfl rfl rfl rfl (by kernel_rfl) Try.func22 (by kernel_rfl)
    (of_decide_eq_true (by kernel_rfl)) (by unfold Func.isWrapper; first | (rw [if_pos (by decide +kernel)]; kernel_rfl) | (rw [if_neg (by decide +kernel)]; exact ⟨rfl, rfl⟩))
    (fun os started H enc _ => lifted os started H enc)
theorem proved : Rows.StripCatsSaid := over
end stripCats
end Go.Proofs.Ythpjagblnddjaaa.PB
namespace Go.Proofs.Ythpjagblnddjaaa
theorem stripCats_holds : Rows.StripCatsSaid := PB.stripCats.proved
#print axioms stripCats_holds
end Go.Proofs.Ythpjagblnddjaaa
end
