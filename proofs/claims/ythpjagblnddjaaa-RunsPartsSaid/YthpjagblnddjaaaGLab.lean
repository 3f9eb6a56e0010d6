/- What bureauref01's functions on labels come to: rows of 64 marks in memory, walked. -/
import Derived.Test.YthpjagblnddjaaaPAllx0
import Derived.Test.YthpjagblnddjaaaGBits
import Derived.Deep.MidRow
import Derived.Laws.BitsAllLaws
namespace Go.Proofs.Ythpjagblnddjaaa.PAll
open Go.RowKit Go.Proofs.YthpjagblnddjaaaW.PrintWords Go.Proofs.YthpjagblnddjaaaW.PrintLast Go.Proofs.YthpjagblnddjaaaW.PrintMore
attribute [local go_sem] max2_int min2_int max_two min_two max_three min_three max_four min_four
set_option linter.unusedVariables false
set_option linter.unusedSimpArgs false

/-- A row of marks as cells. -/
def mcells (l : List Bool) : Array Value := (bools l).toArray
theorem mcells_size (l : List Bool) : (mcells l).size = l.length := by simp [mcells, bools]
theorem mcells_get (l : List Bool) (i : Nat) (h : i < l.length) : (mcells l)[i]? = some (.bool (l.getD i false)) := by
  simp [mcells, bools, List.getD_eq_getElem?_getD, List.getElem?_eq_getElem h]
theorem mcells_set (l : List Bool) (i : Nat) (b : Bool) : (mcells l).setIfInBounds i (.bool b) = mcells (l.set i b) := by
  simp [mcells, bools, List.map_set]
theorem mcells_full (l : List Bool) (hl : l.length = 64) : (Try.prog.info? 116).map (fun i => i.size) = some (mcells l).size := by
  rw [mcells_size, hl]
  kernel_rfl
theorem mcells_one (l : List Bool) : (mcells l).all (·.oneCell') = true := by
  simp [mcells, bools, Value.oneCell']
theorem blk_there {w : World} {g : Nat} {t : TypeId} {l : List Bool} (h : w.heap[g]? = some (.cells (mcells l) t (0, 0))) : w.there g 0 l.length := fun j hj =>
  ⟨by rw [blk_cell h, Nat.zero_add, mcells_get l j hj]; rfl, blk_frozen h _⟩
/-- The world behind a store of a whole row. -/
theorem setCells_blk {w : World} {g : Nat} {t : TypeId} {l m : List Bool} (h : w.heap[g]? = some (.cells (mcells l) t (0, 0))) (hl : m.length = l.length) :
    (w.setCells g 0 (mcells m).toList).heap[g]? = some (.cells (mcells m) t (0, 0)) := by
  obtain ⟨cur, h1, h2, h3⟩ := setCells_row (mcells m).toList 0 w (mcells l) h (by rw [Nat.zero_add, Array.length_toList, mcells_size, mcells_size, hl]; exact Nat.le_refl _)
  rw [h1]
  congr 2
  apply Array.toList_inj.1
  have hs : (mcells l).toList.length = (mcells m).toList.length := by rw [Array.length_toList, Array.length_toList, mcells_size, mcells_size, hl]
  rw [h3, List.take_zero, List.nil_append, List.drop_eq_nil_of_le (by omega), List.append_nil]
set_option maxHeartbeats 4000000 in
set_option maxRecDepth 100000 in
theorem Marks_calls (n : Nat) (hn : n < 2 ^ 64) (w : World) :
    Calls Try.prog 104 #[.int .u64 (n : Int)] w fun e w' => e = .returned (.agg (mcells (marksN n))) ∧ Below w.heap.size w w' := by
  go_enter Try.func104, Try.ntmps104
  have hn' : (n : Int) < 18446744073709551616 := by omega
  go_wp2_with (first | ((with_reducible refine gate_dst (N := 2) rfl ?_); refine box_event ?hg (N := 2) ?hd (cs := mcells (List.replicate 64 false)) (t := 116) ?hr ?_; (case hd => rfl); (case hg => rfl); (case hr => (go_simp; rfl)); intro g2 hg2 w2 hbox2 hb2; have HX2 := Aside0.mk hbox2; have HB2 := Aside0.mk hb2; have HE2 := Aside0.mk hg2; clear hbox2 hb2 hg2) | ((with_reducible refine gate_dst (N := 3) rfl ?_); refine box_event ?hg (N := 3) ?hd (cs := mcells (List.replicate 64 false)) (t := 116) ?hr ?_; (case hd => rfl); (case hg => rfl); (case hr => (go_simp; rfl)); intro g3 hg3 w3 hbox3 hb3; have HX3 := Aside0.mk hbox3; have HB3 := Aside0.mk hb3; have HE3 := Aside0.mk hg3; clear hbox3 hb3 hg3))
  have h23 : g2 < g3 := by have := HE3.out; have := blk_lt HX2.out; omega
  have hs2 : g2 = w.heap.size := HE2.out
  have HX2 := Aside0.mk ((HB3.out.block g2 (blk_lt HX2.out)).trans HX2.out)
  have HBB := Aside0.mk ((HB2.out).trans (HB3.out.mono (HB2.out.size)))
  rw [← marksTo_zero n] at HX3
  go_loopw [4, 5] (fun v4 v5 wr => ∃ (k : Nat), k ≤ 64 ∧ v5 = .int .i64 k ∧ v4 = .int .u64 ((n / 2 ^ k : Nat) : Int) ∧ Aside0 (wr.heap[g3]? = some (.cells (mcells (marksTo n k)) 116 (0, 0))) ∧ Aside0 (wr.heap[g2]? = some (.cells (mcells (List.replicate 64 false)) 116 (0, 0))) ∧ Aside0 (Below w.heap.size w wr)) (fun _ i _ => 64 - (intOf i).toNat)
  case atStart => exact ⟨0, by omega, rfl, by simp, HX3, HX2, HBB⟩
  case round =>
    obtain ⟨k, hk, rfl, rfl, HA, HC, HB⟩ := hrel
    by_cases hlt : k < 64
    · have hq := Nat.div_div_eq_div_mul n (2 ^ k) 2
      rw [← Nat.pow_succ] at hq
      have hb : n.testBit k = ((((n / 2 ^ k : Nat) : Int) % 2) == 1) := by
        rw [Nat.testBit_eq_decide_div_mod_eq]
        generalize n / 2 ^ k = q
        rw [Bool.eq_iff_iff, decide_eq_true_iff, beq_iff_eq]
        omega
      have hq2 : ((n / 2 ^ k : Nat) : Int) / 2 = ((n / 2 ^ (k + 1) : Nat) : Int) := by rw [← hq]; omega
      have hle : n / 2 ^ k ≤ n := Nat.div_le_self _ _
      have hc := (blk_cell HA.out k).trans (mcells_get _ k (by rw [marksTo_len]; exact hlt))
      have hf := blk_frozen HA.out k
      have HQ := Aside0.mk hq2
      have HBT := Aside0.mk hb
      clear hq hb hq2
      generalize n / 2 ^ k = q at *
      generalize hqq : n / 2 ^ (k + 1) = q2 at *
      have HQ2 := Aside0.mk hqq
      clear hqq
      have hk0 : (0 : Int) ≤ (k : Int) := by omega
      have hk1 : (k : Int) < 64 := by omega
      go_wp2
      have hb2 := blk_set HA.out k (.bool ((q : Int) % 2 == 1))
      rw [← HBT.out, mcells_set, marksTo_set _ _ hlt] at hb2
      refine ⟨⟨k + 1, by omega, by go_num, by rw [HQ2.out, HQ.out], ⟨by rw [← HBT.out]; exact hb2⟩, ⟨blk_far HC.out (by show g2 ≠ g3; omega) _⟩, ⟨HB.out.setCell (by show w.heap.size ≤ g3; omega) _⟩⟩, by simp [intOf]; omega⟩
    · obtain rfl : k = 64 := by omega
      have HA2 := HA.out
      rw [marksTo_all] at HA2
      have HA3 := Aside0.mk HA2
      have ht := blk_there HC.out
      rw [List.length_replicate, ← marksN_len n, ← mcells_size] at ht
      have HT := Aside0.mk ht
      clear HA2 ht hn hn'
      go_wp2_with (first | ((with_reducible refine gate_dst (N := 18) rfl ?_); refine wpList_load_row rfl 116 (.tmp 3) rfl g3 rfl 116 (mcells (marksN n)) (0, 0) _ HA3.out Try.underlying116 rfl (mcells_full _ (marksN_len n)) ?_) | ((with_reducible refine gate_store (t := 116) (p := 2) rfl ?_); refine wpList_store_mid rfl 116 (.tmp 2) (.tmp 18) rfl g2 0 (mcells (marksN n)) rfl rfl (HT.out) (mcells_full _ (marksN_len n)) (mcells_one _) ?_))
      have hz := setCells_blk HC.out (m := marksN n) (by rw [marksN_len, List.length_replicate])
      refine bodyPost_ret (results_cell_row rfl _ _ g2 116 (mcells (marksN n)) (0, 0) _ rfl hz Try.underlying116 rfl (mcells_full _ (marksN_len n))) rfl ⟨rfl, ?_⟩
      obtain ⟨s1, s2, s3, s4⟩ := setCells_same g2 (mcells (marksN n)).toList 0 wr
      exact HB.out.trans ⟨s1, s2, s3, by rw [s4]; exact Nat.le_refl _, fun i hi => setCells_far _ _ _ (by omega)⟩


theorem row_there {w : World} {g : Nat} {t : TypeId} {l m : List Bool} (h : w.heap[g]? = some (.cells (mcells l) t (0, 0))) (hl : l.length = 64) (hm : m.length = 64) : w.there g 0 (mcells m).size := by
  have := blk_there h
  rwa [hl, ← hm, ← mcells_size] at this
theorem setCells_below {B g : Nat} {w W : World} (h : Below B w W) (hB : B ≤ g) (vs : List Value) : Below B w (W.setCells g 0 vs) := by
  obtain ⟨s1, s2, s3, s4⟩ := setCells_same g vs 0 W
  exact h.trans ⟨s1, s2, s3, by rw [s4]; exact Nat.le_refl _, fun i hi => setCells_far _ _ _ (by omega)⟩
theorem blk_later {w w1 : World} {g : Nat} {o : Obj} (h : w.heap[g]? = some o) (hb : Below w.heap.size w w1) : w1.heap[g]? = some o := (hb.block g (blk_lt h)).trans h
theorem blk_other {w : World} {g g2 : Nat} {o : Obj} (h : w.heap[g]? = some o) (hne : g ≠ g2) (vs : List Value) : (w.setCells g2 0 vs).heap[g]? = some o := (setCells_far _ _ _ hne).trans h
theorem zlen : (List.replicate 64 false).length = 64 := List.length_replicate

theorem ofBits_drop (l : List Bool) (m : Nat) (hm : m < l.length) : ofBits (l.drop m) = 2 * ofBits (l.drop (m + 1)) + (l.getD m false).toNat := by
  rw [List.drop_eq_getElem_cons hm, ofBits, List.getD_eq_getElem?_getD, List.getElem?_eq_getElem hm]
  rfl

set_option maxHeartbeats 4000000 in
set_option maxRecDepth 100000 in
theorem Label_calls (l : List Bool) (hl : l.length = 64) (w : World) :
    Calls Try.prog 105 #[.agg (mcells l)] w fun e w' => e = .returned (.int .u64 ((ofBits l : Nat) : Int)) ∧ Below w.heap.size w w' := by
  go_enter Try.func105, Try.ntmps105
  go_wp2_with (first | ((with_reducible refine gate_dst (N := 1) rfl ?_); refine box_event ?hg (N := 1) ?hd (cs := mcells l) (t := 116) ?hr ?_; (case hd => rfl); (case hg => rfl); (case hr => first | (go_simp; done) | (go_simp; rfl)); intro g1 hg1 w1 hbox1 hb1; have HX1 := Aside0.mk hbox1; have HB1 := Aside0.mk hb1; have HE1 := Aside0.mk hg1; clear hbox1 hb1 hg1))
  go_loopw [3, 4] (fun v3 v4 wr => ∃ (j : Nat), j ≤ 64 ∧ v4 = .int .i64 ((j : Int) - 1) ∧ v3 = .int .u64 ((ofBits (l.drop j) : Nat) : Int) ∧ Aside0 (wr.heap[g1]? = some (.cells (mcells l) 116 (0, 0))) ∧ Aside0 (Below w.heap.size w wr)) (fun _ i _ => (intOf i + 1).toNat)
  case atStart => exact ⟨64, by omega, rfl, by rw [List.drop_eq_nil_of_le (by omega)]; rfl, HX1, HB1⟩
  case round =>
    obtain ⟨j, hj, rfl, rfl, HA, HB⟩ := hrel
    by_cases h0 : j = 0
    · subst h0
      go_wp2
      go_ret
      exact ⟨rfl, HB.out⟩
    · obtain ⟨m, rfl⟩ : ∃ m, j = m + 1 := ⟨j - 1, by omega⟩
      rw [show (((m + 1 : Nat) : Int) - 1) = (m : Int) from by omega]
      have hlt := ofBits_lt (l.drop (m + 1))
      have hlt2 : ofBits (l.drop (m + 1)) < 2 ^ 63 := Nat.lt_of_lt_of_le hlt (Nat.pow_le_pow_right (by decide) (by rw [List.length_drop]; omega))
      have hd := ofBits_drop l m (by omega)
      have hc := (blk_cell HA.out m).trans (mcells_get _ m (by omega))
      have HD := Aside0.mk hd
      have hm0 : (0 : Int) ≤ (m : Int) := by omega
      have hm1 : (m : Int) < 64 := by omega
      have hq : (0 : Int) ≤ ((ofBits (l.drop (m + 1)) : Nat) : Int) := by omega
      have hq2 : ((ofBits (l.drop (m + 1)) : Nat) : Int) < 9223372036854775808 := by omega
      clear hlt hlt2 hd
      generalize ofBits (l.drop (m + 1)) = q at *
      cases hb : l.getD m false with
      | true =>
        rw [hb] at hc HD
        go_wp2
        refine ⟨⟨m, by omega, rfl, ?_, HA, HB⟩, by simp [intOf]⟩
        rw [HD.out]; congr 1; simp; omega
      | false =>
        rw [hb] at hc HD
        go_wp2
        refine ⟨⟨m, by omega, rfl, ?_, HA, HB⟩, by simp [intOf]⟩
        rw [HD.out]; congr 1; simp; omega

set_option maxHeartbeats 4000000 in
set_option maxRecDepth 100000 in
theorem Join_calls (a b : Nat) (ha : a < 2 ^ 64) (hb : b < 2 ^ 64) (w : World) :
    Calls Try.prog 92 #[.int .u64 (a : Int), .int .u64 (b : Int)] w fun e w' => e = .returned (.int .u64 ((a ||| b : Nat) : Int)) ∧ Below w.heap.size w w' := by
  have HM1 := Aside0.mk (fun W => Marks_calls a ha W)
  have HM2 := Aside0.mk (fun W => Marks_calls b hb W)
  have HLB := Aside0.mk (fun W => Label_calls (orTo a b 64) (orTo_len a b 64) W)
  have HOR := Aside0.mk (orTo_all a b ha hb)
  clear ha hb
  go_enter Try.func92, Try.ntmps92
  go_wp2_with fail
  refine (HM1.out _).mono ?_
  rintro e w1 ⟨rfl, hb1⟩
  have HC1 := Aside0.mk hb1
  clear hb1
  go_wp2_with fail
  refine (HM2.out _).mono ?_
  rintro e w2 ⟨rfl, hb2⟩
  have HC2 := Aside0.mk (HC1.out.trans (hb2.mono HC1.out.size))
  clear hb2
  go_wp2_with (first | ((with_reducible refine gate_dst (N := 5) rfl ?_); refine box_event ?hg (N := 5) ?hd (cs := mcells (List.replicate 64 false)) (t := 116) ?hr ?_; (case hd => rfl); (case hg => rfl); (case hr => first | (go_simp; done) | (go_simp; rfl)); intro g5 hg5 w5 hbox5 hb5; have HX5 := Aside0.mk hbox5; have HB5 := Aside0.mk hb5; have HE5 := Aside0.mk hg5; clear hbox5 hb5 hg5) | ((with_reducible refine gate_dst (N := 6) rfl ?_); refine box_event ?hg (N := 6) ?hd (cs := mcells (List.replicate 64 false)) (t := 116) ?hr ?_; (case hd => rfl); (case hg => rfl); (case hr => first | (go_simp; done) | (go_simp; rfl)); intro g6 hg6 w6 hbox6 hb6; have HX6 := Aside0.mk hbox6; have HB6 := Aside0.mk hb6; have HE6 := Aside0.mk hg6; clear hbox6 hb6 hg6) | ((with_reducible refine gate_store (t := 116) (p := 5) rfl ?_); refine wpList_store_mid rfl 116 (.tmp 5) (.tmp 10) rfl g5 0 (mcells (marksN a)) rfl rfl ?ht (mcells_full _ (marksN_len a)) (mcells_one _) ?_; (case ht => exact row_there (blk_later HX5.out HB6.out) zlen (marksN_len a)); have HS5 := Aside0.mk (setCells_blk (blk_later HX5.out HB6.out) (m := marksN a) ((marksN_len a).trans zlen.symm)); have HS6 := Aside0.mk (blk_other HX6.out (g2 := g5) (by have h1 := HE6.out; have h2 := blk_lt HX5.out; omega) (mcells (marksN a)).toList); have HD5 := Aside0.mk (setCells_below (HC2.out.trans ((HB5.out.trans (HB6.out.mono HB5.out.size)).mono HC2.out.size)) (by have h1 := HE5.out; have h2 := HC2.out.size; omega : w.heap.size ≤ g5) (mcells (marksN a)).toList); generalize (World.setCells w6 g5 0 (mcells (marksN a)).toList) = w7 at HS5 HS6 HD5 ⊢) | ((with_reducible refine gate_store (t := 116) (p := 6) rfl ?_); refine wpList_store_mid rfl 116 (.tmp 6) (.tmp 12) rfl g6 0 (mcells (marksN b)) rfl rfl ?ht (mcells_full _ (marksN_len b)) (mcells_one _) ?_; (case ht => exact row_there HS6.out zlen (marksN_len b)); have HU6 := Aside0.mk (setCells_blk HS6.out (m := marksN b) ((marksN_len b).trans zlen.symm)); have HU5 := Aside0.mk (blk_other HS5.out (g2 := g6) (by have h1 := HE6.out; have h2 := blk_lt HX5.out; omega) (mcells (marksN b)).toList); have HD6 := Aside0.mk (setCells_below HD5.out (by have h1 := HE6.out; have h2 := HC2.out.size; have h3 := HB5.out.size; omega : w.heap.size ≤ g6) (mcells (marksN b)).toList); generalize (World.setCells w7 g6 0 (mcells (marksN b)).toList) = w8 at HU5 HU6 HD6 ⊢) | ((with_reducible refine gate_dst (N := 7) rfl ?_); refine box_event ?hg (N := 7) ?hd (cs := mcells (List.replicate 64 false)) (t := 116) ?hr ?_; (case hd => rfl); (case hg => rfl); (case hr => first | (go_simp; done) | (go_simp; rfl)); intro g7 hg7 w7 hbox7 hb7; have HX7 := Aside0.mk hbox7; have HB7 := Aside0.mk hb7; have HE7 := Aside0.mk hg7; clear hbox7 hb7 hg7))
  have H5 := Aside0.mk (blk_later HU5.out HB7.out)
  have H6 := Aside0.mk (blk_later HU6.out HB7.out)
  have HD := Aside0.mk (HD6.out.trans (HB7.out.mono HD6.out.size))
  have h56 : g5 < g6 := by have h1 := HE6.out; have h2 := blk_lt HX5.out; omega
  have h67 : g6 < g7 := by have h1 := HE7.out; have h2 := blk_lt HU6.out; omega
  have h7w : w.heap.size ≤ g7 := by have h1 := HE7.out; have h2 := HD6.out.size; omega
  rw [← orTo_zero a b] at HX7
  go_loopw [8] (fun v8 wr => ∃ (k : Nat), k ≤ 64 ∧ v8 = .int .i64 k ∧ Aside0 (wr.heap[g7]? = some (.cells (mcells (orTo a b k)) 116 (0, 0))) ∧ Aside0 (wr.heap[g5]? = some (.cells (mcells (marksN a)) 116 (0, 0))) ∧ Aside0 (wr.heap[g6]? = some (.cells (mcells (marksN b)) 116 (0, 0))) ∧ Aside0 (Below w.heap.size w wr)) (fun i _ => 64 - (intOf i).toNat)
  case atStart => exact ⟨0, by omega, rfl, HX7, H5, H6, HD⟩
  case round =>
    obtain ⟨k, hk, rfl, HA, HP, HQ, HB⟩ := hrel
    by_cases hlt : k < 64
    · have hc := (blk_cell HA.out k).trans (mcells_get _ k (by rw [orTo_len]; exact hlt))
      have hf := blk_frozen HA.out k
      have hc5 := (blk_cell HP.out k).trans (mcells_get _ k (by rw [marksN_len]; exact hlt))
      have hc6 := (blk_cell HQ.out k).trans (mcells_get _ k (by rw [marksN_len]; exact hlt))
      rw [marksN_getD _ _ hlt] at hc5 hc6
      have hk0 : (0 : Int) ≤ (k : Int) := by omega
      have hk1 : (k : Int) < 64 := by omega
      have hb2 := Aside0.mk (blk_set HA.out k (.bool (a.testBit k || b.testBit k)))
      rw [mcells_set, orTo_set _ _ _ hlt] at hb2
      generalize a.testBit k = x at *
      generalize b.testBit k = y at *
      have key : ∀ z : Bool, (x || y) = z → (wr.setCell ⟨g7, k, none⟩ (.bool z)).heap[g7]? = some (.cells (mcells (orTo a b (k + 1))) 116 (0, 0)) := fun z hz => by rw [← hz]; exact hb2.out
      have KEY := Aside0.mk key
      clear key hb2
      cases x <;> cases y
      all_goals
        go_wp2
        exact ⟨⟨k + 1, by omega, by go_num, ⟨KEY.out _ rfl⟩, ⟨blk_far HP.out (by show g5 ≠ g7; omega) _⟩, ⟨blk_far HQ.out (by show g6 ≠ g7; omega) _⟩, ⟨HB.out.setCell h7w _⟩⟩, by simp [intOf]; omega⟩
    · obtain rfl : k = 64 := by omega
      go_wp2_with (first | ((with_reducible refine gate_dst (N := 27) rfl ?_); refine wpList_load_row rfl 116 (.tmp 7) rfl g7 rfl 116 (mcells (orTo a b 64)) (0, 0) _ HA.out Try.underlying116 rfl (mcells_full _ (orTo_len a b 64)) ?_) | (go_at_call 105; refine (HLB.out _).mono ?_; rintro e w9 ⟨rfl, hb9⟩; have HB9 := Aside0.mk hb9; clear hb9))
      go_ret
      rw [← HOR.out]
      exact ⟨rfl, HB.out.trans (HB9.out.mono HB.out.size)⟩


def belowN (a b : Nat) : Bool := (List.range 64).all (fun i => !a.testBit i || b.testBit i)
theorem belowN_yes {a b : Nat} (h : ∀ i, i < 64 → a.testBit i = true → b.testBit i = true) : belowN a b = true := by
  unfold belowN
  rw [List.all_eq_true]
  intro i hi
  have := h i (List.mem_range.1 hi)
  cases ha : a.testBit i <;> simp_all
theorem belowN_no {a b i : Nat} (hi : i < 64) (ha : a.testBit i = true) (hb : b.testBit i = false) : belowN a b = false := by
  unfold belowN
  rw [List.all_eq_false]
  exact ⟨i, List.mem_range.2 hi, by simp [ha, hb]⟩
theorem belowN_bits (a b : Nat) (ha : a < 2 ^ 64) (hb : b < 2 ^ 64) : (Go.bits .andNot .u64 (a : Int) (b : Int) == 0) = belowN a b := by
  rw [u64_andNot_nat a b ha hb]
  have hs : ∀ i, (a &&& (18446744073709551615 - b)).testBit i = (a.testBit i && (decide (i < 64) && !b.testBit i)) := fun i => by
    rw [Nat.testBit_and, show 18446744073709551615 - b = 2 ^ 64 - (b + 1) by omega, Nat.testBit_two_pow_sub_succ hb]
  cases h : belowN a b with
  | true =>
    have h0 : a &&& (18446744073709551615 - b) = 0 := by
      apply Nat.eq_of_testBit_eq
      intro i
      rw [hs, Nat.zero_testBit]
      by_cases hi : i < 64
      · unfold belowN at h
        have := List.all_eq_true.1 h i (List.mem_range.2 hi)
        cases ha : a.testBit i <;> cases hb : b.testBit i <;> simp_all
      · simp [hi]
    rw [h0]; rfl
  | false =>
    unfold belowN at h
    obtain ⟨i, hi, hc⟩ := List.all_eq_false.1 h
    have hz : (a &&& (18446744073709551615 - b)).testBit i = true := by
      rw [hs]
      have := List.mem_range.1 hi
      cases ha : a.testBit i <;> cases hb : b.testBit i <;> simp_all
    rw [beq_eq_false_iff_ne]
    intro he
    have : a &&& (18446744073709551615 - b) = 0 := by omega
    rw [this, Nat.zero_testBit] at hz
    cases hz

set_option maxHeartbeats 4000000 in
set_option maxRecDepth 100000 in
theorem Below_calls (a b : Nat) (ha : a < 2 ^ 64) (hb : b < 2 ^ 64) (w : World) :
    Calls Try.prog 100 #[.int .u64 (a : Int), .int .u64 (b : Int)] w fun e w' => e = .returned (.bool (belowN a b)) ∧ Below w.heap.size w w' := by
  have HM1 := Aside0.mk (fun W => Marks_calls a ha W)
  have HM2 := Aside0.mk (fun W => Marks_calls b hb W)
  clear ha hb
  go_enter Try.func100, Try.ntmps100
  go_wp2_with fail
  refine (HM1.out _).mono ?_
  rintro e w1 ⟨rfl, hb1⟩
  have HC1 := Aside0.mk hb1
  clear hb1
  go_wp2_with fail
  refine (HM2.out _).mono ?_
  rintro e w2 ⟨rfl, hb2⟩
  have HC2 := Aside0.mk (HC1.out.trans (hb2.mono HC1.out.size))
  clear hb2
  go_wp2_with (first | ((with_reducible refine gate_dst (N := 5) rfl ?_); refine box_event ?hg (N := 5) ?hd (cs := mcells (List.replicate 64 false)) (t := 116) ?hr ?_; (case hd => rfl); (case hg => rfl); (case hr => first | (go_simp; done) | (go_simp; rfl)); intro g5 hg5 w5 hbox5 hb5; have HX5 := Aside0.mk hbox5; have HB5 := Aside0.mk hb5; have HE5 := Aside0.mk hg5; clear hbox5 hb5 hg5) | ((with_reducible refine gate_dst (N := 6) rfl ?_); refine box_event ?hg (N := 6) ?hd (cs := mcells (List.replicate 64 false)) (t := 116) ?hr ?_; (case hd => rfl); (case hg => rfl); (case hr => first | (go_simp; done) | (go_simp; rfl)); intro g6 hg6 w6 hbox6 hb6; have HX6 := Aside0.mk hbox6; have HB6 := Aside0.mk hb6; have HE6 := Aside0.mk hg6; clear hbox6 hb6 hg6) | ((with_reducible refine gate_store (t := 116) (p := 5) rfl ?_); refine wpList_store_mid rfl 116 (.tmp 5) (.tmp 9) rfl g5 0 (mcells (marksN a)) rfl rfl ?ht (mcells_full _ (marksN_len a)) (mcells_one _) ?_; (case ht => exact row_there (blk_later HX5.out HB6.out) zlen (marksN_len a)); have HS5 := Aside0.mk (setCells_blk (blk_later HX5.out HB6.out) (m := marksN a) ((marksN_len a).trans zlen.symm)); have HS6 := Aside0.mk (blk_other HX6.out (g2 := g5) (by have h1 := HE6.out; have h2 := blk_lt HX5.out; omega) (mcells (marksN a)).toList); have HD5 := Aside0.mk (setCells_below (HC2.out.trans ((HB5.out.trans (HB6.out.mono HB5.out.size)).mono HC2.out.size)) (by have h1 := HE5.out; have h2 := HC2.out.size; omega : w.heap.size ≤ g5) (mcells (marksN a)).toList); generalize (World.setCells w6 g5 0 (mcells (marksN a)).toList) = w7 at HS5 HS6 HD5 ⊢) | ((with_reducible refine gate_store (t := 116) (p := 6) rfl ?_); refine wpList_store_mid rfl 116 (.tmp 6) (.tmp 11) rfl g6 0 (mcells (marksN b)) rfl rfl ?ht (mcells_full _ (marksN_len b)) (mcells_one _) ?_; (case ht => exact row_there HS6.out zlen (marksN_len b)); have HU6 := Aside0.mk (setCells_blk HS6.out (m := marksN b) ((marksN_len b).trans zlen.symm)); have HU5 := Aside0.mk (blk_other HS5.out (g2 := g6) (by have h1 := HE6.out; have h2 := blk_lt HX5.out; omega) (mcells (marksN b)).toList); have HD6 := Aside0.mk (setCells_below HD5.out (by have h1 := HE6.out; have h2 := HC2.out.size; have h3 := HB5.out.size; omega : w.heap.size ≤ g6) (mcells (marksN b)).toList); generalize (World.setCells w7 g6 0 (mcells (marksN b)).toList) = w8 at HU5 HU6 HD6 ⊢))
  have h56 : g5 < g6 := by have h1 := HE6.out; have h2 := blk_lt HX5.out; omega
  go_loopw [7] (fun v8 wr => ∃ (k : Nat), k ≤ 64 ∧ v8 = .int .i64 k ∧ Aside0 (∀ i, i < k → a.testBit i = true → b.testBit i = true) ∧ Aside0 (wr.heap[g5]? = some (.cells (mcells (marksN a)) 116 (0, 0))) ∧ Aside0 (wr.heap[g6]? = some (.cells (mcells (marksN b)) 116 (0, 0))) ∧ Aside0 (Below w.heap.size w wr)) (fun i _ => 64 - (intOf i).toNat)
  case atStart => exact ⟨0, by omega, rfl, ⟨fun i hi => absurd hi (by omega)⟩, HU5, HU6, HD6⟩
  case round =>
    obtain ⟨k, hk, rfl, HA, HP, HQ, HB⟩ := hrel
    by_cases hlt : k < 64
    · have hc5 := (blk_cell HP.out k).trans (mcells_get _ k (by rw [marksN_len]; exact hlt))
      have hc6 := (blk_cell HQ.out k).trans (mcells_get _ k (by rw [marksN_len]; exact hlt))
      rw [marksN_getD _ _ hlt] at hc5 hc6
      have hk0 : (0 : Int) ≤ (k : Int) := by omega
      have hk1 : (k : Int) < 64 := by omega
      have HNO := Aside0.mk (fun h1 h2 => belowN_no (a := a) (b := b) hlt h1 h2)
      have HYES := Aside0.mk (fun (h1 : a.testBit k = true → b.testBit k = true) (i : Nat) (hi : i < k + 1) (h2 : a.testBit i = true) => (by
        rcases Nat.lt_or_ge i k with h | h
        · exact HA.out i h h2
        · obtain rfl : i = k := by omega
          exact h1 h2 : b.testBit i = true))
      cases hx : a.testBit k <;> cases hy : b.testBit k
      all_goals
        rw [hx, hy] at HNO HYES
        rw [hx] at hc5
        rw [hy] at hc6
        have HXY := Aside0.mk (And.intro hx hy)
        clear hx hy
      case true.false =>
        go_wp2
        go_ret
        rw [HNO.out (by simp) (by simp)]
        exact ⟨rfl, HB.out⟩
      all_goals
        go_wp2
        exact ⟨⟨k + 1, by omega, by go_num, ⟨HYES.out (by simp)⟩, HP, HQ, HB⟩, by simp [intOf]; omega⟩
    · obtain rfl : k = 64 := by omega
      have hy := belowN_yes HA.out
      have HY := Aside0.mk hy
      clear hy
      go_wp2
      go_ret
      rw [HY.out]
      exact ⟨rfl, HB.out⟩

def orAll (l : List Nat) : Nat := l.foldl (· ||| ·) 0
theorem orAll_snoc (l : List Nat) (x : Nat) : orAll (l ++ [x]) = orAll l ||| x := by simp [orAll]
theorem orAll_lt (l : List Nat) (h : ∀ x ∈ l, x < 2 ^ 64) : orAll l < 2 ^ 64 := by
  unfold orAll
  have : ∀ (l : List Nat) (a : Nat), a < 2 ^ 64 → (∀ x ∈ l, x < 2 ^ 64) → l.foldl (· ||| ·) a < 2 ^ 64 := by
    intro l
    induction l with
    | nil => intro a ha _; exact ha
    | cons x l ih => intro a ha hl; exact ih _ (Nat.or_lt_two_pow ha (hl x List.mem_cons_self)) (fun y hy => hl y (List.mem_cons_of_mem _ hy))
  exact this l 0 (by decide) h

set_option maxHeartbeats 4000000 in
set_option maxRecDepth 100000 in
theorem JoinAll_calls (A : Option Addr) (c : Nat) (l : List Nat) (hl : ∀ x ∈ l, x < 2 ^ 64) (w : World) (hr : Kd.C (Kd.int .u64) w A (l.map (fun x : Nat => (x : Int))).length (l.map (fun x : Nat => (x : Int)))) :
    Calls Try.prog 89 #[.slice A l.length c] w fun e w' => e = .returned (.int .u64 ((orAll l : Nat) : Int)) ∧ Below w.heap.size w w' := by
  have hmax : l.length ≤ 9223372036854775807 := by have := hr.2.1; rwa [List.length_map] at this
  have HM := Aside0.mk (fun (x : Nat) (hx : x ∈ l) W => Marks_calls x (hl x hx) W)
  have HLB := Aside0.mk (fun W => Label_calls (marksN (orAll l)) (marksN_len _) W)
  have HOR := Aside0.mk (ofBits_marksN _ (orAll_lt l hl))
  have HR := Aside0.mk hr
  clear hr hl
  go_enter Try.func89, Try.ntmps89
  go_wp2_with (first | ((with_reducible refine gate_dst (N := 3) rfl ?_); refine box_event ?hg (N := 3) ?hd (cs := mcells (List.replicate 64 false)) (t := 116) ?hr ?_; (case hd => rfl); (case hg => rfl); (case hr => first | (go_simp; done) | (go_simp; rfl)); intro g3 hg3 w3 hbox3 hb3; have HX3 := Aside0.mk hbox3; have HB3 := Aside0.mk hb3; have HE3 := Aside0.mk hg3; clear hbox3 hb3 hg3))
  have h3w : w.heap.size ≤ g3 := by have := HE3.out; omega
  rw [← marksN_zero] at HX3
  go_loopw [4] (fun v4 wr => ∃ (k : Nat), k ≤ l.length ∧ v4 = .int .i64 k ∧ Aside0 (wr.heap[g3]? = some (.cells (mcells (marksN (orAll (l.take k)))) 116 (0, 0))) ∧ Aside0 (Below w.heap.size w wr)) (fun i _ => l.length - (intOf i).toNat)
  case atStart => exact ⟨0, by omega, rfl, HX3, HB3⟩
  case round =>
    obtain ⟨k, hk, rfl, HA, HB⟩ := hrel
    by_cases hlt : k < l.length
    · obtain ⟨x, hx⟩ : ∃ x, l[k]? = some x := ⟨l[k], List.getElem?_eq_getElem hlt⟩
      have hmem : x ∈ l := List.mem_of_getElem? hx
      have hsn : l.take (k + 1) = l.take k ++ [x] := by rw [List.take_add_one, hx]; rfl
      have HSN := Aside0.mk hsn
      obtain ⟨ad, rfl, hx0⟩ := Kd.at_int HR.out (k : Int) (by omega) (by rw [List.length_map]; omega)
      have hrd : rd (l.map (fun x : Nat => (x : Int))) (k : Int) = (x : Int) := by
        unfold rd
        rw [Int.toNat_natCast, List.getD_eq_getElem?_getD, List.getElem?_map, hx]; rfl
      rw [hrd, Int.toNat_natCast] at hx0
      replace hx0 := (HB.out.cell (World.block_lt_of_cell? w _ hx0)).trans hx0
      have HMX := Aside0.mk (fun W => HM.out x hmem W)
      clear hx hmem hsn hrd
      go_wp2_with fail
      refine (HMX.out _).mono ?_
      rintro e w1 ⟨rfl, hb1⟩
      have HC1 := Aside0.mk (HB.out.trans (hb1.mono HB.out.size))
      have HA1 := Aside0.mk (blk_later HA.out hb1)
      clear hb1 hx0
      go_wp2_with (first | ((with_reducible refine gate_dst (N := 5) rfl ?_); refine box_event ?hg (N := 5) ?hd (cs := mcells (List.replicate 64 false)) (t := 116) ?hr ?_; (case hd => rfl); (case hg => rfl); (case hr => first | (go_simp; done) | (go_simp; rfl)); intro g5 hg5 w5 hbox5 hb5; have HX5 := Aside0.mk hbox5; have HB5 := Aside0.mk hb5; have HE5 := Aside0.mk hg5; clear hbox5 hb5 hg5) | ((with_reducible refine gate_store (t := 116) (p := 5) rfl ?_); refine wpList_store_mid rfl 116 (.tmp 5) (.tmp 17) rfl g5 0 (mcells (marksN x)) rfl rfl ?ht (mcells_full _ (marksN_len x)) (mcells_one _) ?_; (case ht => exact row_there HX5.out zlen (marksN_len x)); have HS5 := Aside0.mk (setCells_blk HX5.out (m := marksN x) ((marksN_len x).trans zlen.symm)); have HS3 := Aside0.mk (blk_other (blk_later HA1.out HB5.out) (g2 := g5) (by have h1 := HE5.out; have h2 := blk_lt HA1.out; omega) (mcells (marksN x)).toList); have HD5 := Aside0.mk (setCells_below (HC1.out.trans (HB5.out.mono HC1.out.size)) (by have h1 := HE5.out; have h2 := HC1.out.size; omega : w.heap.size ≤ g5) (mcells (marksN x)).toList); generalize (World.setCells w5 g5 0 (mcells (marksN x)).toList) = w7 at HS5 HS3 HD5 ⊢))
      have h35 : g3 < g5 := by have h1 := HE5.out; have h2 := blk_lt HA1.out; omega
      have h5w : w.heap.size ≤ g5 := by have h1 := HE5.out; have h2 := HC1.out.size; omega
      generalize hs : orAll (l.take k) = s at *
      have HS := Aside0.mk hs
      clear hs
      rw [← joinTo_zero s x] at HS3
      go_loopw [6] (fun v6 wz => ∃ (i : Nat), i ≤ 64 ∧ v6 = .int .i64 i ∧ Aside0 (wz.heap[g3]? = some (.cells (mcells (joinTo s x i)) 116 (0, 0))) ∧ Aside0 (wz.heap[g5]? = some (.cells (mcells (marksN x)) 116 (0, 0))) ∧ Aside0 (Below w.heap.size w wz)) (fun i _ => 64 - (intOf i).toNat)
      case atStart => exact ⟨0, by omega, rfl, HS3, HS5, HD5⟩
      case round =>
        obtain ⟨i, hi, rfl, HA, HP, HB⟩ := hrel
        by_cases hlt : i < 64
        · have hc := (blk_cell HA.out i).trans (mcells_get _ i (by rw [joinTo_len]; exact hlt))
          have hf := blk_frozen HA.out i
          have hc5 := (blk_cell HP.out i).trans (mcells_get _ i (by rw [marksN_len]; exact hlt))
          rw [marksN_getD _ _ hlt] at hc5
          rw [joinTo_getD _ _ _ _ hlt, show decide (i < i) = false by simp, Bool.false_and, Bool.or_false] at hc
          have hk0 : (0 : Int) ≤ (i : Int) := by omega
          have hk1 : (i : Int) < 64 := by omega
          have hb2 := Aside0.mk (blk_set HA.out i (.bool (s.testBit i || x.testBit i)))
          rw [mcells_set, joinTo_set _ _ _ hlt] at hb2
          generalize s.testBit i = u at *
          generalize x.testBit i = y at *
          have key : ∀ z : Bool, (u || y) = z → (wr.setCell ⟨g3, i, none⟩ (.bool z)).heap[g3]? = some (.cells (mcells (joinTo s x (i + 1))) 116 (0, 0)) := fun z hz => by rw [← hz]; exact hb2.out
          have KEY := Aside0.mk key
          clear key hb2
          cases u <;> cases y
          all_goals
            go_wp2
            exact ⟨⟨i + 1, by omega, by go_num, ⟨KEY.out _ rfl⟩, ⟨blk_far HP.out (by show g5 ≠ g3; omega) _⟩, ⟨HB.out.setCell h3w _⟩⟩, by simp [intOf]; omega⟩
        · obtain rfl : i = 64 := by omega
          have HA2 := HA.out
          rw [joinTo_all, ← HS.out, ← orAll_snoc, ← HSN.out] at HA2
          have HA3 := Aside0.mk HA2
          clear HA2
          go_wp2
          exact ⟨⟨k + 1, by omega, by go_num, HA3, HB⟩, by simp [intOf]; omega⟩
    · obtain rfl : k = l.length := by omega
      have HA2 := HA.out
      rw [List.take_length] at HA2
      have HA3 := Aside0.mk HA2
      clear HA2
      go_wp2_with (first | ((with_reducible refine gate_dst (N := 32) rfl ?_); refine wpList_load_row rfl 116 (.tmp 3) rfl g3 rfl 116 (mcells (marksN (orAll l))) (0, 0) _ HA3.out Try.underlying116 rfl (mcells_full _ (marksN_len _)) ?_) | (go_at_call 105; refine (HLB.out _).mono ?_; rintro e w9 ⟨rfl, hb9⟩; have HB9 := Aside0.mk hb9; clear hb9))
      go_ret
      rw [HOR.out]
      exact ⟨rfl, HB.out.trans (HB9.out.mono HB.out.size)⟩


def bureauref01_Join.f (a0 : Int) (a1 : Int) : Option Int := if 0 ≤ a0 ∧ a0 < 18446744073709551616 ∧ 0 ≤ a1 ∧ a1 < 18446744073709551616 then some (Go.bits .or .u64 a0 a1) else none
theorem bureauref01_Join.calls (a0 : Int) (a1 : Int) (r : Int) (w : World) (h : bureauref01_Join.f a0 a1 = some r) :
    Calls Try.prog 92 #[.int .u64 a0, .int .u64 a1] w fun e w' => e = .returned (.int .u64 r) ∧ Below w.heap.size w w' := by
  unfold bureauref01_Join.f at h
  split at h
  case isFalse => cases h
  rename_i hc
  injection h with h
  subst h
  obtain ⟨a, rfl⟩ := Int.eq_ofNat_of_zero_le hc.1
  obtain ⟨b, rfl⟩ := Int.eq_ofNat_of_zero_le hc.2.2.1
  rw [u64_or_nat a b (by omega) (by omega)]
  exact Join_calls a b (by omega) (by omega) w

def bureauref01_Below.f (a0 : Int) (a1 : Int) : Option Bool := if 0 ≤ a0 ∧ a0 < 18446744073709551616 ∧ 0 ≤ a1 ∧ a1 < 18446744073709551616 then some (Go.bits .andNot .u64 a0 a1 == 0) else none
theorem bureauref01_Below.calls (a0 : Int) (a1 : Int) (r : Bool) (w : World) (h : bureauref01_Below.f a0 a1 = some r) :
    Calls Try.prog 100 #[.int .u64 a0, .int .u64 a1] w fun e w' => e = .returned (.bool r) ∧ Below w.heap.size w w' := by
  unfold bureauref01_Below.f at h
  split at h
  case isFalse => cases h
  rename_i hc
  injection h with h
  subst h
  obtain ⟨a, rfl⟩ := Int.eq_ofNat_of_zero_le hc.1
  obtain ⟨b, rfl⟩ := Int.eq_ofNat_of_zero_le hc.2.2.1
  rw [belowN_bits a b (by omega) (by omega)]
  exact Below_calls a b (by omega) (by omega) w

def orAllI (l : List Int) : Int := l.foldl (fun a x => Go.bits .or .u64 a x) 0
def bureauref01_JoinAll.f (l0 : List Int) : Option Int := if (∀ x ∈ l0, 0 ≤ x ∧ x < 18446744073709551616) then some (orAllI l0) else none
theorem orAllI_nat (l : List Nat) (hl : ∀ x ∈ l, x < 2 ^ 64) : orAllI (l.map (fun x : Nat => (x : Int))) = ((orAll l : Nat) : Int) := by
  unfold orAllI orAll
  have : ∀ (l : List Nat) (a : Nat), a < 2 ^ 64 → (∀ x ∈ l, x < 2 ^ 64) → (l.map (fun x : Nat => (x : Int))).foldl (fun a x => Go.bits .or .u64 a x) (a : Int) = ((l.foldl (· ||| ·) a : Nat) : Int) := by
    intro l
    induction l with
    | nil => intro a _ _; rfl
    | cons x l ih =>
      intro a ha hl
      have hx := hl x List.mem_cons_self
      rw [List.map_cons, List.foldl_cons, List.foldl_cons, u64_or_nat a x ha hx]
      exact ih _ (Nat.or_lt_two_pow ha hx) (fun y hy => hl y (List.mem_cons_of_mem _ hy))
  exact this l 0 (by decide) hl
theorem bureauref01_JoinAll.calls (A0 : Option Addr) (c0 : Nat) (l0 : List Int) (r : Int) (w : World) (hr0 : Kd.C (Kd.int .u64) w A0 l0.length l0) (hc0 : l0.length ≤ c0) (h : bureauref01_JoinAll.f l0 = some r) :
    Calls Try.prog 89 #[.slice A0 l0.length c0] w fun e w' => e = .returned (.int .u64 r) ∧ Below w.heap.size w w' := by
  unfold bureauref01_JoinAll.f at h
  split at h
  case isFalse => cases h
  rename_i hc
  injection h with h
  subst h
  obtain ⟨m, hm, hml⟩ : ∃ m : List Nat, l0 = m.map (fun x : Nat => (x : Int)) ∧ ∀ x ∈ m, x < 2 ^ 64 := by
    refine ⟨l0.map Int.toNat, ?_, ?_⟩
    · rw [List.map_map]
      conv => lhs; rw [← List.map_id l0]
      apply List.map_congr_left
      intro x hx
      have := hc x hx
      show x = ((x.toNat : Nat) : Int)
      omega
    · intro x hx
      obtain ⟨y, hy, rfl⟩ := List.mem_map.1 hx
      have := hc y hy
      omega
  subst hm
  rw [orAllI_nat m hml]
  have := JoinAll_calls A0 c0 m hml w hr0
  rw [List.length_map]
  exact this

end Go.Proofs.Ythpjagblnddjaaa.PAll
