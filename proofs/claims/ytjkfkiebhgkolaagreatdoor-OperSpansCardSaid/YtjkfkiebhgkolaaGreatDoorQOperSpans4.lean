/- What the row hangs on, part 4. -/
import Derived.Lib.OthersKept
import Derived.Maps.OwnSet
import Derived.StillTailTactics
import Derived.Test.YtjkfkiebhgkolaaGreatDoorQOperSpans3
section
namespace Go.Proofs.YtjkfkiebhgkolaaGreatDoor.PB
open Go.RowKit Go.Proofs.YtjkfkiebhgkolaaGreatDoorW.PrintWords
set_option linter.unusedVariables false
set_option linter.unusedSimpArgs false
def sgRec (v : ByteArray) (i : Nat) : S185 := ⟨(i : Int), (sgW v i : Int), (sgR v i : Int), sgWhole v i⟩
def sgL (v : ByteArray) : Nat → Nat → List S185
  | 0, _ => []
  | f + 1, i => if i < v.size then sgRec v i :: sgL v f (i + sgW v i) else []
def signsL (v : ByteArray) : List S185 := sgL v v.size 0
theorem sgL_len (v : ByteArray) : ∀ f i, (sgL v f i).length ≤ f
  | 0, _ => Nat.le_refl _
  | f + 1, i => by
    unfold sgL
    split
    · have := sgL_len v f (i + sgW v i)
      rw [List.length_cons]
      omega
    · exact Nat.zero_le _
theorem signs_ev (v : ByteArray) (hv : v.size ≤ 100000000) : Ev (fun k => bureauref02_Signs.f k v) (signsL v) := by
  unfold bureauref02_Signs.f signsL
  have loop : ∀ (f i : Nat) (acc : List S185), v.size ≤ i + f → acc.length + f ≤ v.size → Ev (fun k => bureauref02_Signs.l0 k v acc (i : Int)) (acc ++ sgL v f i) := by
    intro f
    induction f with
    | zero =>
      intro i acc h1 h2
      refine Ev.step (fun k => by simp only [bureauref02_Signs.l0]; rfl) (Ev.neg (by omega) ?_)
      unfold sgL
      rw [List.append_nil]
      exact Ev.now _
    | succ f ih =>
      intro i acc h1 h2
      refine Ev.step (fun k => by simp only [bureauref02_Signs.l0]; rfl) ?_
      unfold sgL
      by_cases hi : i < v.size
      · rw [if_pos hi]
        refine Ev.pos (by omega) (Ev.bind (one_ev v i hi hv) (Ev.pos (by omega) ?_))
        have hw := sg_width v i hi
        have e : wrap64 ((i : Int) + (sgW v i : Int)) = ((i + sgW v i : Nat) : Int) := wnat (by omega) (by omega)
        show Ev (fun k => bureauref02_Signs.l0 k v (acc ++ [sgRec v i]) (wrap64 ((i : Int) + (sgW v i : Int)))) _
        rw [e]
        have h9 := ih (i + sgW v i) (acc ++ [sgRec v i]) (by omega) (by rw [List.length_append, List.length_singleton]; omega)
        rw [List.append_assoc] at h9
        exact h9
      · rw [if_neg hi, List.append_nil]
        exact Ev.neg (by omega) (Ev.now _)
  have := loop v.size 0 [] (by omega) (by simp)
  rw [List.nil_append] at this
  exact this
theorem rdS_at {L : List S185} {j : Nat} {x : S185} (h : L[j]? = some x) : rd_T185 L (j : Int) = x := by
  unfold rd_T185
  rw [Int.toNat_natCast, List.getD_eq_getElem?_getD, h]
  rfl
def WhichIs (v : ByteArray) (a : Nat) (L : List S185) (idx : Nat) : Prop :=
  (v.size ≤ a ∧ idx = L.length) ∨ (a < v.size ∧ idx < L.length ∧ L[idx]? = some (sgRec v (alignN v a)) ∧ (L.length ≤ idx + 1 → alignN v a + sgW v (alignN v a) = v.size) ∧ (∀ y, L[idx + 1]? = some y → y.f0 = ((alignN v a + sgW v (alignN v a) : Nat) : Int)))
theorem which_ev (v : ByteArray) (hv : v.size ≤ 100000000) (a : Int) : ∃ idx : Nat, Ev (fun k => bureauref02_which.f k (signsL v) a) (idx : Int) ∧ WhichIs v a.toNat (signsL v) idx := by
  unfold bureauref02_which.f
  have hL : (signsL v).length ≤ v.size := sgL_len v _ _
  have loop : ∀ (f i j : Nat), (signsL v).drop j = sgL v f i → j ≤ (signsL v).length → v.size ≤ i + f → Reach v i → i ≤ a.toNat → ∃ idx : Nat, Ev (fun k => bureauref02_which.l0 k (signsL v) a (j : Int)) (idx : Int) ∧ WhichIs v a.toNat (signsL v) idx := by
    intro f
    induction f with
    | zero =>
      intro i j hd hj hs hr hia
      have hlen : (signsL v).length = j := by
        have := congrArg List.length hd
        rw [List.length_drop] at this
        simp [sgL] at this
        omega
      refine ⟨(signsL v).length, ?_, .inl ⟨by omega, rfl⟩⟩
      exact Ev.step (fun k => by simp only [bureauref02_which.l0]; rfl) (Ev.neg (by omega) (Ev.now _))
    | succ f ih =>
      intro i j hd hj hs hr hia
      unfold sgL at hd
      by_cases hi : i < v.size
      · rw [if_pos hi] at hd
        have hjl : j < (signsL v).length := by
          have := congrArg List.length hd
          rw [List.length_drop, List.length_cons] at this
          omega
        have hg : (signsL v)[j]? = some (sgRec v i) := by
          have := congrArg (fun l => l[0]?) hd
          simpa [List.getElem?_drop] using this
        have hd2 : (signsL v).drop (j + 1) = sgL v f (i + sgW v i) := by
          have := congrArg List.tail hd
          rwa [List.tail_drop, List.tail_cons] at this
        have hw := sg_width v i hi
        have e : wrap64 (((sgRec v i).f0) + ((sgRec v i).f1)) = ((i + sgW v i : Nat) : Int) := wnat (by show (i : Int) + (sgW v i : Int) = _; omega) (by show (i : Int) + (sgW v i : Int) ≤ _; omega)
        by_cases hc : a.toNat < i + sgW v i
        · refine ⟨j, ?_, .inr ⟨by omega, hjl, ?_⟩⟩
          · refine Ev.step (fun k => by simp only [bureauref02_which.l0]; rfl) (Ev.pos (by omega) (Ev.pos (by omega) ?_))
            rw [rdS_at hg, e]
            exact Ev.pos (by omega) (Ev.now _)
          · have ha : alignN v a.toNat = i := align_uniq (by omega) hr hia hc
            rw [ha]
            refine ⟨hg, fun h => ?_, fun y hy => ?_⟩
            · have h0 := congrArg List.length hd2
              rw [List.length_drop] at h0
              have : (sgL v f (i + sgW v i)).length = 0 := by omega
              have hz := List.eq_nil_of_length_eq_zero this
              cases f with
              | zero => omega
              | succ f =>
                unfold sgL at hz
                by_cases h5 : i + sgW v i < v.size
                · rw [if_pos h5] at hz; cases hz
                · omega
            · have h1 := congrArg (fun l => l[0]?) hd2
              simp only [List.getElem?_drop, Nat.add_zero] at h1
              rw [hy] at h1
              cases f with
              | zero => simp [sgL] at h1
              | succ f =>
                unfold sgL at h1
                by_cases h5 : i + sgW v i < v.size
                · rw [if_pos h5] at h1
                  simp only [List.getElem?_cons_zero, Option.some.injEq] at h1
                  rw [h1]
                  rfl
                · rw [if_neg h5] at h1; simp at h1
        · obtain ⟨idx, h1, h2⟩ := ih (i + sgW v i) (j + 1) hd2 hjl (by omega) (hr.step hi) (by omega)
          refine ⟨idx, ?_, h2⟩
          refine Ev.step (fun k => by simp only [bureauref02_which.l0]; rfl) (Ev.pos (by omega) (Ev.pos (by omega) ?_))
          rw [rdS_at hg, e]
          refine Ev.neg (by omega) ?_
          rw [wnat (n := j + 1) (by omega) (by omega)]
          exact h1
      · rw [if_neg hi] at hd
        have hlen : (signsL v).length = j := by
          have := congrArg List.length hd
          rw [List.length_drop] at this
          simp at this
          omega
        refine ⟨(signsL v).length, ?_, .inl ⟨by omega, rfl⟩⟩
        exact Ev.step (fun k => by simp only [bureauref02_which.l0]; rfl) (Ev.neg (by omega) (Ev.now _))
  exact loop v.size 0 0 rfl (Nat.zero_le _) (by omega) .zero (Nat.zero_le _)
def alignS (v : ByteArray) (a : Int) : Nat := if a.toNat < v.size then alignN v a.toNat else v.size
def nextS (v : ByteArray) (a : Int) : Nat := if a.toNat < v.size then alignN v a.toNat + sgW v (alignN v a.toNat) else v.size
def atG (v : ByteArray) (a : Int) : Nat × Nat := if a.toNat < v.size then (sgR v (alignN v a.toNat), sgW v (alignN v a.toNat)) else (0, 0)
theorem begins_at (v : ByteArray) {L : List S185} {j : Nat} {x : S185} (h : L[j]? = some x) : bureauref02_begins.f v L (j : Int) = some x.f0 := by
  have hj : j < L.length := (List.getElem?_eq_some_iff.1 h).1
  unfold bureauref02_begins.f
  rw [if_pos (by omega), if_pos (by omega), if_pos (by omega), rdS_at h]
theorem begins_end (v : ByteArray) {L : List S185} {j : Nat} (h : L.length ≤ j) : bureauref02_begins.f v L (j : Int) = some (v.size : Int) := by
  unfold bureauref02_begins.f
  rw [if_pos (by omega), if_neg (by omega)]
theorem ralign_ev (v : ByteArray) (hv : v.size ≤ 100000000) (a : Int) : Ev (fun k => bureauref02_Align.f k v a) (alignS v a : Int) := by
  unfold bureauref02_Align.f
  obtain ⟨idx, h1, h2⟩ := which_ev v hv a
  refine Ev.bind (signs_ev v hv) (Ev.bind h1 ?_)
  unfold alignS
  rcases h2 with ⟨h3, h4⟩ | ⟨h3, h4, h5, h6, h7⟩
  · rw [if_neg (by omega), begins_end v (by omega)]
    exact Ev.now _
  · rw [if_pos h3, begins_at v h5]
    exact Ev.now _
theorem rnext_ev (v : ByteArray) (hv : v.size ≤ 100000000) (a : Int) : Ev (fun k => bureauref02_Next.f k v a) (nextS v a : Int) := by
  unfold bureauref02_Next.f
  obtain ⟨idx, h1, h2⟩ := which_ev v hv a
  have hL : (signsL v).length ≤ v.size := sgL_len v _ _
  refine Ev.bind (signs_ev v hv) (Ev.bind h1 ?_)
  unfold nextS
  have hidx : idx ≤ (signsL v).length := by rcases h2 with ⟨_, h⟩ | ⟨_, h, _⟩ <;> omega
  rw [wnat (x := (idx : Int) + 1) (n := idx + 1) (by omega) (by omega)]
  rcases h2 with ⟨h3, h4⟩ | ⟨h3, h4, h5, h6, h7⟩
  · rw [if_neg (by omega), begins_end v (by omega)]
    exact Ev.now _
  · rw [if_pos h3]
    by_cases hn : (signsL v).length ≤ idx + 1
    · rw [begins_end v hn, ← h6 hn]
      exact Ev.now _
    · have h8 : (signsL v)[idx + 1]? = some ((signsL v)[idx + 1]'(by omega)) := List.getElem?_eq_getElem (by omega)
      rw [begins_at v h8, h7 _ h8]
      exact Ev.now _
end Go.Proofs.YtjkfkiebhgkolaaGreatDoor.PB
end

section
namespace Go.Proofs.YtjkfkiebhgkolaaGreatDoor.PB
open Go.RowKit Go.Proofs.YtjkfkiebhgkolaaGreatDoorW.PrintWords Go.Proofs.YtjkfkiebhgkolaaGreatDoorW.PrintLast Go.Proofs.YtjkfkiebhgkolaaGreatDoorW.PrintMore
attribute [local go_sem] max2_int min2_int max_two min_two max_three min_three max_four min_four   
set_option linter.unusedVariables false
set_option linter.unusedSimpArgs false
mutual
def glyph_Align.l0 : Nat → ByteArray → Int → Int → Option (Int)
 | 0, _, _, _ => none
 | k + 1, x0, x1, x5 => if x5 < 4 then (glyph_Align.j1 k x0 x1 x5 (decide (x5 ≤ x1))) else (glyph_Align.j1 k x0 x1 x5 false)
def glyph_Align.j1 : Nat → ByteArray → Int → Int → Bool → Option (Int)
 | 0, _, _, _, _ => none
 | k + 1, x0, x1, x5, x22 => if x22 = true then (if 0 ≤ (wrap64 (x1 - x5)) then (if (wrap64 (x1 - x5)) < (x0.size : Int) then ((utf8_RuneStart.f (bt x0 (wrap64 (x1 - x5)))).bind fun t186 => (if t186 = true then (if (wrap64 (x1 - x5)) ≤ (x0.size : Int) then ((utf8_DecodeRuneInString.f (x0.extract ((wrap64 (x1 - x5)) : Int).toNat x0.size)).bind fun bt187 => (if bt187.2 > x5 then (some (wrap64 (x1 - x5))) else (some x1))) else (none)) else (glyph_Align.l0 k x0 x1 (wrap64 (x5 + 1))))) else (none)) else (none)) else (some x1)
end
def glyph_Align.f (k : Nat) (a0 : ByteArray) (a1 : Int) : Option (Int) := if a1 < 0 then (some 0) else (if a1 ≥ (a0.size : Int) then (some (a0.size : Int)) else (glyph_Align.l0 k a0 a1 0))
set_option maxHeartbeats 8000000 in
set_option maxRecDepth 100000 in
theorem glyph_Align.calls (k : Nat) (a0 : ByteArray) (a1 : Int) (r : Int) (w : World) (hMX : NumOk w) (h : glyph_Align.f k a0 a1 = some r) :
  Calls Tryz.prog 43 #[.string a0, .int .i64 a1] w fun e w' => e = .returned (.int .i64 r) ∧ Below w.heap.size w w' := by
 have HMX := aM hMX
 clear hMX
 have HB := aM (Below.refl w.heap.size w)
 have H : (if a1 < 0 then (some 0) else (if a1 ≥ (a0.size : Int) then (some (a0.size : Int)) else (glyph_Align.l0 k a0 a1 0))) = some r := h
 clear h
 by_cases c3 : a1 < 0
 ·rw [if_pos c3] at H
  have c3b0 : decide (a1 < 0) = true := decide_eq_true c3
  clear c3
  obtain rfl := Option.some.inj H
  go_enter Tryz.func43, Tryz.ntmps43
  go_wp2
  go_ret
  exact ⟨by first | rfl | (simp [errW_none, errW_some] <;> rfl) | (simp [*, errW_none, errW_some] <;> rfl), by exact ey HB.out⟩
 ·rw [if_neg c3] at H
  have c3b0 : decide (a1 < 0) = false := decide_eq_false c3
  clear c3
  by_cases c4 : a1 ≥ (a0.size : Int)
  ·rw [if_pos c4] at H
   have c4b0 : decide ((a0.size : Int) ≤ a1) = true := decide_eq_true c4
   clear c4
   obtain rfl := Option.some.inj H
   go_enter Tryz.func43, Tryz.ntmps43
   go_wp2
   go_ret
   exact ⟨by first | rfl | (simp [errW_none, errW_some] <;> rfl) | (simp [*, errW_none, errW_some] <;> rfl), by exact ey HB.out⟩
  ·rw [if_neg c4] at H
   have c4b0 : decide ((a0.size : Int) ≤ a1) = false := decide_eq_false c4
   clear c4
   have H' := aM H
   clear H
   go_enter Tryz.func43, Tryz.ntmps43
   go_wp2
   go_loopg [5] k (fun kq v5 w' => ∃ (x5_1 : Int), v5 = .int .i64 x5_1 ∧ Aside0 (glyph_Align.l0 kq a0 a1 x5_1 = some r) ∧ Aside0 (kq ≤ k) ∧ Aside0 (Below w.heap.size w w'))
   case atStart => exact ⟨(0), (by first | rfl | (simp; done) | (simp [*]; done)), H', ⟨Nat.le_refl _⟩, ⟨by exact ey HB.out⟩⟩
   case round =>
    clear H'
    try clear p2
    try clear c3
    try clear c3b0
    try clear c4
    try clear c4b0
    obtain ⟨x5_1, rfl, HA, HK1, HB⟩ := hrel
    cases gk with
    | zero => exact absurd HA.out (by simp [glyph_Align.l0])
    | succ k1 =>
     have H := HA.out
     clear HA
     simp only [glyph_Align.l0] at H
     have HC5 := aM H
     clear H
     go_upto_region 6 with (fail)
     go_cut [22] (fun v22 wc => ∃ (kq : Nat) (x22_4 : Bool), v22 = .bool x22_4 ∧ Aside0 (glyph_Align.j1 kq a0 a1 x5_1 x22_4 = some r) ∧ Aside0 (kq ≤ k1) ∧ Aside0 (Below w.heap.size w wc))
     case first =>
      have H := HC5.out
      clear HC5
      by_cases c6 : x5_1 < 4
      ·rw [if_pos c6] at H
       have c6b0 : decide (x5_1 < 4) = true := decide_eq_true c6
       clear c6
       (first | rw [c6b0] | (simp only [i64_w, i32_w]; rw [c6b0]) | skip)
       have H' := aM H
       clear H
       go_wp2
       go_meet
       case rel => exact ⟨_, (decide (x5_1 ≤ a1)), (by first | rfl | (simp; done) | (simp [*]; done)), H', ⟨by have := HK1.out; first | omega | exact Nat.le_refl _⟩, ⟨by exact ey HB.out⟩⟩
      ·rw [if_neg c6] at H
       have c6b0 : decide (x5_1 < 4) = false := decide_eq_false c6
       clear c6
       (first | rw [c6b0] | (simp only [i64_w, i32_w]; rw [c6b0]) | skip)
       have H' := aM H
       clear H
       go_wp2
       go_meet
       case rel => exact ⟨_, (false), (by first | rfl | (simp; done) | (simp [*]; done)), H', ⟨by have := HK1.out; first | omega | exact Nat.le_refl _⟩, ⟨by exact ey HB.out⟩⟩
     case rest =>
      clear HC5
      try clear p2
      try clear c3
      try clear c3b0
      try clear c4
      try clear c4b0
      try clear c6
      try clear c6b0
      try clear p2
      obtain ⟨kq, x22_4, rfl, HA, HJ4, HB⟩ := hcut
      cases kq with
      | zero => exact absurd HA.out (by simp [glyph_Align.j1])
      | succ kj4 =>
       have H := HA.out
       clear HA
       simp only [glyph_Align.j1] at H
       by_cases c7 : x22_4 = true
       ·subst c7
        have H1 : (if 0 ≤ (wrap64 (a1 - x5_1)) then (if (wrap64 (a1 - x5_1)) < (a0.size : Int) then ((utf8_RuneStart.f (bt a0 (wrap64 (a1 - x5_1)))).bind fun t186 => (if t186 = true then (if (wrap64 (a1 - x5_1)) ≤ (a0.size : Int) then ((utf8_DecodeRuneInString.f (a0.extract ((wrap64 (a1 - x5_1)) : Int).toNat a0.size)).bind fun bt187 => (if bt187.2 > x5_1 then (some (wrap64 (a1 - x5_1))) else (some a1))) else (none)) else (glyph_Align.l0 kj4 a0 a1 (wrap64 (x5_1 + 1))))) else (none)) else (none)) = some r := by rw [if_pos rfl] at H; exact H
        clear H
        have H := H1
        clear H1
        obtain ⟨ji8, hji8⟩ : ∃ j_ : Int, (wrap64 (a1 - x5_1)) = j_ := ⟨_, rfl⟩
        replace H : (if 0 ≤ (ji8) then (if (ji8) < (a0.size : Int) then ((utf8_RuneStart.f (bt a0 (ji8))).bind fun t186 => (if t186 = true then (if (ji8) ≤ (a0.size : Int) then ((utf8_DecodeRuneInString.f (a0.extract ((ji8) : Int).toNat a0.size)).bind fun bt187 => (if bt187.2 > x5_1 then (some ji8) else (some a1))) else (none)) else (glyph_Align.l0 kj4 a0 a1 (wrap64 (x5_1 + 1))))) else (none)) else (none)) = some r := by first | (rw [hji8] at H; exact H) | (simp only [hji8] at H ⊢; exact H)
        have hji8w : (IntKind.i64.wrap (a1 - x5_1)) = ji8 := (i64_w _).trans hji8
        by_cases c9 : 0 ≤ (ji8)
        ·rw [if_pos c9] at H
         have c9b0 : decide (0 ≤ (ji8)) = true := decide_eq_true c9
         clear c9
         by_cases c10 : (ji8) < (a0.size : Int)
         ·rw [if_pos c10] at H
          have c10b0 : decide ((ji8) < (a0.size : Int)) = true := decide_eq_true c10
          clear c10
          replace H := Option.bind_eq_some_iff.mp H
          obtain ⟨t186, A120, H⟩ := H
          replace H : (if t186 = true then (if (ji8) ≤ (a0.size : Int) then ((utf8_DecodeRuneInString.f (a0.extract ((ji8) : Int).toNat a0.size)).bind fun bt187 => (if bt187.2 > x5_1 then (some ji8) else (some a1))) else (none)) else (glyph_Align.l0 kj4 a0 a1 (wrap64 (x5_1 + 1)))) = some r := H
          have A12 := aM A120
          clear A120
          by_cases c13 : t186 = true
          ·subst c13
           have H1 : (if (ji8) ≤ (a0.size : Int) then ((utf8_DecodeRuneInString.f (a0.extract ((ji8) : Int).toNat a0.size)).bind fun bt187 => (if bt187.2 > x5_1 then (some ji8) else (some a1))) else (none)) = some r := by rw [if_pos rfl] at H; exact H
           clear H
           have H := H1
           clear H1
           have c14b0 := eq_true (of_decide_eq_true (by first | (with_reducible assumption) | assumption) : 0 ≤ (ji8))
           by_cases c15 : (ji8) ≤ (a0.size : Int)
           ·rw [if_pos c15] at H
            have c15b0 := eq_true c15
            have c15b1 : decide ((ji8) ≤ (a0.size : Int)) = true := decide_eq_true c15
            clear c15
            replace H := Option.bind_eq_some_iff.mp H
            obtain ⟨⟨t187, t188⟩, A160, H⟩ := H
            replace H : (if t188 > x5_1 then (some ji8) else (some a1)) = some r := H
            have A16 := aM A160
            clear A160
            by_cases c17 : t188 > x5_1
            ·rw [if_pos c17] at H
             have c17b0 : decide (x5_1 < t188) = true := decide_eq_true c17
             clear c17
             obtain rfl := Option.some.inj H
             have p11 : 0 ≤ ((ji8) : Int) := of_decide_eq_true (by first | (with_reducible assumption) | assumption)
             have q11 : (ji8) < (a0.size : Int) := of_decide_eq_true (by first | (with_reducible assumption) | assumption)
             have hx11 := bt_at a0 (ji8)
             replace p11 := eq_true p11
             replace q11 := eq_true q11
             go_wp2_with (first | ((with_reducible refine gate_callee (f := 92) rfl ?_); refine goesL_ (some 30) rfl rfl Tryz.func92 (by kernel_rfl) rfl #[.int .u8 (bt a0 (ji8))] rfl (by (try simp only [mT, mC, mN]); first | done | (simp only [hji8]; rfl) | rfl | (simp only [lD, lT]; rfl)) ?_; (with_reducible refine (utf8_RuneStart.calls (bt a0 (ji8)) true _ A12.out).mono ?_); rintro e w18 ⟨rfl, hb⟩; refine ⟨_, rfl, ?_⟩; have n0_ := aM (bP (ey HB.out) hb); clear HB; have HB := n0_; clear n0_; (try clear hb); (try clear hb2); (try clear hk); (try clear hi)) | ((with_reducible refine gate_callee (f := 93) rfl ?_); refine goesL_ (some 38) rfl rfl Tryz.func93 (by kernel_rfl) rfl #[.string (a0.extract ((ji8) : Int).toNat a0.size)] rfl (by (try simp only [mT, mC, mN]); first | done | (simp only [hji8]; rfl) | rfl | (simp only [lD, lT]; rfl)) ?_; (with_reducible refine (utf8_DecodeRuneInString.calls (a0.extract ((ji8) : Int).toNat a0.size) t187 t188 _ ?mx46 A16.out).mono ?_); (case mx46 => exact NumOk.below HMX.out (ey HB.out)); rintro e w19 ⟨rfl, hb⟩; refine ⟨_, rfl, ?_⟩; have n0_ := aM (bP (ey HB.out) hb); clear HB; have HB := n0_; clear n0_; (try clear hb); (try clear hb2); (try clear hk); (try clear hi)))
             go_ret
             exact ⟨by first | rfl | (simp [errW_none, errW_some] <;> rfl) | (simp only [← hji8]; first | rfl | (simp [errW_none, errW_some] <;> rfl)) | (simp [*, errW_none, errW_some] <;> rfl), by exact ey HB.out⟩
            ·rw [if_neg c17] at H
             have c17b0 : decide (x5_1 < t188) = false := decide_eq_false c17
             clear c17
             obtain rfl := Option.some.inj H
             have p11 : 0 ≤ ((ji8) : Int) := of_decide_eq_true (by first | (with_reducible assumption) | assumption)
             have q11 : (ji8) < (a0.size : Int) := of_decide_eq_true (by first | (with_reducible assumption) | assumption)
             have hx11 := bt_at a0 (ji8)
             replace p11 := eq_true p11
             replace q11 := eq_true q11
             go_wp2_with (first | ((with_reducible refine gate_callee (f := 92) rfl ?_); refine goesL_ (some 30) rfl rfl Tryz.func92 (by kernel_rfl) rfl #[.int .u8 (bt a0 (ji8))] rfl (by (try simp only [mT, mC, mN]); first | done | (simp only [hji8]; rfl) | rfl | (simp only [lD, lT]; rfl)) ?_; (with_reducible refine (utf8_RuneStart.calls (bt a0 (ji8)) true _ A12.out).mono ?_); rintro e w20 ⟨rfl, hb⟩; refine ⟨_, rfl, ?_⟩; have n0_ := aM (bP (ey HB.out) hb); clear HB; have HB := n0_; clear n0_; (try clear hb); (try clear hb2); (try clear hk); (try clear hi)) | ((with_reducible refine gate_callee (f := 93) rfl ?_); refine goesL_ (some 38) rfl rfl Tryz.func93 (by kernel_rfl) rfl #[.string (a0.extract ((ji8) : Int).toNat a0.size)] rfl (by (try simp only [mT, mC, mN]); first | done | (simp only [hji8]; rfl) | rfl | (simp only [lD, lT]; rfl)) ?_; (with_reducible refine (utf8_DecodeRuneInString.calls (a0.extract ((ji8) : Int).toNat a0.size) t187 t188 _ ?mx47 A16.out).mono ?_); (case mx47 => exact NumOk.below HMX.out (ey HB.out)); rintro e w21 ⟨rfl, hb⟩; refine ⟨_, rfl, ?_⟩; have n0_ := aM (bP (ey HB.out) hb); clear HB; have HB := n0_; clear n0_; (try clear hb); (try clear hb2); (try clear hk); (try clear hi)))
             go_ret
             exact ⟨by first | rfl | (simp [errW_none, errW_some] <;> rfl) | (simp only [← hji8]; first | rfl | (simp [errW_none, errW_some] <;> rfl)) | (simp [*, errW_none, errW_some] <;> rfl), by exact ey HB.out⟩
           ·rw [if_neg c15] at H
            exact absurd H (by simp)
          ·replace c13 := Bool.eq_false_iff.mpr c13
           subst c13
           have H1 : (glyph_Align.l0 kj4 a0 a1 (wrap64 (x5_1 + 1))) = some r := by rw [if_neg (show ¬ (false = true) by decide)] at H; exact H
           clear H
           have H := H1
           clear H1
           have H' := aM H
           clear H
           have p11 : 0 ≤ ((ji8) : Int) := of_decide_eq_true (by first | (with_reducible assumption) | assumption)
           have q11 : (ji8) < (a0.size : Int) := of_decide_eq_true (by first | (with_reducible assumption) | assumption)
           have hx11 := bt_at a0 (ji8)
           replace p11 := eq_true p11
           replace q11 := eq_true q11
           go_wp2_with (first | ((with_reducible refine gate_callee (f := 92) rfl ?_); refine goesL_ (some 30) rfl rfl Tryz.func92 (by kernel_rfl) rfl #[.int .u8 (bt a0 (ji8))] rfl (by (try simp only [mT, mC, mN]); first | done | (simp only [hji8]; rfl) | rfl | (simp only [lD, lT]; rfl)) ?_; (with_reducible refine (utf8_RuneStart.calls (bt a0 (ji8)) false _ A12.out).mono ?_); rintro e w22 ⟨rfl, hb⟩; refine ⟨_, rfl, ?_⟩; have n0_ := aM (bP (ey HB.out) hb); clear HB; have HB := n0_; clear n0_; (try clear hb); (try clear hb2); (try clear hk); (try clear hi)))
           go_roundg kj4
           case measure => have := HK1.out; have := HJ4.out; omega
           case rel => exact ⟨(wrap64 (x5_1 + 1)), (by first | rfl | (simp; done) | (simp [*]; done)), H', ⟨by have := HK1.out; have := HJ4.out; omega⟩, ⟨by exact ey HB.out⟩⟩
         ·rw [if_neg c10] at H
          exact absurd H (by simp)
        ·rw [if_neg c9] at H
         exact absurd H (by simp)
       ·replace c7 := Bool.eq_false_iff.mpr c7
        subst c7
        have H1 : (some a1) = some r := by rw [if_neg (show ¬ (false = true) by decide)] at H; exact H
        clear H
        have H := H1
        clear H1
        obtain rfl := Option.some.inj H
        go_wp2
        go_ret
        exact ⟨by first | rfl | (simp [errW_none, errW_some] <;> rfl) | (simp [*, errW_none, errW_some] <;> rfl), by exact ey HB.out⟩
end Go.Proofs.YtjkfkiebhgkolaaGreatDoor.PB
end

section
namespace Go.Proofs.YtjkfkiebhgkolaaGreatDoor.PB
open Go.RowKit Go.Proofs.YtjkfkiebhgkolaaGreatDoorW.PrintWords Go.Proofs.YtjkfkiebhgkolaaGreatDoorW.PrintLast Go.Proofs.YtjkfkiebhgkolaaGreatDoorW.PrintMore
attribute [local go_sem] max2_int min2_int max_two min_two max_three min_three max_four min_four   
set_option linter.unusedVariables false
set_option linter.unusedSimpArgs false
def glyph_At.f (k : Nat) (a0 : ByteArray) (a1 : Int) : Option (Int × Int) := (glyph_Align.f k a0 a1).bind fun t208 => (if t208 = (a0.size : Int) then (some (0, 0)) else (if 0 ≤ t208 then (if t208 ≤ (a0.size : Int) then ((utf8_DecodeRuneInString.f (a0.extract (t208 : Int).toNat a0.size)).bind fun bt209 => (some (bt209.1, bt209.2))) else (none)) else (none)))
set_option maxHeartbeats 8000000 in
set_option maxRecDepth 100000 in
theorem glyph_At.calls (k : Nat) (a0 : ByteArray) (a1 : Int) (r1 : Int) (r2 : Int) (w : World) (hMX : NumOk w) (h : glyph_At.f k a0 a1 = some (r1, r2)) :
  Calls Tryz.prog 96 #[.string a0, .int .i64 a1] w fun e w' => e = .returned (.tuple #[.int .i32 r1, .int .i64 r2]) ∧ Below w.heap.size w w' := by
 have HMX := aM hMX
 clear hMX
 have HB := aM (Below.refl w.heap.size w)
 have H : ((glyph_Align.f k a0 a1).bind fun t208 => (if t208 = (a0.size : Int) then (some (0, 0)) else (if 0 ≤ t208 then (if t208 ≤ (a0.size : Int) then ((utf8_DecodeRuneInString.f (a0.extract (t208 : Int).toNat a0.size)).bind fun bt209 => (some (bt209.1, bt209.2))) else (none)) else (none)))) = some (r1, r2) := h
 clear h
 replace H := Option.bind_eq_some_iff.mp H
 obtain ⟨t208, A30, H⟩ := H
 replace H : (if t208 = (a0.size : Int) then (some (0, 0)) else (if 0 ≤ t208 then (if t208 ≤ (a0.size : Int) then ((utf8_DecodeRuneInString.f (a0.extract (t208 : Int).toNat a0.size)).bind fun bt209 => (some (bt209.1, bt209.2))) else (none)) else (none))) = some (r1, r2) := H
 have A3 := aM A30
 clear A30
 by_cases c4 : t208 = (a0.size : Int)
 ·rw [if_pos c4] at H
  have c4b0 : (t208 == (a0.size : Int)) = true := beq_iff_eq.mpr c4
  have c4b1 : (t208 != (a0.size : Int)) = false := bne_eq_false_iff_eq.mpr c4
  clear c4
  simp only [Option.some.injEq, Prod.mk.injEq] at H
  obtain ⟨rfl, rfl⟩ := H
  go_enter Tryz.func96, Tryz.ntmps96
  go_wp2_with (first | ((with_reducible refine gate_callee (f := 43) rfl ?_); refine goesL_ (some 8) rfl rfl Tryz.func43 (by kernel_rfl) rfl #[.string a0, .int .i64 a1] rfl (by (try simp only [mT, mC, mN]); first | done | rfl | (simp only [lD, lT]; rfl)) ?_; (with_reducible refine (glyph_Align.calls k a0 a1 t208 _ ?mx48 A3.out).mono ?_); (case mx48 => exact NumOk.below HMX.out (ey HB.out)); rintro e w5 ⟨rfl, hb⟩; refine ⟨_, rfl, ?_⟩; have n0_ := aM (bP (ey HB.out) hb); clear HB; have HB := n0_; clear n0_; (try clear hb); (try clear hb2); (try clear hk); (try clear hi)))
  go_ret2
  exact ⟨by first | rfl | (simp [errW_none, errW_some] <;> rfl) | (simp [*, errW_none, errW_some] <;> rfl), by exact ey HB.out⟩
 ·rw [if_neg c4] at H
  have c4b0 : (t208 == (a0.size : Int)) = false := beq_eq_false_iff_ne.mpr c4
  have c4b1 : (t208 != (a0.size : Int)) = true := bne_iff_ne.mpr c4
  by_cases c6 : 0 ≤ t208
  ·rw [if_pos c6] at H
   have c6b0 := eq_true c6
   have c6b1 : decide (0 ≤ t208) = true := decide_eq_true c6
   clear c6
   by_cases c7 : t208 ≤ (a0.size : Int)
   ·rw [if_pos c7] at H
    have c7b0 := eq_true c7
    have c7b1 : decide (t208 ≤ (a0.size : Int)) = true := decide_eq_true c7
    clear c7
    replace H := Option.bind_eq_some_iff.mp H
    obtain ⟨⟨t209, t210⟩, A80, H⟩ := H
    replace H : (some (t209, t210)) = some (r1, r2) := H
    have A8 := aM A80
    clear A80
    simp only [Option.some.injEq, Prod.mk.injEq] at H
    obtain ⟨rfl, rfl⟩ := H
    go_enter Tryz.func96, Tryz.ntmps96
    go_wp2_with (first | ((with_reducible refine gate_callee (f := 43) rfl ?_); refine goesL_ (some 8) rfl rfl Tryz.func43 (by kernel_rfl) rfl #[.string a0, .int .i64 a1] rfl (by (try simp only [mT, mC, mN]); first | done | rfl | (simp only [lD, lT]; rfl)) ?_; (with_reducible refine (glyph_Align.calls k a0 a1 t208 _ ?mx49 A3.out).mono ?_); (case mx49 => exact NumOk.below HMX.out (ey HB.out)); rintro e w9 ⟨rfl, hb⟩; refine ⟨_, rfl, ?_⟩; have n0_ := aM (bP (ey HB.out) hb); clear HB; have HB := n0_; clear n0_; (try clear hb); (try clear hb2); (try clear hk); (try clear hi)) | ((with_reducible refine gate_callee (f := 93) rfl ?_); refine goesL_ (some 16) rfl rfl Tryz.func93 (by kernel_rfl) rfl #[.string (a0.extract (t208 : Int).toNat a0.size)] rfl (by (try simp only [mT, mC, mN]); first | done | rfl | (simp only [lD, lT]; rfl)) ?_; (with_reducible refine (utf8_DecodeRuneInString.calls (a0.extract (t208 : Int).toNat a0.size) t209 t210 _ ?mx50 A8.out).mono ?_); (case mx50 => exact NumOk.below HMX.out (ey HB.out)); rintro e w10 ⟨rfl, hb⟩; refine ⟨_, rfl, ?_⟩; have n0_ := aM (bP (ey HB.out) hb); clear HB; have HB := n0_; clear n0_; (try clear hb); (try clear hb2); (try clear hk); (try clear hi)))
    go_ret2
    exact ⟨by first | rfl | (simp [errW_none, errW_some] <;> rfl) | (simp [*, errW_none, errW_some] <;> rfl), by exact ey HB.out⟩
   ·rw [if_neg c7] at H
    exact absurd H (by simp)
  ·rw [if_neg c6] at H
   exact absurd H (by simp)
end Go.Proofs.YtjkfkiebhgkolaaGreatDoor.PB
end

section
namespace Go.Proofs.YtjkfkiebhgkolaaGreatDoor.PB
open Go.RowKit Go.Proofs.YtjkfkiebhgkolaaGreatDoorW.PrintWords Go.Proofs.YtjkfkiebhgkolaaGreatDoorW.PrintLast Go.Proofs.YtjkfkiebhgkolaaGreatDoorW.PrintMore
attribute [local go_sem] max2_int min2_int max_two min_two max_three min_three max_four min_four   
set_option linter.unusedVariables false
set_option linter.unusedSimpArgs false
def glyph_Next.f (k : Nat) (a0 : ByteArray) (a1 : Int) : Option (Int) := (glyph_At.f k a0 a1).bind fun bt211 => ((glyph_Align.f k a0 a1).bind fun t213 => (some (wrap64 (t213 + bt211.2))))
set_option maxHeartbeats 8000000 in
set_option maxRecDepth 100000 in
theorem glyph_Next.calls (k : Nat) (a0 : ByteArray) (a1 : Int) (r : Int) (w : World) (hMX : NumOk w) (h : glyph_Next.f k a0 a1 = some r) :
  Calls Tryz.prog 47 #[.string a0, .int .i64 a1] w fun e w' => e = .returned (.int .i64 r) ∧ Below w.heap.size w w' := by
 have HMX := aM hMX
 clear hMX
 have HB := aM (Below.refl w.heap.size w)
 have H : ((glyph_At.f k a0 a1).bind fun bt211 => ((glyph_Align.f k a0 a1).bind fun t213 => (some (wrap64 (t213 + bt211.2))))) = some r := h
 clear h
 replace H := Option.bind_eq_some_iff.mp H
 obtain ⟨⟨t211, t212⟩, A30, H⟩ := H
 replace H : ((glyph_Align.f k a0 a1).bind fun t213 => (some (wrap64 (t213 + t212)))) = some r := H
 have A3 := aM A30
 clear A30
 replace H := Option.bind_eq_some_iff.mp H
 obtain ⟨t213, A40, H⟩ := H
 replace H : (some (wrap64 (t213 + t212))) = some r := H
 have A4 := aM A40
 clear A40
 obtain rfl := Option.some.inj H
 go_enter Tryz.func47, Tryz.ntmps47
 go_wp2_with (first | ((with_reducible refine gate_callee (f := 96) rfl ?_); refine goesL_ (some 10) rfl rfl Tryz.func96 (by kernel_rfl) rfl #[.string a0, .int .i64 a1] rfl (by (try simp only [mT, mC, mN]); first | done | rfl | (simp only [lD, lT]; rfl)) ?_; (with_reducible refine (glyph_At.calls k a0 a1 t211 t212 _ ?mx51 A3.out).mono ?_); (case mx51 => exact NumOk.below HMX.out (ey HB.out)); rintro e w5 ⟨rfl, hb⟩; refine ⟨_, rfl, ?_⟩; have n0_ := aM (bP (ey HB.out) hb); clear HB; have HB := n0_; clear n0_; (try clear hb); (try clear hb2); (try clear hk); (try clear hi)) | ((with_reducible refine gate_callee (f := 43) rfl ?_); refine goesL_ (some 15) rfl rfl Tryz.func43 (by kernel_rfl) rfl #[.string a0, .int .i64 a1] rfl (by (try simp only [mT, mC, mN]); first | done | rfl | (simp only [lD, lT]; rfl)) ?_; (with_reducible refine (glyph_Align.calls k a0 a1 t213 _ ?mx52 A4.out).mono ?_); (case mx52 => exact NumOk.below HMX.out (ey HB.out)); rintro e w6 ⟨rfl, hb⟩; refine ⟨_, rfl, ?_⟩; have n0_ := aM (bP (ey HB.out) hb); clear HB; have HB := n0_; clear n0_; (try clear hb); (try clear hb2); (try clear hk); (try clear hi)))
 go_ret
 exact ⟨by first | rfl | (simp [errW_none, errW_some] <;> rfl) | (simp [*, errW_none, errW_some] <;> rfl), by exact ey HB.out⟩
end Go.Proofs.YtjkfkiebhgkolaaGreatDoor.PB
end

section
namespace Go.Proofs.YtjkfkiebhgkolaaGreatDoor.PB
open Go.RowKit Go.Proofs.YtjkfkiebhgkolaaGreatDoorW.PrintWords
set_option linter.unusedVariables false
set_option linter.unusedSimpArgs false
theorem suf_size (v : ByteArray) (p : Nat) : (v.extract p v.size).size = v.size - p := by rw [ByteArray.size_extract]; omega
theorem suf_bN (v : ByteArray) (p j : Nat) (hp : p ≤ v.size) : bN (v.extract p v.size) j = bN v (p + j) := by
  have h1 := bt_bN (v.extract p v.size) j
  have h2 := bt_bN v (p + j)
  by_cases h : p + j < v.size
  · have h3 := bt_ext v p (v.size - p) j (by omega) (by omega)
    rw [show p + (v.size - p) = v.size by omega] at h3
    rw [h1] at h3
    exact_mod_cast h3
  · have e1 : bt (v.extract p v.size) (j : Int) = 0 := by unfold bt; rw [dif_neg (by rw [Int.toNat_natCast, suf_size]; omega)]
    have e2 : bt v ((p + j : Nat) : Int) = 0 := by unfold bt; rw [dif_neg (by rw [Int.toNat_natCast]; omega)]
    rw [e1] at h1
    rw [e2] at h2
    omega
theorem suf_dec (v : ByteArray) (p : Nat) (hp : p < v.size) : Lib.decodeGo (v.extract p v.size) = Utf8.decode v p := by
  unfold Lib.decodeGo
  rw [if_neg (by rw [suf_size]; omega), sg_at, sg_at, suf_size, suf_bN v p _ (by omega), suf_bN v p _ (by omega), suf_bN v p _ (by omega), suf_bN v p _ (by omega)]
  simp only [Nat.sub_zero, Nat.add_zero, Nat.zero_add]
theorem runeStart_f (v : ByteArray) (p : Nat) : utf8_RuneStart.f (bt v (p : Int)) = some (decide (bN v p / 64 ≠ 2)) := by
  have := bN_lt v p
  unfold utf8_RuneStart.f
  rw [bt_bN, if_pos (by omega)]
  congr 1
  unfold Lib.runeStart
  rw [Bool.eq_iff_iff]
  simp
  omega
theorem decode_f (v : ByteArray) (p : Nat) (hp : p < v.size) : utf8_DecodeRuneInString.f (v.extract p v.size) = some ((sgR v p : Int), (sgW v p : Int)) := by
  unfold utf8_DecodeRuneInString.f sgR sgW
  rw [suf_dec v p hp]
theorem galign_ev (v : ByteArray) (hv : v.size ≤ 100000000) (a : Int) : Ev (fun k => glyph_Align.f k v a) (alignS v a : Int) := by
  unfold glyph_Align.f
  by_cases h0 : a < 0
  · refine Ev.pos h0 (ev_val (Ev.now _) ?_)
    unfold alignS
    rw [show a.toNat = 0 by omega]
    split
    · rw [align_self .zero (by omega)]; rfl
    · omega
  refine Ev.neg h0 ?_
  by_cases h1 : a ≥ (v.size : Int)
  · refine Ev.pos h1 (ev_val (Ev.now _) ?_)
    unfold alignS
    rw [if_neg (by omega)]
  refine Ev.neg h1 ?_
  obtain ⟨n, rfl⟩ : ∃ n : Nat, a = (n : Int) := ⟨a.toNat, by omega⟩
  have hn : n < v.size := by omega
  unfold alignS
  rw [Int.toNat_natCast, if_pos hn, ← back_is hn]
  have loop : ∀ (f j : Nat), f + j = 4 → Ev (fun k => glyph_Align.l0 k v (n : Int) (j : Int)) (backN v n f j : Int) := by
    intro f
    induction f with
    | zero =>
      intro j hj
      obtain rfl : j = 4 := by omega
      refine Ev.step (fun k => by simp only [glyph_Align.l0]; rfl) (Ev.neg (by decide) ?_)
      exact Ev.step (fun k => by simp only [glyph_Align.j1]; rfl) (Ev.neg (by decide) (Ev.now _))
    | succ f ih =>
      intro j hj
      refine Ev.step (fun k => by simp only [glyph_Align.l0]; rfl) (Ev.pos (by omega) ?_)
      refine Ev.step (fun k => by simp only [glyph_Align.j1]; rfl) ?_
      unfold backN
      by_cases hc : n < j
      · rw [if_pos hc]
        exact Ev.neg (by rw [decide_eq_false (by omega)]; decide) (Ev.now _)
      · rw [if_neg hc]
        have e : wrap64 ((n : Int) - (j : Int)) = ((n - j : Nat) : Int) := wnat (by omega) (by omega)
        rw [e]
        refine Ev.pos (decide_eq_true (by omega)) (Ev.pos (by omega) (Ev.pos (by omega) ?_))
        rw [runeStart_f]
        refine Ev.bind (Ev.now _) ?_
        by_cases h2 : bN v (n - j) / 64 = 2
        · rw [if_pos h2]
          refine Ev.neg (by rw [decide_eq_false (by simpa using h2)]; decide) ?_
          rw [wnat (x := (j : Int) + 1) (n := j + 1) (by omega) (by omega)]
          exact ih (j + 1) (by omega)
        · rw [if_neg h2]
          refine Ev.pos (decide_eq_true h2) (Ev.pos (by omega) ?_)
          rw [Int.toNat_natCast, decode_f v (n - j) (by omega)]
          refine Ev.bind (Ev.now _) ?_
          by_cases h3 : j < sgW v (n - j)
          · rw [if_pos h3]
            exact Ev.pos (by show (sgW v (n - j) : Int) > (j : Int); omega) (Ev.now _)
          · rw [if_neg h3]
            exact Ev.neg (by show ¬ (sgW v (n - j) : Int) > (j : Int); omega) (Ev.now _)
  exact loop 4 0 rfl
theorem alignS_le (v : ByteArray) (a : Int) : alignS v a ≤ v.size := by
  unfold alignS
  split
  · rename_i h
    have := (align_spec v a.toNat h).2.1
    omega
  · exact Nat.le_refl _
theorem alignS_lt (v : ByteArray) (a : Int) : alignS v a < v.size ↔ a.toNat < v.size := by
  unfold alignS
  split
  · rename_i h
    have := (align_spec v a.toNat h).2.1
    omega
  · omega
theorem gat_ev (v : ByteArray) (hv : v.size ≤ 100000000) (a : Int) : Ev (fun k => glyph_At.f k v a) (((atG v a).1 : Int), ((atG v a).2 : Int)) := by
  unfold glyph_At.f
  refine Ev.bind (galign_ev v hv a) ?_
  by_cases h : a.toNat < v.size
  · have h1 := (alignS_lt v a).2 h
    refine Ev.neg (by omega) (Ev.pos (by omega) (Ev.pos (by omega) ?_))
    rw [Int.toNat_natCast, decode_f v _ h1, show atG v a = (sgR v (alignN v a.toNat), sgW v (alignN v a.toNat)) from if_pos h, show alignS v a = alignN v a.toNat from if_pos h]
    exact Ev.bind (Ev.now _) (Ev.now _)
  · rw [show atG v a = (0, 0) from if_neg h, show alignS v a = v.size from if_neg h]
    exact Ev.pos rfl (Ev.now _)
theorem gnext_ev (v : ByteArray) (hv : v.size ≤ 100000000) (a : Int) : Ev (fun k => glyph_Next.f k v a) (nextS v a : Int) := by
  unfold glyph_Next.f
  refine Ev.bind (gat_ev v hv a) (Ev.bind (galign_ev v hv a) (ev_val (Ev.now _) ?_))
  by_cases h : a.toNat < v.size
  · have h1 := align_spec v a.toNat h
    have h2 := sg_width v (alignN v a.toNat) (by omega)
    rw [show atG v a = (sgR v (alignN v a.toNat), sgW v (alignN v a.toNat)) from if_pos h, show alignS v a = alignN v a.toNat from if_pos h, show nextS v a = alignN v a.toNat + sgW v (alignN v a.toNat) from if_pos h]
    exact wnat (by show (alignN v a.toNat : Int) + (sgW v (alignN v a.toNat) : Int) = _; omega) (by show (alignN v a.toNat : Int) + (sgW v (alignN v a.toNat) : Int) ≤ _; omega)
  · rw [show atG v a = (0, 0) from if_neg h, show alignS v a = v.size from if_neg h, show nextS v a = v.size from if_neg h]
    exact wnat (by show (v.size : Int) + ((0 : Nat) : Int) = _; omega) (by show (v.size : Int) + ((0 : Nat) : Int) ≤ _; omega)
end Go.Proofs.YtjkfkiebhgkolaaGreatDoor.PB
end

section
namespace Go.Proofs.YtjkfkiebhgkolaaGreatDoor.PB
open Go.RowKit Go.Proofs.YtjkfkiebhgkolaaGreatDoorW.PrintWords Go.Proofs.YtjkfkiebhgkolaaGreatDoorW.PrintLast Go.Proofs.YtjkfkiebhgkolaaGreatDoorW.PrintMore
attribute [local go_sem] max2_int min2_int max_two min_two max_three min_three max_four min_four   
set_option linter.unusedVariables false
set_option linter.unusedSimpArgs false
def line_Of.f (a0 : ByteArray) (a1 : Int) : Option (Int) := if 0 ≤ (mn (mx a1 0) (a0.size : Int)) then (if (mn (mx a1 0) (a0.size : Int)) ≤ (a0.size : Int) then ((strings_Count.f (a0.extract 0 ((mn (mx a1 0) (a0.size : Int)) : Int).toNat) (⟨#[10]⟩ : ByteArray)).bind fun t205 => (some t205)) else (none)) else (none)
set_option maxHeartbeats 8000000 in
set_option maxRecDepth 100000 in
theorem line_Of.calls (a0 : ByteArray) (a1 : Int) (r : Int) (w : World) (h : line_Of.f a0 a1 = some r) :
  Calls Tryz.prog 45 #[.string a0, .int .i64 a1] w fun e w' => e = .returned (.int .i64 r) ∧ Below w.heap.size w w' := by
 have HB := aM (Below.refl w.heap.size w)
 have H : (if 0 ≤ (mn (mx a1 0) (a0.size : Int)) then (if (mn (mx a1 0) (a0.size : Int)) ≤ (a0.size : Int) then ((strings_Count.f (a0.extract 0 ((mn (mx a1 0) (a0.size : Int)) : Int).toNat) (⟨#[10]⟩ : ByteArray)).bind fun t205 => (some t205)) else (none)) else (none)) = some r := h
 clear h
 obtain ⟨ji3, hji3⟩ : ∃ j_ : Int, (mx a1 0) = j_ := ⟨_, rfl⟩
 replace H : (if 0 ≤ (mn (ji3) (a0.size : Int)) then (if (mn (ji3) (a0.size : Int)) ≤ (a0.size : Int) then ((strings_Count.f (a0.extract 0 ((mn (ji3) (a0.size : Int)) : Int).toNat) (⟨#[10]⟩ : ByteArray)).bind fun t205 => (some t205)) else (none)) else (none)) = some r := by first | (rw [hji3] at H; exact H) | (simp only [hji3] at H ⊢; exact H)
 (try (have hji3l : 0 ≤ ji3 := by (rw [← hji3]; unfold mx; (repeat' split) <;> omega)))
 (try (have hji3m : 0 ≤ ji3 := by omega))
 have hji3_ : (if a1 < 0 then 0 else a1) = ji3 := hji3
 obtain ⟨ji4, hji4⟩ : ∃ j_ : Int, (mn (ji3) (a0.size : Int)) = j_ := ⟨_, rfl⟩
 replace H : (if 0 ≤ (ji4) then (if (ji4) ≤ (a0.size : Int) then ((strings_Count.f (a0.extract 0 ((ji4) : Int).toNat) (⟨#[10]⟩ : ByteArray)).bind fun t205 => (some t205)) else (none)) else (none)) = some r := by first | (rw [hji4] at H; exact H) | (simp only [hji4] at H ⊢; exact H)
 have hji4_ : (if (a0.size : Int) < (ji3) then (a0.size : Int) else (ji3)) = ji4 := hji4
 by_cases c5 : 0 ≤ (ji4)
 ·rw [if_pos c5] at H
  have c5b0 := eq_true c5
  have c5b1 : decide (0 ≤ (ji4)) = true := decide_eq_true c5
  clear c5
  by_cases c6 : (ji4) ≤ (a0.size : Int)
  ·rw [if_pos c6] at H
   have c6b0 := eq_true c6
   have c6b1 : decide ((ji4) ≤ (a0.size : Int)) = true := decide_eq_true c6
   clear c6
   replace H := Option.bind_eq_some_iff.mp H
   obtain ⟨t205, A70, H⟩ := H
   replace H : (some t205) = some r := H
   have A7 := aM A70
   clear A70
   obtain rfl := Option.some.inj H
   go_enter Tryz.func45, Tryz.ntmps45
   go_wp2_with (first | ((with_reducible refine gate_callee (f := 95) rfl ?_); refine goesL_ (some 12) rfl rfl Tryz.func95 (by kernel_rfl) rfl #[.string (a0.extract 0 ((ji4) : Int).toNat), .string (⟨#[10]⟩ : ByteArray)] rfl (by (try simp only [mT, mC, mN]); first | done | (simp only [hji4]; rfl) | rfl | (simp only [lD, lT]; rfl)) ?_; (with_reducible refine (strings_Count.calls (a0.extract 0 ((ji4) : Int).toNat) (⟨#[10]⟩ : ByteArray) t205 _ A7.out).mono ?_); rintro e w8 ⟨rfl, hb⟩; refine ⟨_, rfl, ?_⟩; have n0_ := aM (bP (ey HB.out) hb); clear HB; have HB := n0_; clear n0_; (try clear hb); (try clear hb2); (try clear hk); (try clear hi)))
   go_ret
   exact ⟨by first | rfl | (simp [errW_none, errW_some] <;> rfl) | (simp only [← hji3, ← hji4]; first | rfl | (simp [errW_none, errW_some] <;> rfl)) | (simp [*, errW_none, errW_some] <;> rfl), by exact ey HB.out⟩
  ·rw [if_neg c6] at H
   exact absurd H (by simp)
 ·rw [if_neg c5] at H
  exact absurd H (by simp)
end Go.Proofs.YtjkfkiebhgkolaaGreatDoor.PB
end

section
namespace Go.Proofs.YtjkfkiebhgkolaaGreatDoor.PB
open Go.RowKit Go.Proofs.YtjkfkiebhgkolaaGreatDoorW.PrintWords Go.Proofs.YtjkfkiebhgkolaaGreatDoorW.PrintLast Go.Proofs.YtjkfkiebhgkolaaGreatDoorW.PrintMore
attribute [local go_sem] max2_int min2_int max_two min_two max_three min_three max_four min_four   
set_option linter.unusedVariables false
set_option linter.unusedSimpArgs false
def line_into.f (k : Nat) (a0 : ByteArray) (a1 : Int) : Option (Int × Int) := (line_Count.f a0).bind fun t177 => ((line_Bounds.f k a0 (mn (mx a1 0) (wrap64 (t177 - 1)))).bind fun bt178 => (some (bt178.1, bt178.2.1)))
set_option maxHeartbeats 8000000 in
set_option maxRecDepth 100000 in
theorem line_into.calls (k : Nat) (a0 : ByteArray) (a1 : Int) (r1 : Int) (r2 : Int) (w : World) (h : line_into.f k a0 a1 = some (r1, r2)) :
  Calls Tryz.prog 126 #[.string a0, .int .i64 a1] w fun e w' => e = .returned (.tuple #[.int .i64 r1, .int .i64 r2]) ∧ Below w.heap.size w w' := by
 have HB := aM (Below.refl w.heap.size w)
 have H : ((line_Count.f a0).bind fun t177 => ((line_Bounds.f k a0 (mn (mx a1 0) (wrap64 (t177 - 1)))).bind fun bt178 => (some (bt178.1, bt178.2.1)))) = some (r1, r2) := h
 clear h
 obtain ⟨ji3, hji3⟩ : ∃ j_ : Int, (mx a1 0) = j_ := ⟨_, rfl⟩
 replace H : ((line_Count.f a0).bind fun t177 => ((line_Bounds.f k a0 (mn (ji3) (wrap64 (t177 - 1)))).bind fun bt178 => (some (bt178.1, bt178.2.1)))) = some (r1, r2) := by first | (rw [hji3] at H; exact H) | (simp only [hji3] at H ⊢; exact H)
 (try (have hji3l : 0 ≤ ji3 := by (rw [← hji3]; unfold mx; (repeat' split) <;> omega)))
 (try (have hji3m : 0 ≤ ji3 := by omega))
 have hji3_ : (if a1 < 0 then 0 else a1) = ji3 := hji3
 replace H := Option.bind_eq_some_iff.mp H
 obtain ⟨t177, A40, H⟩ := H
 replace H : ((line_Bounds.f k a0 (mn (ji3) (wrap64 (t177 - 1)))).bind fun bt178 => (some (bt178.1, bt178.2.1))) = some (r1, r2) := H
 have A4 := aM A40
 clear A40
 obtain ⟨ji5, hji5⟩ : ∃ j_ : Int, (mn (ji3) (wrap64 (t177 - 1))) = j_ := ⟨_, rfl⟩
 replace H : ((line_Bounds.f k a0 (ji5)).bind fun bt178 => (some (bt178.1, bt178.2.1))) = some (r1, r2) := by first | (rw [hji5] at H; exact H) | (simp only [hji5] at H ⊢; exact H)
 (try rw [hji5] at A4)
 have hji5_ : (if (wrap64 (t177 - 1)) < (ji3) then (wrap64 (t177 - 1)) else (ji3)) = ji5 := hji5
 replace H := Option.bind_eq_some_iff.mp H
 obtain ⟨⟨t178, t179, t180⟩, A60, H⟩ := H
 replace H : (some (t178, t179)) = some (r1, r2) := H
 have A6 := aM A60
 clear A60
 simp only [Option.some.injEq, Prod.mk.injEq] at H
 obtain ⟨rfl, rfl⟩ := H
 go_enter Tryz.func126, Tryz.ntmps126
 go_wp2_with (first | ((with_reducible refine gate_callee (f := 72) rfl ?_); refine goesL_ (some 14) rfl rfl Tryz.func72 (by kernel_rfl) rfl #[.string a0] rfl (by (try simp only [mT, mC, mN]); first | done | rfl | (simp only [lD, lT]; rfl)) ?_; (with_reducible refine (line_Count.calls a0 t177 _ A4.out).mono ?_); rintro e w7 ⟨rfl, hb⟩; refine ⟨_, rfl, ?_⟩; have n0_ := aM (bP (ey HB.out) hb); clear HB; have HB := n0_; clear n0_; (try clear hb); (try clear hb2); (try clear hk); (try clear hi)) | ((with_reducible refine gate_callee (f := 44) rfl ?_); refine goesL_ (some 17) rfl rfl Tryz.func44 (by kernel_rfl) rfl #[.string a0, .int .i64 ji5] rfl (by (try simp only [mT, mC, mN]); first | done | (simp only [hji5]; rfl) | rfl | (simp only [lD, lT]; rfl)) ?_; (with_reducible refine (line_Bounds.calls k a0 ji5 t178 t179 t180 _ A6.out).mono ?_); rintro e w8 ⟨rfl, hb⟩; refine ⟨_, rfl, ?_⟩; have n0_ := aM (bP (ey HB.out) hb); clear HB; have HB := n0_; clear n0_; (try clear hb); (try clear hb2); (try clear hk); (try clear hi)))
 go_ret2
 exact ⟨by first | rfl | (simp [errW_none, errW_some] <;> rfl) | (simp only [← hji3, ← hji5]; first | rfl | (simp [errW_none, errW_some] <;> rfl)) | (simp [*, errW_none, errW_some] <;> rfl), by exact ey HB.out⟩
end Go.Proofs.YtjkfkiebhgkolaaGreatDoor.PB
end

section
namespace Go.Proofs.YtjkfkiebhgkolaaGreatDoor.PB
open Go.RowKit Go.Proofs.YtjkfkiebhgkolaaGreatDoorW.PrintWords Go.Proofs.YtjkfkiebhgkolaaGreatDoorW.PrintLast Go.Proofs.YtjkfkiebhgkolaaGreatDoorW.PrintMore
attribute [local go_sem] max2_int min2_int max_two min_two max_three min_three max_four min_four   
set_option linter.unusedVariables false
set_option linter.unusedSimpArgs false
def line_Whole.j0 : Nat → ByteArray → Int → Int → Bool → Option (Int × Int × Int)
 | 0, _, _, _, _ => none
 | k + 1, x0, x1, x2, x25 => if x25 = true then (some (0, 0, 2)) else ((line_into.f k x0 x1).bind fun bt182 => ((line_into.f k x0 x2).bind fun bt184 => (if bt184.2 < (x0.size : Int) then (some (bt182.1, wrap64 (bt184.2 + 1), 0)) else (if x1 > 0 then (some (wrap64 (bt182.1 - 1), bt184.2, 0)) else (some (0, (x0.size : Int), 0))))))
def line_Whole.f (k : Nat) (a0 : ByteArray) (a1 : Int) (a2 : Int) : Option (Int × Int × Int) := if a1 < 0 then (line_Whole.j0 k a0 a1 a2 true) else (if a2 < a1 then (line_Whole.j0 k a0 a1 a2 true) else ((line_Count.f a0).bind fun t181 => (line_Whole.j0 k a0 a1 a2 (decide (a2 ≥ t181)))))
set_option maxHeartbeats 8000000 in
set_option maxRecDepth 100000 in
theorem line_Whole.calls (k : Nat) (a0 : ByteArray) (a1 : Int) (a2 : Int) (r1 : Int) (r2 : Int) (r3 : Int) (w : World) (h : line_Whole.f k a0 a1 a2 = some (r1, r2, r3)) :
  Calls Tryz.prog 76 #[.string a0, .int .i64 a1, .int .i64 a2] w fun e w' => e = .returned (.tuple #[.int .i64 r1, .int .i64 r2, .int .i64 r3]) ∧ Below w.heap.size w w' := by
 have HB := aM (Below.refl w.heap.size w)
 have H : (if a1 < 0 then (line_Whole.j0 k a0 a1 a2 true) else (if a2 < a1 then (line_Whole.j0 k a0 a1 a2 true) else ((line_Count.f a0).bind fun t181 => (line_Whole.j0 k a0 a1 a2 (decide (a2 ≥ t181)))))) = some (r1, r2, r3) := h
 clear h
 have HC4 := aM H
 clear H
 go_enter Tryz.func76, Tryz.ntmps76
 go_upto_region 1 with (fail)
 go_cut [25] (fun v25 wc => ∃ (kq : Nat) (x25_3 : Bool), v25 = .bool x25_3 ∧ Aside0 (line_Whole.j0 kq a0 a1 a2 x25_3 = some (r1, r2, r3)) ∧ Aside0 (kq ≤ k) ∧ Aside0 (Below w.heap.size w wc))
 case first =>
  have H := HC4.out
  clear HC4
  by_cases c5 : a1 < 0
  ·rw [if_pos c5] at H
   have c5b0 : decide (a1 < 0) = true := decide_eq_true c5
   clear c5
   (first | rw [c5b0] | (simp only [i64_w, i32_w]; rw [c5b0]) | skip)
   have H' := aM H
   clear H
   go_wp2
   go_meet
   case rel => exact ⟨_, (true), (by first | rfl | (simp; done) | (simp [*]; done)), H', ⟨by first | omega | exact Nat.le_refl _⟩, ⟨by exact ey HB.out⟩⟩
  ·rw [if_neg c5] at H
   have c5b0 : decide (a1 < 0) = false := decide_eq_false c5
   clear c5
   (first | rw [c5b0] | (simp only [i64_w, i32_w]; rw [c5b0]) | skip)
   by_cases c6 : a2 < a1
   ·rw [if_pos c6] at H
    have c6b0 : decide (a2 < a1) = true := decide_eq_true c6
    clear c6
    have H' := aM H
    clear H
    go_wp2
    go_meet
    case rel => exact ⟨_, (true), (by first | rfl | (simp; done) | (simp [*]; done)), H', ⟨by first | omega | exact Nat.le_refl _⟩, ⟨by exact ey HB.out⟩⟩
   ·rw [if_neg c6] at H
    have c6b0 : decide (a2 < a1) = false := decide_eq_false c6
    clear c6
    replace H := Option.bind_eq_some_iff.mp H
    obtain ⟨t181, A70, H⟩ := H
    replace H : (line_Whole.j0 k a0 a1 a2 (decide (a2 ≥ t181))) = some (r1, r2, r3) := H
    have A7 := aM A70
    clear A70
    have H' := aM H
    clear H
    go_wp2_with (first | (go_at_call 72; (with_reducible refine (line_Count.calls a0 t181 _ A7.out).mono ?_); rintro e w8 ⟨rfl, hb⟩; have n0_ := aM (bP (ey HB.out) hb); clear HB; have HB := n0_; clear n0_; (try clear hb); (try clear hb2); (try clear hk); (try clear hi)))
    go_meet
    case rel => exact ⟨_, (decide (a2 ≥ t181)), (by first | rfl | (simp; done) | (simp [*]; done)), H', ⟨by first | omega | exact Nat.le_refl _⟩, ⟨by exact ey HB.out⟩⟩
 case rest =>
  clear HC4
  try clear p2
  try clear c5
  try clear c5b0
  try clear c6
  try clear c6b0
  try clear c7
  obtain ⟨kq, x25_3, rfl, HA, HJ3, HB⟩ := hcut
  cases kq with
  | zero => exact absurd HA.out (by simp [line_Whole.j0])
  | succ kj3 =>
   have H := HA.out
   clear HA
   simp only [line_Whole.j0] at H
   by_cases c9 : x25_3 = true
   ·subst c9
    have H1 : (some (0, 0, 2)) = some (r1, r2, r3) := by rw [if_pos rfl] at H; exact H
    clear H
    have H := H1
    clear H1
    simp only [Option.some.injEq, Prod.mk.injEq] at H
    obtain ⟨rfl, rfl, rfl⟩ := H
    go_wp2
    go_ret3
    exact ⟨by first | rfl | (simp [errW_none, errW_some] <;> rfl) | (simp [*, errW_none, errW_some] <;> rfl), by exact ey HB.out⟩
   ·replace c9 := Bool.eq_false_iff.mpr c9
    subst c9
    have H1 : ((line_into.f kj3 a0 a1).bind fun bt182 => ((line_into.f kj3 a0 a2).bind fun bt184 => (if bt184.2 < (a0.size : Int) then (some (bt182.1, wrap64 (bt184.2 + 1), 0)) else (if a1 > 0 then (some (wrap64 (bt182.1 - 1), bt184.2, 0)) else (some (0, (a0.size : Int), 0)))))) = some (r1, r2, r3) := by rw [if_neg (show ¬ (false = true) by decide)] at H; exact H
    clear H
    have H := H1
    clear H1
    replace H := Option.bind_eq_some_iff.mp H
    obtain ⟨⟨t182, t183⟩, A100, H⟩ := H
    replace H : ((line_into.f kj3 a0 a2).bind fun bt184 => (if bt184.2 < (a0.size : Int) then (some (t182, wrap64 (bt184.2 + 1), 0)) else (if a1 > 0 then (some (wrap64 (t182 - 1), bt184.2, 0)) else (some (0, (a0.size : Int), 0))))) = some (r1, r2, r3) := H
    have A10 := aM A100
    clear A100
    replace H := Option.bind_eq_some_iff.mp H
    obtain ⟨⟨t184, t185⟩, A110, H⟩ := H
    replace H : (if t185 < (a0.size : Int) then (some (t182, wrap64 (t185 + 1), 0)) else (if a1 > 0 then (some (wrap64 (t182 - 1), t185, 0)) else (some (0, (a0.size : Int), 0)))) = some (r1, r2, r3) := H
    have A11 := aM A110
    clear A110
    by_cases c12 : t185 < (a0.size : Int)
    ·rw [if_pos c12] at H
     have c12b0 : decide (t185 < (a0.size : Int)) = true := decide_eq_true c12
     clear c12
     simp only [Option.some.injEq, Prod.mk.injEq] at H
     obtain ⟨rfl, rfl, rfl⟩ := H
     go_wp2_with (first | ((with_reducible refine gate_callee (f := 126) rfl ?_); refine goesL_ (some 29) rfl rfl Tryz.func126 (by kernel_rfl) rfl #[.string a0, .int .i64 a1] rfl (by (try simp only [mT, mC, mN]); first | done | rfl | (simp only [lD, lT]; rfl)) ?_; (with_reducible refine (line_into.calls kj3 a0 a1 t182 t183 _ A10.out).mono ?_); rintro e w13 ⟨rfl, hb⟩; refine ⟨_, rfl, ?_⟩; have n0_ := aM (bP (ey HB.out) hb); clear HB; have HB := n0_; clear n0_; (try clear hb); (try clear hb2); (try clear hk); (try clear hi)) | ((with_reducible refine gate_callee (f := 126) rfl ?_); refine goesL_ (some 35) rfl rfl Tryz.func126 (by kernel_rfl) rfl #[.string a0, .int .i64 a2] rfl (by (try simp only [mT, mC, mN]); first | done | rfl | (simp only [lD, lT]; rfl)) ?_; (with_reducible refine (line_into.calls kj3 a0 a2 t184 t185 _ A11.out).mono ?_); rintro e w14 ⟨rfl, hb⟩; refine ⟨_, rfl, ?_⟩; have n0_ := aM (bP (ey HB.out) hb); clear HB; have HB := n0_; clear n0_; (try clear hb); (try clear hb2); (try clear hk); (try clear hi)))
     go_ret3
     exact ⟨by first | rfl | (simp [errW_none, errW_some] <;> rfl) | (simp [*, errW_none, errW_some] <;> rfl), by exact ey HB.out⟩
    ·rw [if_neg c12] at H
     have c12b0 : decide (t185 < (a0.size : Int)) = false := decide_eq_false c12
     clear c12
     by_cases c15 : a1 > 0
     ·rw [if_pos c15] at H
      have c15b0 : decide (0 < a1) = true := decide_eq_true c15
      clear c15
      simp only [Option.some.injEq, Prod.mk.injEq] at H
      obtain ⟨rfl, rfl, rfl⟩ := H
      go_wp2_with (first | ((with_reducible refine gate_callee (f := 126) rfl ?_); refine goesL_ (some 29) rfl rfl Tryz.func126 (by kernel_rfl) rfl #[.string a0, .int .i64 a1] rfl (by (try simp only [mT, mC, mN]); first | done | rfl | (simp only [lD, lT]; rfl)) ?_; (with_reducible refine (line_into.calls kj3 a0 a1 t182 t183 _ A10.out).mono ?_); rintro e w16 ⟨rfl, hb⟩; refine ⟨_, rfl, ?_⟩; have n0_ := aM (bP (ey HB.out) hb); clear HB; have HB := n0_; clear n0_; (try clear hb); (try clear hb2); (try clear hk); (try clear hi)) | ((with_reducible refine gate_callee (f := 126) rfl ?_); refine goesL_ (some 35) rfl rfl Tryz.func126 (by kernel_rfl) rfl #[.string a0, .int .i64 a2] rfl (by (try simp only [mT, mC, mN]); first | done | rfl | (simp only [lD, lT]; rfl)) ?_; (with_reducible refine (line_into.calls kj3 a0 a2 t184 t185 _ A11.out).mono ?_); rintro e w17 ⟨rfl, hb⟩; refine ⟨_, rfl, ?_⟩; have n0_ := aM (bP (ey HB.out) hb); clear HB; have HB := n0_; clear n0_; (try clear hb); (try clear hb2); (try clear hk); (try clear hi)))
      go_ret3
      exact ⟨by first | rfl | (simp [errW_none, errW_some] <;> rfl) | (simp [*, errW_none, errW_some] <;> rfl), by exact ey HB.out⟩
     ·rw [if_neg c15] at H
      have c15b0 : decide (0 < a1) = false := decide_eq_false c15
      clear c15
      simp only [Option.some.injEq, Prod.mk.injEq] at H
      obtain ⟨rfl, rfl, rfl⟩ := H
      go_wp2_with (first | ((with_reducible refine gate_callee (f := 126) rfl ?_); refine goesL_ (some 29) rfl rfl Tryz.func126 (by kernel_rfl) rfl #[.string a0, .int .i64 a1] rfl (by (try simp only [mT, mC, mN]); first | done | rfl | (simp only [lD, lT]; rfl)) ?_; (with_reducible refine (line_into.calls kj3 a0 a1 t182 t183 _ A10.out).mono ?_); rintro e w18 ⟨rfl, hb⟩; refine ⟨_, rfl, ?_⟩; have n0_ := aM (bP (ey HB.out) hb); clear HB; have HB := n0_; clear n0_; (try clear hb); (try clear hb2); (try clear hk); (try clear hi)) | ((with_reducible refine gate_callee (f := 126) rfl ?_); refine goesL_ (some 35) rfl rfl Tryz.func126 (by kernel_rfl) rfl #[.string a0, .int .i64 a2] rfl (by (try simp only [mT, mC, mN]); first | done | rfl | (simp only [lD, lT]; rfl)) ?_; (with_reducible refine (line_into.calls kj3 a0 a2 t184 t185 _ A11.out).mono ?_); rintro e w19 ⟨rfl, hb⟩; refine ⟨_, rfl, ?_⟩; have n0_ := aM (bP (ey HB.out) hb); clear HB; have HB := n0_; clear n0_; (try clear hb); (try clear hb2); (try clear hk); (try clear hi)))
      go_ret3
      exact ⟨by first | rfl | (simp [errW_none, errW_some] <;> rfl) | (simp [*, errW_none, errW_some] <;> rfl), by exact ey HB.out⟩
end Go.Proofs.YtjkfkiebhgkolaaGreatDoor.PB
end

section
namespace Go.Proofs.YtjkfkiebhgkolaaGreatDoor.PB
open Go.RowKit Go.Proofs.YtjkfkiebhgkolaaGreatDoorW.PrintWords Go.Proofs.YtjkfkiebhgkolaaGreatDoorW.PrintLast Go.Proofs.YtjkfkiebhgkolaaGreatDoorW.PrintMore
attribute [local go_sem] max2_int min2_int max_two min_two max_three min_three max_four min_four   
set_option linter.unusedVariables false
set_option linter.unusedSimpArgs false
mutual
def bureauref06_Of.l0 : Nat → ByteArray → Int → Int → Int → Option (Int)
 | 0, _, _, _, _ => none
 | k + 1, x0, x1, x5, x6 => if x6 < (x0.size : Int) then (bureauref06_Of.j1 k x0 x1 x5 x6 (decide (x6 < x1))) else (bureauref06_Of.j1 k x0 x1 x5 x6 false)
def bureauref06_Of.j1 : Nat → ByteArray → Int → Int → Int → Bool → Option (Int)
 | 0, _, _, _, _, _ => none
 | k + 1, x0, x1, x5, x6, x15 => if x15 = true then (if 0 ≤ x6 then (if x6 < (x0.size : Int) then (if (bt x0 x6) = 10 then (bureauref06_Of.l0 k x0 x1 (wrap64 (x5 + 1)) (wrap64 (x6 + 1))) else (bureauref06_Of.l0 k x0 x1 x5 (wrap64 (x6 + 1)))) else (none)) else (none)) else (some x5)
end
def bureauref06_Of.f (k : Nat) (a0 : ByteArray) (a1 : Int) : Option (Int) := bureauref06_Of.l0 k a0 a1 0 0
set_option maxHeartbeats 8000000 in
set_option maxRecDepth 100000 in
theorem bureauref06_Of.calls (k : Nat) (a0 : ByteArray) (a1 : Int) (r : Int) (w : World) (h : bureauref06_Of.f k a0 a1 = some r) :
  Calls Tryz.prog 54 #[.string a0, .int .i64 a1] w fun e w' => e = .returned (.int .i64 r) ∧ Drawn0 w w' := by
 have H : (bureauref06_Of.l0 k a0 a1 0 0) = some r := h
 clear h
 have H' := aM H
 clear H
 go_enter Tryz.func54, Tryz.ntmps54
 go_wp2
 go_loopg [5, 6] k (fun kq v5 v6 w' => ∃ (x5_1 : Int) (x6_1 : Int), v5 = .int .i64 x5_1 ∧ v6 = .int .i64 x6_1 ∧ Aside0 (bureauref06_Of.l0 kq a0 a1 x5_1 x6_1 = some r) ∧ Aside0 (kq ≤ k) ∧ Drawn0 w w')
 case atStart => exact ⟨(0), (0), (by first | rfl | (simp; done) | (simp [*]; done)), (by first | rfl | (simp; done) | (simp [*]; done)), H', ⟨Nat.le_refl _⟩, by repeat (first | exact Drawn0.refl _ | apply Drawn0.step)⟩
 case round =>
  clear H'
  try clear p2
  obtain ⟨x5_1, x6_1, rfl, rfl, HA, HK1, ⟨m1, rfl⟩⟩ := hrel
  cases gk with
  | zero => exact absurd HA.out (by simp [bureauref06_Of.l0])
  | succ k1 =>
   have H := HA.out
   clear HA
   simp only [bureauref06_Of.l0] at H
   have HC3 := aM H
   clear H
   go_upto_region 3 with (fail)
   go_cut [15] (fun v15 wc => ∃ (kq : Nat) (x15_2 : Bool), v15 = .bool x15_2 ∧ Aside0 (bureauref06_Of.j1 kq a0 a1 x5_1 x6_1 x15_2 = some r) ∧ Aside0 (kq ≤ k1) ∧ Drawn0 w wc)
   case first =>
    have H := HC3.out
    clear HC3
    by_cases c4 : x6_1 < (a0.size : Int)
    ·rw [if_pos c4] at H
     have c4b0 : decide (x6_1 < (a0.size : Int)) = true := decide_eq_true c4
     clear c4
     (first | rw [c4b0] | (simp only [i64_w, i32_w]; rw [c4b0]) | skip)
     have H' := aM H
     clear H
     go_wp2
     go_meet
     case rel => exact ⟨_, (decide (x6_1 < a1)), (by first | rfl | (simp; done) | (simp [*]; done)), H', ⟨by have := HK1.out; first | omega | exact Nat.le_refl _⟩, by repeat (first | exact Drawn0.refl _ | apply Drawn0.step)⟩
    ·rw [if_neg c4] at H
     have c4b0 : decide (x6_1 < (a0.size : Int)) = false := decide_eq_false c4
     clear c4
     (first | rw [c4b0] | (simp only [i64_w, i32_w]; rw [c4b0]) | skip)
     have H' := aM H
     clear H
     go_wp2
     go_meet
     case rel => exact ⟨_, (false), (by first | rfl | (simp; done) | (simp [*]; done)), H', ⟨by have := HK1.out; first | omega | exact Nat.le_refl _⟩, by repeat (first | exact Drawn0.refl _ | apply Drawn0.step)⟩
   case rest =>
    clear HC3
    try clear p2
    try clear c4
    try clear c4b0
    try clear p2
    obtain ⟨kq, x15_2, rfl, HA, HJ2, ⟨mc2, rfl⟩⟩ := hcut
    cases kq with
    | zero => exact absurd HA.out (by simp [bureauref06_Of.j1])
    | succ kj2 =>
     have H := HA.out
     clear HA
     simp only [bureauref06_Of.j1] at H
     by_cases c5 : x15_2 = true
     ·subst c5
      have H1 : (if 0 ≤ x6_1 then (if x6_1 < (a0.size : Int) then (if (bt a0 x6_1) = 10 then (bureauref06_Of.l0 kj2 a0 a1 (wrap64 (x5_1 + 1)) (wrap64 (x6_1 + 1))) else (bureauref06_Of.l0 kj2 a0 a1 x5_1 (wrap64 (x6_1 + 1)))) else (none)) else (none)) = some r := by rw [if_pos rfl] at H; exact H
      clear H
      have H := H1
      clear H1
      by_cases c6 : 0 ≤ x6_1
      ·rw [if_pos c6] at H
       have c6b0 : decide (0 ≤ x6_1) = true := decide_eq_true c6
       clear c6
       by_cases c7 : x6_1 < (a0.size : Int)
       ·rw [if_pos c7] at H
        have c7b0 : decide (x6_1 < (a0.size : Int)) = true := decide_eq_true c7
        clear c7
        by_cases c9 : (bt a0 x6_1) = 10
        ·rw [if_pos c9] at H
         have c9b0 : ((bt a0 x6_1) == 10) = true := beq_iff_eq.mpr c9
         have c9b1 : ((bt a0 x6_1) != 10) = false := bne_eq_false_iff_eq.mpr c9
         clear c9
         have H' := aM H
         clear H
         have p8 : 0 ≤ (x6_1 : Int) := of_decide_eq_true (by first | (with_reducible assumption) | assumption)
         have q8 : x6_1 < (a0.size : Int) := of_decide_eq_true (by first | (with_reducible assumption) | assumption)
         have hx8 := bt_at a0 x6_1
         replace p8 := eq_true p8
         replace q8 := eq_true q8
         go_wp2
         go_roundg kj2
         case measure => have := HK1.out; have := HJ2.out; omega
         case rel => exact ⟨(wrap64 (x5_1 + 1)), (wrap64 (x6_1 + 1)), (by first | rfl | (simp; done) | (simp [*]; done)), (by first | rfl | (simp; done) | (simp [*]; done)), H', ⟨by have := HK1.out; have := HJ2.out; omega⟩, by repeat (first | exact Drawn0.refl _ | apply Drawn0.step)⟩
        ·rw [if_neg c9] at H
         have c9b0 : ((bt a0 x6_1) == 10) = false := beq_eq_false_iff_ne.mpr c9
         have c9b1 : ((bt a0 x6_1) != 10) = true := bne_iff_ne.mpr c9
         have H' := aM H
         clear H
         have p8 : 0 ≤ (x6_1 : Int) := of_decide_eq_true (by first | (with_reducible assumption) | assumption)
         have q8 : x6_1 < (a0.size : Int) := of_decide_eq_true (by first | (with_reducible assumption) | assumption)
         have hx8 := bt_at a0 x6_1
         replace p8 := eq_true p8
         replace q8 := eq_true q8
         go_wp2
         go_roundg kj2
         case measure => have := HK1.out; have := HJ2.out; omega
         case rel => exact ⟨(x5_1), (wrap64 (x6_1 + 1)), (by first | rfl | (simp; done) | (simp [*]; done)), (by first | rfl | (simp; done) | (simp [*]; done)), H', ⟨by have := HK1.out; have := HJ2.out; omega⟩, by repeat (first | exact Drawn0.refl _ | apply Drawn0.step)⟩
       ·rw [if_neg c7] at H
        exact absurd H (by simp)
      ·rw [if_neg c6] at H
       exact absurd H (by simp)
     ·replace c5 := Bool.eq_false_iff.mpr c5
      subst c5
      have H1 : (some x5_1) = some r := by rw [if_neg (show ¬ (false = true) by decide)] at H; exact H
      clear H
      have H := H1
      clear H1
      obtain rfl := Option.some.inj H
      go_wp2
      go_ret
      exact ⟨by first | rfl | (simp; done) | (simp [*]; done), by repeat (first | exact Drawn0.refl _ | apply Drawn0.step)⟩
end Go.Proofs.YtjkfkiebhgkolaaGreatDoor.PB
end

section
namespace Go.Proofs.YtjkfkiebhgkolaaGreatDoor.PB
open Go.RowKit Go.Proofs.YtjkfkiebhgkolaaGreatDoorW.PrintWords
set_option linter.unusedVariables false
set_option linter.unusedSimpArgs false
def boundsS (v : ByteArray) (n : Int) : Int × Int × Int := if 0 ≤ n ∧ n.toNat < (ends v).length then ((lineFrom v n.toNat : Int), (lineTo v n.toNat : Int), 0) else (0, 0, 2)
theorem ends_pos (v : ByteArray) : 1 ≤ (ends v).length := lineEnds_ne _ _
theorem bounds2_ev (v : ByteArray) (hv : v.size ≤ 100000) (n : Int) : Ev (fun k => line_Bounds.f k v n) (boundsS v n) := by
 by_cases h : 0 ≤ n ∧ n.toNat < (ends v).length
 ·rw [show boundsS v n = ((lineFrom v n.toNat : Int), (lineTo v n.toNat : Int), 0) from if_pos h]
  have := bounds_ev v hv n.toNat h.2
  rw [show ((n.toNat : Nat) : Int) = n by omega] at this
  exact this
 ·rw [show boundsS v n = (0, 0, 2) from if_neg h]
  unfold line_Bounds.f
  by_cases h0 : n < 0
  ·refine Ev.pos h0 (Ev.step (fun k => by simp only [line_Bounds.j0]; rfl) ?_)
   exact Ev.pos (by first | trivial | rfl) (Ev.now _)
  ·refine Ev.neg h0 ?_
   rw [count_ev v hv]
   exact Ev.bind (Ev.now _) (Ev.step (fun k => by simp only [line_Bounds.j0]; rfl) (Ev.pos (decide_eq_true (by omega)) (Ev.now _)))
def ofL (v : ByteArray) (a : Int) : Nat := cnt v.data.toList a.toNat
theorem ofL_lt (v : ByteArray) (a : Int) : ofL v a < (ends v).length := cnt_ends v _
theorem data_len (v : ByteArray) : v.data.toList.length = v.size := by rw [Array.length_toList]; rfl
theorem ofL_f (v : ByteArray) (a : Int) : line_Of.f v a = some (ofL v a : Int) := by
 have hm : mn (mx a 0) (v.size : Int) = ((min a.toNat v.size : Nat) : Int) := by
  unfold mn mx
  repeat' split
  all_goals omega
 unfold line_Of.f
 rw [hm, if_pos (by omega), if_pos (by omega), Int.toNat_natCast]
 unfold strings_Count.f
 rw [if_pos (by rfl)]
 show some ((Lib.countByte (v.extract 0 (min a.toNat v.size)).data.toList 10 : Nat) : Int) = _
 rw [ext_list, List.drop_zero]
 unfold ofL cnt
 congr 2
 by_cases h : a.toNat ≤ v.size
 ·rw [Nat.min_eq_left h]
  rfl
 ·rw [Nat.min_eq_right (by omega), List.take_of_length_le (by rw [data_len]; exact Nat.le_refl _), List.take_of_length_le (by rw [data_len]; omega)]
  rfl
theorem rofL_ev (v : ByteArray) (hv : v.size ≤ 100000) (a : Int) : Ev (fun k => bureauref06_Of.f k v a) (ofL v a : Int) := by
 unfold bureauref06_Of.f ofL
 have loop : ∀ (d i : Nat), i + d = v.size → i ≤ a.toNat → Ev (fun k => bureauref06_Of.l0 k v a (cnt v.data.toList i : Int) (i : Int)) (cnt v.data.toList a.toNat : Int) := by
  intro d
  induction d with
  | zero =>
   intro i hi ha
   refine Ev.step (fun k => by simp only [bureauref06_Of.l0]; rfl) (Ev.neg (by omega) ?_)
   refine Ev.step (fun k => by simp only [bureauref06_Of.j1]; rfl) (Ev.neg (by decide) (ev_val (Ev.now _) ?_))
   unfold cnt
   rw [List.take_of_length_le (by rw [data_len]; omega), List.take_of_length_le (by rw [data_len]; omega)]
  | succ d ih =>
   intro i hi ha
   refine Ev.step (fun k => by simp only [bureauref06_Of.l0]; rfl) (Ev.pos (by omega) ?_)
   refine Ev.step (fun k => by simp only [bureauref06_Of.j1]; rfl) ?_
   by_cases h : (i : Int) < a
   ·refine Ev.pos (decide_eq_true h) (Ev.pos (by omega) (Ev.pos (by omega) ?_))
    have e : wrap64 ((i : Int) + 1) = ((i + 1 : Nat) : Int) := wnat (by omega) (by omega)
    have hc : (v.data.toList.take i).count 10 ≤ v.size := by
     refine Nat.le_trans List.count_le_length ?_
     rw [List.length_take, data_len]
     omega
    have hg : v.data.toList[i]? = some (v.data.toList[i]'(by rw [data_len]; omega)) := List.getElem?_eq_getElem _
    have hb : bt v (i : Int) = ((v.data.toList[i]'(by rw [data_len]; omega)).toNat : Int) := by
     rw [bt_list v i (by omega), List.getD_eq_getElem?_getD, hg]
     rfl
    have hs : cnt v.data.toList (i + 1) = cnt v.data.toList i + (if (v.data.toList[i]'(by rw [data_len]; omega)) = 10 then 1 else 0) := by
     unfold cnt
     rw [List.take_add_one, hg, List.count_append]
     simp only [Option.toList_some, List.count_singleton, beq_iff_eq]
    by_cases h10 : bt v (i : Int) = 10
    ·refine Ev.pos h10 ?_
     have h11 : (v.data.toList[i]'(by rw [data_len]; omega)) = 10 := by
      rw [hb] at h10
      exact UInt8.toNat_inj.1 (by rw [show (10 : UInt8).toNat = 10 from rfl]; omega)
     rw [if_pos h11] at hs
     rw [e, wnat (x := (cnt v.data.toList i : Int) + 1) (n := cnt v.data.toList (i + 1)) (by omega) (by unfold cnt; omega)]
     exact ih (i + 1) (by omega) (by omega)
    ·refine Ev.neg h10 ?_
     have h11 : ¬ (v.data.toList[i]'(by rw [data_len]; omega)) = 10 := fun h => h10 (by rw [hb, h]; rfl)
     rw [if_neg h11] at hs
     rw [e, show (cnt v.data.toList i : Int) = (cnt v.data.toList (i + 1) : Int) by rw [hs, Nat.add_zero]]
     exact ih (i + 1) (by omega) (by omega)
   ·refine Ev.neg (by rw [decide_eq_false h]; decide) (ev_val (Ev.now _) ?_)
    rw [show a.toNat = i by omega]
 have := loop v.size 0 (by omega) (by omega)
 exact this
def clipN (v : ByteArray) (n : Int) : Nat := min n.toNat ((ends v).length - 1)
theorem clipN_lt (v : ByteArray) (n : Int) : clipN v n < (ends v).length := by have := ends_pos v; unfold clipN; omega
theorem clip_eq (v : ByteArray) (hv : v.size ≤ 100000) (n : Int) : mn (mx n 0) (wrap64 (((ends v).length : Int) - 1)) = (clipN v n : Int) := by
 have h1 := ends_pos v
 have h2 := ends_len_le v
 rw [wnat (n := (ends v).length - 1) (by omega) (by omega)]
 unfold mn mx clipN
 repeat' split
 all_goals omega
theorem into_ev (v : ByteArray) (hv : v.size ≤ 100000) (n : Int) : Ev (fun k => line_into.f k v n) ((lineFrom v (clipN v n) : Int), (lineTo v (clipN v n) : Int)) := by
 unfold line_into.f
 rw [count_ev v hv]
 refine Ev.bind (Ev.now _) ?_
 rw [clip_eq v hv n]
 exact Ev.bind (bounds_ev v hv _ (clipN_lt v n)) (Ev.now _)
def wholeS (v : ByteArray) (a b : Int) : Int × Int × Int :=
 if a < 0 ∨ b < a ∨ ((ends v).length : Int) ≤ b then (0, 0, 2)
 else if lineTo v b.toNat < v.size then ((lineFrom v a.toNat : Int), (lineTo v b.toNat : Int) + 1, 0)
 else if 0 < a then ((lineFrom v a.toNat : Int) - 1, (v.size : Int), 0) else (0, (v.size : Int), 0)
theorem line_end (v : ByteArray) (n : Nat) (h : n < (ends v).length) : (n + 1 < (ends v).length ↔ lineTo v n < v.size) ∧ (¬ n + 1 < (ends v).length → lineTo v n = v.size) := by
 rcases line_last v n h with ⟨_, h2, h3⟩ | ⟨o, _, h2, h3, h4, h5⟩ <;> omega
theorem whole_ev (v : ByteArray) (hv : v.size ≤ 100000) (a b : Int) : Ev (fun k => line_Whole.f k v a b) (wholeS v a b) := by
 unfold line_Whole.f wholeS
 have bad : Ev (fun k => line_Whole.j0 k v a b true) (0, 0, 2) := by
  refine Ev.step (fun k => by simp only [line_Whole.j0]; rfl) ?_
  exact Ev.pos (by first | trivial | rfl) (Ev.now _)
 by_cases h1 : a < 0
 ·rw [if_pos (.inl h1)]
  exact Ev.pos h1 bad
 refine Ev.neg h1 ?_
 by_cases h2 : b < a
 ·rw [if_pos (.inr (.inl h2))]
  exact Ev.pos h2 bad
 refine Ev.neg h2 ?_
 rw [count_ev v hv]
 refine Ev.bind (Ev.now _) ?_
 by_cases h3 : ((ends v).length : Int) ≤ b
 ·rw [if_pos (.inr (.inr h3)), decide_eq_true (show b ≥ ((ends v).length : Int) from h3)]
  exact bad
 rw [if_neg (by omega), decide_eq_false (by omega)]
 have ca : clipN v a = a.toNat := by unfold clipN; omega
 have cb : clipN v b = b.toNat := by unfold clipN; omega
 refine Ev.step (fun k => by simp only [line_Whole.j0]; rfl) (Ev.neg (by decide) (Ev.bind (into_ev v hv a) (Ev.bind (into_ev v hv b) ?_)))
 rw [ca, cb]
 have hr := line_range v b.toNat (by omega)
 have hra := line_range v a.toNat (by omega)
 by_cases h4 : lineTo v b.toNat < v.size
 ·rw [if_pos h4]
  refine Ev.pos (by show (lineTo v b.toNat : Int) < _; omega) (ev_val (Ev.now _) ?_)
  show ((lineFrom v a.toNat : Int), wrap64 ((lineTo v b.toNat : Int) + 1), (0 : Int)) = _
  rw [wnat (n := lineTo v b.toNat + 1) (by omega) (by omega)]
  rfl
 ·rw [if_neg h4]
  refine Ev.neg (by show ¬ (lineTo v b.toNat : Int) < _; omega) ?_
  by_cases h5 : 0 < a
  ·refine Ev.pos h5 (ev_val (Ev.now _) ?_)
   rw [if_pos h5]
   show (wrap64 ((lineFrom v a.toNat : Int) - 1), (lineTo v b.toNat : Int), (0 : Int)) = _
   have : 1 ≤ lineFrom v a.toNat := by unfold lineFrom; rw [if_neg (by omega)]; omega
   rw [wnat (n := lineFrom v a.toNat - 1) (by omega) (by omega)]
   congr 1
   ·omega
   ·congr 1
    omega
  ·refine Ev.neg (by omega) (ev_val (Ev.now _) ?_)
   rw [if_neg h5]
end Go.Proofs.YtjkfkiebhgkolaaGreatDoor.PB
end

section
namespace Go.Proofs.YtjkfkiebhgkolaaGreatDoor.PB
open Go.RowKit Go.Proofs.YtjkfkiebhgkolaaGreatDoorW.PrintWords Go.Proofs.YtjkfkiebhgkolaaGreatDoorW.PrintLast Go.Proofs.YtjkfkiebhgkolaaGreatDoorW.PrintMore
attribute [local go_sem] max2_int min2_int max_two min_two max_three min_three max_four min_four   
set_option linter.unusedVariables false
set_option linter.unusedSimpArgs false
mutual
def glyph_Class.j0 : Nat → Int → Bool → Option (Int)
 | 0, _, _ => none
 | k + 1, x0, x3 => if x3 = true then (some 0) else (if x0 = 10 then (some 3) else (if x0 ≥ 48 then (glyph_Class.j1 k x0 (decide (x0 ≤ 57))) else (glyph_Class.j1 k x0 false)))
def glyph_Class.j1 : Nat → Int → Bool → Option (Int)
 | 0, _, _ => none
 | k + 1, x0, x13 => if x13 = true then (glyph_Class.j3 k x0 x13) else (if x0 ≥ 97 then (glyph_Class.j2 k x0 (decide (x0 ≤ 122))) else (glyph_Class.j2 k x0 false))
def glyph_Class.j3 : Nat → Int → Bool → Option (Int)
 | 0, _, _ => none
 | k + 1, x0, x13 => if x13 = true then (some 1) else (if x0 ≥ 128 then (if x0 ≤ 1114111 then (if x0 = 65533 then (some 2) else (some 1)) else (some 2)) else (some 2))
def glyph_Class.j2 : Nat → Int → Bool → Option (Int)
 | 0, _, _ => none
 | k + 1, x0, x13 => if x13 = true then (glyph_Class.j3 k x0 x13) else (if x0 ≥ 65 then (if x0 ≤ 90 then (glyph_Class.j3 k x0 (decide (x0 ≤ 90))) else (glyph_Class.j3 k x0 (x0 == 95))) else (glyph_Class.j3 k x0 (x0 == 95)))
end
def glyph_Class.f (k : Nat) (a0 : Int) : Option (Int) := if a0 = 32 then (glyph_Class.j0 k a0 true) else (glyph_Class.j0 k a0 (a0 == 9))
set_option maxHeartbeats 8000000 in
set_option maxRecDepth 100000 in
theorem glyph_Class.calls (k : Nat) (a0 : Int) (r : Int) (w : World) (h : glyph_Class.f k a0 = some r) :
  Calls Tryz.prog 127 #[.int .i32 a0] w fun e w' => e = .returned (.int .i64 r) ∧ Drawn0 w w' := by
 have H : (if a0 = 32 then (glyph_Class.j0 k a0 true) else (glyph_Class.j0 k a0 (a0 == 9))) = some r := h
 clear h
 have HC2 := aM H
 clear H
 go_enter Tryz.func127, Tryz.ntmps127
 go_upto_region 1 with (fail)
 go_cut [3] (fun v3 wc => ∃ (kq : Nat) (x3_1 : Bool), v3 = .bool x3_1 ∧ Aside0 (glyph_Class.j0 kq a0 x3_1 = some r) ∧ Aside0 (kq ≤ k) ∧ Drawn0 w wc)
 case first =>
  have H := HC2.out
  clear HC2
  by_cases c3 : a0 = 32
  ·rw [if_pos c3] at H
   have c3b0 : (a0 == 32) = true := beq_iff_eq.mpr c3
   have c3b1 : (a0 != 32) = false := bne_eq_false_iff_eq.mpr c3
   clear c3
   (first | rw [c3b0] | (simp only [i64_w, i32_w]; rw [c3b0]) | skip)
   have H' := aM H
   clear H
   go_wp2
   go_meet
   case rel => exact ⟨_, (true), (by first | rfl | (simp; done) | (simp [*]; done)), H', ⟨by first | omega | exact Nat.le_refl _⟩, by repeat (first | exact Drawn0.refl _ | apply Drawn0.step)⟩
  ·rw [if_neg c3] at H
   have c3b0 : (a0 == 32) = false := beq_eq_false_iff_ne.mpr c3
   have c3b1 : (a0 != 32) = true := bne_iff_ne.mpr c3
   (first | rw [c3b0] | (simp only [i64_w, i32_w]; rw [c3b0]) | skip)
   have H' := aM H
   clear H
   go_wp2
   go_meet
   case rel => exact ⟨_, ((a0 == 9)), (by first | rfl | (simp; done) | (simp [*]; done)), H', ⟨by first | omega | exact Nat.le_refl _⟩, by repeat (first | exact Drawn0.refl _ | apply Drawn0.step)⟩
 case rest =>
  clear HC2
  try clear c1
  try clear p2
  try clear c3
  try clear c3b0
  try clear c3b1
  obtain ⟨kq, x3_1, rfl, HA, HJ1, ⟨mc1, rfl⟩⟩ := hcut
  cases kq with
  | zero => exact absurd HA.out (by simp [glyph_Class.j0])
  | succ kj1 =>
   have H := HA.out
   clear HA
   simp only [glyph_Class.j0] at H
   by_cases c4 : x3_1 = true
   ·subst c4
    have H1 : (some 0) = some r := by rw [if_pos rfl] at H; exact H
    clear H
    have H := H1
    clear H1
    obtain rfl := Option.some.inj H
    go_wp2
    go_ret
    exact ⟨by first | rfl | (simp; done) | (simp [*]; done), by repeat (first | exact Drawn0.refl _ | apply Drawn0.step)⟩
   ·replace c4 := Bool.eq_false_iff.mpr c4
    subst c4
    have H1 : (if a0 = 10 then (some 3) else (if a0 ≥ 48 then (glyph_Class.j1 kj1 a0 (decide (a0 ≤ 57))) else (glyph_Class.j1 kj1 a0 false))) = some r := by rw [if_neg (show ¬ (false = true) by decide)] at H; exact H
    clear H
    have H := H1
    clear H1
    by_cases c5 : a0 = 10
    ·rw [if_pos c5] at H
     have c5b0 : (a0 == 10) = true := beq_iff_eq.mpr c5
     have c5b1 : (a0 != 10) = false := bne_eq_false_iff_eq.mpr c5
     clear c5
     obtain rfl := Option.some.inj H
     go_wp2
     go_ret
     exact ⟨by first | rfl | (simp; done) | (simp [*]; done), by repeat (first | exact Drawn0.refl _ | apply Drawn0.step)⟩
    ·rw [if_neg c5] at H
     have c5b0 : (a0 == 10) = false := beq_eq_false_iff_ne.mpr c5
     have c5b1 : (a0 != 10) = true := bne_iff_ne.mpr c5
     have HC6 := aM H
     clear H
     go_upto_region 5 with (fail)
     go_cut [13] (fun v13 wc => ∃ (kq : Nat) (x13_5 : Bool), v13 = .bool x13_5 ∧ Aside0 (glyph_Class.j1 kq a0 x13_5 = some r) ∧ Aside0 (kq ≤ kj1) ∧ Drawn0 w wc)
     case first =>
      have H := HC6.out
      clear HC6
      by_cases c7 : a0 ≥ 48
      ·rw [if_pos c7] at H
       have c7b0 : decide (48 ≤ a0) = true := decide_eq_true c7
       clear c7
       (first | rw [c7b0] | (simp only [i64_w, i32_w]; rw [c7b0]) | skip)
       have H' := aM H
       clear H
       go_wp2
       go_meet
       case rel => exact ⟨_, (decide (a0 ≤ 57)), (by first | rfl | (simp; done) | (simp [*]; done)), H', ⟨by have := HJ1.out; first | omega | exact Nat.le_refl _⟩, by repeat (first | exact Drawn0.refl _ | apply Drawn0.step)⟩
      ·rw [if_neg c7] at H
       have c7b0 : decide (48 ≤ a0) = false := decide_eq_false c7
       clear c7
       (first | rw [c7b0] | (simp only [i64_w, i32_w]; rw [c7b0]) | skip)
       have H' := aM H
       clear H
       go_wp2
       go_meet
       case rel => exact ⟨_, (false), (by first | rfl | (simp; done) | (simp [*]; done)), H', ⟨by have := HJ1.out; first | omega | exact Nat.le_refl _⟩, by repeat (first | exact Drawn0.refl _ | apply Drawn0.step)⟩
     case rest =>
      clear HC6
      try clear c1
      try clear p2
      try clear c3
      try clear c3b0
      try clear c3b1
      try clear c4
      try clear c5
      try clear c5b0
      try clear c5b1
      try clear c7
      try clear c7b0
      try clear p2
      obtain ⟨kq, x13_5, rfl, HA, HJ5, ⟨mc5, rfl⟩⟩ := hcut
      cases kq with
      | zero => exact absurd HA.out (by simp [glyph_Class.j1])
      | succ kj5 =>
       have H := HA.out
       clear HA
       simp only [glyph_Class.j1] at H
       have HC8 := aM H
       clear H
       go_upto_if 13 with (fail)
       go_cut [13] (fun v13 wc => ∃ (kq : Nat) (x13_7 : Bool), v13 = .bool x13_7 ∧ Aside0 (glyph_Class.j3 kq a0 x13_7 = some r) ∧ Aside0 (kq ≤ kj5) ∧ Drawn0 w wc)
       case first =>
        have H := HC8.out
        clear HC8
        by_cases c9 : x13_5 = true
        ·subst c9
         have H1 : (glyph_Class.j3 kj5 a0 true) = some r := by rw [if_pos rfl] at H; exact H
         clear H
         have H := H1
         clear H1
         have H' := aM H
         clear H
         go_wp2
         go_meet
         case rel => exact ⟨_, (true), (by first | rfl | (simp; done) | (simp [*]; done)), H', ⟨by have := HJ1.out; have := HJ5.out; first | omega | exact Nat.le_refl _⟩, by repeat (first | exact Drawn0.refl _ | apply Drawn0.step)⟩
        ·replace c9 := Bool.eq_false_iff.mpr c9
         subst c9
         have H1 : (if a0 ≥ 97 then (glyph_Class.j2 kj5 a0 (decide (a0 ≤ 122))) else (glyph_Class.j2 kj5 a0 false)) = some r := by rw [if_neg (show ¬ (false = true) by decide)] at H; exact H
         clear H
         have H := H1
         clear H1
         have HC10 := aM H
         clear H
         go_upto_region 6 with (fail)
         go_cut [13] (fun v13 wc => ∃ (kq : Nat) (x13_9 : Bool), v13 = .bool x13_9 ∧ Aside0 (glyph_Class.j2 kq a0 x13_9 = some r) ∧ Aside0 (kq ≤ kj5) ∧ Drawn0 w wc)
         case first =>
          have H := HC10.out
          clear HC10
          by_cases c11 : a0 ≥ 97
          ·rw [if_pos c11] at H
           have c11b0 : decide (97 ≤ a0) = true := decide_eq_true c11
           clear c11
           (first | rw [c11b0] | (simp only [i64_w, i32_w]; rw [c11b0]) | skip)
           have H' := aM H
           clear H
           go_wp2
           go_meet
           case rel => exact ⟨_, (decide (a0 ≤ 122)), (by first | rfl | (simp; done) | (simp [*]; done)), H', ⟨by have := HJ1.out; have := HJ5.out; first | omega | exact Nat.le_refl _⟩, by repeat (first | exact Drawn0.refl _ | apply Drawn0.step)⟩
          ·rw [if_neg c11] at H
           have c11b0 : decide (97 ≤ a0) = false := decide_eq_false c11
           clear c11
           (first | rw [c11b0] | (simp only [i64_w, i32_w]; rw [c11b0]) | skip)
           have H' := aM H
           clear H
           go_wp2
           go_meet
           case rel => exact ⟨_, (false), (by first | rfl | (simp; done) | (simp [*]; done)), H', ⟨by have := HJ1.out; have := HJ5.out; first | omega | exact Nat.le_refl _⟩, by repeat (first | exact Drawn0.refl _ | apply Drawn0.step)⟩
         case rest =>
          clear HC10
          try clear c1
          try clear p2
          try clear c3
          try clear c3b0
          try clear c3b1
          try clear c4
          try clear c5
          try clear c5b0
          try clear c5b1
          try clear c7
          try clear c7b0
          try clear c9
          try clear c11
          try clear c11b0
          try clear p2
          obtain ⟨kq, x13_9, rfl, HA, HJ9, ⟨mc9, rfl⟩⟩ := hcut
          cases kq with
          | zero => exact absurd HA.out (by simp [glyph_Class.j2])
          | succ kj9 =>
           have H := HA.out
           clear HA
           simp only [glyph_Class.j2] at H
           by_cases c12 : x13_9 = true
           ·subst c12
            have H1 : (glyph_Class.j3 kj9 a0 true) = some r := by rw [if_pos rfl] at H; exact H
            clear H
            have H := H1
            clear H1
            have H' := aM H
            clear H
            go_wp2
            go_meet
            case rel => exact ⟨_, (true), (by first | rfl | (simp; done) | (simp [*]; done)), H', ⟨by have := HJ1.out; have := HJ5.out; have := HJ9.out; first | omega | exact Nat.le_refl _⟩, by repeat (first | exact Drawn0.refl _ | apply Drawn0.step)⟩
           ·replace c12 := Bool.eq_false_iff.mpr c12
            subst c12
            have H1 : (if a0 ≥ 65 then (if a0 ≤ 90 then (glyph_Class.j3 kj9 a0 (decide (a0 ≤ 90))) else (glyph_Class.j3 kj9 a0 (a0 == 95))) else (glyph_Class.j3 kj9 a0 (a0 == 95))) = some r := by rw [if_neg (show ¬ (false = true) by decide)] at H; exact H
            clear H
            have H := H1
            clear H1
            by_cases c13 : a0 ≥ 65
            ·rw [if_pos c13] at H
             have c13b0 : decide (65 ≤ a0) = true := decide_eq_true c13
             clear c13
             by_cases c14 : a0 ≤ 90
             ·rw [if_pos c14] at H
              have c14b0 : decide (a0 ≤ 90) = true := decide_eq_true c14
              clear c14
              have H' := aM H
              clear H
              go_wp2
              go_meet
              case rel => exact ⟨_, (decide (a0 ≤ 90)), (by first | rfl | (simp; done) | (simp [*]; done)), H', ⟨by have := HJ1.out; have := HJ5.out; have := HJ9.out; first | omega | exact Nat.le_refl _⟩, by repeat (first | exact Drawn0.refl _ | apply Drawn0.step)⟩
             ·rw [if_neg c14] at H
              have c14b0 : decide (a0 ≤ 90) = false := decide_eq_false c14
              clear c14
              have H' := aM H
              clear H
              go_wp2
              go_meet
              case rel => exact ⟨_, ((a0 == 95)), (by first | rfl | (simp; done) | (simp [*]; done)), H', ⟨by have := HJ1.out; have := HJ5.out; have := HJ9.out; first | omega | exact Nat.le_refl _⟩, by repeat (first | exact Drawn0.refl _ | apply Drawn0.step)⟩
            ·rw [if_neg c13] at H
             have c13b0 : decide (65 ≤ a0) = false := decide_eq_false c13
             clear c13
             have H' := aM H
             clear H
             go_wp2
             go_meet
             case rel => exact ⟨_, ((a0 == 95)), (by first | rfl | (simp; done) | (simp [*]; done)), H', ⟨by have := HJ1.out; have := HJ5.out; have := HJ9.out; first | omega | exact Nat.le_refl _⟩, by repeat (first | exact Drawn0.refl _ | apply Drawn0.step)⟩
       case rest =>
        clear HC8
        try clear c1
        try clear p2
        try clear c3
        try clear c3b0
        try clear c3b1
        try clear c4
        try clear c5
        try clear c5b0
        try clear c5b1
        try clear c7
        try clear c7b0
        try clear c9
        try clear c11
        try clear c11b0
        try clear c12
        try clear c13
        try clear c13b0
        try clear c14
        try clear c14b0
        try clear p2
        obtain ⟨kq, x13_7, rfl, HA, HJ7, ⟨mc7, rfl⟩⟩ := hcut
        cases kq with
        | zero => exact absurd HA.out (by simp [glyph_Class.j3])
        | succ kj7 =>
         have H := HA.out
         clear HA
         simp only [glyph_Class.j3] at H
         by_cases c15 : x13_7 = true
         ·subst c15
          have H1 : (some 1) = some r := by rw [if_pos rfl] at H; exact H
          clear H
          have H := H1
          clear H1
          obtain rfl := Option.some.inj H
          go_wp2
          go_ret
          exact ⟨by first | rfl | (simp; done) | (simp [*]; done), by repeat (first | exact Drawn0.refl _ | apply Drawn0.step)⟩
         ·replace c15 := Bool.eq_false_iff.mpr c15
          subst c15
          have H1 : (if a0 ≥ 128 then (if a0 ≤ 1114111 then (if a0 = 65533 then (some 2) else (some 1)) else (some 2)) else (some 2)) = some r := by rw [if_neg (show ¬ (false = true) by decide)] at H; exact H
          clear H
          have H := H1
          clear H1
          by_cases c16 : a0 ≥ 128
          ·rw [if_pos c16] at H
           have c16b0 : decide (128 ≤ a0) = true := decide_eq_true c16
           clear c16
           by_cases c17 : a0 ≤ 1114111
           ·rw [if_pos c17] at H
            have c17b0 : decide (a0 ≤ 1114111) = true := decide_eq_true c17
            clear c17
            by_cases c18 : a0 = 65533
            ·rw [if_pos c18] at H
             have c18b0 : (a0 == 65533) = true := beq_iff_eq.mpr c18
             have c18b1 : (a0 != 65533) = false := bne_eq_false_iff_eq.mpr c18
             clear c18
             obtain rfl := Option.some.inj H
             go_wp2
             go_ret
             exact ⟨by first | rfl | (simp; done) | (simp [*]; done), by repeat (first | exact Drawn0.refl _ | apply Drawn0.step)⟩
            ·rw [if_neg c18] at H
             have c18b0 : (a0 == 65533) = false := beq_eq_false_iff_ne.mpr c18
             have c18b1 : (a0 != 65533) = true := bne_iff_ne.mpr c18
             obtain rfl := Option.some.inj H
             go_wp2
             go_ret
             exact ⟨by first | rfl | (simp; done) | (simp [*]; done), by repeat (first | exact Drawn0.refl _ | apply Drawn0.step)⟩
           ·rw [if_neg c17] at H
            have c17b0 : decide (a0 ≤ 1114111) = false := decide_eq_false c17
            clear c17
            obtain rfl := Option.some.inj H
            go_wp2
            go_ret
            exact ⟨by first | rfl | (simp; done) | (simp [*]; done), by repeat (first | exact Drawn0.refl _ | apply Drawn0.step)⟩
          ·rw [if_neg c16] at H
           have c16b0 : decide (128 ≤ a0) = false := decide_eq_false c16
           clear c16
           obtain rfl := Option.some.inj H
           go_wp2
           go_ret
           exact ⟨by first | rfl | (simp; done) | (simp [*]; done), by repeat (first | exact Drawn0.refl _ | apply Drawn0.step)⟩
end Go.Proofs.YtjkfkiebhgkolaaGreatDoor.PB
end

section
namespace Go.Proofs.YtjkfkiebhgkolaaGreatDoor.PB
open Go.RowKit Go.Proofs.YtjkfkiebhgkolaaGreatDoorW.PrintWords
set_option linter.unusedVariables false
set_option linter.unusedSimpArgs false
def classS (r : Int) : Int :=
  if r = 32 ∨ r = 9 then 0 else if r = 10 then 3
  else if (48 ≤ r ∧ r ≤ 57) ∨ (97 ≤ r ∧ r ≤ 122) ∨ (65 ≤ r ∧ r ≤ 90) ∨ r = 95 then 1
  else if 128 ≤ r ∧ r ≤ 1114111 ∧ r ≠ 65533 then 1 else 2
def walkL (v : ByteArray) (te : Nat) : Nat → Nat → List Nat
  | 0, _ => []
  | f + 1, p => if p < te then p :: walkL v te f (p + sgW v p) else []
theorem byte_at (v : ByteArray) (i : Nat) (hi : i < v.size) : ∀ c : UInt8, v.data.toList[i]? = some c → bN v i = c.toNat := fun c hc => by
  have h := bt_list v i hi
  rw [bt_bN, List.getD_eq_getElem?_getD, hc] at h
  simp only [Option.getD_some] at h
  exact_mod_cast h
theorem end_byte (v : ByteArray) (n : Nat) (h : n < (ends v).length) (hl : lineTo v n < v.size) : bN v (lineTo v n) = 10 := by
  rcases line_last v n h with ⟨_, h2, h3⟩ | ⟨o, h1, h2, h3, h4, h5⟩
  · omega
  · rcases ib_cases (v.data.toList.drop (lineFrom v n)) with ⟨hi, _⟩ | ⟨o', hi, ho, ha, hb⟩
    · rw [hi] at h1; omega
    · have : o' = o := by rw [hi] at h1; omega
      subst this
      rw [List.getElem?_drop] at ha
      rw [h2]
      exact byte_at v _ (by omega) 10 ha
theorem reach_to (v : ByteArray) (n : Nat) (h : n < (ends v).length) (hl : lineTo v n < v.size) : Reach v (lineTo v n) := reach_lead hl (by rw [end_byte v n h hl]; decide)
theorem reach_from (v : ByteArray) (n : Nat) (h : n < (ends v).length) : Reach v (lineFrom v n) := by
  cases n with
  | zero => exact .zero
  | succ n =>
    have hl : lineTo v n < v.size := (line_end v n (by omega)).1.1 h
    rw [line_next v n h]
    have hr := reach_to v n (by omega) hl
    have hw : sgW v (lineTo v n) = 1 := by
      have hb := end_byte v n (by omega) hl
      unfold sgW
      rw [sg_at, hb]
      rfl
    have := hr.step hl
    rwa [hw] at this
def lineSg (v : ByteArray) (n : Nat) : List Nat := walkL v (lineTo v n) v.size (lineFrom v n)
end Go.Proofs.YtjkfkiebhgkolaaGreatDoor.PB
end

section
namespace Go.Proofs.YtjkfkiebhgkolaaGreatDoor.PB
open Go.RowKit Go.Proofs.YtjkfkiebhgkolaaGreatDoorW.PrintWords
set_option linter.unusedVariables false
set_option linter.unusedSimpArgs false
theorem gclass_ev (r : Int) : Ev (fun k => glyph_Class.f k r) (classS r) := by
  unfold glyph_Class.f
  have j3t : Ev (fun k => glyph_Class.j3 k r true) 1 := by
    refine Ev.step (fun k => by simp only [glyph_Class.j3]; rfl) ?_
    exact Ev.pos (by first | trivial | rfl) (Ev.now _)
  have j3f : ∀ b : Bool, b = false → Ev (fun k => glyph_Class.j3 k r b) (if 128 ≤ r ∧ r ≤ 1114111 ∧ r ≠ 65533 then 1 else 2) := fun b hb => by
    subst hb
    refine Ev.step (fun k => by simp only [glyph_Class.j3]; rfl) (Ev.neg (by decide) ?_)
    by_cases h1 : r ≥ 128
    · refine Ev.pos h1 ?_
      by_cases h2 : r ≤ 1114111
      · refine Ev.pos h2 ?_
        by_cases h3 : r = 65533
        · exact Ev.pos h3 (ev_val (Ev.now _) (if_neg (fun h => h.2.2 h3)).symm)
        · exact Ev.neg h3 (ev_val (Ev.now _) (if_pos ⟨h1, h2, h3⟩).symm)
      · exact Ev.neg h2 (ev_val (Ev.now _) (if_neg (fun h => h2 h.2.1)).symm)
    · exact Ev.neg h1 (ev_val (Ev.now _) (if_neg (fun h => h1 h.1)).symm)
  have j3 : ∀ b : Bool, b = decide ((48 ≤ r ∧ r ≤ 57) ∨ (97 ≤ r ∧ r ≤ 122) ∨ (65 ≤ r ∧ r ≤ 90) ∨ r = 95) → ¬ (r = 32 ∨ r = 9) → r ≠ 10 → Ev (fun k => glyph_Class.j3 k r b) (classS r) := fun b hb h1 h2 => by
    unfold classS
    rw [if_neg h1, if_neg h2]
    by_cases h : (48 ≤ r ∧ r ≤ 57) ∨ (97 ≤ r ∧ r ≤ 122) ∨ (65 ≤ r ∧ r ≤ 90) ∨ r = 95
    · rw [decide_eq_true h] at hb
      subst hb
      rw [if_pos h]
      exact j3t
    · rw [decide_eq_false h] at hb
      rw [if_neg h]
      exact j3f b hb
  have j2 : ∀ b : Bool, b = decide ((48 ≤ r ∧ r ≤ 57) ∨ (97 ≤ r ∧ r ≤ 122)) → ¬ (r = 32 ∨ r = 9) → r ≠ 10 → Ev (fun k => glyph_Class.j2 k r b) (classS r) := fun b hb h1 h2 => by
    refine Ev.step (fun k => by simp only [glyph_Class.j2]; rfl) ?_
    by_cases h : (48 ≤ r ∧ r ≤ 57) ∨ (97 ≤ r ∧ r ≤ 122)
    · rw [decide_eq_true h] at hb
      subst hb
      exact Ev.pos (by first | trivial | rfl) (j3 true (decide_eq_true (by omega)).symm h1 h2)
    · rw [decide_eq_false h] at hb
      subst hb
      refine Ev.neg (by decide) ?_
      have l95 : ¬ (65 ≤ r ∧ r ≤ 90) → (r == 95) = decide ((48 ≤ r ∧ r ≤ 57) ∨ (97 ≤ r ∧ r ≤ 122) ∨ (65 ≤ r ∧ r ≤ 90) ∨ r = 95) := fun h3 => by
        rw [Bool.eq_iff_iff]
        simp only [beq_iff_eq, decide_eq_true_eq]
        omega
      by_cases c1 : r ≥ 65
      · refine Ev.pos c1 ?_
        by_cases c2 : r ≤ 90
        · refine Ev.pos c2 (j3 _ ?_ h1 h2)
          rw [decide_eq_true c2, decide_eq_true (by omega)]
        · exact Ev.neg c2 (j3 _ (l95 (by omega)) h1 h2)
      · exact Ev.neg c1 (j3 _ (l95 (by omega)) h1 h2)
  have j1 : ∀ b : Bool, b = decide (48 ≤ r ∧ r ≤ 57) → ¬ (r = 32 ∨ r = 9) → r ≠ 10 → Ev (fun k => glyph_Class.j1 k r b) (classS r) := fun b hb h1 h2 => by
    refine Ev.step (fun k => by simp only [glyph_Class.j1]; rfl) ?_
    by_cases h : 48 ≤ r ∧ r ≤ 57
    · rw [decide_eq_true h] at hb
      subst hb
      exact Ev.pos (by first | trivial | rfl) (j3 true (decide_eq_true (by omega)).symm h1 h2)
    · rw [decide_eq_false h] at hb
      subst hb
      refine Ev.neg (by decide) ?_
      by_cases c1 : r ≥ 97
      · refine Ev.pos c1 (j2 _ ?_ h1 h2)
        rw [Bool.eq_iff_iff]
        simp only [decide_eq_true_eq]
        omega
      · exact Ev.neg c1 (j2 false (decide_eq_false (by omega)).symm h1 h2)
  have j0 : ∀ b : Bool, b = decide (r = 32 ∨ r = 9) → Ev (fun k => glyph_Class.j0 k r b) (classS r) := fun b hb => by
    refine Ev.step (fun k => by simp only [glyph_Class.j0]; rfl) ?_
    by_cases h1 : r = 32 ∨ r = 9
    · rw [decide_eq_true h1] at hb
      subst hb
      refine Ev.pos (by first | trivial | rfl) (ev_val (Ev.now _) ?_)
      unfold classS
      rw [if_pos h1]
    · rw [decide_eq_false h1] at hb
      subst hb
      refine Ev.neg (by decide) ?_
      by_cases h2 : r = 10
      · refine Ev.pos h2 (ev_val (Ev.now _) ?_)
        unfold classS
        rw [if_neg h1, if_pos h2]
      refine Ev.neg h2 ?_
      by_cases c1 : r ≥ 48
      · refine Ev.pos c1 (j1 _ ?_ h1 h2)
        rw [Bool.eq_iff_iff]
        simp only [decide_eq_true_eq]
        omega
      · exact Ev.neg c1 (j1 false (decide_eq_false (by omega)).symm h1 h2)
  by_cases h1 : r = 32
  · exact Ev.pos h1 (j0 true (decide_eq_true (.inl h1)).symm)
  · refine Ev.neg h1 (j0 _ ?_)
    rw [Bool.eq_iff_iff]
    simp only [beq_iff_eq, decide_eq_true_eq]
    omega
def lastIn (v : ByteArray) (n : Nat) : Nat := if lineFrom v n = lineTo v n then lineFrom v n else alignN v (lineTo v n - 1)
def nonBlank (v : ByteArray) (p : Nat) : Bool := decide (classS (sgR v p : Int) ≠ 0)
def firstIn (v : ByteArray) (n : Nat) : Nat := ((lineSg v n).find? (nonBlank v)).getD (lastIn v n)
def firstS (v : ByteArray) (n : Int) : Nat := firstIn v (clipN v n)
theorem sub_dec (v : ByteArray) (fr te q : Nat) (hte : te ≤ v.size) (hend : te = v.size ∨ bN v te = 10) (hq : fr + q < te) : Utf8.decode (v.extract fr te) q = Utf8.decode v (fr + q) := by
  have hsz : (v.extract fr te).size = te - fr := by rw [ByteArray.size_extract]; omega
  have hin : ∀ j, fr + j < te → bN (v.extract fr te) j = bN v (fr + j) := fun j hj => by
    have h3 := bt_ext v fr (te - fr) j (by omega) (by omega)
    rw [show fr + (te - fr) = te by omega, bt_bN] at h3
    exact_mod_cast h3
  rw [sg_at, sg_at, hsz, hin q hq]
  have h1 : 1 < te - fr - q → bN (v.extract fr te) (q + 1) = bN v (fr + q + 1) := fun h => by rw [hin (q + 1) (by omega)]; rfl
  have h2 : 2 < te - fr - q → bN (v.extract fr te) (q + 2) = bN v (fr + q + 2) := fun h => by rw [hin (q + 2) (by omega)]; rfl
  have h3 : 3 < te - fr - q → bN (v.extract fr te) (q + 3) = bN v (fr + q + 3) := fun h => by rw [hin (q + 3) (by omega)]; rfl
  have e1 : 1 < v.size - (fr + q) → ¬ 1 < te - fr - q → bN v (fr + q + 1) = 10 := fun h h' => by
    rcases hend with h0 | h0
    · omega
    · rw [show fr + q + 1 = te by omega]; exact h0
  have e2 : 2 < v.size - (fr + q) → 1 < te - fr - q → ¬ 2 < te - fr - q → bN v (fr + q + 2) = 10 := fun h h' h'' => by
    rcases hend with h0 | h0
    · omega
    · rw [show fr + q + 2 = te by omega]; exact h0
  have e3 : 3 < v.size - (fr + q) → 2 < te - fr - q → ¬ 3 < te - fr - q → bN v (fr + q + 3) = 10 := fun h h' h'' => by
    rcases hend with h0 | h0
    · omega
    · rw [show fr + q + 3 = te by omega]; exact h0
  have hn : te - fr - q ≤ v.size - (fr + q) := by omega
  generalize bN v (fr + q) = b0
  generalize bN (v.extract fr te) (q + 1) = c1 at *
  generalize bN (v.extract fr te) (q + 2) = c2 at *
  generalize bN (v.extract fr te) (q + 3) = c3 at *
  generalize bN v (fr + q + 1) = b1 at *
  generalize bN v (fr + q + 2) = b2 at *
  generalize bN v (fr + q + 3) = b3 at *
  generalize te - fr - q = m at *
  generalize v.size - (fr + q) = n at *
  clear hin hsz hend hq hte
  have k1 : (1 < m ∧ c1 / 64 = 2) ↔ (1 < n ∧ b1 / 64 = 2) := by
    by_cases h : 1 < m
    · have := h1 h; subst this; constructor <;> rintro ⟨_, _⟩ <;> exact ⟨by omega, by assumption⟩
    · constructor
      · rintro ⟨_, _⟩; omega
      · rintro ⟨h5, h6⟩; have := e1 h5 h; omega
  have k2 : (1 < m ∧ c1 / 64 = 2) → ((2 < m ∧ c2 / 64 = 2) ↔ (2 < n ∧ b2 / 64 = 2)) := fun hk => by
    by_cases h : 2 < m
    · have := h2 h; subst this; constructor <;> rintro ⟨_, _⟩ <;> exact ⟨by omega, by assumption⟩
    · constructor
      · rintro ⟨_, _⟩; omega
      · rintro ⟨h5, h6⟩; have := e2 h5 hk.1 h; omega
  have k3 : (2 < m ∧ c2 / 64 = 2) → ((3 < m ∧ c3 / 64 = 2) ↔ (3 < n ∧ b3 / 64 = 2)) := fun hk => by
    by_cases h : 3 < m
    · have := h3 h; subst this; constructor <;> rintro ⟨_, _⟩ <;> exact ⟨by omega, by assumption⟩
    · constructor
      · rintro ⟨_, _⟩; omega
      · rintro ⟨h5, h6⟩; have := e3 h5 hk.1 h; omega
  unfold Lib.decodeN
  by_cases q1 : 1 < m ∧ c1 / 64 = 2
  · have r1 := k1.1 q1
    have ec1 : c1 = b1 := h1 q1.1
    subst ec1
    by_cases q2 : 2 < m ∧ c2 / 64 = 2
    · have r2 := (k2 q1).1 q2
      have ec2 : c2 = b2 := h2 q2.1
      subst ec2
      by_cases q3 : 3 < m ∧ c3 / 64 = 2
      · have r3 := (k3 q2).1 q3
        have ec3 : c3 = b3 := h3 q3.1
        subst ec3
        simp only [q1, r1, q2, r2, q3, r3, and_self, and_true]
      · have r3 : ¬ (3 < n ∧ b3 / 64 = 2) := fun h => q3 ((k3 q2).2 h)
        simp only [q3, r3, and_false, if_false]
        simp only [q1, r1, q2, r2, and_self, and_true]
    · have r2 : ¬ (2 < n ∧ b2 / 64 = 2) := fun h => q2 ((k2 q1).2 h)
      have q2' : ∀ P : Prop, ¬ ((2 < m ∧ c2 / 64 = 2) ∧ P) := fun P h => q2 h.1
      have r2' : ∀ P : Prop, ¬ ((2 < n ∧ b2 / 64 = 2) ∧ P) := fun P h => r2 h.1
      simp only [q2, r2, and_false, false_and, if_false]
      simp only [q1, r1, and_self, and_true, true_and, and_false, if_false]
  · have r1 : ¬ (1 < n ∧ b1 / 64 = 2) := fun h => q1 (k1.2 h)
    have q1' : ∀ P : Prop, ¬ ((1 < m ∧ c1 / 64 = 2) ∧ P) := fun P h => q1 h.1
    have r1' : ∀ P : Prop, ¬ ((1 < n ∧ b1 / 64 = 2) ∧ P) := fun P h => r1 h.1
    simp only [q1, r1, and_false, false_and, if_false]
end Go.Proofs.YtjkfkiebhgkolaaGreatDoor.PB
end

section
namespace Go.Proofs.YtjkfkiebhgkolaaGreatDoor.PB
open Go.RowKit Go.Proofs.YtjkfkiebhgkolaaGreatDoorW.PrintWords
set_option linter.unusedVariables false
def fitE (o : ByteArray) (ol : List S68) (n : ByteArray) (nl : List S68) : Prop := (o.size ≤ 5000 ∧ ol.length ≤ 5000) ∧ (n.size ≤ 5000 ∧ nl.length ≤ 5000)
instance (o : ByteArray) (ol : List S68) (n : ByteArray) (nl : List S68) : Decidable (fitE o ol n nl) := inferInstanceAs (Decidable (_ ∧ _))
end Go.Proofs.YtjkfkiebhgkolaaGreatDoor.PB
end

section
namespace Go.Proofs.YtjkfkiebhgkolaaGreatDoor.PB
open Go.RowKit Go.Proofs.YtjkfkiebhgkolaaGreatDoorW.PrintWords Go.Proofs.YtjkfkiebhgkolaaGreatDoorW.PrintLast Go.Proofs.YtjkfkiebhgkolaaGreatDoorW.PrintMore
attribute [local go_sem] max2_int min2_int max_two min_two max_three min_three max_four min_four   
set_option linter.unusedVariables false
set_option linter.unusedSimpArgs false
def edit_Of.f (k : Nat) (a0_0 : ByteArray) (l0_1 : List (S68)) (a1 : Int) (a2 : Int) (a3_0 : ByteArray) (l3_1 : List (S68)) : Option (Int × ByteArray × (List (S68)) × ByteArray × (List (S68)) × Int) := (strip_Splice.f k a0_0 l0_1 a1 a2 a3_0 l3_1).bind fun bt134 => (if bt134.2.2 = 0 then ((strip_Cut.f k a0_0 l0_1 a1 a2).bind fun bt140 => ((edit_own.f a3_0 l3_1).bind fun bt146 => (some (a1, bt140.1, bt140.2.1, bt146.1, bt146.2, bt140.2.2)))) else (some (0, (⟨#[]⟩ : ByteArray), ([] : List (S68)), (⟨#[]⟩ : ByteArray), ([] : List (S68)), bt134.2.2)))
def edit_Of.T5 : Bool × List (List Nat × List Nat) := (true, [([], []), ([], []), ([], []), ([2], [2]), ([0, 1, 3], [0, 1, 3]), ([], []), ([4, 3, 0, 1, 2, 3, 4], [4]), ([5, 6, 0, 1, 2, 3, 4, 5, 6], [5])])
def edit_Of.B5 : List Nat := [0, 0, 0, 4, 15, 0, 31, 127]
theorem edit_Of.tab5 : rtab .any (opsOf Tryz.f104 5) = edit_Of.T5 := by kernel_rfl
theorem edit_Of.bits5 : waitsOk edit_Of.T5.2 edit_Of.B5 = true := by kernel_rfl
set_option maxHeartbeats 8000000 in
set_option maxRecDepth 100000 in
theorem edit_Of.calls (k : Nat) (a0_0 : ByteArray) (A0_1 : Option Addr) (c0_1 : Nat) (l0_1 : List (S68)) (a1 : Int) (a2 : Int) (a3_0 : ByteArray) (A3_1 : Option Addr) (c3_1 : Nat) (l3_1 : List (S68)) (r1 : Int) (r2 : ByteArray) (r3 : List (S68)) (r4 : ByteArray) (r5 : List (S68)) (r6 : Int) (w : World) (hr0_1 : Kd.C k68 w A0_1 l0_1.length l0_1) (hc0_1 : l0_1.length ≤ c0_1) (hr3_1 : Kd.C k68 w A3_1 l3_1.length l3_1) (hc3_1 : l3_1.length ≤ c3_1) (h : edit_Of.f k a0_0 l0_1 a1 a2 a3_0 l3_1 = some (r1, r2, r3, r4, r5, r6)) :
  Calls Tryz.prog 104 #[.agg #[.string a0_0, .slice A0_1 l0_1.length c0_1], .int .i64 a1, .int .i64 a2, .agg #[.string a3_0, .slice A3_1 l3_1.length c3_1]] w fun e w' => ∃ v2_ v4_ : Value, e = .returned (.tuple #[.agg #[.int .i64 r1, .string r2, v2_, .string r4, v4_], .int .i64 r6]) ∧ Kd.R k68 68 w' w.heap.size (fun k_ => some k_ ≠ (v4_ : Value).ownBlock) v2_ r3 ∧ Kd.R k68 68 w' w.heap.size (fun k_ => some k_ ≠ (v2_ : Value).ownBlock) v4_ r5 ∧ Below w.heap.size w w' := by
 have hu24 := Tryz.underlying24
 have hu36 := Tryz.underlying36
 have HR0_1 := aM hr0_1
 have HC0_1 := aM hc0_1
 clear hr0_1 hc0_1
 have HR3_1 := aM hr3_1
 have HC3_1 := aM hc3_1
 clear hr3_1 hc3_1
 have HB := aM (Below.refl w.heap.size w)
 have H : ((strip_Splice.f k a0_0 l0_1 a1 a2 a3_0 l3_1).bind fun bt134 => (if bt134.2.2 = 0 then ((strip_Cut.f k a0_0 l0_1 a1 a2).bind fun bt140 => ((edit_own.f a3_0 l3_1).bind fun bt146 => (some (a1, bt140.1, bt140.2.1, bt146.1, bt146.2, bt140.2.2)))) else (some (0, (⟨#[]⟩ : ByteArray), ([] : List (S68)), (⟨#[]⟩ : ByteArray), ([] : List (S68)), bt134.2.2)))) = some (r1, r2, r3, r4, r5, r6) := h
 clear h
 replace H := Option.bind_eq_some_iff.mp H
 obtain ⟨⟨t134, t135, t138⟩, A50, H⟩ := H
 replace H : (if t138 = 0 then ((strip_Cut.f k a0_0 l0_1 a1 a2).bind fun bt140 => ((edit_own.f a3_0 l3_1).bind fun bt146 => (some (a1, bt140.1, bt140.2.1, bt146.1, bt146.2, bt140.2.2)))) else (some (0, (⟨#[]⟩ : ByteArray), ([] : List (S68)), (⟨#[]⟩ : ByteArray), ([] : List (S68)), t138))) = some (r1, r2, r3, r4, r5, r6) := H
 have A5 := aM A50
 clear A50
 by_cases c6 : t138 = 0
 ·rw [if_pos c6] at H
  have c6b0 : (t138 == 0) = true := beq_iff_eq.mpr c6
  have c6b1 : (t138 != 0) = false := bne_eq_false_iff_eq.mpr c6
  clear c6
  replace H := Option.bind_eq_some_iff.mp H
  obtain ⟨⟨t140, t141, t144⟩, A70, H⟩ := H
  replace H : ((edit_own.f a3_0 l3_1).bind fun bt146 => (some (a1, t140, t141, bt146.1, bt146.2, t144))) = some (r1, r2, r3, r4, r5, r6) := H
  have A7 := aM A70
  clear A70
  replace H := Option.bind_eq_some_iff.mp H
  obtain ⟨⟨t146, t147⟩, A80, H⟩ := H
  replace H : (some (a1, t140, t141, t146, t147, t144)) = some (r1, r2, r3, r4, r5, r6) := H
  have A8 := aM A80
  clear A80
  simp only [Option.some.injEq, Prod.mk.injEq] at H
  obtain ⟨rfl, rfl, rfl, rfl, rfl, rfl⟩ := H
  go_enter Tryz.func104, Tryz.ntmps104
  try go_wp2_with (first | ((with_reducible refine gate_dst (N := 4) rfl ?_); refine box_event ?hg (N := 4) ?hd (cs := #[.string a0_0, .slice A0_1 l0_1.length c0_1]) (t := 24) ?hr ?_; (case hd | hg => rfl); (case hr => first | (go_simp; done) | (go_simp; rfl)); intro gb131 hg w9 hbox hb; have n0_ := aM (bP (ey HB.out) hb); have n1_ := aM (hbox); have n2_ := aM ((by rw [hg]; exact (bZ (ey HB.out)) : w.heap.size ≤ gb131)); have n3_ := n2_; clear HB; have HB := n0_; have BK131 := n1_; have GW131 := n2_; have GE131 := n3_; clear n0_ n1_ n2_ n3_; clear hb hbox hg) | ((with_reducible refine gate_dst (N := 7) rfl ?_); refine box_event ?hg (N := 7) ?hd (cs := #[.string a3_0, .slice A3_1 l3_1.length c3_1]) (t := 24) ?hr ?_; (case hd | hg => rfl); (case hr => first | (go_simp; done) | (go_simp; rfl)); intro gb132 hg w10 hbox hb; have n0_ := aM (bB (g := gb131) (qy BK131.out) hb); have n1_ := aM (bP (by repeat (first | (with_reducible first | exact HB.out | apply ea | apply en | apply ed | refine es ?_ GE131.out) | exact HB.out)) hb); have n2_ := aM (hbox); have n3_ := aM ((by rw [hg]; exact (bZ (by repeat (first | (with_reducible first | exact HB.out | apply ea | apply en | apply ed | refine es ?_ GE131.out) | exact HB.out))) : w.heap.size ≤ gb132)); have n4_ := n3_; have n5_ := aM ((by rw [hg]; exact Nat.ne_of_lt (blk_lt (g := gb131) (qy BK131.out)) : gb131 ≠ gb132)); have n6_ := aM ((by rw [hg]; exact Nat.ne_of_gt (blk_lt (g := gb131) (qy BK131.out)) : gb132 ≠ gb131)); clear BK131 HB; have BK131 := n0_; have HB := n1_; have BK132 := n2_; have GW132 := n3_; have GE132 := n4_; have NB131_132 := n5_; have NB132_131 := n6_; clear n0_ n1_ n2_ n3_ n4_ n5_ n6_; clear hb hbox hg) | ((with_reducible refine gate_dst (N := 8) rfl ?_); refine box_event ?hg (N := 8) ?hd (cs := #[.int .i64 0, .string (⟨#[]⟩ : ByteArray), .slice none 0 0, .string (⟨#[]⟩ : ByteArray), .slice none 0 0]) (t := 36) ?hr ?_; (case hd | hg => rfl); (case hr => first | (go_simp; done) | (go_simp; rfl)); intro gb133 hg w11 hbox hb; have n0_ := aM (bB (g := gb131) (qy BK131.out) hb); have n1_ := aM (bB (g := gb132) (qy BK132.out) hb); have n2_ := aM (bP (by repeat (first | (with_reducible first | exact HB.out | apply ea | apply en | apply ed | refine es ?_ GE131.out | refine es ?_ GE132.out) | exact HB.out)) hb); have n3_ := aM (hbox); have n4_ := aM ((by rw [hg]; exact (bZ (by repeat (first | (with_reducible first | exact HB.out | apply ea | apply en | apply ed | refine es ?_ GE131.out | refine es ?_ GE132.out) | exact HB.out))) : w.heap.size ≤ gb133)); have n5_ := n4_; have n6_ := aM ((by rw [hg]; exact Nat.ne_of_lt (blk_lt (g := gb131) (qy BK131.out)) : gb131 ≠ gb133)); have n7_ := aM ((by rw [hg]; exact Nat.ne_of_gt (blk_lt (g := gb131) (qy BK131.out)) : gb133 ≠ gb131)); have n8_ := aM ((by rw [hg]; exact Nat.ne_of_lt (blk_lt (g := gb132) (qy BK132.out)) : gb132 ≠ gb133)); have n9_ := aM ((by rw [hg]; exact Nat.ne_of_gt (blk_lt (g := gb132) (qy BK132.out)) : gb133 ≠ gb132)); clear BK131 BK132 HB; have BK131 := n0_; have BK132 := n1_; have HB := n2_; have BK133 := n3_; have GW133 := n4_; have GE133 := n5_; have NB131_133 := n6_; have NB133_131 := n7_; have NB132_133 := n8_; have NB133_132 := n9_; clear n0_ n1_ n2_ n3_ n4_ n5_ n6_ n7_ n8_ n9_; clear hb hbox hg; have hnb12 := NB131_132.out; have hnc12 := NB132_131.out; have hnb13 := NB131_133.out; have hnc13 := NB133_131.out; have hcz14_0 := zC BK131.out 0 (.string a0_0); have hcz14_1 := zC BK131.out 1 (.slice A0_1 l0_1.length c0_1); have hfz14_0 := bF BK131.out 0; have hfz14_1 := bF BK131.out 1; have hnb15 := NB132_133.out; have hnc15 := NB133_132.out; have hcz16_0 := zC BK132.out 0 (.string a3_0); have hcz16_1 := zC BK132.out 1 (.slice A3_1 l3_1.length c3_1); have hfz16_0 := bF BK132.out 0; have hfz16_1 := bF BK132.out 1) | ((with_reducible refine gate_callee (f := 147) rfl ?_); refine goesL_ (some 19) rfl rfl Tryz.func147 (by kernel_rfl) rfl #[.agg #[.string a0_0, .slice A0_1 l0_1.length c0_1], .int .i64 a1, .int .i64 a2, .agg #[.string a3_0, .slice A3_1 l3_1.length c3_1]] rfl (by (try simp only [mT, mC, mN]); first | done | rfl | (simp only [lD, lT]; rfl)) ?_; (with_reducible refine (strip_Splice.calls k a0_0 _ _ l0_1 a1 a2 a3_0 _ _ l3_1 t134 t135 t138 _ ?side1 ?side2 ?side3 ?side4 A5.out).mono ?_); (case side1 => repeat (first | exact (cB_ HR0_1.out HB.out) | (with_reducible refine Kd.C_alloc ?_ _) | (with_reducible refine Kd.C_drewN ?_ _) | (with_reducible refine Kd.C_drew ?_))); (case side2 => exact HC0_1.out); (case side3 => repeat (first | exact (cB_ HR3_1.out HB.out) | (with_reducible refine Kd.C_alloc ?_ _) | (with_reducible refine Kd.C_drewN ?_ _) | (with_reducible refine Kd.C_drew ?_))); (case side4 => exact HC3_1.out); rintro e w17 ⟨v136, rfl, ho0, hb⟩; refine ⟨_, rfl, ?_⟩; have n0_ := aM (rL ho0 (bZ (by repeat (first | (with_reducible first | exact HB.out | apply ea | apply en | apply ed | refine es ?_ GE131.out | refine es ?_ GE132.out | refine es ?_ GE133.out) | exact HB.out)))); have n1_ := aM (bB (g := gb131) (qy BK131.out) hb); have n2_ := aM (bB (g := gb132) (qy BK132.out) hb); have n3_ := aM (bB (g := gb133) (qy BK133.out) hb); have n4_ := aM (bP (by repeat (first | (with_reducible first | exact HB.out | apply ea | apply en | apply ed | refine es ?_ GE131.out | refine es ?_ GE132.out | refine es ?_ GE133.out) | exact HB.out)) hb); clear BK131 BK132 BK133 HB; have HO137 := n0_; have BK131 := n1_; have BK132 := n2_; have BK133 := n3_; have HB := n4_; clear n0_ n1_ n2_ n3_ n4_; (try clear hb); (try clear hb2); (try clear hk); (try clear hi); (try clear ho0)) | ((with_reducible refine gate_dst (N := 10) rfl ?_); refine box_event ?hg (N := 10) ?hd (cs := #[.string (⟨#[]⟩ : ByteArray), .slice none 0 0]) (t := 24) ?hr ?_; (case hd | hg => rfl); (case hr => first | (go_simp; done) | (go_simp; rfl)); intro gb139 hg w18 hbox hb; have n0_ := aM (Kd.R_below (ry HO137.out) hb); have n1_ := aM (bB (g := gb131) (qy BK131.out) hb); have n2_ := aM (bB (g := gb132) (qy BK132.out) hb); have n3_ := aM (bB (g := gb133) (qy BK133.out) hb); have n4_ := aM (bP (by repeat (first | (with_reducible first | exact HB.out | apply ea | apply en | apply ed | refine es ?_ GE131.out | refine es ?_ GE132.out | refine es ?_ GE133.out) | exact HB.out)) hb); have n5_ := aM (hbox); have n6_ := aM ((by rw [hg]; exact (bZ (by repeat (first | (with_reducible first | exact HB.out | apply ea | apply en | apply ed | refine es ?_ GE131.out | refine es ?_ GE132.out | refine es ?_ GE133.out) | exact HB.out))) : w.heap.size ≤ gb139)); have n7_ := n6_; have n8_ := aM ((by rw [hg]; exact Nat.ne_of_lt (blk_lt (g := gb131) (qy BK131.out)) : gb131 ≠ gb139)); have n9_ := aM ((by rw [hg]; exact Nat.ne_of_gt (blk_lt (g := gb131) (qy BK131.out)) : gb139 ≠ gb131)); have n10_ := aM ((by rw [hg]; exact Nat.ne_of_lt (blk_lt (g := gb132) (qy BK132.out)) : gb132 ≠ gb139)); have n11_ := aM ((by rw [hg]; exact Nat.ne_of_gt (blk_lt (g := gb132) (qy BK132.out)) : gb139 ≠ gb132)); have n12_ := aM ((by rw [hg]; exact Nat.ne_of_lt (blk_lt (g := gb133) (qy BK133.out)) : gb133 ≠ gb139)); have n13_ := aM ((by rw [hg]; exact Nat.ne_of_gt (blk_lt (g := gb133) (qy BK133.out)) : gb139 ≠ gb133)); clear HO137 BK131 BK132 BK133 HB; have HO137 := n0_; have BK131 := n1_; have BK132 := n2_; have BK133 := n3_; have HB := n4_; have BK139 := n5_; have GW139 := n6_; have GE139 := n7_; have NB131_139 := n8_; have NB139_131 := n9_; have NB132_139 := n10_; have NB139_132 := n11_; have NB133_139 := n12_; have NB139_133 := n13_; clear n0_ n1_ n2_ n3_ n4_ n5_ n6_ n7_ n8_ n9_ n10_ n11_ n12_ n13_; clear hb hbox hg; have hnb19 := NB139_131.out; have hnc19 := NB131_139.out; have hnb20 := NB139_132.out; have hnc20 := NB132_139.out; have hnb21 := NB139_133.out; have hnc21 := NB133_139.out; have hcz22_0 := zC BK139.out 0 (.string (⟨#[]⟩ : ByteArray)); have hcz22_1 := zC BK139.out 1 (.slice none 0 0); have hfz22_0 := bF BK139.out 0; have hfz22_1 := bF BK139.out 1; obtain ⟨Ao23, co23, eo23⟩ := Kd.R_slice HO137.out; subst eo23; have hcz24_0 := zC BK131.out 0 (.string a0_0); have hcz24_1 := zC BK131.out 1 (.slice A0_1 l0_1.length c0_1); have hfz24_0 := bF BK131.out 0; have hfz24_1 := bF BK131.out 1) | ((with_reducible refine gate_callee (f := 74) rfl ?_); refine goesL_ (some 30) rfl rfl Tryz.func74 (by kernel_rfl) rfl #[.agg #[.string a0_0, .slice A0_1 l0_1.length c0_1], .int .i64 a1, .int .i64 a2] rfl (by (try simp only [mT, mC, mN]); first | done | rfl | (simp only [lD, lT]; rfl)) ?_; (with_reducible refine (strip_Cut.calls k a0_0 _ _ l0_1 a1 a2 t140 t141 t144 _ ?side1 ?side2 A7.out).mono ?_); (case side1 => exact cB_ HR0_1.out (by repeat (first | (with_reducible first | exact HB.out | apply ea | apply en | apply ed | refine es ?_ GE131.out | refine es ?_ GE132.out | refine es ?_ GE133.out | refine es ?_ GE139.out) | exact HB.out))); (case side2 => exact HC0_1.out); rintro e w25 ⟨v142, rfl, ho0, hb⟩; refine ⟨_, rfl, ?_⟩; have n0_ := aM (rE (by (with_reducible repeat (first | apply ra | apply rn | apply rd_)); exact (rM (rF (p := ⟨gb139, 1, none⟩) (rF (p := ⟨gb139, 0, none⟩) (rT HO137.out BK139.out (by decide)) (fun _ hk => hk.2) (.string t134)) (fun _ hk => hk.2) (.slice Ao23 t135.length co23)) (fun _ h_ => h_.1))) (Kd.R_base ho0) hb); have n1_ := aM (rL (Kd.R_new' ho0 (Kd.R_lt (by (with_reducible repeat (first | apply ra | apply rn | apply rd_)); exact (rM (rF (p := ⟨gb139, 1, none⟩) (rF (p := ⟨gb139, 0, none⟩) (rT HO137.out BK139.out (by decide)) (fun _ hk => hk.2) (.string t134)) (fun _ hk => hk.2) (.slice Ao23 t135.length co23)) (fun _ h_ => h_.1))))) (bZ (by repeat (first | (with_reducible first | exact HB.out | apply ea | apply en | apply ed | refine es ?_ GE131.out | refine es ?_ GE132.out | refine es ?_ GE133.out | refine es ?_ GE139.out) | exact HB.out)))); have n2_ := aM (bB (g := gb131) (o := .cells #[.string a0_0, .slice A0_1 l0_1.length c0_1] 24 (0, 0)) (by (with_reducible repeat (first | apply qn | apply qd | apply qa)); refine bR ?_ NB131_139.out _; (with_reducible repeat (first | apply qn | apply qd | apply qa)); refine bR ?_ NB131_139.out _; exact qy BK131.out) hb); have n3_ := aM (bB (g := gb132) (o := .cells #[.string a3_0, .slice A3_1 l3_1.length c3_1] 24 (0, 0)) (by (with_reducible repeat (first | apply qn | apply qd | apply qa)); refine bR ?_ NB132_139.out _; (with_reducible repeat (first | apply qn | apply qd | apply qa)); refine bR ?_ NB132_139.out _; exact qy BK132.out) hb); have n4_ := aM (bB (g := gb133) (o := .cells #[.int .i64 0, .string (⟨#[]⟩ : ByteArray), .slice none 0 0, .string (⟨#[]⟩ : ByteArray), .slice none 0 0] 36 (0, 0)) (by (with_reducible repeat (first | apply qn | apply qd | apply qa)); refine bR ?_ NB133_139.out _; (with_reducible repeat (first | apply qn | apply qd | apply qa)); refine bR ?_ NB133_139.out _; exact qy BK133.out) hb); have n5_ := aM (bB (g := gb139) (o := .cells #[.string t134, .slice Ao23 t135.length co23] 24 (0, 0)) (by (with_reducible repeat (first | apply qn | apply qd | apply qa)); refine bU (cs := #[.string t134, .slice none 0 0]) ?_ 1 _ rfl; (with_reducible repeat (first | apply qn | apply qd | apply qa)); refine bU (cs := #[.string (⟨#[]⟩ : ByteArray), .slice none 0 0]) ?_ 0 _ rfl; exact qy BK139.out) hb); have n6_ := aM (bP (by repeat (first | (with_reducible first | exact HB.out | apply ea | apply en | apply ed | refine es ?_ GE131.out | refine es ?_ GE132.out | refine es ?_ GE133.out | refine es ?_ GE139.out) | exact HB.out)) hb); clear HO137 BK131 BK132 BK133 BK139 HB; have HO137 := n0_; have HO143 := n1_; have BK131 := n2_; have BK132 := n3_; have BK133 := n4_; have BK139 := n5_; have HB := n6_; clear n0_ n1_ n2_ n3_ n4_ n5_ n6_; (try clear hb); (try clear hb2); (try clear hk); (try clear hi); (try clear ho0)) | ((with_reducible refine gate_dst (N := 12) rfl ?_); refine box_event ?hg (N := 12) ?hd (cs := #[.string (⟨#[]⟩ : ByteArray), .slice none 0 0]) (t := 24) ?hr ?_; (case hd | hg => rfl); (case hr => first | (go_simp; done) | (go_simp; rfl)); intro gb145 hg w26 hbox hb; have n0_ := aM (Kd.R_below (ry HO137.out) hb); have n1_ := aM (Kd.R_below (ry HO143.out) hb); have n2_ := aM (bB (g := gb131) (qy BK131.out) hb); have n3_ := aM (bB (g := gb132) (qy BK132.out) hb); have n4_ := aM (bB (g := gb133) (qy BK133.out) hb); have n5_ := aM (bB (g := gb139) (qy BK139.out) hb); have n6_ := aM (bP (by repeat (first | (with_reducible first | exact HB.out | apply ea | apply en | apply ed | refine es ?_ GE131.out | refine es ?_ GE132.out | refine es ?_ GE133.out | refine es ?_ GE139.out) | exact HB.out)) hb); have n7_ := aM (hbox); have n8_ := aM ((by rw [hg]; exact (bZ (by repeat (first | (with_reducible first | exact HB.out | apply ea | apply en | apply ed | refine es ?_ GE131.out | refine es ?_ GE132.out | refine es ?_ GE133.out | refine es ?_ GE139.out) | exact HB.out))) : w.heap.size ≤ gb145)); have n9_ := n8_; have n10_ := aM ((by rw [hg]; exact Nat.ne_of_lt (blk_lt (g := gb131) (qy BK131.out)) : gb131 ≠ gb145)); have n11_ := aM ((by rw [hg]; exact Nat.ne_of_gt (blk_lt (g := gb131) (qy BK131.out)) : gb145 ≠ gb131)); have n12_ := aM ((by rw [hg]; exact Nat.ne_of_lt (blk_lt (g := gb132) (qy BK132.out)) : gb132 ≠ gb145)); have n13_ := aM ((by rw [hg]; exact Nat.ne_of_gt (blk_lt (g := gb132) (qy BK132.out)) : gb145 ≠ gb132)); have n14_ := aM ((by rw [hg]; exact Nat.ne_of_lt (blk_lt (g := gb133) (qy BK133.out)) : gb133 ≠ gb145)); have n15_ := aM ((by rw [hg]; exact Nat.ne_of_gt (blk_lt (g := gb133) (qy BK133.out)) : gb145 ≠ gb133)); have n16_ := aM ((by rw [hg]; exact Nat.ne_of_lt (blk_lt (g := gb139) (qy BK139.out)) : gb139 ≠ gb145)); have n17_ := aM ((by rw [hg]; exact Nat.ne_of_gt (blk_lt (g := gb139) (qy BK139.out)) : gb145 ≠ gb139)); clear HO137 HO143 BK131 BK132 BK133 BK139 HB; have HO137 := n0_; have HO143 := n1_; have BK131 := n2_; have BK132 := n3_; have BK133 := n4_; have BK139 := n5_; have HB := n6_; have BK145 := n7_; have GW145 := n8_; have GE145 := n9_; have NB131_145 := n10_; have NB145_131 := n11_; have NB132_145 := n12_; have NB145_132 := n13_; have NB133_145 := n14_; have NB145_133 := n15_; have NB139_145 := n16_; have NB145_139 := n17_; clear n0_ n1_ n2_ n3_ n4_ n5_ n6_ n7_ n8_ n9_ n10_ n11_ n12_ n13_ n14_ n15_ n16_ n17_; clear hb hbox hg; have hnb27 := NB145_131.out; have hnc27 := NB131_145.out; have hnb28 := NB145_132.out; have hnc28 := NB132_145.out; have hnb29 := NB145_133.out; have hnc29 := NB133_145.out; have hnb30 := NB145_139.out; have hnc30 := NB139_145.out; have hcz31_0 := zC BK145.out 0 (.string (⟨#[]⟩ : ByteArray)); have hcz31_1 := zC BK145.out 1 (.slice none 0 0); have hfz31_0 := bF BK145.out 0; have hfz31_1 := bF BK145.out 1; obtain ⟨Ao32, co32, eo32⟩ := Kd.R_slice HO143.out; subst eo32))
  have n0_ : Aside0 (Kd.R k68 68 ((w26.setCell ⟨gb145, 0, none⟩ (.string t140)).setCell ⟨gb145, 1, none⟩ (.slice Ao32 t141.length co32)) w.heap.size (fun k_ => some k_ ≠ (.slice Ao32 t141.length co32 : Value).ownBlock) (.slice Ao23 t135.length co23) t135) := ⟨by (with_reducible repeat (first | apply ra | apply rn | apply rd_)); exact rM (rF (p := ⟨gb145, 1, none⟩) (rF (p := ⟨gb145, 0, none⟩) (rT HO137.out BK145.out (by decide)) (fun _ hk => hk.2) (.string t140)) (fun _ hk => hk.2) (.slice Ao32 t141.length co32)) (fun _ hk => hk.1.2)⟩
  have n1_ : Aside0 (Kd.R k68 68 ((w26.setCell ⟨gb145, 0, none⟩ (.string t140)).setCell ⟨gb145, 1, none⟩ (.slice Ao32 t141.length co32)) w.heap.size (fun k_ => some k_ ≠ (.slice Ao23 t135.length co23 : Value).ownBlock) (.slice Ao32 t141.length co32) t141) := ⟨by (with_reducible repeat (first | apply ra | apply rn | apply rd_)); exact rM (rF (p := ⟨gb145, 1, none⟩) (rF (p := ⟨gb145, 0, none⟩) (rT HO143.out BK145.out (by decide)) (fun _ hk => hk.2) (.string t140)) (fun _ hk => hk.2) (.slice Ao32 t141.length co32)) (fun _ hk => hk.1.2)⟩
  have n2_ : Aside0 (((w26.setCell ⟨gb145, 0, none⟩ (.string t140)).setCell ⟨gb145, 1, none⟩ (.slice Ao32 t141.length co32)).heap[gb131]? = some (.cells #[.string a0_0, .slice A0_1 l0_1.length c0_1] 24 (0, 0))) := ⟨by (with_reducible repeat (first | apply qn | apply qd | apply qa)); refine bR ?_ NB131_145.out _; (with_reducible repeat (first | apply qn | apply qd | apply qa)); refine bR ?_ NB131_145.out _; exact qy BK131.out⟩
  have n3_ : Aside0 (((w26.setCell ⟨gb145, 0, none⟩ (.string t140)).setCell ⟨gb145, 1, none⟩ (.slice Ao32 t141.length co32)).heap[gb132]? = some (.cells #[.string a3_0, .slice A3_1 l3_1.length c3_1] 24 (0, 0))) := ⟨by (with_reducible repeat (first | apply qn | apply qd | apply qa)); refine bR ?_ NB132_145.out _; (with_reducible repeat (first | apply qn | apply qd | apply qa)); refine bR ?_ NB132_145.out _; exact qy BK132.out⟩
  have n4_ : Aside0 (((w26.setCell ⟨gb145, 0, none⟩ (.string t140)).setCell ⟨gb145, 1, none⟩ (.slice Ao32 t141.length co32)).heap[gb133]? = some (.cells #[.int .i64 0, .string (⟨#[]⟩ : ByteArray), .slice none 0 0, .string (⟨#[]⟩ : ByteArray), .slice none 0 0] 36 (0, 0))) := ⟨by (with_reducible repeat (first | apply qn | apply qd | apply qa)); refine bR ?_ NB133_145.out _; (with_reducible repeat (first | apply qn | apply qd | apply qa)); refine bR ?_ NB133_145.out _; exact qy BK133.out⟩
  have n5_ : Aside0 (((w26.setCell ⟨gb145, 0, none⟩ (.string t140)).setCell ⟨gb145, 1, none⟩ (.slice Ao32 t141.length co32)).heap[gb139]? = some (.cells #[.string t134, .slice Ao23 t135.length co23] 24 (0, 0))) := ⟨by (with_reducible repeat (first | apply qn | apply qd | apply qa)); refine bR ?_ NB139_145.out _; (with_reducible repeat (first | apply qn | apply qd | apply qa)); refine bR ?_ NB139_145.out _; exact qy BK139.out⟩
  have n6_ : Aside0 (((w26.setCell ⟨gb145, 0, none⟩ (.string t140)).setCell ⟨gb145, 1, none⟩ (.slice Ao32 t141.length co32)).heap[gb145]? = some (.cells #[.string t140, .slice Ao32 t141.length co32] 24 (0, 0))) := ⟨by (with_reducible repeat (first | apply qn | apply qd | apply qa)); refine bU (cs := #[.string t140, .slice none 0 0]) ?_ 1 _ rfl; (with_reducible repeat (first | apply qn | apply qd | apply qa)); refine bU (cs := #[.string (⟨#[]⟩ : ByteArray), .slice none 0 0]) ?_ 0 _ rfl; exact qy BK145.out⟩
  have n7_ : Aside0 (Below w.heap.size w ((w26.setCell ⟨gb145, 0, none⟩ (.string t140)).setCell ⟨gb145, 1, none⟩ (.slice Ao32 t141.length co32))) := ⟨by repeat (first | (with_reducible first | exact HB.out | apply ea | apply en | apply ed | refine es ?_ GE131.out | refine es ?_ GE132.out | refine es ?_ GE133.out | refine es ?_ GE139.out | refine es ?_ GE145.out) | exact HB.out)⟩
  (try clear HO137)
  (try clear HO143)
  (try clear BK131)
  (try clear BK132)
  (try clear BK133)
  (try clear BK139)
  (try clear BK145)
  (try clear HB)
  generalize ((w26.setCell ⟨gb145, 0, none⟩ (.string t140)).setCell ⟨gb145, 1, none⟩ (.slice Ao32 t141.length co32)) = w33 at n0_ n1_ n2_ n3_ n4_ n5_ n6_ n7_ ⊢
  have HO137 := n0_
  have HO143 := n1_
  have BK131 := n2_
  have BK132 := n3_
  have BK133 := n4_
  have BK139 := n5_
  have BK145 := n6_
  have HB := n7_
  clear n0_ n1_ n2_ n3_ n4_ n5_ n6_ n7_
  have n0_ := aM (Kd.R_drew HO137.out)
  have n1_ := aM (Kd.R_drew HO143.out)
  have n2_ := aM (blk_drew BK131.out)
  have n3_ := aM (blk_drew BK132.out)
  have n4_ := aM (blk_drew BK133.out)
  have n5_ := aM (blk_drew BK139.out)
  have n6_ := aM (blk_drew BK145.out)
  have n7_ := aM (below_drew1 HB.out)
  clear HO137
  clear HO143
  clear BK131
  clear BK132
  clear BK133
  clear BK139
  clear BK145
  clear HB
  have HO137 := n0_
  have HO143 := n1_
  have BK131 := n2_
  have BK132 := n3_
  have BK133 := n4_
  have BK139 := n5_
  have BK145 := n6_
  have HB := n7_
  clear n0_ n1_ n2_ n3_ n4_ n5_ n6_ n7_
  refine start_ (n := 8) (S := fun w' => w'.cell? ⟨gb145, 0, none⟩ = some (.string t140) ∧ w'.cell? ⟨gb145, 1, none⟩ = some (.slice Ao32 t141.length co32) ∧ w'.cell? ⟨gb132, 0, none⟩ = some (.string a3_0) ∧ w'.cell? ⟨gb132, 1, none⟩ = some (.slice A3_1 l3_1.length c3_1)) (ds := []) b35_ (by kernel_rfl) rfl rfl ⟨(bC BK145.out 0).trans rfl, (bC BK145.out 1).trans rfl, (bC BK132.out 0).trans rfl, (bC BK132.out 1).trans rfl⟩ (fun hHeld => ?_); refine with_tabW edit_Of.tab5 edit_Of.bits5 (fun HT_ HW_ => ?_)
  generalize w33.drew = w34 at HO137 HO143 BK131 BK132 BK133 BK139 BK145 HB hHeld ⊢
  refine pure_ (i := 0) (N := some 33) (v := ?_) (a' := ?_) b36_ rfl rfl (any_of HT_.out (by kernel_rfl)) (fun _ _ _ h => h) (Or.inl ⟨by rfl, ?_⟩) ?_ ?_
  rotate_left
  ·intro w'
   go_simp
   with_reducible rfl
  rotate_left
  ·simp only [Act.put, sA, sZ, sS, i64_w, i32_w]
   rfl
  refine pure_ (i := 5) (N := some 38) (v := ?_) (a' := ?_) b37_ rfl rfl (any_of HT_.out (by kernel_rfl)) (fun _ _ _ h => h) (Or.inl ⟨by rfl, ?_⟩) ?_ ?_
  rotate_left
  ·intro w'
   go_simp
   with_reducible rfl
  rotate_left
  ·simp only [Act.put, sA, sZ, sS, i64_w, i32_w]
   rfl
  refine take_ (i := 1) (N := some 34) (v := ?_) (a' := ?_) b38_ rfl rfl (take_ofW HT_.out HW_.out (by kernel_rfl)) (fun _ _ _ h => h) (Or.inl ⟨by rfl, ?_⟩) hHeld ?_ ?_
  rotate_left
  ·rintro w' ⟨s0, s1, s2, s3⟩
   go_simp
   with_reducible rfl
  rotate_left
  ·simp only [Act.put, sA, sZ, sS, i64_w, i32_w]
   rfl
  refine take_ (i := 2) (N := some 35) (v := ?_) (a' := ?_) b39_ rfl rfl (take_ofW HT_.out HW_.out (by kernel_rfl)) (fun _ _ _ h => h) (Or.inl ⟨by rfl, ?_⟩) hHeld ?_ ?_
  rotate_left
  ·rintro w' ⟨s0, s1, s2, s3⟩
   go_simp
   with_reducible rfl
  rotate_left
  ·simp only [Act.put, sA, sZ, sS, i64_w, i32_w]
   rfl
  refine one_ (i := 3) (N := some 36) b40_ rfl rfl (one_of HT_.out (by kernel_rfl)) (by decide) (fun K hK => ?_)
  refine goes_ Tryz.func148 (by kernel_rfl) rfl #[.agg #[.string a3_0, .slice A3_1 l3_1.length c3_1]] (by rfl) rfl rfl (by (try simp only [mT, mC, mN]); first | done | rfl | (simp only [lD, lT]; rfl)) ?_
  with_reducible refine (edit_own.calls a3_0 _ _ l3_1 t146 t147 _ ?side1 ?side2 A8.out).mono ?_
  (case side1 => repeat (first | exact (cB_ HR3_1.out HB.out) | (with_reducible refine Kd.C_alloc ?_ _) | (with_reducible refine Kd.C_drewN ?_ _) | (with_reducible refine Kd.C_drew ?_)))
  (case side2 => exact HC3_1.out)
  rintro e w35 ⟨v148, rfl, ho0, hb⟩
  refine ⟨_, rfl, ?_⟩
  have n0_ := aM (rE (ry HO137.out) (Kd.R_base ho0) hb)
  have n1_ := aM (rE (ry HO143.out) (Kd.R_base ho0) hb)
  have n2_ := aM (rL (Kd.R_new' (Kd.R_new' ho0 (Kd.R_lt (ry HO137.out))) (Kd.R_lt (ry HO143.out))) (bZ (by repeat (first | (with_reducible first | exact HB.out | apply ea | apply en | apply ed | refine es ?_ GE131.out | refine es ?_ GE132.out | refine es ?_ GE133.out | refine es ?_ GE139.out | refine es ?_ GE145.out) | exact HB.out))))
  have n3_ := aM (bB (g := gb131) (qy BK131.out) hb)
  have n4_ := aM (bB (g := gb132) (qy BK132.out) hb)
  have n5_ := aM (bB (g := gb133) (qy BK133.out) hb)
  have n6_ := aM (bB (g := gb139) (qy BK139.out) hb)
  have n7_ := aM (bB (g := gb145) (qy BK145.out) hb)
  have n8_ := aM (bP (by repeat (first | (with_reducible first | exact HB.out | apply ea | apply en | apply ed | refine es ?_ GE131.out | refine es ?_ GE132.out | refine es ?_ GE133.out | refine es ?_ GE139.out | refine es ?_ GE145.out) | exact HB.out)) hb)
  clear HO137
  clear HO143
  clear BK131
  clear BK132
  clear BK133
  clear BK139
  clear BK145
  clear HB
  have HO137 := n0_
  have HO143 := n1_
  have HO149 := n2_
  have BK131 := n3_
  have BK132 := n4_
  have BK133 := n5_
  have BK139 := n6_
  have BK145 := n7_
  have HB := n8_
  clear n0_ n1_ n2_ n3_ n4_ n5_ n6_ n7_ n8_
  (try clear hb)
  (try clear hb2)
  (try clear hk)
  (try clear hi)
  (try clear ho0)
  obtain ⟨Ao36, co36, eo36⟩ := Kd.R_slice HO149.out
  (first | subst eo36 | (injection eo36 with f1_ f2_ f3_; have f4_ := f1_.symm; have f5_ := f3_.symm; clear f1_ f2_ f3_; subst f4_; subst f5_))
  refine hK.out _ _ ⟨(bC BK145.out 0).trans rfl, (bC BK145.out 1).trans rfl, (bC BK132.out 0).trans rfl, (bC BK132.out 1).trans rfl⟩ (fun hHeld => ?_)
  clear hK K
  refine norm_ (a' := ?_) ?_ ?_
  rotate_left
  ·show Act.put _ (some 36) _ = _
   simp only [Act.put, sA, sZ, sS, i64_w, i32_w]
   rfl
  refine pure_ (i := 4) (N := some 37) (v := ?_) (a' := ?_) b41_ rfl rfl (any_of HT_.out (by kernel_rfl)) (fun _ _ _ h => h) (Or.inl ⟨by rfl, ?_⟩) ?_ ?_
  rotate_left
  ·intro w'
   go_simp
   with_reducible rfl
  rotate_left
  ·simp only [Act.put, sA, sZ, sS, i64_w, i32_w]
   rfl
  refine one_ (i := 6) (N := none) b42_ rfl rfl (one_of HT_.out (by kernel_rfl)) (by decide) (fun K hK => ?_)
  have hs37 : w35.cell? ⟨gb133, 0, none⟩ = some (.int .i64 0) := (bC BK133.out 0).trans rfl
  have hfs37 := bF BK133.out 0
  have hns37_0 := NB131_133.out
  have hns37_1 := NB132_133.out
  have hns37_3 := NB139_133.out
  have hns37_4 := NB145_133.out
  have hms37_0 := NB133_131.out
  have hms37_1 := NB133_132.out
  have hms37_3 := NB133_139.out
  have hms37_4 := NB133_145.out
  have hs38 : w35.cell? ⟨gb133, 1, none⟩ = some (.string (⟨#[]⟩ : ByteArray)) := (bC BK133.out 1).trans rfl
  have hfs38 := bF BK133.out 1
  have hns38_0 := NB131_133.out
  have hns38_1 := NB132_133.out
  have hns38_3 := NB139_133.out
  have hns38_4 := NB145_133.out
  have hms38_0 := NB133_131.out
  have hms38_1 := NB133_132.out
  have hms38_3 := NB133_139.out
  have hms38_4 := NB133_145.out
  have hs39 : w35.cell? ⟨gb133, 2, none⟩ = some (.slice none 0 0) := (bC BK133.out 2).trans rfl
  have hfs39 := bF BK133.out 2
  have hns39_0 := NB131_133.out
  have hns39_1 := NB132_133.out
  have hns39_3 := NB139_133.out
  have hns39_4 := NB145_133.out
  have hms39_0 := NB133_131.out
  have hms39_1 := NB133_132.out
  have hms39_3 := NB133_139.out
  have hms39_4 := NB133_145.out
  have hs40 : w35.cell? ⟨gb133, 3, none⟩ = some (.string (⟨#[]⟩ : ByteArray)) := (bC BK133.out 3).trans rfl
  have hfs40 := bF BK133.out 3
  have hns40_0 := NB131_133.out
  have hns40_1 := NB132_133.out
  have hns40_3 := NB139_133.out
  have hns40_4 := NB145_133.out
  have hms40_0 := NB133_131.out
  have hms40_1 := NB133_132.out
  have hms40_3 := NB133_139.out
  have hms40_4 := NB133_145.out
  have hs41 : w35.cell? ⟨gb133, 4, none⟩ = some (.slice none 0 0) := (bC BK133.out 4).trans rfl
  have hfs41 := bF BK133.out 4
  have hns41_0 := NB131_133.out
  have hns41_1 := NB132_133.out
  have hns41_3 := NB139_133.out
  have hns41_4 := NB145_133.out
  have hms41_0 := NB133_131.out
  have hms41_1 := NB133_132.out
  have hms41_3 := NB133_139.out
  have hms41_4 := NB133_145.out
  refine skip_ (w1 := ?_) (by rfl) rfl ?_ ?_
  rotate_left
  ·go_simp
   rfl
  refine hK.out _ _ ⟨((cell_far (p := ⟨gb133, _, none⟩) NB145_133.out _).trans (((cell_far (p := ⟨gb133, _, none⟩) NB145_133.out _).trans (((cell_far (p := ⟨gb133, _, none⟩) NB145_133.out _).trans (((cell_far (p := ⟨gb133, _, none⟩) NB145_133.out _).trans (((cell_far (p := ⟨gb133, _, none⟩) NB145_133.out _).trans (hHeld.1)))))))))), ((cell_far (p := ⟨gb133, _, none⟩) NB145_133.out _).trans (((cell_far (p := ⟨gb133, _, none⟩) NB145_133.out _).trans (((cell_far (p := ⟨gb133, _, none⟩) NB145_133.out _).trans (((cell_far (p := ⟨gb133, _, none⟩) NB145_133.out _).trans (((cell_far (p := ⟨gb133, _, none⟩) NB145_133.out _).trans (hHeld.2.1)))))))))), ((cell_far (p := ⟨gb133, _, none⟩) NB132_133.out _).trans (((cell_far (p := ⟨gb133, _, none⟩) NB132_133.out _).trans (((cell_far (p := ⟨gb133, _, none⟩) NB132_133.out _).trans (((cell_far (p := ⟨gb133, _, none⟩) NB132_133.out _).trans (((cell_far (p := ⟨gb133, _, none⟩) NB132_133.out _).trans (hHeld.2.2.1)))))))))), ((cell_far (p := ⟨gb133, _, none⟩) NB132_133.out _).trans (((cell_far (p := ⟨gb133, _, none⟩) NB132_133.out _).trans (((cell_far (p := ⟨gb133, _, none⟩) NB132_133.out _).trans (((cell_far (p := ⟨gb133, _, none⟩) NB132_133.out _).trans (((cell_far (p := ⟨gb133, _, none⟩) NB132_133.out _).trans (hHeld.2.2.2))))))))))⟩ (fun hHeld => ?_)
  clear hK K
  refine pure_ (i := 7) (N := some 9) (v := ?_) (a' := ?_) b43_ rfl rfl (any_of HT_.out (by kernel_rfl)) (fun _ _ _ h => h) (Or.inl ⟨by rfl, ?_⟩) ?_ ?_
  rotate_left
  ·intro w'
   go_simp
   with_reducible rfl
  rotate_left
  ·simp only [Act.put, sA, sZ, sS, i64_w, i32_w]
   rfl
  refine done_ (done_of HT_.out (by kernel_rfl)) ?_
  try go_wp2
  refine bodyPost_ret (results_ct rfl _ _ gb133 36 #[.int .i64 a1, .string t140, .slice Ao32 t141.length co32, .string t146, .slice Ao36 t147.length co36] (0, 0) _ rfl (by (with_reducible repeat (first | apply qn | apply qd | apply qa)); refine bU (cs := #[.int .i64 a1, .string t140, .slice Ao32 t141.length co32, .string t146, .slice none 0 0]) ?_ 4 _ rfl; (with_reducible repeat (first | apply qn | apply qd | apply qa)); refine bU (cs := #[.int .i64 a1, .string t140, .slice Ao32 t141.length co32, .string (⟨#[]⟩ : ByteArray), .slice none 0 0]) ?_ 3 _ rfl; (with_reducible repeat (first | apply qn | apply qd | apply qa)); refine bU (cs := #[.int .i64 a1, .string t140, .slice none 0 0, .string (⟨#[]⟩ : ByteArray), .slice none 0 0]) ?_ 2 _ rfl; (with_reducible repeat (first | apply qn | apply qd | apply qa)); refine bU (cs := #[.int .i64 a1, .string (⟨#[]⟩ : ByteArray), .slice none 0 0, .string (⟨#[]⟩ : ByteArray), .slice none 0 0]) ?_ 1 _ rfl; (with_reducible repeat (first | apply qn | apply qd | apply qa)); refine bU (cs := #[.int .i64 0, .string (⟨#[]⟩ : ByteArray), .slice none 0 0, .string (⟨#[]⟩ : ByteArray), .slice none 0 0]) ?_ 0 _ rfl; exact qy BK133.out) Tryz.underlying36 rfl (by kernel_rfl)) rfl ?_
  exact ⟨_, _, by first | rfl | (simp [errW_none, errW_some] <;> rfl) | (simp [*, errW_none, errW_some] <;> rfl), by (with_reducible repeat (first | apply ra | apply rn | apply rd_)); exact rM (rF (p := ⟨gb133, 4, none⟩) (rF (p := ⟨gb133, 3, none⟩) (rF (p := ⟨gb133, 2, none⟩) (rF (p := ⟨gb133, 1, none⟩) (rF (p := ⟨gb133, 0, none⟩) (rT HO143.out BK133.out (by decide)) (fun _ hk => hk.2) (.int .i64 a1)) (fun _ hk => hk.2) (.string t140)) (fun _ hk => hk.2) (.slice Ao32 t141.length co32)) (fun _ hk => hk.2) (.string t146)) (fun _ hk => hk.2) (.slice Ao36 t147.length co36)) (fun _ hk => hk.1.2), by (with_reducible repeat (first | apply ra | apply rn | apply rd_)); exact rM (rF (p := ⟨gb133, 4, none⟩) (rF (p := ⟨gb133, 3, none⟩) (rF (p := ⟨gb133, 2, none⟩) (rF (p := ⟨gb133, 1, none⟩) (rF (p := ⟨gb133, 0, none⟩) (rT HO149.out BK133.out (by decide)) (fun _ hk => hk.2) (.int .i64 a1)) (fun _ hk => hk.2) (.string t140)) (fun _ hk => hk.2) (.slice Ao32 t141.length co32)) (fun _ hk => hk.2) (.string t146)) (fun _ hk => hk.2) (.slice Ao36 t147.length co36)) (fun _ hk => hk.1.2), by repeat (first | (with_reducible first | exact HB.out | apply ea | apply en | apply ed | refine es ?_ GE131.out | refine es ?_ GE132.out | refine es ?_ GE133.out | refine es ?_ GE139.out | refine es ?_ GE145.out) | exact HB.out)⟩
 ·rw [if_neg c6] at H
  have c6b0 : (t138 == 0) = false := beq_eq_false_iff_ne.mpr c6
  have c6b1 : (t138 != 0) = true := bne_iff_ne.mpr c6
  simp only [Option.some.injEq, Prod.mk.injEq] at H
  obtain ⟨rfl, rfl, rfl, rfl, rfl, rfl⟩ := H
  go_enter Tryz.func104, Tryz.ntmps104
  go_wp2_with (first | ((with_reducible refine gate_dst (N := 4) rfl ?_); refine box_event ?hg (N := 4) ?hd (cs := #[.string a0_0, .slice A0_1 l0_1.length c0_1]) (t := 24) ?hr ?_; (case hd | hg => rfl); (case hr => first | (go_simp; done) | (go_simp; rfl)); intro gb131 hg w42 hbox hb; have n0_ := aM (bP (ey HB.out) hb); have n1_ := aM (hbox); have n2_ := aM ((by rw [hg]; exact (bZ (ey HB.out)) : w.heap.size ≤ gb131)); have n3_ := n2_; clear HB; have HB := n0_; have BK131 := n1_; have GW131 := n2_; have GE131 := n3_; clear n0_ n1_ n2_ n3_; clear hb hbox hg) | ((with_reducible refine gate_dst (N := 7) rfl ?_); refine box_event ?hg (N := 7) ?hd (cs := #[.string a3_0, .slice A3_1 l3_1.length c3_1]) (t := 24) ?hr ?_; (case hd | hg => rfl); (case hr => first | (go_simp; done) | (go_simp; rfl)); intro gb132 hg w43 hbox hb; have n0_ := aM (bB (g := gb131) (qy BK131.out) hb); have n1_ := aM (bP (by repeat (first | (with_reducible first | exact HB.out | apply ea | apply en | apply ed | refine es ?_ GE131.out) | exact HB.out)) hb); have n2_ := aM (hbox); have n3_ := aM ((by rw [hg]; exact (bZ (by repeat (first | (with_reducible first | exact HB.out | apply ea | apply en | apply ed | refine es ?_ GE131.out) | exact HB.out))) : w.heap.size ≤ gb132)); have n4_ := n3_; have n5_ := aM ((by rw [hg]; exact Nat.ne_of_lt (blk_lt (g := gb131) (qy BK131.out)) : gb131 ≠ gb132)); have n6_ := aM ((by rw [hg]; exact Nat.ne_of_gt (blk_lt (g := gb131) (qy BK131.out)) : gb132 ≠ gb131)); clear BK131 HB; have BK131 := n0_; have HB := n1_; have BK132 := n2_; have GW132 := n3_; have GE132 := n4_; have NB131_132 := n5_; have NB132_131 := n6_; clear n0_ n1_ n2_ n3_ n4_ n5_ n6_; clear hb hbox hg) | ((with_reducible refine gate_dst (N := 8) rfl ?_); refine box_event ?hg (N := 8) ?hd (cs := #[.int .i64 0, .string (⟨#[]⟩ : ByteArray), .slice none 0 0, .string (⟨#[]⟩ : ByteArray), .slice none 0 0]) (t := 36) ?hr ?_; (case hd | hg => rfl); (case hr => first | (go_simp; done) | (go_simp; rfl)); intro gb133 hg w44 hbox hb; have n0_ := aM (bB (g := gb131) (qy BK131.out) hb); have n1_ := aM (bB (g := gb132) (qy BK132.out) hb); have n2_ := aM (bP (by repeat (first | (with_reducible first | exact HB.out | apply ea | apply en | apply ed | refine es ?_ GE131.out | refine es ?_ GE132.out) | exact HB.out)) hb); have n3_ := aM (hbox); have n4_ := aM ((by rw [hg]; exact (bZ (by repeat (first | (with_reducible first | exact HB.out | apply ea | apply en | apply ed | refine es ?_ GE131.out | refine es ?_ GE132.out) | exact HB.out))) : w.heap.size ≤ gb133)); have n5_ := n4_; have n6_ := aM ((by rw [hg]; exact Nat.ne_of_lt (blk_lt (g := gb131) (qy BK131.out)) : gb131 ≠ gb133)); have n7_ := aM ((by rw [hg]; exact Nat.ne_of_gt (blk_lt (g := gb131) (qy BK131.out)) : gb133 ≠ gb131)); have n8_ := aM ((by rw [hg]; exact Nat.ne_of_lt (blk_lt (g := gb132) (qy BK132.out)) : gb132 ≠ gb133)); have n9_ := aM ((by rw [hg]; exact Nat.ne_of_gt (blk_lt (g := gb132) (qy BK132.out)) : gb133 ≠ gb132)); clear BK131 BK132 HB; have BK131 := n0_; have BK132 := n1_; have HB := n2_; have BK133 := n3_; have GW133 := n4_; have GE133 := n5_; have NB131_133 := n6_; have NB133_131 := n7_; have NB132_133 := n8_; have NB133_132 := n9_; clear n0_ n1_ n2_ n3_ n4_ n5_ n6_ n7_ n8_ n9_; clear hb hbox hg; have hnb45 := NB131_132.out; have hnc45 := NB132_131.out; have hnb46 := NB131_133.out; have hnc46 := NB133_131.out; have hcz47_0 := zC BK131.out 0 (.string a0_0); have hcz47_1 := zC BK131.out 1 (.slice A0_1 l0_1.length c0_1); have hfz47_0 := bF BK131.out 0; have hfz47_1 := bF BK131.out 1; have hnb48 := NB132_133.out; have hnc48 := NB133_132.out; have hcz49_0 := zC BK132.out 0 (.string a3_0); have hcz49_1 := zC BK132.out 1 (.slice A3_1 l3_1.length c3_1); have hfz49_0 := bF BK132.out 0; have hfz49_1 := bF BK132.out 1) | ((with_reducible refine gate_callee (f := 147) rfl ?_); refine goesL_ (some 19) rfl rfl Tryz.func147 (by kernel_rfl) rfl #[.agg #[.string a0_0, .slice A0_1 l0_1.length c0_1], .int .i64 a1, .int .i64 a2, .agg #[.string a3_0, .slice A3_1 l3_1.length c3_1]] rfl (by (try simp only [mT, mC, mN]); first | done | rfl | (simp only [lD, lT]; rfl)) ?_; (with_reducible refine (strip_Splice.calls k a0_0 _ _ l0_1 a1 a2 a3_0 _ _ l3_1 t134 t135 t138 _ ?side1 ?side2 ?side3 ?side4 A5.out).mono ?_); (case side1 => repeat (first | exact (cB_ HR0_1.out HB.out) | (with_reducible refine Kd.C_alloc ?_ _) | (with_reducible refine Kd.C_drewN ?_ _) | (with_reducible refine Kd.C_drew ?_))); (case side2 => exact HC0_1.out); (case side3 => repeat (first | exact (cB_ HR3_1.out HB.out) | (with_reducible refine Kd.C_alloc ?_ _) | (with_reducible refine Kd.C_drewN ?_ _) | (with_reducible refine Kd.C_drew ?_))); (case side4 => exact HC3_1.out); rintro e w50 ⟨v136, rfl, ho0, hb⟩; refine ⟨_, rfl, ?_⟩; have n0_ := aM (rL ho0 (bZ (by repeat (first | (with_reducible first | exact HB.out | apply ea | apply en | apply ed | refine es ?_ GE131.out | refine es ?_ GE132.out | refine es ?_ GE133.out) | exact HB.out)))); have n1_ := aM (bB (g := gb131) (qy BK131.out) hb); have n2_ := aM (bB (g := gb132) (qy BK132.out) hb); have n3_ := aM (bB (g := gb133) (qy BK133.out) hb); have n4_ := aM (bP (by repeat (first | (with_reducible first | exact HB.out | apply ea | apply en | apply ed | refine es ?_ GE131.out | refine es ?_ GE132.out | refine es ?_ GE133.out) | exact HB.out)) hb); clear BK131 BK132 BK133 HB; have HO137 := n0_; have BK131 := n1_; have BK132 := n2_; have BK133 := n3_; have HB := n4_; clear n0_ n1_ n2_ n3_ n4_; (try clear hb); (try clear hb2); (try clear hk); (try clear hi); (try clear ho0)) | ((with_reducible refine gate_dst (N := 10) rfl ?_); refine box_event ?hg (N := 10) ?hd (cs := #[.string (⟨#[]⟩ : ByteArray), .slice none 0 0]) (t := 24) ?hr ?_; (case hd | hg => rfl); (case hr => first | (go_simp; done) | (go_simp; rfl)); intro gb139 hg w51 hbox hb; have n0_ := aM (Kd.R_below (ry HO137.out) hb); have n1_ := aM (bB (g := gb131) (qy BK131.out) hb); have n2_ := aM (bB (g := gb132) (qy BK132.out) hb); have n3_ := aM (bB (g := gb133) (qy BK133.out) hb); have n4_ := aM (bP (by repeat (first | (with_reducible first | exact HB.out | apply ea | apply en | apply ed | refine es ?_ GE131.out | refine es ?_ GE132.out | refine es ?_ GE133.out) | exact HB.out)) hb); have n5_ := aM (hbox); have n6_ := aM ((by rw [hg]; exact (bZ (by repeat (first | (with_reducible first | exact HB.out | apply ea | apply en | apply ed | refine es ?_ GE131.out | refine es ?_ GE132.out | refine es ?_ GE133.out) | exact HB.out))) : w.heap.size ≤ gb139)); have n7_ := n6_; have n8_ := aM ((by rw [hg]; exact Nat.ne_of_lt (blk_lt (g := gb131) (qy BK131.out)) : gb131 ≠ gb139)); have n9_ := aM ((by rw [hg]; exact Nat.ne_of_gt (blk_lt (g := gb131) (qy BK131.out)) : gb139 ≠ gb131)); have n10_ := aM ((by rw [hg]; exact Nat.ne_of_lt (blk_lt (g := gb132) (qy BK132.out)) : gb132 ≠ gb139)); have n11_ := aM ((by rw [hg]; exact Nat.ne_of_gt (blk_lt (g := gb132) (qy BK132.out)) : gb139 ≠ gb132)); have n12_ := aM ((by rw [hg]; exact Nat.ne_of_lt (blk_lt (g := gb133) (qy BK133.out)) : gb133 ≠ gb139)); have n13_ := aM ((by rw [hg]; exact Nat.ne_of_gt (blk_lt (g := gb133) (qy BK133.out)) : gb139 ≠ gb133)); clear HO137 BK131 BK132 BK133 HB; have HO137 := n0_; have BK131 := n1_; have BK132 := n2_; have BK133 := n3_; have HB := n4_; have BK139 := n5_; have GW139 := n6_; have GE139 := n7_; have NB131_139 := n8_; have NB139_131 := n9_; have NB132_139 := n10_; have NB139_132 := n11_; have NB133_139 := n12_; have NB139_133 := n13_; clear n0_ n1_ n2_ n3_ n4_ n5_ n6_ n7_ n8_ n9_ n10_ n11_ n12_ n13_; clear hb hbox hg; have hnb52 := NB139_131.out; have hnc52 := NB131_139.out; have hnb53 := NB139_132.out; have hnc53 := NB132_139.out; have hnb54 := NB139_133.out; have hnc54 := NB133_139.out; have hcz55_0 := zC BK139.out 0 (.string (⟨#[]⟩ : ByteArray)); have hcz55_1 := zC BK139.out 1 (.slice none 0 0); have hfz55_0 := bF BK139.out 0; have hfz55_1 := bF BK139.out 1; obtain ⟨Ao56, co56, eo56⟩ := Kd.R_slice HO137.out; subst eo56; have hcz57_0 := zC BK133.out 0 (.int .i64 0); have hcz57_1 := zC BK133.out 1 (.string (⟨#[]⟩ : ByteArray)); have hcz57_2 := zC BK133.out 2 (.slice none 0 0); have hcz57_3 := zC BK133.out 3 (.string (⟨#[]⟩ : ByteArray)); have hcz57_4 := zC BK133.out 4 (.slice none 0 0); have hfz57_0 := bF BK133.out 0; have hfz57_1 := bF BK133.out 1; have hfz57_2 := bF BK133.out 2; have hfz57_3 := bF BK133.out 3; have hfz57_4 := bF BK133.out 4))
  refine bodyPost_ret (results_ct rfl _ _ gb133 36 #[.int .i64 0, .string (⟨#[]⟩ : ByteArray), .slice none 0 0, .string (⟨#[]⟩ : ByteArray), .slice none 0 0] (0, 0) _ rfl (by (with_reducible repeat (first | apply qn | apply qd | apply qa)); refine bU (cs := #[.int .i64 0, .string (⟨#[]⟩ : ByteArray), .slice none 0 0, .string (⟨#[]⟩ : ByteArray), .slice none 0 0]) ?_ 4 _ rfl; (with_reducible repeat (first | apply qn | apply qd | apply qa)); refine bU (cs := #[.int .i64 0, .string (⟨#[]⟩ : ByteArray), .slice none 0 0, .string (⟨#[]⟩ : ByteArray), .slice none 0 0]) ?_ 3 _ rfl; (with_reducible repeat (first | apply qn | apply qd | apply qa)); refine bU (cs := #[.int .i64 0, .string (⟨#[]⟩ : ByteArray), .slice none 0 0, .string (⟨#[]⟩ : ByteArray), .slice none 0 0]) ?_ 2 _ rfl; (with_reducible repeat (first | apply qn | apply qd | apply qa)); refine bU (cs := #[.int .i64 0, .string (⟨#[]⟩ : ByteArray), .slice none 0 0, .string (⟨#[]⟩ : ByteArray), .slice none 0 0]) ?_ 1 _ rfl; (with_reducible repeat (first | apply qn | apply qd | apply qa)); refine bU (cs := #[.int .i64 0, .string (⟨#[]⟩ : ByteArray), .slice none 0 0, .string (⟨#[]⟩ : ByteArray), .slice none 0 0]) ?_ 0 _ rfl; (with_reducible repeat (first | apply qn | apply qd | apply qa)); refine bR ?_ NB133_139.out _; (with_reducible repeat (first | apply qn | apply qd | apply qa)); refine bR ?_ NB133_139.out _; exact qy BK133.out) Tryz.underlying36 rfl (by kernel_rfl)) rfl ?_
  exact ⟨_, _, by first | rfl | (simp [errW_none, errW_some] <;> rfl) | (simp [*, errW_none, errW_some] <;> rfl), by first | exact Kd.R_nil _ _ _ _ _ | exact Kd.N_nil _ _ _ _ _ | exact Kd.V_nil _ _ _ _ _ | exact Kd.Q_nil _ _ _ _ _ | exact Kd.S_nil _ _ _ _ _, by first | exact Kd.R_nil _ _ _ _ _ | exact Kd.N_nil _ _ _ _ _ | exact Kd.V_nil _ _ _ _ _ | exact Kd.Q_nil _ _ _ _ _ | exact Kd.S_nil _ _ _ _ _, by repeat (first | (with_reducible first | exact HB.out | apply ea | apply en | apply ed | refine es ?_ GE131.out | refine es ?_ GE132.out | refine es ?_ GE133.out | refine es ?_ GE139.out) | exact HB.out)⟩
end Go.Proofs.YtjkfkiebhgkolaaGreatDoor.PB
end

section
namespace Go.Proofs.YtjkfkiebhgkolaaGreatDoor.PB
open Go.RowKit Go.Proofs.YtjkfkiebhgkolaaGreatDoorW.PrintWords
set_option linter.unusedVariables false
abbrev EX := Int × ByteArray × List S68 × ByteArray × List S68 × Int
def ofS (s : ByteArray) (l : List S68) (a b : Int) (x : ByteArray) (m : List S68) : EX :=
  if (spliceT s l a b x m).2.2 = 0 then (a, (cutS s l a b).1, (cutS s l a b).2.1, x, m, 0) else (0, ⟨#[]⟩, [], ⟨#[]⟩, [], (spliceT s l a b x m).2.2)
theorem splice_cut {s : ByteArray} {l : List S68} {a b : Int} {x : ByteArray} {m : List S68} (h : (spliceT s l a b x m).2.2 = 0) : withinT s l a b = true ∧ goodT x m = true ∧ ¬ (s.size : Int) - (b - a) + (x.size : Int) > 4096 ∧ (cutS s l a b).2.2 = 0 := by
  unfold spliceT at h
  by_cases hw : withinT s l a b = true
  · rw [if_pos hw] at h
    by_cases hg : goodT x m = true
    · rw [if_pos hg] at h
      by_cases hb : (s.size : Int) - (b - a) + (x.size : Int) > 4096
      · rw [if_pos hb] at h; cases h
      · exact ⟨hw, hg, hb, by unfold cutS; rw [if_pos hw]⟩
    · rw [if_neg hg] at h; cases h
  · rw [if_neg hw] at h; cases h
theorem of_ev (s : ByteArray) (l : List S68) (hl : l.length ≤ big) (a b : Int) (x : ByteArray) (m : List S68) (hm : m.length ≤ big) : Ev (fun k => edit_Of.f k s l a b x m) (ofS s l a b x m) := by
  unfold edit_Of.f ofS
  refine Ev.bind (splice4_ev s l hl a b x m hm) (Ev.ite (fun h => ?_) (fun _ => Ev.now _))
  refine Ev.bind (cut_ev s l hl a b) ?_
  rw [own_eq x m hm]
  refine Ev.bind (Ev.now _) (ev_val (Ev.now _) ?_)
  rw [(splice_cut h).2.2.2]
end Go.Proofs.YtjkfkiebhgkolaaGreatDoor.PB
end

section
namespace Go.Proofs.YtjkfkiebhgkolaaGreatDoor.PB
open Go.RowKit Go.Proofs.YtjkfkiebhgkolaaGreatDoorW.PrintWords
set_option linter.unusedVariables false
structure Alike (y : Int) (s : ByteArray) (l : List S68) (s' : ByteArray) (l' : List S68) : Prop where
 runs : l = l'
 size : s.size = s'.size
 view : goodT s l = true → hideAll y (bytes l) (bytesOf s) = hideAll y (bytes l) (bytesOf s')
theorem Alike.good {y : Int} {s s' : ByteArray} {l l' : List S68} (h : Alike y s l s' l') : goodT s l = goodT s' l' := by
 obtain ⟨rfl, h2, _⟩ := h
 unfold goodT
 rw [h2]
section
variable {y : Int} {s s' x x' : ByteArray} {l l' m m' : List S68}
end
end Go.Proofs.YtjkfkiebhgkolaaGreatDoor.PB
end

section
namespace Go.Proofs.YtjkfkiebhgkolaaGreatDoor.PB
open Go.RowKit Go.Proofs.YtjkfkiebhgkolaaGreatDoorW.PrintWords
set_option linter.unusedVariables false
set_option linter.unusedSimpArgs false
abbrev eB : ByteArray := ⟨#[]⟩
abbrev OX := Int × ByteArray × List S68 × ByteArray × List S68 × ByteArray × List S68 × Bool × Bool × Int × Int
def noO (e : Int) : OX := (0, eB, [], eB, [], eB, [], false, false, 0, e)
def addD (d : TX) (x : ByteArray) (m : List S68) : TX := if d.2.2 = 0 then catT d.1 d.2.1 x m else d
def writeD (y : Int) (d : TX) (s : ByteArray) : TX :=
  addD (d.1, d.2.1, if (makeS s y).2.2 = 0 then d.2.2 else (makeS s y).2.2) (makeS s y).1 (makeS s y).2.1
def keepD (s : ByteArray) (l : List S68) (d : TX) (a b : Int) : TX := addD d (cutS s l a b).1 (cutS s l a b).2.1
def d0 : TX := (eB, [], 0)
def turnD (s : ByteArray) (l : List S68) (y : Int) (d : TX) (a b : Int) : EX × ByteArray :=
  if d.2.2 = 0 then
    (if (ofS s l a b d.1 d.2.1).2.2.2.2.2 = 0 then
      (ofS s l a b d.1 d.2.1, (viewS (applyT s l (ofS s l a b d.1 d.2.1).1 (ofS s l a b d.1 d.2.1).2.1 (ofS s l a b d.1 d.2.1).2.2.1 (ofS s l a b d.1 d.2.1).2.2.2.1 (ofS s l a b d.1 d.2.1).2.2.2.2.1).1
        (applyT s l (ofS s l a b d.1 d.2.1).1 (ofS s l a b d.1 d.2.1).2.1 (ofS s l a b d.1 d.2.1).2.2.1 (ofS s l a b d.1 d.2.1).2.2.2.1 (ofS s l a b d.1 d.2.1).2.2.2.2.1).2.1 y).1)
     else ((0, eB, [], eB, [], (ofS s l a b d.1 d.2.1).2.2.2.2.2), eB))
  else ((0, eB, [], eB, [], d.2.2), eB)
def turnO (t : EX × ByteArray) (at_ : ByteArray → Int) : OX :=
  if t.1.2.2.2.2.2 = 0 then (t.1.1, t.1.2.1, t.1.2.2.1, t.1.2.2.2.1, t.1.2.2.2.2.1, eB, [], false, false, at_ t.2, 0) else noO t.1.2.2.2.2.2
def rightD (v : ByteArray) (f t : Int) (ln : Bool) : Bool :=
  decide (0 ≤ f) && (decide (f ≤ t) && decide (t ≤ (if ln = true then ((ends v).length : Int) - 1 else (v.size : Int))))
def bytesD (v : ByteArray) (f t : Int) (ln : Bool) : Int × Int := if ln = true then ((boundsS v f).1, (boundsS v t).2.1) else (f, t)
def linesD (v : ByteArray) (f t : Int) (ln : Bool) : Int × Int := if ln = true then (f, t) else ((ofL v f : Int), (ofL v (max f (t - 1)) : Int))
def takeD (s : ByteArray) (l : List S68) (y : Int) (v : ByteArray) (op f t : Int) (ln : Bool) : OX :=
  let a := (bytesD v f t ln).1
  let b := (bytesD v f t ln).2
  let x := cutS s l a b
  let wide := ln || decide (0 ≤ Lib.indexByte (v.extract a.toNat b.toNat).data.toList 10)
  if op = 121 then (a, eB, [], eB, [], x.1, x.2.1, ln, wide, a, 0)
  else if op = 100 ∧ ln = true then
    let u := turnD s l y d0 (wholeS v f t).1 (wholeS v f t).2.1
    (u.1.1, u.1.2.1, u.1.2.2.1, u.1.2.2.2.1, u.1.2.2.2.2.1, x.1, x.2.1, ln, wide, (firstS u.2 f : Int), 0)
  else
    let u := turnD s l y d0 a b
    (u.1.1, u.1.2.1, u.1.2.2.1, u.1.2.2.2.1, u.1.2.2.2.2.1, x.1, x.2.1, ln, wide, a, 0)
def blankB (v : ByteArray) (i : Nat) : Bool := decide (bN v i = 32 ∨ bN v i = 9)
def shiftOne (s : ByteArray) (l : List S68) (y : Int) (v : ByteArray) (op : Int) (b : Nat) (n : Nat) (d : TX) : TX :=
  keepD s l (if op = 62 ∧ lineFrom v n < lineTo v n then writeD y d ⟨#[9]⟩ else d)
    (if op = 60 ∧ lineFrom v n < lineTo v n ∧ blankB v (lineFrom v n) = true then (lineFrom v n : Int) + 1 else (lineFrom v n : Int))
    (if n < b then (lineTo v n : Int) + 1 else (lineTo v n : Int))
def shiftL (s : ByteArray) (l : List S68) (y : Int) (v : ByteArray) (op : Int) (b : Nat) : Nat → Nat → TX → TX
  | 0, _, d => d
  | k + 1, n, d => shiftL s l y v op b k (n + 1) (shiftOne s l y v op b n d)
def shiftD (s : ByteArray) (l : List S68) (y : Int) (v : ByteArray) (op f t : Int) (ln : Bool) : OX :=
  let a := (linesD v f t ln).1.toNat
  let b := (linesD v f t ln).2.toNat
  turnO (turnD s l y (shiftL s l y v op b (b + 1 - a) a d0) (lineFrom v a) (if a ≤ b then (lineTo v b : Int) else (lineFrom v a : Int))) (fun w => (firstS w (a : Int) : Int))
def flip1 (c : Int) : Int := if 97 ≤ c ∧ c ≤ 122 then c - 32 else if 65 ≤ c ∧ c ≤ 90 then c + 32 else c
def flipL : List Int → List Int → List Int
  | c :: B, u :: U => (if u = c then flip1 c else c) :: flipL B U
  | B, _ => B
def toggleD (s : ByteArray) (l : List S68) (y : Int) (v : ByteArray) (f t : Int) (ln : Bool) : OX :=
  let a := (bytesD v f t ln).1
  let b := (bytesD v f t ln).2
  turnO (turnD s l y (addD d0 (strOfNums (flipL (bytesOf (cutS s l a b).1) ((bytesOf v).drop a.toNat))) (cutS s l a b).2.1) a b) (fun _ => a)
def trimL (v : ByteArray) (n : Nat) : Nat :=
  lineFrom v n + (((v.data.toList.take (lineTo v n)).drop (lineFrom v n)).takeWhile (fun c => c == 32 || c == 9)).length
def joinOne (s : ByteArray) (l : List S68) (y : Int) (v : ByteArray) (n : Nat) (d : TX) : TX :=
  keepD s l (if trimL v n < lineTo v n then writeD y d ⟨#[32]⟩ else d) (trimL v n : Int) (lineTo v n : Int)
def joinL (s : ByteArray) (l : List S68) (y : Int) (v : ByteArray) : Nat → Nat → TX → Nat → TX × Nat
  | 0, _, d, p => (d, p)
  | k + 1, n, d, _ => joinL s l y v k (n + 1) (joinOne s l y v n d) d.1.size
def joinD (s : ByteArray) (l : List S68) (y : Int) (v : ByteArray) (f t : Int) (ln : Bool) : OX :=
  let a := (linesD v f t ln).1.toNat
  let b := max (linesD v f t ln).2.toNat (a + 1)
  if (ends v).length ≤ b then noO 6
  else
    let r := joinL s l y v (b - a) (a + 1) (keepD s l d0 (lineFrom v a) (lineTo v a)) 0
    turnO (turnD s l y r.1 (lineFrom v a) (lineTo v b)) (fun _ => ((lineFrom v a + r.2 : Nat) : Int))
def doS (s : ByteArray) (l : List S68) (y op f t : Int) (ln : Bool) : OX :=
  if (viewS s l y).2 = 0 ∧ rightD (viewS s l y).1 f t ln = true then
    (if op = 100 ∨ op = 121 ∨ op = 99 then takeD s l y (viewS s l y).1 op f t ln
     else if op = 62 ∨ op = 60 then shiftD s l y (viewS s l y).1 op f t ln
     else if op = 126 then toggleD s l y (viewS s l y).1 f t ln
     else if op = 74 then joinD s l y (viewS s l y).1 f t ln
     else noO 2)
  else noO 2
def oftenN (n : Int) : Nat := min (max n.toNat 1) 999
def mayK (k : Int) : Bool := decide (32 ≤ k) && (decide (k ≠ 127) && Lib.validRune k)
def stepsN (v : ByteArray) (e : Nat) : Nat → Nat → Option Nat
  | 0, p => some p
  | k + 1, p => if p < e then stepsN v e k (nextS v (p : Int)) else none
def repB (x : ByteArray) (n : Nat) : ByteArray := ⟨(Lib.repeatL x.data.toList n).toArray⟩
def swapS (s : ByteArray) (l : List S68) (y at_ n k : Int) : OX :=
  if (viewS s l y).2 = 0 ∧ mayK k = true then
    match stepsN (viewS s l y).1 (lineTo (viewS s l y).1 (ofL (viewS s l y).1 (alignS (viewS s l y).1 at_ : Int))) (oftenN n) (alignS (viewS s l y).1 at_) with
    | none => noO 6
    | some p => turnO (turnD s l y (writeD y d0 (repB (Utf8.encode k) (oftenN n))) (alignS (viewS s l y).1 at_ : Int) (p : Int))
        (fun _ => ((alignS (viewS s l y).1 at_ + (Utf8.encode k).size * (oftenN n - 1) : Nat) : Int))
  else noO 2
def putAll (x : ByteArray) (m : List S68) : Nat → TX → TX
  | 0, d => d
  | k + 1, d => putAll x m k (addD d x m)
def aliveT : ByteArray := ⟨#[97, 98, 10, 32, 99, 100]⟩
set_option maxRecDepth 100000 in
theorem alive_do1 : (doS aliveT [⟨1, 6⟩] 1 74 0 0 true).2.2.2.2.2.2.2.2.2.2 = 0 ∧ (doS aliveT [⟨1, 6⟩] 1 74 0 0 true).2.2.2.1.data.toList = [97, 98, 32, 99, 100] ∧ (doS aliveT [⟨1, 6⟩] 1 74 0 0 true).2.2.2.2.2.2.2.2.2.1 = 2 := by decide +kernel
set_option maxRecDepth 100000 in
theorem alive_do2 : (doS aliveT [⟨1, 6⟩] 1 100 0 0 true).2.2.2.2.2.2.2.2.2.2 = 0 ∧ (doS aliveT [⟨1, 6⟩] 1 100 0 0 true).2.1.data.toList = [97, 98, 10] ∧ (doS aliveT [⟨1, 6⟩] 1 100 0 0 true).2.2.2.2.2.1.data.toList = [97, 98] ∧
  (doS aliveT [⟨1, 6⟩] 1 100 0 0 true).2.2.2.2.2.2.2.1 = true ∧ (doS aliveT [⟨1, 6⟩] 1 100 0 0 true).2.2.2.2.2.2.2.2.1 = true ∧ (doS aliveT [⟨1, 6⟩] 1 100 0 0 true).2.2.2.2.2.2.2.2.2.1 = 1 := by decide +kernel
set_option maxRecDepth 100000 in
theorem alive_swap : (swapS aliveT [⟨1, 6⟩] 1 0 3 120).2.2.2.2.2.2.2.2.2.2 = 6 := by decide +kernel
end Go.Proofs.YtjkfkiebhgkolaaGreatDoor.PB
end

section
namespace Go.Proofs.YtjkfkiebhgkolaaGreatDoor.PB
open Go.RowKit Go.Proofs.YtjkfkiebhgkolaaGreatDoorW.PrintWords Go.Proofs.YtjkfkiebhgkolaaGreatDoorW.PrintLast Go.Proofs.YtjkfkiebhgkolaaGreatDoorW.PrintMore
set_option maxRecDepth 100000
set_option linter.unusedVariables false
set_option linter.unusedSimpArgs false
theorem last_ok {v : ByteArray} (hv : v.size ≤ 100000) {n : Nat} (h : n < (ends v).length) (w : World) (hn : NumOk w) :
    Calls Tryz.prog 128 #[.string v, .int .i64 (lineFrom v n), .int .i64 (lineTo v n)] w fun e w' => e = .returned (.int .i64 (lastIn v n)) ∧ Below w.heap.size w w' := by
  have hr := line_range v n h
  by_cases he : lineFrom v n = lineTo v n
  · have d1 : decide ((lineFrom v n : Int) = (lineTo v n : Int)) = true := decide_eq_true (by omega)
    have d2 : ((lineFrom v n : Int) == (lineTo v n : Int)) = true := by rw [he]; exact beq_self_eq_true _
    have hl : lastIn v n = lineFrom v n := if_pos he
    rw [hl]
    go_enter Tryz.func128, Tryz.ntmps128
    go_wp2
    go_ret
    exact ⟨rfl, Below.refl _ _⟩
  · have d1 : decide ((lineFrom v n : Int) = (lineTo v n : Int)) = false := decide_eq_false (by omega)
    have d2 : ((lineFrom v n : Int) == (lineTo v n : Int)) = false := by
      rw [Bool.eq_false_iff]
      intro e
      exact he (by have := eq_of_beq e; omega)
    have hl : lastIn v n = alignN v (lineTo v n - 1) := if_neg he
    have hw : (lineTo v n : Int) - 1 = ((lineTo v n - 1 : Nat) : Int) := by omega
    obtain ⟨k, hk⟩ := (galign_ev v (by omega) ((lineTo v n - 1 : Nat) : Int)).rounds
    have hs : alignS v ((lineTo v n - 1 : Nat) : Int) = alignN v (lineTo v n - 1) := by
      unfold alignS
      rw [Int.toNat_natCast, if_pos (by omega)]
    rw [hs, ← hw] at hk
    rw [hl]
    have HK := aM hk
    have HN := aM hn
    clear hk hn hw
    go_enter Tryz.func128, Tryz.ntmps128
    go_wp2_with (first
      | ((with_reducible refine gate_callee (f := 43) rfl ?_); refine goesL_ (some 14) rfl rfl Tryz.func43 (by kernel_rfl) rfl #[.string v, .int .i64 ((lineTo v n : Int) - 1)] rfl (by (try simp only [List.map_toArray, List.map_cons, List.map_nil]); first | done | rfl) ?_; (with_reducible refine (glyph_Align.calls k v _ _ _ HN.out HK.out).mono ?_); rintro r1 w1 ⟨rfl, hb⟩; refine ⟨_, rfl, ?_⟩; have HB := aM hb; clear hb)
      )
    go_ret
    exact ⟨rfl, HB.out⟩
def line_First.f (a0 : ByteArray) (a1 : Int) : Option Int := if a0.size ≤ 100000 then some (firstS a0 a1 : Int) else none
set_option maxHeartbeats 4000000 in
theorem line_First.calls (a0 : ByteArray) (a1 : Int) (r : Int) (w : World) (hMX : NumOk w) (h : line_First.f a0 a1 = some r) :
    Calls Tryz.prog 77 #[.string a0, .int .i64 a1] w fun e w' => e = .returned (.int .i64 r) ∧ Below w.heap.size w w' := by
  unfold line_First.f at h
  split at h
  case isFalse => cases h
  rename_i hv
  injection h with h
  subst h
  obtain ⟨ki, hki⟩ := (into_ev a0 hv a1).rounds
  have hc := clipN_lt a0 a1
  have hfS : firstS a0 a1 = firstIn a0 (clipN a0 a1) := rfl
  rw [hfS]
  generalize clipN a0 a1 = c at hki hc ⊢
  have hr := line_range a0 c hc
  have HKI := aM hki
  have HMX := aM hMX
  have HC := aM hc
  have HRF := aM (reach_from a0 c hc)
  have HEB := aM (show lineTo a0 c = a0.size ∨ bN a0 (lineTo a0 c) = 10 from by
    by_cases h : lineTo a0 c < a0.size
    · exact .inr (end_byte a0 c hc h)
    · left; omega)
  have HLA := aM (last_ok hv hc)
  have HFI := aM (show firstIn a0 c = ((walkL a0 (lineTo a0 c) a0.size (lineFrom a0 c)).find? (nonBlank a0)).getD (lastIn a0 c) from rfl)
  have HR := aM hr
  have HV := aM hv
  have hu := Tryz.underlying9
  clear hki hc hMX hfS hv
  have p1 : (0 ≤ (lineFrom a0 c : Int)) = True := eq_true (by omega)
  have p2 : ((lineFrom a0 c : Int) ≤ (lineTo a0 c : Int)) = True := eq_true (by omega)
  have p3 : ((lineTo a0 c : Int) ≤ (a0.size : Int)) = True := eq_true (by omega)
  have p4 : (lineFrom a0 c ≤ lineTo a0 c) = True := eq_true (by omega)
  have p5 : (lineTo a0 c ≤ a0.size) = True := eq_true (by omega)
  clear hr
  go_enter Tryz.func77, Tryz.ntmps77
  go_wp2_with (first
    | ((with_reducible refine gate_callee (f := 126) rfl ?_); refine goesL_ (some 12) rfl rfl Tryz.func126 (by kernel_rfl) rfl #[.string a0, .int .i64 a1] rfl (by (try simp only [List.map_toArray, List.map_cons, List.map_nil]); first | done | rfl) ?_; (with_reducible refine (line_into.calls ki a0 a1 _ _ _ HKI.out).mono ?_); rintro r1 w1 ⟨rfl, hb⟩; refine ⟨_, rfl, ?_⟩; have HB1 := aM hb; clear hb)
    )
  have HN1 := aM (HMX.out.below HB1.out)
  obtain ⟨it, hit⟩ : ∃ it, it = w1.heap.size := ⟨_, rfl⟩
  obtain ⟨u, hu0⟩ : ∃ u, u = a0.extract (lineFrom a0 c) (lineTo a0 c) := ⟨_, rfl⟩
  have HIT := aM hit
  have HU := aM hu0
  have HUS := aM (show u.size = lineTo a0 c - lineFrom a0 c from by have := HR.out; rw [hu0, ByteArray.size_extract]; omega)
  have HI1 := aM (show (w1.iter (a0.extract (lineFrom a0 c) (lineTo a0 c)) 0).heap[it]? = some (.stringIter u 0) from by rw [hit, hu0]; exact World.iter_heap _ _ _)
  have HB2 := aM (show Below w.heap.size w (w1.iter (a0.extract (lineFrom a0 c) (lineTo a0 c)) 0) from below_alloc HB1.out _)
  have HSZ := aM (show w.heap.size ≤ it from by rw [hit]; exact HB1.out.size)
  try simp only [Int.toNat_natCast]
  rw [← hit]
  generalize World.iter w1 _ 0 = w2 at HI1 HB2 ⊢
  clear hit hu0
  go_loopg [7] (lineTo a0 c - lineFrom a0 c) (fun kq v7 w' => ∃ (q f : Nat), Aside0 (q + kq = lineTo a0 c - lineFrom a0 c) ∧ Aside0 (lineTo a0 c ≤ lineFrom a0 c + q + f) ∧ Aside0 (Reach a0 (lineFrom a0 c + q)) ∧ Aside0 (firstIn a0 c = ((walkL a0 (lineTo a0 c) f (lineFrom a0 c + q)).find? (nonBlank a0)).getD (lastIn a0 c)) ∧ Aside0 (w'.heap[it]? = some (.stringIter u q)) ∧ Aside0 (Below w.heap.size w w'))
  case atStart => exact ⟨0, a0.size, ⟨by omega⟩, ⟨by have := HR.out; omega⟩, HRF, HFI, HI1, HB2⟩
  case round =>
    clear HI1 HB2 HFI HRF
    obtain ⟨q, f, HQ, HF, HRF, HFI, HI, HB⟩ := hrel
    by_cases hq : lineFrom a0 c + q < lineTo a0 c
    case neg =>
      have hnx : ∀ ty, (Instr.next (.pointer (some ⟨it, 0, none⟩)) true ty).run Tryz.prog wr = .ok (.tuple #[.bool false]) wr := fun ty => Lib.run_next_end_at wr it u q ty HI.out (by have := HUS.out; omega)
      have HNB := aM (HMX.out.below (HB.out.mono (Nat.le_refl _)))
      have HFL := aM (show firstIn a0 c = lastIn a0 c from by
        rw [HFI.out]
        cases f with
        | zero => rfl
        | succ f => unfold walkL; rw [if_neg hq]; rfl)
      go_wp2_with (first
        | ((with_reducible refine gate_callee (f := 128) rfl ?_); refine goesL_ (some 33) rfl rfl Tryz.func128 (by kernel_rfl) rfl #[.string a0, .int .i64 (lineFrom a0 c), .int .i64 (lineTo a0 c)] rfl (by (try simp only [List.map_toArray, List.map_cons, List.map_nil]); first | done | rfl) ?_; (with_reducible refine (HLA.out _ HNB.out).mono ?_); rintro r3 w3 ⟨rfl, hb⟩; refine ⟨_, rfl, ?_⟩; have HB3 := aM (HB.out.trans (hb.mono HB.out.size)); clear hb)
        )
      go_ret
      exact ⟨by rw [HFL.out]; rfl, HB3.out⟩
    case pos =>
    have hsd : Utf8.decode u q = Utf8.decode a0 (lineFrom a0 c + q) := by rw [HU.out]; exact sub_dec a0 _ _ q HR.out.2 HEB.out hq
    have hnx : ∀ ty, (Instr.next (.pointer (some ⟨it, 0, none⟩)) true ty).run Tryz.prog wr = .ok (.tuple #[.bool true, .int .i64 (q : Int), .int .i32 (sgR a0 (lineFrom a0 c + q) : Int)]) (wr.iterAt it u (q + sgW a0 (lineFrom a0 c + q))) := fun ty => by
      have := Lib.run_next_any_at (P := Tryz.prog) wr it u q ty HI.out (by have := HUS.out; omega)
      rw [hsd] at this
      exact this
    have HW := aM (sg_width a0 (lineFrom a0 c + q) (by have := HR.out; omega))
    have HI2 := aM (Lib.iterAt_heap wr it u q (q + sgW a0 (lineFrom a0 c + q)) HI.out)
    have HB2 := aM (Lib.below_iterAt HB.out HSZ.out u (q + sgW a0 (lineFrom a0 c + q)))
    have HQT := aM hq
    obtain ⟨kc, hkc⟩ := (gclass_ev (sgR a0 (lineFrom a0 c + q) : Int)).rounds
    have HKC := aM hkc
    have HLW := aM (show lineFrom a0 c + q + sgW a0 (lineFrom a0 c + q) ≤ lineTo a0 c from by
      rcases HEB.out with h | h
      · rw [h]; exact HW.out.2.2
      · by_cases h2 : lineTo a0 c < a0.size
        · exact reach_apart HRF.out (reach_to a0 c HC.out h2) hq
        · have := HW.out.2.2; have := HR.out; omega)
    cases f with
    | zero => exact absurd HF.out (by omega)
    | succ f =>
    cases gk with
    | zero => exact absurd HQ.out (by omega)
    | succ k1 =>
    have HFS := aM (show firstIn a0 c = (((lineFrom a0 c + q) :: walkL a0 (lineTo a0 c) f (lineFrom a0 c + q + sgW a0 (lineFrom a0 c + q))).find? (nonBlank a0)).getD (lastIn a0 c) from by
      rw [HFI.out, show walkL a0 (lineTo a0 c) (f + 1) (lineFrom a0 c + q) = (if lineFrom a0 c + q < lineTo a0 c then (lineFrom a0 c + q) :: walkL a0 (lineTo a0 c) f (lineFrom a0 c + q + sgW a0 (lineFrom a0 c + q)) else []) from rfl, if_pos hq])
    clear hsd hkc hq HFI
    have e1 : wrap64 ((lineFrom a0 c : Int) + (q : Int)) = ((lineFrom a0 c + q : Nat) : Int) := wnat (by omega) (by have := HQT.out; have := HR.out; have := HV.out; omega)
    by_cases hb : classS (sgR a0 (lineFrom a0 c + q) : Int) = 0
    case neg =>
      have d1 : (classS (sgR a0 (lineFrom a0 c + q) : Int) != 0) = true := by simpa using hb
      have d2 : decide (classS (sgR a0 (lineFrom a0 c + q) : Int) = 0) = false := decide_eq_false hb
      have HFR := aM (show firstIn a0 c = lineFrom a0 c + q from by
        rw [HFS.out, List.find?_cons_of_pos (by simp [nonBlank, hb])]
        rfl)
      go_wp2_with (first
        | ((with_reducible refine gate_callee (f := 127) rfl ?_); refine goesL_ (some 25) rfl rfl Tryz.func127 (by kernel_rfl) rfl #[.int .i32 (sgR a0 (lineFrom a0 c + q) : Int)] rfl (by (try simp only [List.map_toArray, List.map_cons, List.map_nil]); first | done | rfl) ?_; (with_reducible refine (glyph_Class.calls kc _ _ _ HKC.out).mono ?_); rintro r3 w3 ⟨rfl, nd, rfl⟩; refine ⟨_, rfl, ?_⟩; have HB3 := aM (pw_below_drewN HB2.out nd))
        )
      go_ret
      exact ⟨by rw [HFR.out, ← e1]; rfl, HB3.out⟩
    case pos =>
      have d1 : (classS (sgR a0 (lineFrom a0 c + q) : Int) != 0) = false := by simpa using hb
      have d2 : decide (classS (sgR a0 (lineFrom a0 c + q) : Int) = 0) = true := decide_eq_true hb
      have HFR := aM (show firstIn a0 c = ((walkL a0 (lineTo a0 c) f (lineFrom a0 c + (q + sgW a0 (lineFrom a0 c + q)))).find? (nonBlank a0)).getD (lastIn a0 c) from by
        rw [HFS.out, List.find?_cons_of_neg (by simp [nonBlank, hb]), Nat.add_assoc])
      go_wp2_with (first
        | ((with_reducible refine gate_callee (f := 127) rfl ?_); refine goesL_ (some 25) rfl rfl Tryz.func127 (by kernel_rfl) rfl #[.int .i32 (sgR a0 (lineFrom a0 c + q) : Int)] rfl (by (try simp only [List.map_toArray, List.map_cons, List.map_nil]); first | done | rfl) ?_; (with_reducible refine (glyph_Class.calls kc _ _ _ HKC.out).mono ?_); rintro r3 w3 ⟨rfl, nd, rfl⟩; refine ⟨_, rfl, ?_⟩; have HB3 := aM (pw_below_drewN HB2.out nd))
        )
      go_roundg (k1 + 1 - sgW a0 (lineFrom a0 c + q))
      case measure => have := HW.out; omega
      case rel =>
        refine ⟨q + sgW a0 (lineFrom a0 c + q), f, ⟨by have := HQ.out; have := HLW.out; omega⟩, ⟨by have := HF.out; have := HW.out; omega⟩, ⟨by have := HRF.out.step (by have := HQT.out; have := HR.out; omega); rw [Nat.add_assoc] at this; exact this⟩, HFR, ⟨?_⟩, HB3⟩
        exact blk_drewN HI2.out nd
end Go.Proofs.YtjkfkiebhgkolaaGreatDoor.PB
end

section
namespace Go.Proofs.YtjkfkiebhgkolaaGreatDoor.PB
open Go.RowKit Go.Maps Go.Proofs.YtjkfkiebhgkolaaGreatDoorW.PrintWords Go.Proofs.YtjkfkiebhgkolaaGreatDoorW.PrintLast Go.Proofs.YtjkfkiebhgkolaaGreatDoorW.PrintMore
set_option maxRecDepth 100000
set_option linter.unusedVariables false
set_option linter.unusedSimpArgs false
section
variable {P : Program} {ops : Array Oper} {Q : Exit → Act → World → Prop} {md : Region.Mode} {S : World → Prop} {ds : List Nat} {oi : Oper} {v : Value} {fuel : Nat} {l : Array Bool} {a : Act} {w : World} {a' : Act}
theorem sv (i n : Nat) (l' : Array Bool) (h : wpAnyLast P md ops Q S ds fuel l' a' w) (hi : ops[i]? = some oi := by rfl) (hN : oi.dst = some n := by rfl) (hc : anyB md ops l l' i = true := by kernel_rfl) (hQ : ∀ (c : List PanicEntry) (a : Act) (w : World), Q (.panic c) (a.put oi.dst v) w → Q (.panic c) a w := by exact fun _ _ _ h => h) (hy : Yields P ops oi v a := by exact Or.inl ⟨by rfl, fun w' => by go_simp; with_reducible rfl⟩) (ha : a.put (some n) v = a' := by simp only [Act.put, List.setIfInBounds_toArray, List.set_cons_zero, List.set_cons_succ, i64_w, i32_w]; rfl) : wpAnyLast P md ops Q S ds (fuel + 1) l a w := pure_ l' hi hN hc hQ hy ha h
theorem st (i n : Nat) (l' : Array Bool) (hS : S w) (h : wpAnyLast P md ops Q S ds fuel l' a' w) (hi : ops[i]? = some oi := by rfl) (hN : oi.dst = some n := by rfl) (hc : takeB md ops ds l l' i = true := by kernel_rfl) (hQ : ∀ (c : List PanicEntry) (a : Act) (w : World), Q (.panic c) (a.put oi.dst v) w → Q (.panic c) a w := by exact fun _ _ _ h => h) (hy : YieldsIf P ops S oi v a := by exact Or.inl ⟨by rfl, fun w' hs => by (repeat obtain ⟨_, hs⟩ := hs); go_simp; with_reducible rfl⟩) (ha : a.put (some n) v = a' := by simp only [Act.put, List.setIfInBounds_toArray, List.set_cons_zero, List.set_cons_succ, i64_w, i32_w]; rfl) : wpAnyLast P md ops Q S ds (fuel + 1) l a w := take_ l' hi hN hc hQ hy hS ha h
end
abbrev tT := true
abbrev tF := false
structure Turn (B : Nat) (S : Nat → Prop) (w W : World) : Prop where
  bel : Below B w W
  kept : Kept w W S
namespace Turn
variable {B : Nat} {S S' : Nat → Prop} {w W W2 : World}
theorem refl (B : Nat) (S : Nat → Prop) (w : World) : Turn B S w w := ⟨Below.refl _ _, Kept.refl _ _⟩
theorem trans (h : Turn B S w W) (k : Turn B S W W2) : Turn B S w W2 := ⟨h.bel.trans k.bel, h.kept.then_ k.kept (fun _ hk => .inl hk)⟩
theorem size (h : Turn B S w W) : w.heap.size ≤ W.heap.size := h.kept.1
theorem below (h : Turn B S w W) (hb : Below W.heap.size W W2) (hB : B ≤ W.heap.size) : Turn B S w W2 := ⟨h.bel.trans (hb.mono hB), h.kept.below hb⟩
theorem of_below (hb : Below w.heap.size w W) (hB : B ≤ w.heap.size) : Turn B S w W := ⟨hb.mono hB, Kept.of_below hb _⟩
theorem set (h : Turn B S w W) {p : Addr} (hp : S p.block ∨ w.heap.size ≤ p.block) (hB : B ≤ p.block) (u : Value) : Turn B S w (W.setCell p u) := ⟨h.bel.setCell hB u, h.kept.setCell hp u⟩
theorem blk {g : Nat} {o : Obj} (h : Turn B S w W) (hb : w.heap[g]? = some o) (hn : ¬ S g) : W.heap[g]? = some o := blk_kept hb h.kept hn
end Turn
structure DeskAt (w0 : World) (g : Nat) (A : Option Addr) (c : Nat) (ov : Value) (w : World) (s : ByteArray) (l : List S68) (v : ByteArray) (y : Int) (d : TX) : Prop where
  hg : w.heap[g]? = some (.cells #[.string s, .slice A l.length c, .string v, .int .u64 y, .string d.1, ov, .int .i64 d.2.2] 85 (0, 0))
  h0 : Kd.C k68 w0 A l.length l
  hc : l.length ≤ c
  hb : Below w0.heap.size w0 w
  hR : Kd.R k68 68 w w0.heap.size (fun _ => True) ov d.2.1
  hB : w0.heap.size ≤ g
  hn : d.2.1.length ≤ 20000
  hl : l.length ≤ big
section
variable {w0 : World} {g : Nat} {A : Option Addr} {c : Nat} {ov : Value} {w W : World} {s : ByteArray} {l : List S68} {v : ByteArray} {y : Int} {d : TX}
theorem DeskAt.below (h : DeskAt w0 g A c ov w s l v y d) (hb : Below w.heap.size w W) : DeskAt w0 g A c ov W s l v y d :=
  ⟨bB h.hg hb, h.h0, h.hc, bP h.hb hb, Kd.R_below h.hR hb, h.hB, h.hn, h.hl⟩
theorem DeskAt.hC (h : DeskAt w0 g A c ov w s l v y d) : Kd.C k68 w A l.length l := cB_ h.h0 h.hb
theorem DeskAt.size (h : DeskAt w0 g A c ov w s l v y d) : w0.heap.size ≤ w.heap.size := h.hb.size
theorem addD_len {d : TX} {x : ByteArray} {m : List S68} (h : d.2.1.length ≤ 20000) : (addD d x m).2.1.length ≤ 20000 := by
  unfold addD
  split
  · exact catT_len _ _ _ _
  · exact h
theorem DeskAt.setE (h : DeskAt w0 g A c ov w s l v y d) (n : Int) : DeskAt w0 g A c ov (w.setCell ⟨g, 6, none⟩ (.int .i64 n)) s l v y (d.1, d.2.1, n) :=
  ⟨bU h.hg 6 _ rfl, h.h0, h.hc, h.hb.setCell h.hB _, Kd.R_set h.hR h.hg (by decide) _ _, h.hB, h.hn, h.hl⟩
theorem DeskAt.apart (h : DeskAt w0 g A c ov w s l v y d) {gb t : Nat} {cs : Array Value} (hb : w.heap[gb]? = some (.cells cs t (0, 0))) (ht : t ≠ 85) : gb ≠ g := fun e => by
  subst e
  rw [h.hg] at hb
  cases hb
  exact ht rfl
theorem DeskAt.other (h : DeskAt w0 g A c ov w s l v y d) {gb t : Nat} {cs : Array Value} (hb : w.heap[gb]? = some (.cells cs t (0, 0))) (ht : t ≠ 85) (ht' : ∀ q, q ∈ 68 :: k68.E → q ≠ t) (hB : w0.heap.size ≤ gb) (j : Nat) (u : Value) :
    DeskAt w0 g A c ov (w.setCell ⟨gb, j, none⟩ u) s l v y d :=
  ⟨(Below.heap_setCell w ⟨gb, j, none⟩ u g (fun e => by subst e; rw [h.hg] at hb; cases hb; exact ht rfl)).trans h.hg, h.h0, h.hc, h.hb.setCell hB _, Kd.R_set h.hR hb ht' _ _, h.hB, h.hn, h.hl⟩
theorem open_ok (k : Nat) (hl : l.length ≤ big) (hr : Kd.C k68 w A l.length l) (hc : l.length ≤ c) (e : Int) (hv : strip_View.f k s l y = some (v, e)) :
    Calls Tryz.prog 29 #[.agg #[.string s, .slice A l.length c], .int .u64 y] w fun r w' => ∃ g, r = .returned (.tuple #[.pointer (some ⟨g, 0, none⟩), .int .i64 e]) ∧ DeskAt w g A c (.slice none 0 0) w' s l v y d0 ∧ Below w.heap.size w w' := by
  have HR := aM hr
  have HC := aM hc
  have HV := aM hv
  clear hr hc hv
  go_enter Tryz.func29, Tryz.ntmps29
  go_wp2_with (first
    | ((with_reducible refine gate_dst (N := 2) rfl ?_); refine box_event ?hg (N := 2) ?hd (cs := #[.string s, .slice A l.length c]) (t := 24) ?hr ?_; (case hd => rfl); (case hg => rfl); (case hr => first | (go_simp; done) | (go_simp; rfl)); intro gb hg w1 hbox hb; have BK := aM hbox; have HB := aM hb; clear hb hbox hg; have hcz0 := (bC BK.out 0).trans (rfl : _ = some (Value.string s)); have hcz1 := (bC BK.out 1).trans (rfl : _ = some (Value.slice A l.length c)))
    | ((with_reducible refine gate_callee (f := 71) rfl ?_); refine goesL_ (some 11) rfl rfl Tryz.func71 (by kernel_rfl) rfl #[.agg #[.string s, .slice A l.length c], .int .u64 y] rfl (by (try simp only [List.map_toArray, List.map_cons, List.map_nil]); first | done | rfl) ?_; (with_reducible refine (strip_View.calls k s _ _ l y v e _ (cB_ HR.out HB.out) HC.out HV.out).mono ?_); rintro r1 w2 ⟨rfl, hb⟩; refine ⟨_, rfl, ?_⟩; have BK2 := aM (bB BK.out hb); have HB2 := aM (bP HB.out hb); clear hb; have hcy0 := (bC BK2.out 0).trans (rfl : _ = some (Value.string s)); have hcy1 := (bC BK2.out 1).trans (rfl : _ = some (Value.slice A l.length c)))
    | ((with_reducible refine gate_dst (N := 18) rfl ?_); refine box_event ?hg (N := 18) ?hd (cs := #[.string s, .slice A l.length c, .string v, .int .u64 y, .string ⟨#[]⟩, .slice none 0 0, .int .i64 0]) (t := 85) ?hr ?_; (case hd => rfl); (case hg => rfl); (case hr => first | (go_simp; done) | (go_simp; rfl)); intro g hg w3 hbox hb; have BK3 := aM hbox; have HB3 := aM (bP HB2.out hb); have GE := aM (show w.heap.size ≤ g from by have := HB2.out.size; omega); clear hb hbox hg)
    )
  go_ret2
  exact ⟨g, rfl, ⟨BK3.out, HR.out, HC.out, HB3.out, Kd.R_nil _ _ _ _ _, GE.out, Nat.zero_le _, hl⟩, HB3.out⟩
theorem add_ok (h : DeskAt w0 g A c ov w s l v y d) (x : ByteArray) (Ax : Option Addr) (cx : Nat) (m : List S68) (hx : Kd.C k68 w Ax m.length m) (hcx : m.length ≤ cx) (hm : m.length ≤ big) :
    Calls Tryz.prog 61 #[.pointer (some ⟨g, 0, none⟩), .agg #[.string x, .slice Ax m.length cx]] w fun e w' => e = .returned (.tuple #[]) ∧ ∃ ov', DeskAt w0 g A c ov' w' s l v y (addD d x m) ∧ Turn w0.heap.size (fun k => k = g) w w' := by
  obtain ⟨k, hf⟩ := (cat4_ev d.1 d.2.1 (len_big h.hn) x m hm).rounds
  have hnn := addD_len (x := x) (m := m) h.hn
  obtain ⟨db, dr, de⟩ := d
  obtain ⟨Ao, co, rfl, hco, hCo⟩ := Kd.R_reads h.hR
  have HD := aM h
  have HX := aM hx
  have HCX := aM hcx
  have HF := aM hf
  have HN := aM hnn
  have HCO := aM hco
  have HS := aM h.size
  clear h hx hcx hf hco hCo hnn
  by_cases hd : de = 0
  · subst hd
    have HR : addD (db, dr, 0) x m = catT db dr x m := if_pos rfl
    rw [HR] at HN ⊢
    clear HR
    dsimp only at HF
    generalize catT db dr x m = r at HF HN ⊢
    obtain ⟨r1, r2, r3⟩ := r
    go_enter Tryz.func61, Tryz.ntmps61
    go_wp2_with (first
      | ((with_reducible refine gate_dst (N := 3) rfl ?_); refine box_event ?hg (N := 3) ?hd (cs := #[.string x, .slice Ax m.length cx]) (t := 24) ?hr ?_; (case hd => rfl); (case hg => rfl); (case hr => first | (go_simp; done) | (go_simp; rfl)); intro gb hg w1 hbox hb; have HD1 := aM (HD.out.below hb); have BK := aM hbox; have HB := aM hb; have GE := aM (show w.heap.size ≤ gb by omega); clear hb hbox hg; have hcz0 := (bC BK.out 0).trans (rfl : _ = some (Value.string x)); have hcz1 := (bC BK.out 1).trans (rfl : _ = some (Value.slice Ax m.length cx)); have hd0 := (bC HD1.out.hg 4).trans (rfl : _ = some (Value.string db)); have hd1 := (bC HD1.out.hg 5).trans (rfl : _ = some (Value.slice Ao dr.length co)); have hd2 := (bC HD1.out.hg 6).trans (rfl : _ = some (Value.int .i64 0)))
      | ((with_reducible refine gate_callee (f := 115) rfl ?_); refine goesL_ (some 17) rfl rfl Tryz.func115 (by kernel_rfl) rfl #[.agg #[.string db, .slice Ao dr.length co], .agg #[.string x, .slice Ax m.length cx]] rfl (by (try simp only [List.map_toArray, List.map_cons, List.map_nil]); first | done | rfl) ?_; (with_reducible refine (strip_Cat.calls k db Ao co dr x Ax cx m r1 r2 r3 _ (rR HD1.out.hR).2.2 HCO.out (cB_ HX.out HB.out) HCX.out HF.out).mono ?_); rintro e w2 ⟨v1, rfl, ho, hb⟩; refine ⟨_, rfl, ?_⟩; have HD2 := aM (HD1.out.below hb); have HO := aM ho; have HB2 := aM (bP HB.out hb); have SZ := aM (Nat.le_trans HD1.out.size (Nat.le_refl _)); clear hb ho)
      )
    have HLK := aM (show ∀ W : World, Below w1.heap.size w1 W → W.cell? ⟨g, 4, none⟩ = some (.string db) ∧ W.cell? ⟨g, 5, none⟩ = some (.slice Ao dr.length co) ∧ W.cell? ⟨gb, 0, none⟩ = some (.string x) ∧ W.cell? ⟨gb, 1, none⟩ = some (.slice Ax m.length cx) from fun W hb => ⟨(bC (HD1.out.below hb).hg 4).trans rfl, (bC (HD1.out.below hb).hg 5).trans rfl, (bC (bB BK.out hb) 0).trans rfl, (bC (bB BK.out hb) 1).trans rfl⟩)
    clear hcz0 hcz1 hd0 hd1 hd2
    refine start_ (n := 17) (S := fun W => W.cell? ⟨g, 4, none⟩ = some (.string db) ∧ W.cell? ⟨g, 5, none⟩ = some (.slice Ao dr.length co) ∧ W.cell? ⟨gb, 0, none⟩ = some (.string x) ∧ W.cell? ⟨gb, 1, none⟩ = some (.slice Ax m.length cx)) (ds := [13, 16]) #[tF,tF,tF,tF,tF,tF,tF,tF,tF,tF,tF,tF,tF,tF,tF,tF,tF] (by kernel_rfl) rfl rfl (HLK.out _ (below_drew1 (Below.refl _ _))) (fun hHeld => ?_)
    have HB1 := aM (below_drew1 (Below.refl w1.heap.size w1))
    generalize w1.drew = w3 at HB1 hHeld ⊢
    refine sv 0 10 #[tT,tF,tF,tF,tF,tF,tF,tF,tF,tF,tF,tF,tF,tF,tF,tF,tF] ?_
    refine sv 1 11 #[tT,tT,tF,tF,tF,tF,tF,tF,tF,tF,tF,tF,tF,tF,tF,tF,tF] ?_
    refine sv 2 12 #[tT,tT,tT,tF,tF,tF,tF,tF,tF,tF,tF,tF,tF,tF,tF,tF,tF] ?_
    refine sv 3 13 #[tT,tT,tT,tT,tF,tF,tF,tF,tF,tF,tF,tF,tF,tF,tF,tF,tF] ?_
    refine sv 4 14 #[tT,tT,tT,tT,tT,tF,tF,tF,tF,tF,tF,tF,tF,tF,tF,tF,tF] ?_
    refine st 5 15 #[tT,tT,tT,tT,tT,tT,tF,tF,tF,tF,tF,tF,tF,tF,tF,tF,tF] hHeld ?_
    refine st 6 16 #[tT,tT,tT,tT,tT,tT,tT,tF,tF,tF,tF,tF,tF,tF,tF,tF,tF] hHeld ?_
    refine one_ (i := 7) (N := some 17) #[tT,tT,tT,tT,tT,tT,tT,tT,tF,tF,tF,tF,tF,tF,tF,tF,tF] rfl rfl (by kernel_rfl) (by decide) (fun K hK => ?_)
    refine goes_ Tryz.func115 (by kernel_rfl) rfl #[.agg #[.string db, .slice Ao dr.length co], .agg #[.string x, .slice Ax m.length cx]] (by rfl) rfl rfl (by (try simp only [List.map_toArray, List.map_cons, List.map_nil]); first | done | rfl) ?_
    have HD3 := aM (HD1.out.below HB1.out)
    have HB3 := aM (bP HB.out HB1.out)
    (with_reducible refine (strip_Cat.calls k db Ao co dr x Ax cx m r1 r2 r3 _ (rR HD3.out.hR).2.2 HCO.out (cB_ HX.out HB3.out) HCX.out HF.out).mono ?_)
    rintro e w2 ⟨v1, rfl, ho, hb⟩
    obtain ⟨A1, c1, rfl⟩ := Kd.R_slice ho
    have HD2 := aM (HD3.out.below hb)
    have HO := aM (rL ho HD3.out.size)
    have HB2 := aM (bP HB3.out hb)
    refine ⟨_, rfl, hK.out _ _ (HLK.out _ (bP HB1.out hb)) (fun hHeld => ?_)⟩
    clear hK K hb ho hHeld HLK
    refine norm_ (a' := ?_) ?_ ?_
    rotate_left
    · simp only [Act.put, List.setIfInBounds_toArray, List.set_cons_zero, List.set_cons_succ, i64_w, i32_w]
      rfl
    refine sv 8 9 #[tT,tT,tT,tT,tT,tT,tT,tT,tT,tF,tF,tF,tF,tF,tF,tF,tF] ?_
    refine sv 9 18 #[tT,tT,tT,tT,tT,tT,tT,tT,tT,tT,tF,tF,tF,tF,tF,tF,tF] ?_
    refine sv 10 19 #[tT,tT,tT,tT,tT,tT,tT,tT,tT,tT,tT,tF,tF,tF,tF,tF,tF] ?_
    refine sv 11 20 #[tT,tT,tT,tT,tT,tT,tT,tT,tT,tT,tT,tT,tF,tF,tF,tF,tF] ?_
    refine sv 12 21 #[tT,tT,tT,tT,tT,tT,tT,tT,tT,tT,tT,tT,tT,tF,tF,tF,tF] ?_
    refine last_ (i := 13) (N := none) #[tT,tT,tT,tT,tT,tT,tT,tT,tT,tT,tT,tT,tT,tT,tF,tF,tF] rfl rfl (by kernel_rfl) (by decide) (fun K hK => ?_)
    have hs0 := (bC HD2.out.hg 4).trans (rfl : _ = some (Value.string db))
    have hs1 := (bC HD2.out.hg 5).trans (rfl : _ = some (Value.slice Ao dr.length co))
    have hf0 := bF HD2.out.hg 4
    have hf1 := bF HD2.out.hg 5
    refine skip_ (w1 := (w2.setCell ⟨g, 4, none⟩ (.string r1)).setCell ⟨g, 5, none⟩ (.slice A1 r2.length c1)) (by rfl) rfl ?_ ?_
    · first | (go_simp; done) | (go_simp; rfl)
    refine hK.out _ _ ?_
    clear hK K hs0 hs1 hf0 hf1
    have HG4 := aM (bU (cs' := #[.string s, .slice A l.length c, .string v, .int .u64 y, .string r1, .slice A1 r2.length c1, .int .i64 0]) (bU (cs' := #[.string s, .slice A l.length c, .string v, .int .u64 y, .string r1, .slice Ao dr.length co, .int .i64 0]) HD2.out.hg 4 (.string r1) rfl) 5 (.slice A1 r2.length c1) rfl)
    refine sv 14 22 #[tT,tT,tT,tT,tT,tT,tT,tT,tT,tT,tT,tT,tT,tT,tT,tF,tF] ?_
    refine sv 15 23 #[tT,tT,tT,tT,tT,tT,tT,tT,tT,tT,tT,tT,tT,tT,tT,tT,tF] ?_
    refine last_ (i := 16) (N := none) #[tT,tT,tT,tT,tT,tT,tT,tT,tT,tT,tT,tT,tT,tT,tT,tT,tT] rfl rfl (by kernel_rfl) (by decide) (fun K hK => ?_)
    have hs0 := (bC HG4.out 6).trans (rfl : _ = some (Value.int .i64 0))
    have hf0 := bF HG4.out 6
    refine skip_ (w1 := ((w2.setCell ⟨g, 4, none⟩ (.string r1)).setCell ⟨g, 5, none⟩ (.slice A1 r2.length c1)).setCell ⟨g, 6, none⟩ (.int .i64 r3)) (by rfl) rfl ?_ ?_
    · first | (go_simp; done) | (go_simp; rfl)
    refine hK.out _ _ (done_ (by kernel_rfl) ?_)
    clear hK K
    have HG6 := aM (bU (cs' := #[.string s, .slice A l.length c, .string v, .int .u64 y, .string r1, .slice A1 r2.length c1, .int .i64 r3]) HG4.out 6 (.int .i64 r3) rfl)
    refine bodyPost_end (results_none rfl _ _ _) rfl ?_
    have hR := Kd.R_set (Kd.R_set (Kd.R_set HO.out HD2.out.hg (by decide) 4 (.string r1)) (bU (cs' := #[.string s, .slice A l.length c, .string v, .int .u64 y, .string r1, .slice Ao dr.length co, .int .i64 0]) HD2.out.hg 4 (.string r1) rfl) (by decide) 5 (.slice A1 r2.length c1)) HG4.out (by decide) 6 (.int .i64 r3)
    have hT : Turn w0.heap.size (fun k => k = g) w w2 := Turn.of_below HB2.out HS.out
    exact ⟨rfl, _, ⟨HG6.out, HD2.out.h0, HD2.out.hc, ((HD2.out.hb.setCell HD2.out.hB _).setCell HD2.out.hB _).setCell HD2.out.hB _, hR, HD2.out.hB, HN.out, HD2.out.hl⟩, ((hT.set (p := ⟨g, 4, none⟩) (.inl rfl) HD2.out.hB _).set (p := ⟨g, 5, none⟩) (.inl rfl) HD2.out.hB _).set (p := ⟨g, 6, none⟩) (.inl rfl) HD2.out.hB _⟩
  · have HR : addD (db, dr, de) x m = (db, dr, de) := if_neg hd
    rw [HR]
    have c1 : (de == 0) = false := beq_eq_false_iff_ne.2 hd
    go_enter Tryz.func61, Tryz.ntmps61
    go_wp2_with (first
      | ((with_reducible refine gate_dst (N := 3) rfl ?_); refine box_event ?hg (N := 3) ?hd (cs := #[.string x, .slice Ax m.length cx]) (t := 24) ?hr ?_; (case hd => rfl); (case hg => rfl); (case hr => first | (go_simp; done) | (go_simp; rfl)); intro gb hg w1 hbox hb; have HD1 := aM (HD.out.below hb); have HB := aM hb; clear hb hbox hg; have hd2 := (bC HD1.out.hg 6).trans (rfl : _ = some (Value.int .i64 de)))
      )
    refine bodyPost_end (results_none rfl _ _ _) rfl ?_
    exact ⟨rfl, ⟨_, HD1.out⟩, Turn.of_below HB.out HS.out⟩
end
end Go.Proofs.YtjkfkiebhgkolaaGreatDoor.PB
end

section
namespace Go.Proofs.YtjkfkiebhgkolaaGreatDoor.PB
open Go.RowKit Go.Maps Go.Proofs.YtjkfkiebhgkolaaGreatDoorW.PrintWords Go.Proofs.YtjkfkiebhgkolaaGreatDoorW.PrintLast Go.Proofs.YtjkfkiebhgkolaaGreatDoorW.PrintMore
set_option maxRecDepth 100000
set_option linter.unusedVariables false
set_option linter.unusedSimpArgs false
section
variable {w0 : World} {g : Nat} {A : Option Addr} {c : Nat} {ov : Value} {w W : World} {s : ByteArray} {l : List S68} {v : ByteArray} {y : Int} {d : TX}
theorem keep_ok (h : DeskAt w0 g A c ov w s l v y d) (a b : Int) :
    Calls Tryz.prog 79 #[.pointer (some ⟨g, 0, none⟩), .int .i64 a, .int .i64 b] w fun e w' => e = .returned (.tuple #[]) ∧ ∃ ov', DeskAt w0 g A c ov' w' s l v y (keepD s l d a b) ∧ Turn w0.heap.size (fun k => k = g) w w' := by
  obtain ⟨k, hk⟩ := (cut_ev s l h.hl a b).rounds
  have hL := cutS_len s l a b
  have HD := aM h
  unfold keepD
  generalize cutS s l a b = r at hk hL ⊢
  obtain ⟨r1, r2, r3⟩ := r
  have HK := aM hk
  have HL := aM hL
  have hc0 := (bC h.hg 0).trans (rfl : _ = some (Value.string s))
  have hc1 := (bC h.hg 1).trans (rfl : _ = some (Value.slice A l.length c))
  clear h hk hL
  go_enter Tryz.func79, Tryz.ntmps79
  go_wp2_with (first
    | ((with_reducible refine gate_callee (f := 74) rfl ?_); refine goesL_ (some 15) rfl rfl Tryz.func74 (by kernel_rfl) rfl #[.agg #[.string s, .slice A l.length c], .int .i64 a, .int .i64 b] rfl (by (try simp only [List.map_toArray, List.map_cons, List.map_nil]); first | done | rfl) ?_; (with_reducible refine (strip_Cut.calls k s A c l a b r1 r2 r3 _ HD.out.hC HD.out.hc HK.out).mono ?_); rintro e w1 ⟨v1, rfl, ho, hb⟩; refine ⟨_, rfl, ?_⟩; have HD1 := aM (HD.out.below hb); have HO := aM (rL ho HD.out.size); have HB1 := aM hb; clear hb ho; obtain ⟨A1, c1, e1⟩ := Kd.R_slice HO.out; subst e1)
    | ((with_reducible refine gate_dst (N := 6) rfl ?_); refine box_event ?hg (N := 6) ?hd (cs := #[.string ⟨#[]⟩, .slice none 0 0]) (t := 24) ?hr ?_; (case hd => rfl); (case hg => rfl); (case hr => first | (go_simp; done) | (go_simp; rfl)); intro gb hg w2 hbox hb; have HD2 := aM (HD1.out.below hb); have BK := aM hbox; have HO2 := aM (Kd.R_below HO.out hb); have HB2 := aM (bP HB1.out hb); have GE := aM (show w.heap.size ≤ gb from by have := HB1.out.size; omega); clear hb hbox hg; have hcz0 := (bC BK.out 0).trans (rfl : _ = some (Value.string ⟨#[]⟩)); have hcz1 := (bC BK.out 1).trans (rfl : _ = some (Value.slice none 0 0)); have hfz0 := bF BK.out 0; have hfz1 := bF BK.out 1)
    | ((with_reducible refine gate_callee (f := 61) rfl ?_); refine goesL_ (some 20) rfl rfl Tryz.func61 (by kernel_rfl) rfl #[.pointer (some ⟨g, 0, none⟩), .agg #[.string r1, .slice A1 r2.length c1]] rfl (by (try simp only [List.map_toArray, List.map_cons, List.map_nil]); first | done | rfl) ?_; have HD3 := aM (DeskAt.other (DeskAt.other HD2.out BK.out (by decide) (by decide) (Nat.le_trans HD.out.size GE.out) 0 (.string r1)) (blk_set BK.out 0 (.string r1)) (by decide) (by decide) (Nat.le_trans HD.out.size GE.out) 1 (.slice A1 r2.length c1)); have HT3 := aM (((Turn.of_below (S := fun k => k = g) HB2.out HD.out.size).set (p := ⟨gb, 0, none⟩) (.inr GE.out) (Nat.le_trans HD.out.size GE.out) (.string r1)).set (p := ⟨gb, 1, none⟩) (.inr GE.out) (Nat.le_trans HD.out.size GE.out) (.slice A1 r2.length c1)); (with_reducible refine (add_ok HD3.out r1 A1 c1 r2 (rR (Kd.R_set (Kd.R_set HO2.out BK.out (by decide) 0 (.string r1)) (blk_set BK.out 0 (.string r1)) (by decide) 1 (.slice A1 r2.length c1))).2.2 (rR HO2.out).2.1 (len_big HL.out)).mono ?_); rintro e w4 ⟨rfl, ov', hD4, hT4⟩; refine ⟨_, rfl, ?_⟩; have HD4 := aM hD4; have HT4 := aM (HT3.out.trans hT4); clear hD4 hT4)
    )
  refine bodyPost_end (results_none rfl _ _ _) rfl ?_
  exact ⟨rfl, ⟨_, HD4.out⟩, HT4.out⟩
theorem write_ok (h : DeskAt w0 g A c ov w s l v y d) (x : ByteArray) :
    Calls Tryz.prog 48 #[.pointer (some ⟨g, 0, none⟩), .string x] w fun e w' => e = .returned (.tuple #[]) ∧ ∃ ov', DeskAt w0 g A c ov' w' s l v y (writeD y d x) ∧ Turn w0.heap.size (fun k => k = g) w w' := by
  obtain ⟨k, hk⟩ := (make_ev x y).rounds
  have hL := makeS_len x y
  have HD := aM h
  unfold writeD
  generalize makeS x y = r at hk hL ⊢
  obtain ⟨r1, r2, r3⟩ := r
  have HK := aM hk
  have HL := aM hL
  have hc3 := (bC h.hg 3).trans (rfl : _ = some (Value.int .u64 y))
  clear h hk hL
  by_cases h3 : r3 = 0
  · have b3 : (r3 != 0) = false := bne_eq_false_iff_eq.2 h3
    have b4 : (r3 == 0) = true := beq_iff_eq.2 h3
    rw [if_pos h3]
    have HX3 := aM h3
    clear h3
    go_enter Tryz.func48, Tryz.ntmps48
    go_wp2_with (first
    | ((with_reducible refine gate_callee (f := 97) rfl ?_); refine goesL_ (some 12) rfl rfl Tryz.func97 (by kernel_rfl) rfl #[.string x, .int .u64 y] rfl (by (try simp only [List.map_toArray, List.map_cons, List.map_nil]); first | done | rfl) ?_; (with_reducible refine (strip_Make.calls k x y r1 r2 r3 _ HK.out).mono ?_); rintro e w1 ⟨v1, rfl, ho, hb⟩; refine ⟨_, rfl, ?_⟩; have HD1 := aM (HD.out.below hb); have HO := aM (rL ho HD.out.size); have HB1 := aM hb; clear hb ho; obtain ⟨A1, c1, e1⟩ := Kd.R_slice HO.out; subst e1)
    | ((with_reducible refine gate_dst (N := 4) rfl ?_); refine box_event ?hg (N := 4) ?hd (cs := #[.string ⟨#[]⟩, .slice none 0 0]) (t := 24) ?hr ?_; (case hd => rfl); (case hg => rfl); (case hr => first | (go_simp; done) | (go_simp; rfl)); intro gb hg w2 hbox hb; have HD2 := aM (HD1.out.below hb); have BK := aM hbox; have HO2 := aM (Kd.R_below HO.out hb); have HB2 := aM (bP HB1.out hb); have GE := aM (show w.heap.size ≤ gb from by have := HB1.out.size; omega); clear hb hbox hg; have hcz0 := (bC BK.out 0).trans (rfl : _ = some (Value.string ⟨#[]⟩)); have hcz1 := (bC BK.out 1).trans (rfl : _ = some (Value.slice none 0 0)); have hfz0 := bF BK.out 0; have hfz1 := bF BK.out 1)
    | ((with_reducible refine gate_callee (f := 61) rfl ?_); refine goesL_ (some 23) rfl rfl Tryz.func61 (by kernel_rfl) rfl #[.pointer (some ⟨g, 0, none⟩), .agg #[.string r1, .slice A1 r2.length c1]] rfl (by (try simp only [List.map_toArray, List.map_cons, List.map_nil]); first | done | rfl) ?_; have HD3 := aM (DeskAt.other (DeskAt.other HD2.out BK.out (by decide) (by decide) (Nat.le_trans HD.out.size GE.out) 0 (.string r1)) (blk_set BK.out 0 (.string r1)) (by decide) (by decide) (Nat.le_trans HD.out.size GE.out) 1 (.slice A1 r2.length c1)); have HT3 := aM (((Turn.of_below (S := fun k => k = g) HB2.out HD.out.size).set (p := ⟨gb, 0, none⟩) (.inr GE.out) (Nat.le_trans HD.out.size GE.out) (.string r1)).set (p := ⟨gb, 1, none⟩) (.inr GE.out) (Nat.le_trans HD.out.size GE.out) (.slice A1 r2.length c1)); (with_reducible refine (add_ok HD3.out r1 A1 c1 r2 (rR (Kd.R_set (Kd.R_set HO2.out BK.out (by decide) 0 (.string r1)) (blk_set BK.out 0 (.string r1)) (by decide) 1 (.slice A1 r2.length c1))).2.2 (rR HO2.out).2.1 (len_big HL.out)).mono ?_); rintro e w4 ⟨rfl, ov', hD4, hT4⟩; refine ⟨_, rfl, ?_⟩; have HD4 := aM hD4; have HT4 := aM (HT3.out.trans hT4); clear hD4 hT4)
    )
    refine bodyPost_end (results_none rfl _ _ _) rfl ?_
    exact ⟨rfl, ⟨_, HD4.out⟩, HT4.out⟩
  · have b3 : (r3 != 0) = true := bne_iff_ne.2 h3
    have b4 : (r3 == 0) = false := beq_eq_false_iff_ne.2 h3
    rw [if_neg h3]
    have HX3 := aM h3
    clear h3
    go_enter Tryz.func48, Tryz.ntmps48
    go_wp2_with (first
    | ((with_reducible refine gate_callee (f := 97) rfl ?_); refine goesL_ (some 12) rfl rfl Tryz.func97 (by kernel_rfl) rfl #[.string x, .int .u64 y] rfl (by (try simp only [List.map_toArray, List.map_cons, List.map_nil]); first | done | rfl) ?_; (with_reducible refine (strip_Make.calls k x y r1 r2 r3 _ HK.out).mono ?_); rintro e w1 ⟨v1, rfl, ho, hb⟩; refine ⟨_, rfl, ?_⟩; have HD1 := aM (HD.out.below hb); have HO := aM (rL ho HD.out.size); have HB1 := aM hb; clear hb ho; obtain ⟨A1, c1, e1⟩ := Kd.R_slice HO.out; subst e1)
    | ((with_reducible refine gate_dst (N := 4) rfl ?_); refine box_event ?hg (N := 4) ?hd (cs := #[.string ⟨#[]⟩, .slice none 0 0]) (t := 24) ?hr ?_; (case hd => rfl); (case hg => rfl); (case hr => first | (go_simp; done) | (go_simp; rfl)); intro gb hg w2 hbox hb; have HD2 := aM (HD1.out.below hb); have BK := aM hbox; have HO2 := aM (Kd.R_below HO.out hb); have HB2 := aM (bP HB1.out hb); have GE := aM (show w.heap.size ≤ gb from by have := HB1.out.size; omega); clear hb hbox hg; have hcz0 := (bC BK.out 0).trans (rfl : _ = some (Value.string ⟨#[]⟩)); have hcz1 := (bC BK.out 1).trans (rfl : _ = some (Value.slice none 0 0)); have hfz0 := bF BK.out 0; have hfz1 := bF BK.out 1; have hde := (bC HD2.out.hg 6).trans (rfl : _ = some (Value.int .i64 d.2.2)); have hdf := bF HD2.out.hg 6; have hgg := HD2.out.apart BK.out (by decide); have hgg2 := hgg.symm)
    | ((with_reducible refine gate_callee (f := 61) rfl ?_); refine goesL_ (some 23) rfl rfl Tryz.func61 (by kernel_rfl) rfl #[.pointer (some ⟨g, 0, none⟩), .agg #[.string r1, .slice A1 r2.length c1]] rfl (by (try simp only [List.map_toArray, List.map_cons, List.map_nil]); first | done | rfl) ?_; have HD3 := aM (DeskAt.other (DeskAt.other HD2.out BK.out (by decide) (by decide) (Nat.le_trans HD.out.size GE.out) 0 (.string r1)) (blk_set BK.out 0 (.string r1)) (by decide) (by decide) (Nat.le_trans HD.out.size GE.out) 1 (.slice A1 r2.length c1)); have HT3 := aM (((Turn.of_below (S := fun k => k = g) HB2.out HD.out.size).set (p := ⟨gb, 0, none⟩) (.inr GE.out) (Nat.le_trans HD.out.size GE.out) (.string r1)).set (p := ⟨gb, 1, none⟩) (.inr GE.out) (Nat.le_trans HD.out.size GE.out) (.slice A1 r2.length c1)); have HD5 := aM (HD3.out.setE r3); have HT5 := aM (HT3.out.set (p := ⟨g, 6, none⟩) (.inl rfl) HD.out.hB (.int .i64 r3)); (with_reducible refine (add_ok HD5.out r1 A1 c1 r2 (rR (Kd.R_set (Kd.R_set (Kd.R_set HO2.out BK.out (by decide) 0 (.string r1)) (blk_set BK.out 0 (.string r1)) (by decide) 1 (.slice A1 r2.length c1)) HD3.out.hg (by decide) 6 (.int .i64 r3))).2.2 (rR HO2.out).2.1 (len_big HL.out)).mono ?_); rintro e w4 ⟨rfl, ov', hD4, hT4⟩; refine ⟨_, rfl, ?_⟩; have HD4 := aM hD4; have HT4 := aM (HT5.out.trans hT4); clear hD4 hT4)
    )
    refine bodyPost_end (results_none rfl _ _ _) rfl ?_
    exact ⟨rfl, ⟨_, HD4.out⟩, HT4.out⟩
end
end Go.Proofs.YtjkfkiebhgkolaaGreatDoor.PB
end

section
namespace Go.Proofs.YtjkfkiebhgkolaaGreatDoor.PB
open Go.RowKit Go.Maps Go.Proofs.YtjkfkiebhgkolaaGreatDoorW.PrintWords Go.Proofs.YtjkfkiebhgkolaaGreatDoorW.PrintLast Go.Proofs.YtjkfkiebhgkolaaGreatDoorW.PrintMore
set_option maxRecDepth 100000
set_option linter.unusedVariables false
set_option linter.unusedSimpArgs false
attribute [local go_sem] max2_int min2_int max_two min_two
section
variable {w0 : World} {g : Nat} {A : Option Addr} {c : Nat} {ov : Value} {w W : World} {s : ByteArray} {l : List S68} {v : ByteArray} {y : Int} {d : TX}
theorem lines_ok (h : DeskAt w0 g A c ov w s l v y d) (f t : Int) (ht : 0 ≤ t ∧ t ≤ 1000000) (ln : Bool) :
    Calls Tryz.prog 78 #[.pointer (some ⟨g, 0, none⟩), .agg #[.int .i64 f, .int .i64 t, .bool ln]] w fun e w' => e = .returned (.tuple #[.int .i64 (linesD v f t ln).1, .int .i64 (linesD v f t ln).2]) ∧ Below w.heap.size w w' := by
  have HD := aM h
  have hwt : wrap64 (t - 1) = t - 1 := by unfold wrap64; omega
  clear h
  cases ln with
  | true =>
    show Calls _ _ _ _ fun e w' => e = .returned (.tuple #[.int .i64 f, .int .i64 t]) ∧ _
    go_enter Tryz.func78, Tryz.ntmps78
    go_wp2_with (first
      | ((with_reducible refine gate_dst (N := 3) rfl ?_); refine box_event ?hg (N := 3) ?hd (cs := #[.int .i64 f, .int .i64 t, .bool true]) (t := 28) ?hr ?_; (case hd => rfl); (case hg => rfl); (case hr => first | (go_simp; done) | (go_simp; rfl)); intro gb hg w1 hbox hb; have BK := aM hbox; have HB := aM hb; have HD1 := aM (HD.out.below hb); clear hb hbox hg; have hcz0 := (bC BK.out 0).trans (rfl : _ = some (Value.int .i64 f)); have hcz1 := (bC BK.out 1).trans (rfl : _ = some (Value.int .i64 t)); have hcz2 := (bC BK.out 2).trans (rfl : _ = some (Value.bool true)); have hdv := (bC HD1.out.hg 2).trans (rfl : _ = some (Value.string v)))
      )
    go_quiet (fail)
    go_wp2
    go_ret2
    exact ⟨rfl, pw_below_drewN HB.out _⟩
  | false =>
    show Calls _ _ _ _ fun e w' => e = .returned (.tuple #[.int .i64 (ofL v f : Int), .int .i64 (ofL v (max f (t - 1)) : Int)]) ∧ _
    rw [show max f (t - 1) = (if f < t - 1 then t - 1 else f) from by rw [Int.max_def]; split <;> split <;> omega]
    go_enter Tryz.func78, Tryz.ntmps78
    go_wp2_with (first
      | ((with_reducible refine gate_dst (N := 3) rfl ?_); refine box_event ?hg (N := 3) ?hd (cs := #[.int .i64 f, .int .i64 t, .bool false]) (t := 28) ?hr ?_; (case hd => rfl); (case hg => rfl); (case hr => first | (go_simp; done) | (go_simp; rfl)); intro gb hg w1 hbox hb; have BK := aM hbox; have HB := aM hb; have HD1 := aM (HD.out.below hb); clear hb hbox hg; have hcz0 := (bC BK.out 0).trans (rfl : _ = some (Value.int .i64 f)); have hcz1 := (bC BK.out 1).trans (rfl : _ = some (Value.int .i64 t)); have hcz2 := (bC BK.out 2).trans (rfl : _ = some (Value.bool false)); have hdv := (bC HD1.out.hg 2).trans (rfl : _ = some (Value.string v)))
      )
    have HLK := aM (show ∀ W : World, Below w1.heap.size w1 W → W.cell? ⟨g, 2, none⟩ = some (.string v) ∧ W.cell? ⟨gb, 0, none⟩ = some (.int .i64 f) ∧ W.cell? ⟨gb, 1, none⟩ = some (.int .i64 t) from fun W hb => ⟨(bC (HD1.out.below hb).hg 2).trans rfl, (bC (bB BK.out hb) 0).trans rfl, (bC (bB BK.out hb) 1).trans rfl⟩)
    refine start_ (n := 20) (S := fun W => W.cell? ⟨g, 2, none⟩ = some (.string v) ∧ W.cell? ⟨gb, 0, none⟩ = some (.int .i64 f) ∧ W.cell? ⟨gb, 1, none⟩ = some (.int .i64 t)) (ds := []) #[tF,tF,tF,tF,tF,tF,tF,tF,tF,tF,tF,tF,tF,tF,tF,tF,tF,tF,tF,tF] (by kernel_rfl) rfl rfl (HLK.out _ (below_drew1 (Below.refl _ _))) (fun hHeld => ?_)
    have HQ0 := aM (below_drew1 (Below.refl w1.heap.size w1))
    generalize w1.drew = w1q0 at HQ0 hHeld ⊢
    refine sv 0 12 #[tT,tF,tF,tF,tF,tF,tF,tF,tF,tF,tF,tF,tF,tF,tF,tF,tF,tF,tF,tF] ?_
    refine sv 1 13 #[tT,tT,tF,tF,tF,tF,tF,tF,tF,tF,tF,tF,tF,tF,tF,tF,tF,tF,tF,tF] ?_
    refine sv 2 14 #[tT,tT,tT,tF,tF,tF,tF,tF,tF,tF,tF,tF,tF,tF,tF,tF,tF,tF,tF,tF] ?_
    refine sv 4 16 #[tT,tT,tT,tF,tT,tF,tF,tF,tF,tF,tF,tF,tF,tF,tF,tF,tF,tF,tF,tF] ?_
    refine sv 7 19 #[tT,tT,tT,tF,tT,tF,tF,tT,tF,tF,tF,tF,tF,tF,tF,tF,tF,tF,tF,tF] ?_
    refine sv 8 20 #[tT,tT,tT,tF,tT,tF,tF,tT,tT,tF,tF,tF,tF,tF,tF,tF,tF,tF,tF,tF] ?_
    refine sv 9 21 #[tT,tT,tT,tF,tT,tF,tF,tT,tT,tT,tF,tF,tF,tF,tF,tF,tF,tF,tF,tF] ?_
    refine sv 11 23 #[tT,tT,tT,tF,tT,tF,tF,tT,tT,tT,tF,tT,tF,tF,tF,tF,tF,tF,tF,tF] ?_
    refine sv 13 25 #[tT,tT,tT,tF,tT,tF,tF,tT,tT,tT,tF,tT,tF,tT,tF,tF,tF,tF,tF,tF] ?_
    refine st 3 15 #[tT,tT,tT,tT,tT,tF,tF,tT,tT,tT,tF,tT,tF,tT,tF,tF,tF,tF,tF,tF] hHeld ?_
    refine st 5 17 #[tT,tT,tT,tT,tT,tT,tF,tT,tT,tT,tF,tT,tF,tT,tF,tF,tF,tF,tF,tF] hHeld ?_
    refine st 10 22 #[tT,tT,tT,tT,tT,tT,tF,tT,tT,tT,tT,tT,tF,tT,tF,tF,tF,tF,tF,tF] hHeld ?_
    refine st 12 24 #[tT,tT,tT,tT,tT,tT,tF,tT,tT,tT,tT,tT,tT,tT,tF,tF,tF,tF,tF,tF] hHeld ?_
    refine st 14 26 #[tT,tT,tT,tT,tT,tT,tF,tT,tT,tT,tT,tT,tT,tT,tT,tF,tF,tF,tF,tF] hHeld ?_
    refine sv 15 27 #[tT,tT,tT,tT,tT,tT,tF,tT,tT,tT,tT,tT,tT,tT,tT,tT,tF,tF,tF,tF] ?_
    refine sv 16 28 #[tT,tT,tT,tT,tT,tT,tF,tT,tT,tT,tT,tT,tT,tT,tT,tT,tT,tF,tF,tF] ?_
    refine one_ (i := 6) (N := some 18) #[tT,tT,tT,tT,tT,tT,tT,tT,tT,tT,tT,tT,tT,tT,tT,tT,tT,tF,tF,tF] rfl rfl (by kernel_rfl) (by decide) (fun K hK => ?_)
    refine goes_ Tryz.func45 (by kernel_rfl) rfl #[.string v, .int .i64 f] (by rfl) rfl rfl (by (try simp only [List.map_toArray, List.map_cons, List.map_nil]); first | done | rfl) ?_
    (with_reducible refine (line_Of.calls v f _ _ (ofL_f v _)).mono ?_)
    rintro e w1q1 ⟨rfl, hb⟩
    have HQ1 := aM (bP HQ0.out hb)
    refine ⟨_, rfl, hK.out _ _ (HLK.out _ HQ1.out) (fun hHeld => ?_)⟩
    clear hK K hb HQ0
    refine norm_ (a' := ?_) ?_ ?_
    rotate_left
    · simp only [Act.put, List.setIfInBounds_toArray, List.set_cons_zero, List.set_cons_succ, i64_w, i32_w]
      rfl
    refine one_ (i := 17) (N := some 29) #[tT,tT,tT,tT,tT,tT,tT,tT,tT,tT,tT,tT,tT,tT,tT,tT,tT,tT,tF,tF] rfl rfl (by kernel_rfl) (by decide) (fun K hK => ?_)
    refine goes_ Tryz.func45 (by kernel_rfl) rfl #[.string v, .int .i64 (if f < t - 1 then t - 1 else f)] (by rfl) rfl rfl (by (try simp only [List.map_toArray, List.map_cons, List.map_nil]); first | done | rfl) ?_
    (with_reducible refine (line_Of.calls v (if f < t - 1 then t - 1 else f) _ _ (ofL_f v _)).mono ?_)
    rintro e w1q2 ⟨rfl, hb⟩
    have HQ2 := aM (bP HQ1.out hb)
    refine ⟨_, rfl, hK.out _ _ (HLK.out _ HQ2.out) (fun hHeld => ?_)⟩
    clear hK K hb HQ1
    refine norm_ (a' := ?_) ?_ ?_
    rotate_left
    · simp only [Act.put, List.setIfInBounds_toArray, List.set_cons_zero, List.set_cons_succ, i64_w, i32_w]
      rfl
    refine sv 18 4 #[tT,tT,tT,tT,tT,tT,tT,tT,tT,tT,tT,tT,tT,tT,tT,tT,tT,tT,tT,tF] ?_
    refine sv 19 5 #[tT,tT,tT,tT,tT,tT,tT,tT,tT,tT,tT,tT,tT,tT,tT,tT,tT,tT,tT,tT] ?_
    refine done_ (by kernel_rfl) ?_
    clear HLK hHeld
    have HB2 := aM (bP HB.out HQ2.out)
    generalize hm : (if f < t - 1 then t - 1 else f) = m
    go_wp2
    all_goals go_ret2
    all_goals subst hm
    all_goals refine ⟨?_, HB2.out⟩
    all_goals first | rfl | (rw [if_pos (by omega)]; rfl) | (rw [if_neg (by omega)]; rfl)
theorem bytes_ok (h : DeskAt w0 g A c ov w s l v y d) (hv : v.size ≤ 100000) (f t : Int) (ln : Bool) :
    Calls Tryz.prog 73 #[.pointer (some ⟨g, 0, none⟩), .agg #[.int .i64 f, .int .i64 t, .bool ln]] w fun e w' => e = .returned (.tuple #[.int .i64 (bytesD v f t ln).1, .int .i64 (bytesD v f t ln).2]) ∧ Below w.heap.size w w' := by
  have HD := aM h
  clear h
  cases ln with
  | false =>
    show Calls _ _ _ _ fun e w' => e = .returned (.tuple #[.int .i64 f, .int .i64 t]) ∧ _
    go_enter Tryz.func73, Tryz.ntmps73
    go_wp2_with (first
      | ((with_reducible refine gate_dst (N := 3) rfl ?_); refine box_event ?hg (N := 3) ?hd (cs := #[.int .i64 f, .int .i64 t, .bool false]) (t := 28) ?hr ?_; (case hd => rfl); (case hg => rfl); (case hr => first | (go_simp; done) | (go_simp; rfl)); intro gb hg w1 hbox hb; have BK := aM hbox; have HB := aM hb; clear hb hbox hg; have hcz0 := (bC BK.out 0).trans (rfl : _ = some (Value.int .i64 f)); have hcz1 := (bC BK.out 1).trans (rfl : _ = some (Value.int .i64 t)); have hcz2 := (bC BK.out 2).trans (rfl : _ = some (Value.bool false)))
      )
    go_quiet (fail)
    go_wp2
    go_ret2
    exact ⟨rfl, pw_below_drewN HB.out _⟩
  | true =>
    obtain ⟨k1, hk1⟩ := (bounds2_ev v hv f).rounds
    obtain ⟨k2, hk2⟩ := (bounds2_ev v hv t).rounds
    show Calls _ _ _ _ fun e w' => e = .returned (.tuple #[.int .i64 (boundsS v f).1, .int .i64 (boundsS v t).2.1]) ∧ _
    generalize boundsS v f = r at hk1 ⊢
    generalize boundsS v t = q at hk2 ⊢
    obtain ⟨r1, r2, r3⟩ := r
    obtain ⟨q1, q2, q3⟩ := q
    have HK1 := aM hk1
    have HK2 := aM hk2
    clear hk1 hk2
    go_enter Tryz.func73, Tryz.ntmps73
    go_wp2_with (first
      | ((with_reducible refine gate_dst (N := 3) rfl ?_); refine box_event ?hg (N := 3) ?hd (cs := #[.int .i64 f, .int .i64 t, .bool true]) (t := 28) ?hr ?_; (case hd => rfl); (case hg => rfl); (case hr => first | (go_simp; done) | (go_simp; rfl)); intro gb hg w1 hbox hb; have BK := aM hbox; have HB := aM hb; have HD1 := aM (HD.out.below hb); clear hb hbox hg; have hcz0 := (bC BK.out 0).trans (rfl : _ = some (Value.int .i64 f)); have hcz1 := (bC BK.out 1).trans (rfl : _ = some (Value.int .i64 t)); have hcz2 := (bC BK.out 2).trans (rfl : _ = some (Value.bool true)); have hdv := (bC HD1.out.hg 2).trans (rfl : _ = some (Value.string v)))
      )
    have HLK := aM (show ∀ W : World, Below w1.heap.size w1 W → W.cell? ⟨g, 2, none⟩ = some (.string v) ∧ W.cell? ⟨gb, 0, none⟩ = some (.int .i64 f) from fun W hb => ⟨(bC (HD1.out.below hb).hg 2).trans rfl, (bC (bB BK.out hb) 0).trans rfl⟩)
    refine start_ (n := 14) (S := fun W => W.cell? ⟨g, 2, none⟩ = some (.string v) ∧ W.cell? ⟨gb, 0, none⟩ = some (.int .i64 f)) (ds := []) #[tF,tF,tF,tF,tF,tF,tF,tF,tF,tF,tF,tF,tF,tF] (by kernel_rfl) rfl rfl (HLK.out _ (below_drew1 (Below.refl _ _))) (fun hHeld => ?_)
    have HQ0 := aM (below_drew1 (Below.refl w1.heap.size w1))
    generalize w1.drew = w1q0 at HQ0 hHeld ⊢
    refine sv 0 20 #[tT,tF,tF,tF,tF,tF,tF,tF,tF,tF,tF,tF,tF,tF] ?_
    refine sv 1 21 #[tT,tT,tF,tF,tF,tF,tF,tF,tF,tF,tF,tF,tF,tF] ?_
    refine sv 2 22 #[tT,tT,tT,tF,tF,tF,tF,tF,tF,tF,tF,tF,tF,tF] ?_
    refine sv 4 24 #[tT,tT,tT,tF,tT,tF,tF,tF,tF,tF,tF,tF,tF,tF] ?_
    refine st 3 23 #[tT,tT,tT,tT,tT,tF,tF,tF,tF,tF,tF,tF,tF,tF] hHeld ?_
    refine st 5 25 #[tT,tT,tT,tT,tT,tT,tF,tF,tF,tF,tF,tF,tF,tF] hHeld ?_
    refine one_ (i := 6) (N := some 26) #[tT,tT,tT,tT,tT,tT,tT,tF,tF,tF,tF,tF,tF,tF] rfl rfl (by kernel_rfl) (by decide) (fun K hK => ?_)
    refine goes_ Tryz.func44 (by kernel_rfl) rfl #[.string v, .int .i64 f] (by rfl) rfl rfl (by (try simp only [List.map_toArray, List.map_cons, List.map_nil]); first | done | rfl) ?_
    (with_reducible refine (line_Bounds.calls k1 v f r1 r2 r3 _ HK1.out).mono ?_)
    rintro e w1q1 ⟨rfl, hb⟩
    have HQ1 := aM (bP HQ0.out hb)
    refine ⟨_, rfl, hK.out _ _ (HLK.out _ HQ1.out) (fun hHeld => ?_)⟩
    clear hK K hb HQ0
    refine norm_ (a' := ?_) ?_ ?_
    rotate_left
    · simp only [Act.put, List.setIfInBounds_toArray, List.set_cons_zero, List.set_cons_succ, i64_w, i32_w]
      rfl
    refine sv 7 19 #[tT,tT,tT,tT,tT,tT,tT,tT,tF,tF,tF,tF,tF,tF] ?_
    refine sv 8 27 #[tT,tT,tT,tT,tT,tT,tT,tT,tT,tF,tF,tF,tF,tF] ?_
    refine sv 9 28 #[tT,tT,tT,tT,tT,tT,tT,tT,tT,tT,tF,tF,tF,tF] ?_
    refine sv 10 29 #[tT,tT,tT,tT,tT,tT,tT,tT,tT,tT,tT,tF,tF,tF] ?_
    refine sv 11 6 #[tT,tT,tT,tT,tT,tT,tT,tT,tT,tT,tT,tT,tF,tF] ?_
    refine sv 12 7 #[tT,tT,tT,tT,tT,tT,tT,tT,tT,tT,tT,tT,tT,tF] ?_
    refine sv 13 8 #[tT,tT,tT,tT,tT,tT,tT,tT,tT,tT,tT,tT,tT,tT] ?_
    refine done_ (by kernel_rfl) ?_
    clear HLK hHeld
    have HD2 := aM (HD1.out.below HQ1.out)
    have BK2 := aM (bB BK.out HQ1.out)
    have HB2 := aM (bP HB.out HQ1.out)
    clear hcz0 hcz1 hcz2 hdv HD1 BK HB HQ1
    go_wp2
    have HLK := aM (show ∀ W : World, Below w1q1.heap.size w1q1 W → W.cell? ⟨g, 2, none⟩ = some (.string v) ∧ W.cell? ⟨gb, 1, none⟩ = some (.int .i64 t) from fun W hb => ⟨(bC (HD2.out.below hb).hg 2).trans rfl, (bC (bB BK2.out hb) 1).trans rfl⟩)
    refine start_ (n := 14) (S := fun W => W.cell? ⟨g, 2, none⟩ = some (.string v) ∧ W.cell? ⟨gb, 1, none⟩ = some (.int .i64 t)) (ds := []) #[tF,tF,tF,tF,tF,tF,tF,tF,tF,tF,tF,tF,tF,tF] (by kernel_rfl) rfl rfl (HLK.out _ (below_drew1 (Below.refl _ _))) (fun hHeld => ?_)
    have HQ0 := aM (below_drew1 (Below.refl w1q1.heap.size w1q1))
    generalize w1q1.drew = w1q1q0 at HQ0 hHeld ⊢
    refine sv 0 31 #[tT,tF,tF,tF,tF,tF,tF,tF,tF,tF,tF,tF,tF,tF] ?_
    refine sv 1 32 #[tT,tT,tF,tF,tF,tF,tF,tF,tF,tF,tF,tF,tF,tF] ?_
    refine sv 2 33 #[tT,tT,tT,tF,tF,tF,tF,tF,tF,tF,tF,tF,tF,tF] ?_
    refine sv 4 35 #[tT,tT,tT,tF,tT,tF,tF,tF,tF,tF,tF,tF,tF,tF] ?_
    refine st 3 34 #[tT,tT,tT,tT,tT,tF,tF,tF,tF,tF,tF,tF,tF,tF] hHeld ?_
    refine st 5 36 #[tT,tT,tT,tT,tT,tT,tF,tF,tF,tF,tF,tF,tF,tF] hHeld ?_
    refine one_ (i := 6) (N := some 37) #[tT,tT,tT,tT,tT,tT,tT,tF,tF,tF,tF,tF,tF,tF] rfl rfl (by kernel_rfl) (by decide) (fun K hK => ?_)
    refine goes_ Tryz.func44 (by kernel_rfl) rfl #[.string v, .int .i64 t] (by rfl) rfl rfl (by (try simp only [List.map_toArray, List.map_cons, List.map_nil]); first | done | rfl) ?_
    (with_reducible refine (line_Bounds.calls k2 v t q1 q2 q3 _ HK2.out).mono ?_)
    rintro e w1q1q1 ⟨rfl, hb⟩
    have HQ1 := aM (bP HQ0.out hb)
    refine ⟨_, rfl, hK.out _ _ (HLK.out _ HQ1.out) (fun hHeld => ?_)⟩
    clear hK K hb HQ0
    refine norm_ (a' := ?_) ?_ ?_
    rotate_left
    · simp only [Act.put, List.setIfInBounds_toArray, List.set_cons_zero, List.set_cons_succ, i64_w, i32_w]
      rfl
    refine sv 7 30 #[tT,tT,tT,tT,tT,tT,tT,tT,tF,tF,tF,tF,tF,tF] ?_
    refine sv 8 38 #[tT,tT,tT,tT,tT,tT,tT,tT,tT,tF,tF,tF,tF,tF] ?_
    refine sv 9 39 #[tT,tT,tT,tT,tT,tT,tT,tT,tT,tT,tF,tF,tF,tF] ?_
    refine sv 10 40 #[tT,tT,tT,tT,tT,tT,tT,tT,tT,tT,tT,tF,tF,tF] ?_
    refine sv 11 9 #[tT,tT,tT,tT,tT,tT,tT,tT,tT,tT,tT,tT,tF,tF] ?_
    refine sv 12 10 #[tT,tT,tT,tT,tT,tT,tT,tT,tT,tT,tT,tT,tT,tF] ?_
    refine sv 13 11 #[tT,tT,tT,tT,tT,tT,tT,tT,tT,tT,tT,tT,tT,tT] ?_
    refine done_ (by kernel_rfl) ?_
    clear HLK hHeld
    have HB3 := aM (bP HB2.out HQ1.out)
    go_wp2
    go_ret2
    exact ⟨rfl, HB3.out⟩
theorem right_ok (h : DeskAt w0 g A c ov w s l v y d) (hv : v.size ≤ 100000) (f t : Int) (ln : Bool) :
    Calls Tryz.prog 30 #[.pointer (some ⟨g, 0, none⟩), .agg #[.int .i64 f, .int .i64 t, .bool ln]] w fun e w' => e = .returned (.bool (rightD v f t ln)) ∧ Below w.heap.size w w' := by
  have hct := count_ev v hv
  have HD := aM h
  have HC := aM hct
  have hsz : wrap64 ((v.size : Int)) = (v.size : Int) := by unfold wrap64; omega
  have hee := ends_len_le v
  have hep := ends_pos v
  have hse : wrap64 (((ends v).length : Int) - 1) = ((ends v).length : Int) - 1 := by unfold wrap64; omega
  have hdv := (bC h.hg 1).trans (rfl : _ = some (Value.slice A l.length c))
  clear h hct hdv
  cases ln with
  | false =>
    have hR : rightD v f t false = (decide (0 ≤ f) && (decide (f ≤ t) && decide (t ≤ (v.size : Int)))) := rfl
    rw [hR]
    go_enter Tryz.func30, Tryz.ntmps30
    go_wp2_with (first
      | ((with_reducible refine gate_dst (N := 3) rfl ?_); refine box_event ?hg (N := 3) ?hd (cs := #[.int .i64 f, .int .i64 t, .bool false]) (t := 28) ?hr ?_; (case hd => rfl); (case hg => rfl); (case hr => first | (go_simp; done) | (go_simp; rfl)); intro gb hg w1 hbox hb; have BK := aM hbox; have HB := aM hb; have HD1 := aM (HD.out.below hb); clear hb hbox hg; have hcz0 := (bC BK.out 0).trans (rfl : _ = some (Value.int .i64 f)); have hcz1 := (bC BK.out 1).trans (rfl : _ = some (Value.int .i64 t)); have hcz2 := (bC BK.out 2).trans (rfl : _ = some (Value.bool false)); have hdv := (bC HD1.out.hg 2).trans (rfl : _ = some (Value.string v)))
      )
    all_goals go_ret
    all_goals refine ⟨congrArg (fun b => Ending.returned (.bool b)) ?_, HB.out⟩
    all_goals
      rw [Bool.eq_iff_iff]
      simp only [Bool.and_eq_true, decide_eq_true_eq, Bool.false_eq_true, false_iff, not_and]
      omega
  | true =>
    have hR : rightD v f t true = (decide (0 ≤ f) && (decide (f ≤ t) && decide (t ≤ ((ends v).length : Int) - 1))) := rfl
    rw [hR]
    go_enter Tryz.func30, Tryz.ntmps30
    go_wp2_with (first
      | ((with_reducible refine gate_dst (N := 3) rfl ?_); refine box_event ?hg (N := 3) ?hd (cs := #[.int .i64 f, .int .i64 t, .bool true]) (t := 28) ?hr ?_; (case hd => rfl); (case hg => rfl); (case hr => first | (go_simp; done) | (go_simp; rfl)); intro gb hg w1 hbox hb; have BK := aM hbox; have HB := aM hb; have HD1 := aM (HD.out.below hb); clear hb hbox hg; have hcz2 := (bC BK.out 2).trans (rfl : _ = some (Value.bool true)); have hdv := (bC HD1.out.hg 2).trans (rfl : _ = some (Value.string v)))
      | ((with_reducible refine gate_callee (f := 72) rfl ?_); refine goesL_ (some 17) rfl rfl Tryz.func72 (by kernel_rfl) rfl #[.string v] rfl (by (try simp only [List.map_toArray, List.map_cons, List.map_nil]); first | done | rfl) ?_; (with_reducible refine (line_Count.calls v _ _ HC.out).mono ?_); rintro e w2 ⟨rfl, hb⟩; refine ⟨_, rfl, ?_⟩; have BK2 := aM (bB BK.out hb); have HB2 := aM (bP HB.out hb); clear hb; have hcy0 := (bC BK2.out 0).trans (rfl : _ = some (Value.int .i64 f)); have hcy1 := (bC BK2.out 1).trans (rfl : _ = some (Value.int .i64 t)))
      )
    all_goals go_ret
    all_goals refine ⟨congrArg (fun b => Ending.returned (.bool b)) ?_, HB2.out⟩
    all_goals
      rw [Bool.eq_iff_iff]
      simp only [Bool.and_eq_true, decide_eq_true_eq, Bool.false_eq_true, false_iff, not_and]
      omega
end
end Go.Proofs.YtjkfkiebhgkolaaGreatDoor.PB
end

section
namespace Go.Proofs.YtjkfkiebhgkolaaGreatDoor.PB
open Go.RowKit Go.Maps Go.Proofs.YtjkfkiebhgkolaaGreatDoorW.PrintWords Go.Proofs.YtjkfkiebhgkolaaGreatDoorW.PrintLast Go.Proofs.YtjkfkiebhgkolaaGreatDoorW.PrintMore
set_option maxRecDepth 100000
set_option linter.unusedVariables false
set_option linter.unusedSimpArgs false
def putL (w : World) (g : Nat) : Nat → List Value → World
  | _, [] => w
  | n, v :: vs => putL (w.setCell ⟨g, n, none⟩ v) g (n + 1) vs
def setsL (cs : Array Value) : Nat → List Value → Array Value
  | _, [] => cs
  | n, v :: vs => setsL (cs.setIfInBounds n v) (n + 1) vs
section
variable {g t b : Nat} {w w0 : World}
theorem blk_sets : ∀ (vs : List Value) (n : Nat) (w : World) (cs : Array Value), w.heap[g]? = some (.cells cs t (0, 0)) → (putL w g n vs).heap[g]? = some (.cells (setsL cs n vs) t (0, 0))
  | [], _, _, _, h => h
  | v :: vs, n, w, cs, h => blk_sets vs (n + 1) _ _ (bU h n v rfl)
theorem R_sets {α : Type} {k : Kd α} {e : Nat} {ok : Nat → Prop} {u : Value} {xs : List α} (ht : ∀ q, q ∈ e :: k.E → q ≠ t) :
    ∀ (vs : List Value) (n : Nat) (w : World) (cs : Array Value), w.heap[g]? = some (.cells cs t (0, 0)) → Kd.R k e w b ok u xs → Kd.R k e (putL w g n vs) b ok u xs
  | [], _, _, _, _, h => h
  | v :: vs, n, w, cs, hb, h => R_sets ht vs (n + 1) _ _ (bU hb n v rfl) (Kd.R_set h hb ht n v)
theorem below_sets (hg : w0.heap.size ≤ g) : ∀ (vs : List Value) (n : Nat) (w : World), Below w0.heap.size w0 w → Below w0.heap.size w0 (putL w g n vs)
  | [], _, _, h => h
  | v :: vs, n, w, h => below_sets hg vs (n + 1) _ (h.setCell hg v)
theorem blk_sets_far {g' : Nat} {o : Obj} (hne : g' ≠ g) : ∀ (vs : List Value) (n : Nat) (w : World), w.heap[g']? = some o → (putL w g n vs).heap[g']? = some o
  | [], _, _, h => h
  | v :: vs, n, w, h => blk_sets_far hne vs (n + 1) _ ((Below.heap_setCell w ⟨g, n, none⟩ v g' hne).trans h)
end
section
variable {w0 : World} {g : Nat} {A : Option Addr} {c : Nat} {ov : Value} {w W : World} {s : ByteArray} {l : List S68} {v : ByteArray} {y : Int} {d : TX}
theorem of_len1 (s : ByteArray) (l : List S68) (a b : Int) (x : ByteArray) (m : List S68) : (ofS s l a b x m).2.2.1.length ≤ big := by
  unfold ofS
  split
  · exact len_big (cutS_len s l a b)
  · exact Nat.zero_le _
theorem of_len2 (s : ByteArray) (l : List S68) (a b : Int) (x : ByteArray) (m : List S68) (hm : m.length ≤ big) : (ofS s l a b x m).2.2.2.2.1.length ≤ big := by
  unfold ofS
  split
  · exact hm
  · exact Nat.zero_le _
theorem DeskAt.others {gb t : Nat} (ht : t ≠ 85) (ht' : ∀ q, q ∈ 68 :: k68.E → q ≠ t) (hB : w0.heap.size ≤ gb) :
    ∀ (vs : List Value) (n : Nat) (w : World) (cs : Array Value), w.heap[gb]? = some (.cells cs t (0, 0)) → DeskAt w0 g A c ov w s l v y d → DeskAt w0 g A c ov (putL w gb n vs) s l v y d
  | [], _, _, _, _, h => h
  | u :: vs, n, w, cs, hb, h => DeskAt.others ht ht' hB vs (n + 1) _ _ (bU hb n u rfl) (h.other hb ht ht' hB n u)
set_option maxHeartbeats 4000000 in
theorem turn_ok (h : DeskAt w0 g A c ov w s l v y d) (a b : Int) :
    Calls Tryz.prog 50 #[.pointer (some ⟨g, 0, none⟩), .int .i64 a, .int .i64 b] w fun e w' => ∃ vo vn : Value, e = .returned (.tuple #[.agg #[.int .i64 (turnD s l y d a b).1.1, .string (turnD s l y d a b).1.2.1, vo, .string (turnD s l y d a b).1.2.2.2.1, vn], .string (turnD s l y d a b).2, .int .i64 (turnD s l y d a b).1.2.2.2.2.2]) ∧
      Kd.R k68 68 w' w.heap.size (fun k_ => some k_ ≠ (vn : Value).ownBlock) vo (turnD s l y d a b).1.2.2.1 ∧ Kd.R k68 68 w' w.heap.size (fun k_ => some k_ ≠ (vo : Value).ownBlock) vn (turnD s l y d a b).1.2.2.2.2.1 ∧ Below w.heap.size w w' := by
  obtain ⟨db, dr, de⟩ := d
  obtain ⟨Ao, co, rfl, hco, hCo⟩ := Kd.R_reads h.hR
  have HD := aM h
  have HCO := aM hco
  have HS := aM h.size
  by_cases hd : de = 0
  · have hdn : dr.length ≤ 20000 := h.hn
    obtain ⟨k1, hf1⟩ := (of_ev s l h.hl a b db dr (len_big hdn)).rounds
    have hlo := of_len1 s l a b db dr
    have hln := of_len2 s l a b db dr (len_big hdn)
    subst hd
    by_cases hq : (ofS s l a b db dr).2.2.2.2.2 = 0
    · obtain ⟨k2, hf2⟩ := (apply_ev s l h.hl (ofS s l a b db dr).1 (ofS s l a b db dr).2.1 (ofS s l a b db dr).2.2.1 (ofS s l a b db dr).2.2.2.1 (ofS s l a b db dr).2.2.2.2.1 hlo hln).rounds
      have hla := applyT_len s l (ofS s l a b db dr).1 (ofS s l a b db dr).2.1 (ofS s l a b db dr).2.2.1 (ofS s l a b db dr).2.2.2.1 (ofS s l a b db dr).2.2.2.2.1
      obtain ⟨k3, hf3⟩ := (view_ev (applyT s l (ofS s l a b db dr).1 (ofS s l a b db dr).2.1 (ofS s l a b db dr).2.2.1 (ofS s l a b db dr).2.2.2.1 (ofS s l a b db dr).2.2.2.2.1).1 (applyT s l (ofS s l a b db dr).1 (ofS s l a b db dr).2.1 (ofS s l a b db dr).2.2.1 (ofS s l a b db dr).2.2.2.1 (ofS s l a b db dr).2.2.2.2.1).2.1 (len_big hla) y).rounds
      have HRR : turnD s l y (db, dr, 0) a b = (ofS s l a b db dr, (viewS (applyT s l (ofS s l a b db dr).1 (ofS s l a b db dr).2.1 (ofS s l a b db dr).2.2.1 (ofS s l a b db dr).2.2.2.1 (ofS s l a b db dr).2.2.2.2.1).1 (applyT s l (ofS s l a b db dr).1 (ofS s l a b db dr).2.1 (ofS s l a b db dr).2.2.1 (ofS s l a b db dr).2.2.2.1 (ofS s l a b db dr).2.2.2.2.1).2.1 y).1) := by
        unfold turnD
        rw [if_pos rfl, if_pos hq]
      rw [HRR]
      clear HRR hlo hln hla h hco hCo
      generalize ofS s l a b db dr = r at hf1 hf2 hf3 hq ⊢
      obtain ⟨r1, r2, r3, r4, r5, r6⟩ := r
      dsimp only at hf1 hf2 hf3 hq ⊢
      generalize applyT s l r1 r2 r3 r4 r5 = u at hf2 hf3 ⊢
      obtain ⟨u1, u2, u3⟩ := u
      dsimp only at hf2 hf3 ⊢
      generalize viewS u1 u2 y = z at hf3 ⊢
      obtain ⟨z1, z2⟩ := z
      dsimp only at hf3 ⊢
      subst hq
      have HF1 := aM hf1
      have HF2 := aM hf2
      have HF3 := aM hf3
      clear hf1 hf2 hf3
      go_enter Tryz.func50, Tryz.ntmps50
      go_wp2_with (first
        | ((with_reducible refine gate_dst (N := 6) rfl ?_); refine box_event ?hg (N := 6) ?hd (cs := #[.int .i64 0, .string ⟨#[]⟩, .slice none 0 0, .string ⟨#[]⟩, .slice none 0 0]) (t := 36) ?hr ?_; (case hd => rfl); (case hg => rfl); (case hr => first | (go_simp; done) | (go_simp; rfl)); intro ge hg W1 hbox hb; have Gge := aM (show w.heap.size ≤ ge from by rw [hg]; exact Nat.le_refl _); replace HD := aM (HD.out.below hb); have HB := aM hb; have BE := aM hbox; clear hb hbox hg; replace hd4 := (bC HD.out.hg 6).trans (rfl : _ = some (Value.int .i64 0)))
        )
      have hb := below_drew1 (Below.refl W1.heap.size W1)
      replace HD := aM (HD.out.below hb)
      replace HB := aM (bP HB.out hb)
      replace BE := aM (bB BE.out hb)
      clear hb
      refine start_ (n := 17) (S := fun W => W.cell? ⟨g, 0, none⟩ = some (.string s) ∧ W.cell? ⟨g, 1, none⟩ = some (.slice A l.length c) ∧ W.cell? ⟨g, 4, none⟩ = some (.string db) ∧ W.cell? ⟨g, 5, none⟩ = some (.slice Ao dr.length co)) (ds := [15]) #[tF,tF,tF,tF,tF,tF,tF,tF,tF,tF,tF,tF,tF,tF,tF,tF,tF] (by kernel_rfl) rfl rfl ⟨(bC HD.out.hg 0).trans rfl, (bC HD.out.hg 1).trans rfl, (bC HD.out.hg 4).trans rfl, (bC HD.out.hg 5).trans rfl⟩ (fun hHeld => ?_)
      generalize W1.drew = W2 at HD HB BE hHeld ⊢
      refine sv 0 26 #[tT,tF,tF,tF,tF,tF,tF,tF,tF,tF,tF,tF,tF,tF,tF,tF,tF] ?_
      refine sv 1 27 #[tT,tT,tF,tF,tF,tF,tF,tF,tF,tF,tF,tF,tF,tF,tF,tF,tF] ?_
      refine sv 2 28 #[tT,tT,tT,tF,tF,tF,tF,tF,tF,tF,tF,tF,tF,tF,tF,tF,tF] ?_
      refine sv 4 30 #[tT,tT,tT,tF,tT,tF,tF,tF,tF,tF,tF,tF,tF,tF,tF,tF,tF] ?_
      refine sv 5 31 #[tT,tT,tT,tF,tT,tT,tF,tF,tF,tF,tF,tF,tF,tF,tF,tF,tF] ?_
      refine sv 6 32 #[tT,tT,tT,tF,tT,tT,tT,tF,tF,tF,tF,tF,tF,tF,tF,tF,tF] ?_
      refine sv 7 33 #[tT,tT,tT,tF,tT,tT,tT,tT,tF,tF,tF,tF,tF,tF,tF,tF,tF] ?_
      refine sv 8 34 #[tT,tT,tT,tF,tT,tT,tT,tT,tT,tF,tF,tF,tF,tF,tF,tF,tF] ?_
      refine st 3 29 #[tT,tT,tT,tT,tT,tT,tT,tT,tT,tF,tF,tF,tF,tF,tF,tF,tF] hHeld ?_
      refine st 9 35 #[tT,tT,tT,tT,tT,tT,tT,tT,tT,tT,tF,tF,tF,tF,tF,tF,tF] hHeld ?_
      refine join_ (σ := Value × Value × Nat) 2 #[tT,tT,tT,tT,tT,tT,tT,tT,tT,tT,tT,tT,tT,tT,tT,tF,tF] (fun s_ => [(36, .tuple #[.agg #[.int .i64 r1, .string r2, (s_.1), .string r4, (s_.2.1)], .int .i64 0]), (9, .pointer (some ⟨(s_.2.2), 0, none⟩)), (25, .tuple #[.agg #[.int .i64 r1, .string r2, (s_.1), .string r4, (s_.2.1)], .int .i64 0]), (37, .agg #[.int .i64 r1, .string r2, (s_.1), .string r4, (s_.2.1)]), (38, .int .i64 0)]) (fun s_ W => (W.cell? ⟨g, 0, none⟩ = some (.string s) ∧ W.cell? ⟨g, 1, none⟩ = some (.slice A l.length c) ∧ W.cell? ⟨g, 4, none⟩ = some (.string db) ∧ W.cell? ⟨g, 5, none⟩ = some (.slice Ao dr.length co)) ∧ W.heap[ge]? = some (.cells #[.int .i64 0, .string ⟨#[]⟩, .slice none 0 0, .string ⟨#[]⟩, .slice none 0 0] 36 (0, 0)) ∧ W.heap[(s_.2.2)]? = some (.cells #[.int .i64 0, .string ⟨#[]⟩, .slice none 0 0, .string ⟨#[]⟩, .slice none 0 0] 36 (0, 0)) ∧ Below w.heap.size w W ∧ DeskAt w0 g A c (.slice Ao dr.length co) W s l v y (db, dr, 0) ∧ Kd.R k68 68 W w.heap.size (fun k_ => some k_ ≠ ((s_.1) : Value).ownBlock) (s_.2.1) r5 ∧ Kd.R k68 68 W w.heap.size (fun k_ => some k_ ≠ ((s_.2.1) : Value).ownBlock) (s_.1) r3 ∧ w.heap.size ≤ (s_.2.2) ∧ (s_.2.2) ≠ ge) ?_ ?_
      rotate_left
      · intro hCont
        refine two_ (i := 10) (j := 14) (Ni := some 36) (Nj := some 9) #[tT,tT,tT,tT,tT,tT,tT,tT,tT,tT,tT,tF,tF,tF,tF,tF,tF] #[tT,tT,tT,tT,tT,tT,tT,tT,tT,tT,tF,tF,tF,tF,tT,tF,tF] rfl rfl rfl rfl (by kernel_rfl) (by decide) (by decide) (fun K hK => ?_) (fun K hK => ?_)
        · refine goes_ Tryz.func104 (by kernel_rfl) rfl #[.agg #[.string s, .slice A l.length c], .int .i64 a, .int .i64 b, .agg #[.string db, .slice Ao dr.length co]] (by rfl) rfl rfl (by (try simp only [List.map_toArray, List.map_cons, List.map_nil]); first | done | rfl) ?_
          clear hHeld
          (with_reducible refine (edit_Of.calls k1 s A c l a b db Ao co dr r1 r2 r3 r4 r5 0 _ HD.out.hC HD.out.hc (rR HD.out.hR).2.2 HCO.out HF1.out).mono ?_)
          rintro e W3 ⟨vo, vn, rfl, ho, hn, hb⟩
          have HO := aM (rL ho HB.out.size)
          have HN := aM (rL hn HB.out.size)
          replace HD := aM (HD.out.below hb)
          replace HB := aM (bP HB.out hb)
          replace BE := aM (bB BE.out hb)
          clear ho hn
          refine ⟨_, rfl, hK.out _ _ ⟨(bC HD.out.hg 0).trans rfl, (bC HD.out.hg 1).trans rfl, (bC HD.out.hg 4).trans rfl, (bC HD.out.hg 5).trans rfl⟩ (fun hHeld => ?_)⟩
          clear hK K hb
          refine norm_ (a' := ?_) ?_ ?_
          rotate_left
          · show Act.put _ (some 36) _ = _
            simp only [Act.put, List.setIfInBounds_toArray, List.set_cons_zero, List.set_cons_succ, i64_w, i32_w]
            rfl
          refine sv 11 25 #[tT,tT,tT,tT,tT,tT,tT,tT,tT,tT,tT,tT,tF,tF,tF,tF,tF] ?_
          refine sv 12 37 #[tT,tT,tT,tT,tT,tT,tT,tT,tT,tT,tT,tT,tT,tF,tF,tF,tF] ?_
          refine sv 13 38 #[tT,tT,tT,tT,tT,tT,tT,tT,tT,tT,tT,tT,tT,tT,tF,tF,tF] ?_
          refine one_ (i := 14) (N := some 9) #[tT,tT,tT,tT,tT,tT,tT,tT,tT,tT,tT,tT,tT,tT,tT,tF,tF] rfl rfl (by kernel_rfl) (by decide) (fun K hK => ?_)
          refine box_step ?hg (N := 9) ?hd (cs := #[.int .i64 0, .string ⟨#[]⟩, .slice none 0 0, .string ⟨#[]⟩, .slice none 0 0]) (t := 36) ?hr ?_; (case hd => rfl); (case hg => rfl); (case hr => first | (go_simp; done) | (go_simp; rfl))
          clear hHeld
          intro gf hg W4 hbox hb
          have Ggf := aM (show w.heap.size ≤ gf from by rw [hg]; exact HB.out.size)
          have Ngfge := aM (show gf ≠ ge from by have := blk_lt BE.out; omega)
          replace HD := aM (HD.out.below hb)
          replace HB := aM (bP HB.out hb)
          replace BE := aM (bB BE.out hb)
          replace HO := aM (Kd.R_below HO.out hb)
          replace HN := aM (Kd.R_below HN.out hb)
          have BF := aM hbox
          refine hK.out _ _ ⟨(bC HD.out.hg 0).trans rfl, (bC HD.out.hg 1).trans rfl, (bC HD.out.hg 4).trans rfl, (bC HD.out.hg 5).trans rfl⟩ (fun hHeld => ?_)
          clear hK K hb hbox hg
          refine norm_ (a' := ?_) ?_ ?_
          rotate_left
          · show Act.put _ (some 9) _ = _
            simp only [Act.put, List.setIfInBounds_toArray, List.set_cons_zero, List.set_cons_succ, i64_w, i32_w]
            rfl
          exact norm_ (by simp only [Go.Proofs.YtjkfkiebhgkolaaGreatDoorW.PrintLast.putAll, Act.put, List.setIfInBounds_toArray, List.set_cons_zero, List.set_cons_succ]) (hCont (vo, vn, gf) _ ⟨hHeld, BE.out, BF.out, HB.out, HD.out, HN.out, HO.out, Ggf.out, Ngfge.out⟩)
        · refine box_step ?hg (N := 9) ?hd (cs := #[.int .i64 0, .string ⟨#[]⟩, .slice none 0 0, .string ⟨#[]⟩, .slice none 0 0]) (t := 36) ?hr ?_; (case hd => rfl); (case hg => rfl); (case hr => first | (go_simp; done) | (go_simp; rfl))
          clear hHeld
          intro gf hg W3 hbox hb
          have Ggf := aM (show w.heap.size ≤ gf from by rw [hg]; exact HB.out.size)
          have Ngfge := aM (show gf ≠ ge from by have := blk_lt BE.out; omega)
          replace HD := aM (HD.out.below hb)
          replace HB := aM (bP HB.out hb)
          replace BE := aM (bB BE.out hb)
          have BF := aM hbox
          refine hK.out _ _ ⟨(bC HD.out.hg 0).trans rfl, (bC HD.out.hg 1).trans rfl, (bC HD.out.hg 4).trans rfl, (bC HD.out.hg 5).trans rfl⟩ (fun hHeld => ?_)
          clear hK K hb hbox hg
          refine norm_ (a' := ?_) ?_ ?_
          rotate_left
          · show Act.put _ (some 9) _ = _
            simp only [Act.put, List.setIfInBounds_toArray, List.set_cons_zero, List.set_cons_succ, i64_w, i32_w]
            rfl
          refine one_ (i := 10) (N := some 36) #[tT,tT,tT,tT,tT,tT,tT,tT,tT,tT,tT,tF,tF,tF,tT,tF,tF] rfl rfl (by kernel_rfl) (by decide) (fun K hK => ?_)
          refine goes_ Tryz.func104 (by kernel_rfl) rfl #[.agg #[.string s, .slice A l.length c], .int .i64 a, .int .i64 b, .agg #[.string db, .slice Ao dr.length co]] (by rfl) rfl rfl (by (try simp only [List.map_toArray, List.map_cons, List.map_nil]); first | done | rfl) ?_
          clear hHeld
          (with_reducible refine (edit_Of.calls k1 s A c l a b db Ao co dr r1 r2 r3 r4 r5 0 _ HD.out.hC HD.out.hc (rR HD.out.hR).2.2 HCO.out HF1.out).mono ?_)
          rintro e W4 ⟨vo, vn, rfl, ho, hn, hb⟩
          have HO := aM (rL ho HB.out.size)
          have HN := aM (rL hn HB.out.size)
          replace HD := aM (HD.out.below hb)
          replace HB := aM (bP HB.out hb)
          replace BE := aM (bB BE.out hb)
          replace BF := aM (bB BF.out hb)
          clear ho hn
          refine ⟨_, rfl, hK.out _ _ ⟨(bC HD.out.hg 0).trans rfl, (bC HD.out.hg 1).trans rfl, (bC HD.out.hg 4).trans rfl, (bC HD.out.hg 5).trans rfl⟩ (fun hHeld => ?_)⟩
          clear hK K hb
          refine norm_ (a' := ?_) ?_ ?_
          rotate_left
          · show Act.put _ (some 36) _ = _
            simp only [Act.put, List.setIfInBounds_toArray, List.set_cons_zero, List.set_cons_succ, i64_w, i32_w]
            rfl
          refine sv 11 25 #[tT,tT,tT,tT,tT,tT,tT,tT,tT,tT,tT,tT,tF,tF,tT,tF,tF] ?_
          refine sv 12 37 #[tT,tT,tT,tT,tT,tT,tT,tT,tT,tT,tT,tT,tT,tF,tT,tF,tF] ?_
          refine sv 13 38 #[tT,tT,tT,tT,tT,tT,tT,tT,tT,tT,tT,tT,tT,tT,tT,tF,tF] ?_
          exact norm_ (by simp only [Go.Proofs.YtjkfkiebhgkolaaGreatDoorW.PrintLast.putAll, Act.put, List.setIfInBounds_toArray, List.set_cons_zero, List.set_cons_succ]) (hCont (vo, vn, gf) _ ⟨hHeld, BE.out, BF.out, HB.out, HD.out, HN.out, HO.out, Ggf.out, Ngfge.out⟩)
      clear hHeld HD HB BE
      rintro ⟨vo, vn, gf⟩ W5 ⟨hHeld, x_0, x_1, x_2, x_3, x_4, x_5, x_6, x_7⟩
      dsimp only at x_0 x_1 x_2 x_3 x_4 x_5 x_6 x_7
      have BE := aM x_0
      have BF := aM x_1
      have HB := aM x_2
      have HD := aM x_3
      have HN := aM x_4
      have HO := aM x_5
      have Ggf := aM x_6
      have Ngfge := aM x_7
      clear x_0 x_1 x_2 x_3 x_4 x_5 x_6 x_7
      refine norm_ (a' := ?_) ?_ ?_
      rotate_left
      · simp only [Go.Proofs.YtjkfkiebhgkolaaGreatDoorW.PrintLast.putAll, Act.put, List.setIfInBounds_toArray, List.set_cons_zero, List.set_cons_succ, i64_w, i32_w]
        rfl
      refine last_ (i := 15) (N := none) #[tT,tT,tT,tT,tT,tT,tT,tT,tT,tT,tT,tT,tT,tT,tT,tT,tF] rfl rfl (by kernel_rfl) (by decide) (fun K hK => ?_)
      obtain ⟨Ax, cx, rfl⟩ := Kd.R_slice HO.out
      obtain ⟨Ay, cy, rfl⟩ := Kd.R_slice HN.out
      have hs0 := (bC BF.out 0).trans (rfl : _ = some (Value.int .i64 0))
      have hf0 := bF BF.out 0
      have hs1 := (bC BF.out 1).trans (rfl : _ = some (Value.string ⟨#[]⟩))
      have hf1 := bF BF.out 1
      have hs2 := (bC BF.out 2).trans (rfl : _ = some (Value.slice none 0 0))
      have hf2 := bF BF.out 2
      have hs3 := (bC BF.out 3).trans (rfl : _ = some (Value.string ⟨#[]⟩))
      have hf3 := bF BF.out 3
      have hs4 := (bC BF.out 4).trans (rfl : _ = some (Value.slice none 0 0))
      have hf4 := bF BF.out 4
      refine skip_ (w1 := (((((W5.setCell ⟨gf, 0, none⟩ (.int .i64 r1)).setCell ⟨gf, 1, none⟩ (.string r2)).setCell ⟨gf, 2, none⟩ (.slice Ax r3.length cx)).setCell ⟨gf, 3, none⟩ (.string r4)).setCell ⟨gf, 4, none⟩ (.slice Ay r5.length cy))) (by rfl) rfl ?_ ?_
      · first | (go_simp; done) | (go_simp; rfl)
      have BE' := aM (show (((((W5.setCell ⟨gf, 0, none⟩ (.int .i64 r1)).setCell ⟨gf, 1, none⟩ (.string r2)).setCell ⟨gf, 2, none⟩ (.slice Ax r3.length cx)).setCell ⟨gf, 3, none⟩ (.string r4)).setCell ⟨gf, 4, none⟩ (.slice Ay r5.length cy)).heap[ge]? = some (.cells #[.int .i64 0, .string ⟨#[]⟩, .slice none 0 0, .string ⟨#[]⟩, .slice none 0 0] 36 (0, 0)) from blk_sets_far Ngfge.out.symm [.int .i64 r1, .string r2, .slice Ax r3.length cx, .string r4, .slice Ay r5.length cy] 0 _ BE.out)
      have BF' := aM (show (((((W5.setCell ⟨gf, 0, none⟩ (.int .i64 r1)).setCell ⟨gf, 1, none⟩ (.string r2)).setCell ⟨gf, 2, none⟩ (.slice Ax r3.length cx)).setCell ⟨gf, 3, none⟩ (.string r4)).setCell ⟨gf, 4, none⟩ (.slice Ay r5.length cy)).heap[gf]? = some (.cells #[.int .i64 r1, .string r2, .slice Ax r3.length cx, .string r4, .slice Ay r5.length cy] 36 (0, 0)) from blk_sets [.int .i64 r1, .string r2, .slice Ax r3.length cx, .string r4, .slice Ay r5.length cy] 0 _ _ BF.out)
      have HB' := aM (show Below w.heap.size w (((((W5.setCell ⟨gf, 0, none⟩ (.int .i64 r1)).setCell ⟨gf, 1, none⟩ (.string r2)).setCell ⟨gf, 2, none⟩ (.slice Ax r3.length cx)).setCell ⟨gf, 3, none⟩ (.string r4)).setCell ⟨gf, 4, none⟩ (.slice Ay r5.length cy)) from below_sets Ggf.out [.int .i64 r1, .string r2, .slice Ax r3.length cx, .string r4, .slice Ay r5.length cy] 0 _ HB.out)
      have HD' := aM (show DeskAt w0 g A c (.slice Ao dr.length co) (((((W5.setCell ⟨gf, 0, none⟩ (.int .i64 r1)).setCell ⟨gf, 1, none⟩ (.string r2)).setCell ⟨gf, 2, none⟩ (.slice Ax r3.length cx)).setCell ⟨gf, 3, none⟩ (.string r4)).setCell ⟨gf, 4, none⟩ (.slice Ay r5.length cy)) s l v y (db, dr, 0) from DeskAt.others (by decide) (by decide) (Nat.le_trans HS.out Ggf.out) [.int .i64 r1, .string r2, .slice Ax r3.length cx, .string r4, .slice Ay r5.length cy] 0 _ _ BF.out HD.out)
      have HN' := aM (show Kd.R k68 68 (((((W5.setCell ⟨gf, 0, none⟩ (.int .i64 r1)).setCell ⟨gf, 1, none⟩ (.string r2)).setCell ⟨gf, 2, none⟩ (.slice Ax r3.length cx)).setCell ⟨gf, 3, none⟩ (.string r4)).setCell ⟨gf, 4, none⟩ (.slice Ay r5.length cy)) w.heap.size (fun k_ => some k_ ≠ ((.slice Ax r3.length cx : Value) : Value).ownBlock) (.slice Ay r5.length cy : Value) r5 from R_sets (by decide) [.int .i64 r1, .string r2, .slice Ax r3.length cx, .string r4, .slice Ay r5.length cy] 0 _ _ BF.out HN.out)
      have HO' := aM (show Kd.R k68 68 (((((W5.setCell ⟨gf, 0, none⟩ (.int .i64 r1)).setCell ⟨gf, 1, none⟩ (.string r2)).setCell ⟨gf, 2, none⟩ (.slice Ax r3.length cx)).setCell ⟨gf, 3, none⟩ (.string r4)).setCell ⟨gf, 4, none⟩ (.slice Ay r5.length cy)) w.heap.size (fun k_ => some k_ ≠ ((.slice Ay r5.length cy : Value) : Value).ownBlock) (.slice Ax r3.length cx : Value) r3 from R_sets (by decide) [.int .i64 r1, .string r2, .slice Ax r3.length cx, .string r4, .slice Ay r5.length cy] 0 _ _ BF.out HO.out)
      clear hHeld
      clear hs0 hf0 hs1 hf1 hs2 hf2 hs3 hf3 hs4 hf4
      clear BE BF HB HD HN HO
      have BE := BE'
      have BF := BF'
      have HB := HB'
      have HD := HD'
      have HN := HN'
      have HO := HO'
      clear BE' BF' HB' HD' HN' HO'
      refine hK.out _ _ ?_
      clear hK K
      generalize (((((W5.setCell ⟨gf, 0, none⟩ (.int .i64 r1)).setCell ⟨gf, 1, none⟩ (.string r2)).setCell ⟨gf, 2, none⟩ (.slice Ax r3.length cx)).setCell ⟨gf, 3, none⟩ (.string r4)).setCell ⟨gf, 4, none⟩ (.slice Ay r5.length cy)) = W6 at BE BF HB HD HN HO ⊢
      refine sv 16 10 #[tT,tT,tT,tT,tT,tT,tT,tT,tT,tT,tT,tT,tT,tT,tT,tT,tT] ?_
      refine done_ (by kernel_rfl) ?_
      go_wp2
      have hb := below_drew1 (Below.refl W6.heap.size W6)
      replace BE := aM (bB BE.out hb)
      replace BF := aM (bB BF.out hb)
      replace HB := aM (bP HB.out hb)
      replace HD := aM (HD.out.below hb)
      replace HN := aM (Kd.R_below HN.out hb)
      replace HO := aM (Kd.R_below HO.out hb)
      clear hb
      refine start_ (n := 12) (S := fun W => W.cell? ⟨g, 0, none⟩ = some (.string s) ∧ W.cell? ⟨g, 1, none⟩ = some (.slice A l.length c) ∧ W.cell? ⟨gf, 0, none⟩ = some (.int .i64 r1) ∧ W.cell? ⟨gf, 1, none⟩ = some (.string r2) ∧ W.cell? ⟨gf, 2, none⟩ = some (.slice Ax r3.length cx) ∧ W.cell? ⟨gf, 3, none⟩ = some (.string r4) ∧ W.cell? ⟨gf, 4, none⟩ = some (.slice Ay r5.length cy)) (ds := [10]) #[tF,tF,tF,tF,tF,tF,tF,tF,tF,tF,tF,tF] (by kernel_rfl) rfl rfl ⟨(bC HD.out.hg 0).trans rfl, (bC HD.out.hg 1).trans rfl, (bC BF.out 0).trans rfl, (bC BF.out 1).trans rfl, (bC BF.out 2).trans rfl, (bC BF.out 3).trans rfl, (bC BF.out 4).trans rfl⟩ (fun hHeld => ?_)
      generalize W6.drew = W7 at BE BF HB HD HN HO hHeld ⊢
      refine sv 0 44 #[tT,tF,tF,tF,tF,tF,tF,tF,tF,tF,tF,tF] ?_
      refine sv 1 45 #[tT,tT,tF,tF,tF,tF,tF,tF,tF,tF,tF,tF] ?_
      refine sv 2 46 #[tT,tT,tT,tF,tF,tF,tF,tF,tF,tF,tF,tF] ?_
      refine st 3 47 #[tT,tT,tT,tT,tF,tF,tF,tF,tF,tF,tF,tF] hHeld ?_
      refine st 4 48 #[tT,tT,tT,tT,tT,tF,tF,tF,tF,tF,tF,tF] hHeld ?_
      refine join_ (σ := Value × Nat) 2 #[tT,tT,tT,tT,tT,tT,tT,tT,tT,tT,tF,tF] (fun s_ => [(49, .tuple #[.agg #[.string u1, (s_.1)], .int .i64 u3]), (11, .pointer (some ⟨(s_.2), 0, none⟩)), (43, .tuple #[.agg #[.string u1, (s_.1)], .int .i64 u3]), (50, .agg #[.string u1, (s_.1)]), (51, .int .i64 u3)]) (fun s_ W => (W.cell? ⟨g, 0, none⟩ = some (.string s) ∧ W.cell? ⟨g, 1, none⟩ = some (.slice A l.length c) ∧ W.cell? ⟨gf, 0, none⟩ = some (.int .i64 r1) ∧ W.cell? ⟨gf, 1, none⟩ = some (.string r2) ∧ W.cell? ⟨gf, 2, none⟩ = some (.slice Ax r3.length cx) ∧ W.cell? ⟨gf, 3, none⟩ = some (.string r4) ∧ W.cell? ⟨gf, 4, none⟩ = some (.slice Ay r5.length cy)) ∧ W.heap[ge]? = some (.cells #[.int .i64 0, .string ⟨#[]⟩, .slice none 0 0, .string ⟨#[]⟩, .slice none 0 0] 36 (0, 0)) ∧ W.heap[gf]? = some (.cells #[.int .i64 r1, .string r2, .slice Ax r3.length cx, .string r4, .slice Ay r5.length cy] 36 (0, 0)) ∧ W.heap[(s_.2)]? = some (.cells #[.string ⟨#[]⟩, .slice none 0 0] 24 (0, 0)) ∧ Below w.heap.size w W ∧ DeskAt w0 g A c (.slice Ao dr.length co) W s l v y (db, dr, 0) ∧ Kd.R k68 68 W w.heap.size (fun k_ => some k_ ≠ ((.slice Ax r3.length cx : Value) : Value).ownBlock) (.slice Ay r5.length cy : Value) r5 ∧ Kd.R k68 68 W w.heap.size (fun k_ => some k_ ≠ ((.slice Ay r5.length cy : Value) : Value).ownBlock) (.slice Ax r3.length cx : Value) r3 ∧ Kd.R k68 68 W w.heap.size (fun _ => True) (s_.1) u2 ∧ w.heap.size ≤ (s_.2) ∧ (s_.2) ≠ ge ∧ (s_.2) ≠ gf) ?_ ?_
      rotate_left
      · intro hCont
        refine two_ (i := 5) (j := 9) (Ni := some 49) (Nj := some 11) #[tT,tT,tT,tT,tT,tT,tF,tF,tF,tF,tF,tF] #[tT,tT,tT,tT,tT,tF,tF,tF,tF,tT,tF,tF] rfl rfl rfl rfl (by kernel_rfl) (by decide) (by decide) (fun K hK => ?_) (fun K hK => ?_)
        · refine goes_ Tryz.func105 (by kernel_rfl) rfl #[.agg #[.string s, .slice A l.length c], .agg #[.int .i64 r1, .string r2, .slice Ax r3.length cx, .string r4, .slice Ay r5.length cy]] (by rfl) rfl rfl (by (try simp only [List.map_toArray, List.map_cons, List.map_nil]); first | done | rfl) ?_
          clear hHeld
          (with_reducible refine (edit_Apply.calls k2 s A c l r1 r2 Ax cx r3 r4 Ay cy r5 u1 u2 u3 _ HD.out.hC HD.out.hc (rR HO.out).2.2 (rR HO.out).2.1 (rR HN.out).2.2 (rR HN.out).2.1 HF2.out).mono ?_)
          rintro e W8 ⟨vu, rfl, ho, hb⟩
          have HU := aM (rL ho HB.out.size)
          replace BE := aM (bB BE.out hb)
          replace BF := aM (bB BF.out hb)
          replace HB := aM (bP HB.out hb)
          replace HD := aM (HD.out.below hb)
          replace HN := aM (Kd.R_below HN.out hb)
          replace HO := aM (Kd.R_below HO.out hb)
          clear ho
          refine ⟨_, rfl, hK.out _ _ ⟨(bC HD.out.hg 0).trans rfl, (bC HD.out.hg 1).trans rfl, (bC BF.out 0).trans rfl, (bC BF.out 1).trans rfl, (bC BF.out 2).trans rfl, (bC BF.out 3).trans rfl, (bC BF.out 4).trans rfl⟩ (fun hHeld => ?_)⟩
          clear hK K hb
          refine norm_ (a' := ?_) ?_ ?_
          rotate_left
          · show Act.put _ (some 49) _ = _
            simp only [Act.put, List.setIfInBounds_toArray, List.set_cons_zero, List.set_cons_succ, i64_w, i32_w]
            rfl
          refine sv 6 43 #[tT,tT,tT,tT,tT,tT,tT,tF,tF,tF,tF,tF] ?_
          refine sv 7 50 #[tT,tT,tT,tT,tT,tT,tT,tT,tF,tF,tF,tF] ?_
          refine sv 8 51 #[tT,tT,tT,tT,tT,tT,tT,tT,tT,tF,tF,tF] ?_
          refine one_ (i := 9) (N := some 11) #[tT,tT,tT,tT,tT,tT,tT,tT,tT,tT,tF,tF] rfl rfl (by kernel_rfl) (by decide) (fun K hK => ?_)
          refine box_step ?hg (N := 11) ?hd (cs := #[.string ⟨#[]⟩, .slice none 0 0]) (t := 24) ?hr ?_; (case hd => rfl); (case hg => rfl); (case hr => first | (go_simp; done) | (go_simp; rfl))
          clear hHeld
          intro gu hg W9 hbox hb
          have Ggu := aM (show w.heap.size ≤ gu from by rw [hg]; exact HB.out.size)
          have Nguge := aM (show gu ≠ ge from by have := blk_lt BE.out; omega)
          have Ngugf := aM (show gu ≠ gf from by have := blk_lt BF.out; omega)
          replace BE := aM (bB BE.out hb)
          replace BF := aM (bB BF.out hb)
          replace HB := aM (bP HB.out hb)
          replace HD := aM (HD.out.below hb)
          replace HN := aM (Kd.R_below HN.out hb)
          replace HO := aM (Kd.R_below HO.out hb)
          replace HU := aM (Kd.R_below HU.out hb)
          have BU := aM hbox
          refine hK.out _ _ ⟨(bC HD.out.hg 0).trans rfl, (bC HD.out.hg 1).trans rfl, (bC BF.out 0).trans rfl, (bC BF.out 1).trans rfl, (bC BF.out 2).trans rfl, (bC BF.out 3).trans rfl, (bC BF.out 4).trans rfl⟩ (fun hHeld => ?_)
          clear hK K hb hbox hg
          refine norm_ (a' := ?_) ?_ ?_
          rotate_left
          · show Act.put _ (some 11) _ = _
            simp only [Act.put, List.setIfInBounds_toArray, List.set_cons_zero, List.set_cons_succ, i64_w, i32_w]
            rfl
          exact norm_ (by simp only [Go.Proofs.YtjkfkiebhgkolaaGreatDoorW.PrintLast.putAll, Act.put, List.setIfInBounds_toArray, List.set_cons_zero, List.set_cons_succ]) (hCont (vu, gu) _ ⟨hHeld, BE.out, BF.out, BU.out, HB.out, HD.out, HN.out, HO.out, HU.out, Ggu.out, Nguge.out, Ngugf.out⟩)
        · refine box_step ?hg (N := 11) ?hd (cs := #[.string ⟨#[]⟩, .slice none 0 0]) (t := 24) ?hr ?_; (case hd => rfl); (case hg => rfl); (case hr => first | (go_simp; done) | (go_simp; rfl))
          clear hHeld
          intro gu hg W8 hbox hb
          have Ggu := aM (show w.heap.size ≤ gu from by rw [hg]; exact HB.out.size)
          have Nguge := aM (show gu ≠ ge from by have := blk_lt BE.out; omega)
          have Ngugf := aM (show gu ≠ gf from by have := blk_lt BF.out; omega)
          replace BE := aM (bB BE.out hb)
          replace BF := aM (bB BF.out hb)
          replace HB := aM (bP HB.out hb)
          replace HD := aM (HD.out.below hb)
          replace HN := aM (Kd.R_below HN.out hb)
          replace HO := aM (Kd.R_below HO.out hb)
          have BU := aM hbox
          refine hK.out _ _ ⟨(bC HD.out.hg 0).trans rfl, (bC HD.out.hg 1).trans rfl, (bC BF.out 0).trans rfl, (bC BF.out 1).trans rfl, (bC BF.out 2).trans rfl, (bC BF.out 3).trans rfl, (bC BF.out 4).trans rfl⟩ (fun hHeld => ?_)
          clear hK K hb hbox hg
          refine norm_ (a' := ?_) ?_ ?_
          rotate_left
          · show Act.put _ (some 11) _ = _
            simp only [Act.put, List.setIfInBounds_toArray, List.set_cons_zero, List.set_cons_succ, i64_w, i32_w]
            rfl
          refine one_ (i := 5) (N := some 49) #[tT,tT,tT,tT,tT,tT,tF,tF,tF,tT,tF,tF] rfl rfl (by kernel_rfl) (by decide) (fun K hK => ?_)
          refine goes_ Tryz.func105 (by kernel_rfl) rfl #[.agg #[.string s, .slice A l.length c], .agg #[.int .i64 r1, .string r2, .slice Ax r3.length cx, .string r4, .slice Ay r5.length cy]] (by rfl) rfl rfl (by (try simp only [List.map_toArray, List.map_cons, List.map_nil]); first | done | rfl) ?_
          clear hHeld
          (with_reducible refine (edit_Apply.calls k2 s A c l r1 r2 Ax cx r3 r4 Ay cy r5 u1 u2 u3 _ HD.out.hC HD.out.hc (rR HO.out).2.2 (rR HO.out).2.1 (rR HN.out).2.2 (rR HN.out).2.1 HF2.out).mono ?_)
          rintro e W9 ⟨vu, rfl, ho, hb⟩
          have HU := aM (rL ho HB.out.size)
          replace BE := aM (bB BE.out hb)
          replace BF := aM (bB BF.out hb)
          replace HB := aM (bP HB.out hb)
          replace HD := aM (HD.out.below hb)
          replace HN := aM (Kd.R_below HN.out hb)
          replace HO := aM (Kd.R_below HO.out hb)
          replace BU := aM (bB BU.out hb)
          clear ho
          refine ⟨_, rfl, hK.out _ _ ⟨(bC HD.out.hg 0).trans rfl, (bC HD.out.hg 1).trans rfl, (bC BF.out 0).trans rfl, (bC BF.out 1).trans rfl, (bC BF.out 2).trans rfl, (bC BF.out 3).trans rfl, (bC BF.out 4).trans rfl⟩ (fun hHeld => ?_)⟩
          clear hK K hb
          refine norm_ (a' := ?_) ?_ ?_
          rotate_left
          · show Act.put _ (some 49) _ = _
            simp only [Act.put, List.setIfInBounds_toArray, List.set_cons_zero, List.set_cons_succ, i64_w, i32_w]
            rfl
          refine sv 6 43 #[tT,tT,tT,tT,tT,tT,tT,tF,tF,tT,tF,tF] ?_
          refine sv 7 50 #[tT,tT,tT,tT,tT,tT,tT,tT,tF,tT,tF,tF] ?_
          refine sv 8 51 #[tT,tT,tT,tT,tT,tT,tT,tT,tT,tT,tF,tF] ?_
          exact norm_ (by simp only [Go.Proofs.YtjkfkiebhgkolaaGreatDoorW.PrintLast.putAll, Act.put, List.setIfInBounds_toArray, List.set_cons_zero, List.set_cons_succ]) (hCont (vu, gu) _ ⟨hHeld, BE.out, BF.out, BU.out, HB.out, HD.out, HN.out, HO.out, HU.out, Ggu.out, Nguge.out, Ngugf.out⟩)
      clear hHeld BE BF HB HD HN HO
      rintro ⟨vu, gu⟩ W10 ⟨hHeld, x_0, x_1, x_2, x_3, x_4, x_5, x_6, x_7, x_8, x_9, x_10⟩
      dsimp only at x_0 x_1 x_2 x_3 x_4 x_5 x_6 x_7 x_8 x_9 x_10
      have BE := aM x_0
      have BF := aM x_1
      have BU := aM x_2
      have HB := aM x_3
      have HD := aM x_4
      have HN := aM x_5
      have HO := aM x_6
      have HU := aM x_7
      have Ggu := aM x_8
      have Nguge := aM x_9
      have Ngugf := aM x_10
      clear x_0 x_1 x_2 x_3 x_4 x_5 x_6 x_7 x_8 x_9 x_10
      refine norm_ (a' := ?_) ?_ ?_
      rotate_left
      · simp only [Go.Proofs.YtjkfkiebhgkolaaGreatDoorW.PrintLast.putAll, Act.put, List.setIfInBounds_toArray, List.set_cons_zero, List.set_cons_succ, i64_w, i32_w]
        rfl
      refine last_ (i := 10) (N := none) #[tT,tT,tT,tT,tT,tT,tT,tT,tT,tT,tT,tF] rfl rfl (by kernel_rfl) (by decide) (fun K hK => ?_)
      obtain ⟨Au, cu, rfl⟩ := Kd.R_slice HU.out
      have hs0 := (bC BU.out 0).trans (rfl : _ = some (Value.string ⟨#[]⟩))
      have hf0 := bF BU.out 0
      have hs1 := (bC BU.out 1).trans (rfl : _ = some (Value.slice none 0 0))
      have hf1 := bF BU.out 1
      refine skip_ (w1 := ((W10.setCell ⟨gu, 0, none⟩ (.string u1)).setCell ⟨gu, 1, none⟩ (.slice Au u2.length cu))) (by rfl) rfl ?_ ?_
      · first | (go_simp; done) | (go_simp; rfl)
      have BE' := aM (show ((W10.setCell ⟨gu, 0, none⟩ (.string u1)).setCell ⟨gu, 1, none⟩ (.slice Au u2.length cu)).heap[ge]? = some (.cells #[.int .i64 0, .string ⟨#[]⟩, .slice none 0 0, .string ⟨#[]⟩, .slice none 0 0] 36 (0, 0)) from blk_sets_far Nguge.out.symm [.string u1, .slice Au u2.length cu] 0 _ BE.out)
      have BF' := aM (show ((W10.setCell ⟨gu, 0, none⟩ (.string u1)).setCell ⟨gu, 1, none⟩ (.slice Au u2.length cu)).heap[gf]? = some (.cells #[.int .i64 r1, .string r2, .slice Ax r3.length cx, .string r4, .slice Ay r5.length cy] 36 (0, 0)) from blk_sets_far Ngugf.out.symm [.string u1, .slice Au u2.length cu] 0 _ BF.out)
      have BU' := aM (show ((W10.setCell ⟨gu, 0, none⟩ (.string u1)).setCell ⟨gu, 1, none⟩ (.slice Au u2.length cu)).heap[gu]? = some (.cells #[.string u1, .slice Au u2.length cu] 24 (0, 0)) from blk_sets [.string u1, .slice Au u2.length cu] 0 _ _ BU.out)
      have HB' := aM (show Below w.heap.size w ((W10.setCell ⟨gu, 0, none⟩ (.string u1)).setCell ⟨gu, 1, none⟩ (.slice Au u2.length cu)) from below_sets Ggu.out [.string u1, .slice Au u2.length cu] 0 _ HB.out)
      have HD' := aM (show DeskAt w0 g A c (.slice Ao dr.length co) ((W10.setCell ⟨gu, 0, none⟩ (.string u1)).setCell ⟨gu, 1, none⟩ (.slice Au u2.length cu)) s l v y (db, dr, 0) from DeskAt.others (by decide) (by decide) (Nat.le_trans HS.out Ggu.out) [.string u1, .slice Au u2.length cu] 0 _ _ BU.out HD.out)
      have HN' := aM (show Kd.R k68 68 ((W10.setCell ⟨gu, 0, none⟩ (.string u1)).setCell ⟨gu, 1, none⟩ (.slice Au u2.length cu)) w.heap.size (fun k_ => some k_ ≠ ((.slice Ax r3.length cx : Value) : Value).ownBlock) (.slice Ay r5.length cy : Value) r5 from R_sets (by decide) [.string u1, .slice Au u2.length cu] 0 _ _ BU.out HN.out)
      have HO' := aM (show Kd.R k68 68 ((W10.setCell ⟨gu, 0, none⟩ (.string u1)).setCell ⟨gu, 1, none⟩ (.slice Au u2.length cu)) w.heap.size (fun k_ => some k_ ≠ ((.slice Ay r5.length cy : Value) : Value).ownBlock) (.slice Ax r3.length cx : Value) r3 from R_sets (by decide) [.string u1, .slice Au u2.length cu] 0 _ _ BU.out HO.out)
      have HU' := aM (show Kd.R k68 68 ((W10.setCell ⟨gu, 0, none⟩ (.string u1)).setCell ⟨gu, 1, none⟩ (.slice Au u2.length cu)) w.heap.size (fun _ => True) (.slice Au u2.length cu : Value) u2 from R_sets (by decide) [.string u1, .slice Au u2.length cu] 0 _ _ BU.out HU.out)
      clear hHeld
      clear hs0 hf0 hs1 hf1
      clear BE BF BU HB HD HN HO HU
      have BE := BE'
      have BF := BF'
      have BU := BU'
      have HB := HB'
      have HD := HD'
      have HN := HN'
      have HO := HO'
      have HU := HU'
      clear BE' BF' BU' HB' HD' HN' HO' HU'
      refine hK.out _ _ ?_
      clear hK K
      generalize ((W10.setCell ⟨gu, 0, none⟩ (.string u1)).setCell ⟨gu, 1, none⟩ (.slice Au u2.length cu)) = W11 at BE BF BU HB HD HN HO HU ⊢
      refine sv 11 12 #[tT,tT,tT,tT,tT,tT,tT,tT,tT,tT,tT,tT] ?_
      refine done_ (by kernel_rfl) ?_
      go_wp2
      have hb := below_drew1 (Below.refl W11.heap.size W11)
      replace BE := aM (bB BE.out hb)
      replace BF := aM (bB BF.out hb)
      replace BU := aM (bB BU.out hb)
      replace HB := aM (bP HB.out hb)
      replace HD := aM (HD.out.below hb)
      replace HN := aM (Kd.R_below HN.out hb)
      replace HO := aM (Kd.R_below HO.out hb)
      replace HU := aM (Kd.R_below HU.out hb)
      clear hb
      refine start_ (n := 11) (S := fun W => W.cell? ⟨gu, 0, none⟩ = some (.string u1) ∧ W.cell? ⟨gu, 1, none⟩ = some (.slice Au u2.length cu) ∧ W.cell? ⟨g, 3, none⟩ = some (.int .u64 y)) (ds := []) #[tF,tF,tF,tF,tF,tF,tF,tF,tF,tF,tF] (by kernel_rfl) rfl rfl ⟨(bC BU.out 0).trans rfl, (bC BU.out 1).trans rfl, (bC HD.out.hg 3).trans rfl⟩ (fun hHeld => ?_)
      generalize W11.drew = W12 at BE BF BU HB HD HN HO HU hHeld ⊢
      refine sv 1 54 #[tF,tT,tF,tF,tF,tF,tF,tF,tF,tF,tF] ?_
      refine sv 2 55 #[tF,tT,tT,tF,tF,tF,tF,tF,tF,tF,tF] ?_
      refine sv 3 56 #[tF,tT,tT,tT,tF,tF,tF,tF,tF,tF,tF] ?_
      refine st 0 53 #[tT,tT,tT,tT,tF,tF,tF,tF,tF,tF,tF] hHeld ?_
      refine st 4 57 #[tT,tT,tT,tT,tT,tF,tF,tF,tF,tF,tF] hHeld ?_
      refine one_ (i := 5) (N := some 58) #[tT,tT,tT,tT,tT,tT,tF,tF,tF,tF,tF] rfl rfl (by kernel_rfl) (by decide) (fun K hK => ?_)
      refine goes_ Tryz.func71 (by kernel_rfl) rfl #[.agg #[.string u1, .slice Au u2.length cu], .int .u64 y] (by rfl) rfl rfl (by (try simp only [List.map_toArray, List.map_cons, List.map_nil]); first | done | rfl) ?_
      clear hHeld
      (with_reducible refine (strip_View.calls k3 u1 _ _ u2 y z1 z2 _ (rR HU.out).2.2 (rR HU.out).2.1 HF3.out).mono ?_)
      rintro e W13 ⟨rfl, hb⟩
      replace BE := aM (bB BE.out hb)
      replace BF := aM (bB BF.out hb)
      replace BU := aM (bB BU.out hb)
      replace HB := aM (bP HB.out hb)
      replace HD := aM (HD.out.below hb)
      replace HN := aM (Kd.R_below HN.out hb)
      replace HO := aM (Kd.R_below HO.out hb)
      replace HU := aM (Kd.R_below HU.out hb)
      refine ⟨_, rfl, hK.out _ _ ⟨(bC BU.out 0).trans rfl, (bC BU.out 1).trans rfl, (bC HD.out.hg 3).trans rfl⟩ (fun hHeld => ?_)⟩
      clear hK K hb
      refine norm_ (a' := ?_) ?_ ?_
      rotate_left
      · show Act.put _ (some 58) _ = _
        simp only [Act.put, List.setIfInBounds_toArray, List.set_cons_zero, List.set_cons_succ, i64_w, i32_w]
        rfl
      refine sv 6 52 #[tT,tT,tT,tT,tT,tT,tT,tF,tF,tF,tF] ?_
      refine sv 7 59 #[tT,tT,tT,tT,tT,tT,tT,tT,tF,tF,tF] ?_
      refine sv 8 60 #[tT,tT,tT,tT,tT,tT,tT,tT,tT,tF,tF] ?_
      refine sv 9 13 #[tT,tT,tT,tT,tT,tT,tT,tT,tT,tT,tF] ?_
      refine sv 10 14 #[tT,tT,tT,tT,tT,tT,tT,tT,tT,tT,tT] ?_
      refine done_ (by kernel_rfl) ?_
      clear hHeld
      replace he0 := (bC BE.out 0).trans (rfl : _ = some (Value.int .i64 0))
      replace he1 := (bC BE.out 1).trans (rfl : _ = some (Value.string ⟨#[]⟩))
      replace he2 := (bC BE.out 2).trans (rfl : _ = some (Value.slice none 0 0))
      replace he3 := (bC BE.out 3).trans (rfl : _ = some (Value.string ⟨#[]⟩))
      replace he4 := (bC BE.out 4).trans (rfl : _ = some (Value.slice none 0 0))
      replace hf0 := (bC BF.out 0).trans (rfl : _ = some (Value.int .i64 r1))
      replace hf1 := (bC BF.out 1).trans (rfl : _ = some (Value.string r2))
      replace hf2 := (bC BF.out 2).trans (rfl : _ = some (Value.slice Ax r3.length cx))
      replace hf3 := (bC BF.out 3).trans (rfl : _ = some (Value.string r4))
      replace hf4 := (bC BF.out 4).trans (rfl : _ = some (Value.slice Ay r5.length cy))
      replace he0f := bF BE.out 0
      replace he1f := bF BE.out 1
      replace he2f := bF BE.out 2
      replace he3f := bF BE.out 3
      replace he4f := bF BE.out 4
      go_wp2
      refine bodyPost_ret (results_ctt rfl _ _ ge 36 #[.int .i64 r1, .string r2, .slice Ax r3.length cx, .string r4, .slice Ay r5.length cy] (0, 0) _ rfl (blk_sets [.int .i64 r1, .string r2, .slice Ax r3.length cx, .string r4, .slice Ay r5.length cy] 0 _ _ BE.out) Tryz.underlying36 rfl (by kernel_rfl)) rfl ?_
      exact ⟨_, _, rfl, R_sets (by decide) [.int .i64 r1, .string r2, .slice Ax r3.length cx, .string r4, .slice Ay r5.length cy] 0 _ _ BE.out HO.out, R_sets (by decide) [.int .i64 r1, .string r2, .slice Ax r3.length cx, .string r4, .slice Ay r5.length cy] 0 _ _ BE.out HN.out, below_sets Gge.out [.int .i64 r1, .string r2, .slice Ax r3.length cx, .string r4, .slice Ay r5.length cy] 0 _ HB.out⟩
    · have HRR : turnD s l y (db, dr, 0) a b = ((0, eB, [], eB, [], (ofS s l a b db dr).2.2.2.2.2), eB) := by
        unfold turnD
        rw [if_pos rfl, if_neg hq]
      rw [HRR]
      clear HRR hlo hln h hco hCo
      generalize ofS s l a b db dr = r at hf1 hq ⊢
      obtain ⟨r1, r2, r3, r4, r5, r6⟩ := r
      dsimp only at hf1 hq ⊢
      have b3 : (r6 != 0) = true := bne_iff_ne.2 hq
      have b4 : (r6 == 0) = false := beq_eq_false_iff_ne.2 hq
      clear hq
      have HF1 := aM hf1
      clear hf1
      go_enter Tryz.func50, Tryz.ntmps50
      go_wp2_with (first
        | ((with_reducible refine gate_dst (N := 6) rfl ?_); refine box_event ?hg (N := 6) ?hd (cs := #[.int .i64 0, .string ⟨#[]⟩, .slice none 0 0, .string ⟨#[]⟩, .slice none 0 0]) (t := 36) ?hr ?_; (case hd => rfl); (case hg => rfl); (case hr => first | (go_simp; done) | (go_simp; rfl)); intro ge hg W1 hbox hb; have Gge := aM (show w.heap.size ≤ ge from by rw [hg]; exact Nat.le_refl _); replace HD := aM (HD.out.below hb); have HB := aM hb; have BE := aM hbox; clear hb hbox hg; replace hd4 := (bC HD.out.hg 6).trans (rfl : _ = some (Value.int .i64 0)))
        )
      have hb := below_drew1 (Below.refl W1.heap.size W1)
      replace HD := aM (HD.out.below hb)
      replace HB := aM (bP HB.out hb)
      replace BE := aM (bB BE.out hb)
      clear hb
      refine start_ (n := 17) (S := fun W => W.cell? ⟨g, 0, none⟩ = some (.string s) ∧ W.cell? ⟨g, 1, none⟩ = some (.slice A l.length c) ∧ W.cell? ⟨g, 4, none⟩ = some (.string db) ∧ W.cell? ⟨g, 5, none⟩ = some (.slice Ao dr.length co)) (ds := [15]) #[tF,tF,tF,tF,tF,tF,tF,tF,tF,tF,tF,tF,tF,tF,tF,tF,tF] (by kernel_rfl) rfl rfl ⟨(bC HD.out.hg 0).trans rfl, (bC HD.out.hg 1).trans rfl, (bC HD.out.hg 4).trans rfl, (bC HD.out.hg 5).trans rfl⟩ (fun hHeld => ?_)
      generalize W1.drew = W2 at HD HB BE hHeld ⊢
      refine sv 0 26 #[tT,tF,tF,tF,tF,tF,tF,tF,tF,tF,tF,tF,tF,tF,tF,tF,tF] ?_
      refine sv 1 27 #[tT,tT,tF,tF,tF,tF,tF,tF,tF,tF,tF,tF,tF,tF,tF,tF,tF] ?_
      refine sv 2 28 #[tT,tT,tT,tF,tF,tF,tF,tF,tF,tF,tF,tF,tF,tF,tF,tF,tF] ?_
      refine sv 4 30 #[tT,tT,tT,tF,tT,tF,tF,tF,tF,tF,tF,tF,tF,tF,tF,tF,tF] ?_
      refine sv 5 31 #[tT,tT,tT,tF,tT,tT,tF,tF,tF,tF,tF,tF,tF,tF,tF,tF,tF] ?_
      refine sv 6 32 #[tT,tT,tT,tF,tT,tT,tT,tF,tF,tF,tF,tF,tF,tF,tF,tF,tF] ?_
      refine sv 7 33 #[tT,tT,tT,tF,tT,tT,tT,tT,tF,tF,tF,tF,tF,tF,tF,tF,tF] ?_
      refine sv 8 34 #[tT,tT,tT,tF,tT,tT,tT,tT,tT,tF,tF,tF,tF,tF,tF,tF,tF] ?_
      refine st 3 29 #[tT,tT,tT,tT,tT,tT,tT,tT,tT,tF,tF,tF,tF,tF,tF,tF,tF] hHeld ?_
      refine st 9 35 #[tT,tT,tT,tT,tT,tT,tT,tT,tT,tT,tF,tF,tF,tF,tF,tF,tF] hHeld ?_
      refine join_ (σ := Value × Value × Nat) 2 #[tT,tT,tT,tT,tT,tT,tT,tT,tT,tT,tT,tT,tT,tT,tT,tF,tF] (fun s_ => [(36, .tuple #[.agg #[.int .i64 r1, .string r2, (s_.1), .string r4, (s_.2.1)], .int .i64 r6]), (9, .pointer (some ⟨(s_.2.2), 0, none⟩)), (25, .tuple #[.agg #[.int .i64 r1, .string r2, (s_.1), .string r4, (s_.2.1)], .int .i64 r6]), (37, .agg #[.int .i64 r1, .string r2, (s_.1), .string r4, (s_.2.1)]), (38, .int .i64 r6)]) (fun s_ W => (W.cell? ⟨g, 0, none⟩ = some (.string s) ∧ W.cell? ⟨g, 1, none⟩ = some (.slice A l.length c) ∧ W.cell? ⟨g, 4, none⟩ = some (.string db) ∧ W.cell? ⟨g, 5, none⟩ = some (.slice Ao dr.length co)) ∧ W.heap[ge]? = some (.cells #[.int .i64 0, .string ⟨#[]⟩, .slice none 0 0, .string ⟨#[]⟩, .slice none 0 0] 36 (0, 0)) ∧ W.heap[(s_.2.2)]? = some (.cells #[.int .i64 0, .string ⟨#[]⟩, .slice none 0 0, .string ⟨#[]⟩, .slice none 0 0] 36 (0, 0)) ∧ Below w.heap.size w W ∧ DeskAt w0 g A c (.slice Ao dr.length co) W s l v y (db, dr, 0) ∧ Kd.R k68 68 W w.heap.size (fun k_ => some k_ ≠ ((s_.1) : Value).ownBlock) (s_.2.1) r5 ∧ Kd.R k68 68 W w.heap.size (fun k_ => some k_ ≠ ((s_.2.1) : Value).ownBlock) (s_.1) r3 ∧ w.heap.size ≤ (s_.2.2) ∧ (s_.2.2) ≠ ge) ?_ ?_
      rotate_left
      · intro hCont
        refine two_ (i := 10) (j := 14) (Ni := some 36) (Nj := some 9) #[tT,tT,tT,tT,tT,tT,tT,tT,tT,tT,tT,tF,tF,tF,tF,tF,tF] #[tT,tT,tT,tT,tT,tT,tT,tT,tT,tT,tF,tF,tF,tF,tT,tF,tF] rfl rfl rfl rfl (by kernel_rfl) (by decide) (by decide) (fun K hK => ?_) (fun K hK => ?_)
        · refine goes_ Tryz.func104 (by kernel_rfl) rfl #[.agg #[.string s, .slice A l.length c], .int .i64 a, .int .i64 b, .agg #[.string db, .slice Ao dr.length co]] (by rfl) rfl rfl (by (try simp only [List.map_toArray, List.map_cons, List.map_nil]); first | done | rfl) ?_
          clear hHeld
          (with_reducible refine (edit_Of.calls k1 s A c l a b db Ao co dr r1 r2 r3 r4 r5 r6 _ HD.out.hC HD.out.hc (rR HD.out.hR).2.2 HCO.out HF1.out).mono ?_)
          rintro e W3 ⟨vo, vn, rfl, ho, hn, hb⟩
          have HO := aM (rL ho HB.out.size)
          have HN := aM (rL hn HB.out.size)
          replace HD := aM (HD.out.below hb)
          replace HB := aM (bP HB.out hb)
          replace BE := aM (bB BE.out hb)
          clear ho hn
          refine ⟨_, rfl, hK.out _ _ ⟨(bC HD.out.hg 0).trans rfl, (bC HD.out.hg 1).trans rfl, (bC HD.out.hg 4).trans rfl, (bC HD.out.hg 5).trans rfl⟩ (fun hHeld => ?_)⟩
          clear hK K hb
          refine norm_ (a' := ?_) ?_ ?_
          rotate_left
          · show Act.put _ (some 36) _ = _
            simp only [Act.put, List.setIfInBounds_toArray, List.set_cons_zero, List.set_cons_succ, i64_w, i32_w]
            rfl
          refine sv 11 25 #[tT,tT,tT,tT,tT,tT,tT,tT,tT,tT,tT,tT,tF,tF,tF,tF,tF] ?_
          refine sv 12 37 #[tT,tT,tT,tT,tT,tT,tT,tT,tT,tT,tT,tT,tT,tF,tF,tF,tF] ?_
          refine sv 13 38 #[tT,tT,tT,tT,tT,tT,tT,tT,tT,tT,tT,tT,tT,tT,tF,tF,tF] ?_
          refine one_ (i := 14) (N := some 9) #[tT,tT,tT,tT,tT,tT,tT,tT,tT,tT,tT,tT,tT,tT,tT,tF,tF] rfl rfl (by kernel_rfl) (by decide) (fun K hK => ?_)
          refine box_step ?hg (N := 9) ?hd (cs := #[.int .i64 0, .string ⟨#[]⟩, .slice none 0 0, .string ⟨#[]⟩, .slice none 0 0]) (t := 36) ?hr ?_; (case hd => rfl); (case hg => rfl); (case hr => first | (go_simp; done) | (go_simp; rfl))
          clear hHeld
          intro gf hg W4 hbox hb
          have Ggf := aM (show w.heap.size ≤ gf from by rw [hg]; exact HB.out.size)
          have Ngfge := aM (show gf ≠ ge from by have := blk_lt BE.out; omega)
          replace HD := aM (HD.out.below hb)
          replace HB := aM (bP HB.out hb)
          replace BE := aM (bB BE.out hb)
          replace HO := aM (Kd.R_below HO.out hb)
          replace HN := aM (Kd.R_below HN.out hb)
          have BF := aM hbox
          refine hK.out _ _ ⟨(bC HD.out.hg 0).trans rfl, (bC HD.out.hg 1).trans rfl, (bC HD.out.hg 4).trans rfl, (bC HD.out.hg 5).trans rfl⟩ (fun hHeld => ?_)
          clear hK K hb hbox hg
          refine norm_ (a' := ?_) ?_ ?_
          rotate_left
          · show Act.put _ (some 9) _ = _
            simp only [Act.put, List.setIfInBounds_toArray, List.set_cons_zero, List.set_cons_succ, i64_w, i32_w]
            rfl
          exact norm_ (by simp only [Go.Proofs.YtjkfkiebhgkolaaGreatDoorW.PrintLast.putAll, Act.put, List.setIfInBounds_toArray, List.set_cons_zero, List.set_cons_succ]) (hCont (vo, vn, gf) _ ⟨hHeld, BE.out, BF.out, HB.out, HD.out, HN.out, HO.out, Ggf.out, Ngfge.out⟩)
        · refine box_step ?hg (N := 9) ?hd (cs := #[.int .i64 0, .string ⟨#[]⟩, .slice none 0 0, .string ⟨#[]⟩, .slice none 0 0]) (t := 36) ?hr ?_; (case hd => rfl); (case hg => rfl); (case hr => first | (go_simp; done) | (go_simp; rfl))
          clear hHeld
          intro gf hg W3 hbox hb
          have Ggf := aM (show w.heap.size ≤ gf from by rw [hg]; exact HB.out.size)
          have Ngfge := aM (show gf ≠ ge from by have := blk_lt BE.out; omega)
          replace HD := aM (HD.out.below hb)
          replace HB := aM (bP HB.out hb)
          replace BE := aM (bB BE.out hb)
          have BF := aM hbox
          refine hK.out _ _ ⟨(bC HD.out.hg 0).trans rfl, (bC HD.out.hg 1).trans rfl, (bC HD.out.hg 4).trans rfl, (bC HD.out.hg 5).trans rfl⟩ (fun hHeld => ?_)
          clear hK K hb hbox hg
          refine norm_ (a' := ?_) ?_ ?_
          rotate_left
          · show Act.put _ (some 9) _ = _
            simp only [Act.put, List.setIfInBounds_toArray, List.set_cons_zero, List.set_cons_succ, i64_w, i32_w]
            rfl
          refine one_ (i := 10) (N := some 36) #[tT,tT,tT,tT,tT,tT,tT,tT,tT,tT,tT,tF,tF,tF,tT,tF,tF] rfl rfl (by kernel_rfl) (by decide) (fun K hK => ?_)
          refine goes_ Tryz.func104 (by kernel_rfl) rfl #[.agg #[.string s, .slice A l.length c], .int .i64 a, .int .i64 b, .agg #[.string db, .slice Ao dr.length co]] (by rfl) rfl rfl (by (try simp only [List.map_toArray, List.map_cons, List.map_nil]); first | done | rfl) ?_
          clear hHeld
          (with_reducible refine (edit_Of.calls k1 s A c l a b db Ao co dr r1 r2 r3 r4 r5 r6 _ HD.out.hC HD.out.hc (rR HD.out.hR).2.2 HCO.out HF1.out).mono ?_)
          rintro e W4 ⟨vo, vn, rfl, ho, hn, hb⟩
          have HO := aM (rL ho HB.out.size)
          have HN := aM (rL hn HB.out.size)
          replace HD := aM (HD.out.below hb)
          replace HB := aM (bP HB.out hb)
          replace BE := aM (bB BE.out hb)
          replace BF := aM (bB BF.out hb)
          clear ho hn
          refine ⟨_, rfl, hK.out _ _ ⟨(bC HD.out.hg 0).trans rfl, (bC HD.out.hg 1).trans rfl, (bC HD.out.hg 4).trans rfl, (bC HD.out.hg 5).trans rfl⟩ (fun hHeld => ?_)⟩
          clear hK K hb
          refine norm_ (a' := ?_) ?_ ?_
          rotate_left
          · show Act.put _ (some 36) _ = _
            simp only [Act.put, List.setIfInBounds_toArray, List.set_cons_zero, List.set_cons_succ, i64_w, i32_w]
            rfl
          refine sv 11 25 #[tT,tT,tT,tT,tT,tT,tT,tT,tT,tT,tT,tT,tF,tF,tT,tF,tF] ?_
          refine sv 12 37 #[tT,tT,tT,tT,tT,tT,tT,tT,tT,tT,tT,tT,tT,tF,tT,tF,tF] ?_
          refine sv 13 38 #[tT,tT,tT,tT,tT,tT,tT,tT,tT,tT,tT,tT,tT,tT,tT,tF,tF] ?_
          exact norm_ (by simp only [Go.Proofs.YtjkfkiebhgkolaaGreatDoorW.PrintLast.putAll, Act.put, List.setIfInBounds_toArray, List.set_cons_zero, List.set_cons_succ]) (hCont (vo, vn, gf) _ ⟨hHeld, BE.out, BF.out, HB.out, HD.out, HN.out, HO.out, Ggf.out, Ngfge.out⟩)
      clear hHeld HD HB BE
      rintro ⟨vo, vn, gf⟩ W5 ⟨hHeld, x_0, x_1, x_2, x_3, x_4, x_5, x_6, x_7⟩
      dsimp only at x_0 x_1 x_2 x_3 x_4 x_5 x_6 x_7
      have BE := aM x_0
      have BF := aM x_1
      have HB := aM x_2
      have HD := aM x_3
      have HN := aM x_4
      have HO := aM x_5
      have Ggf := aM x_6
      have Ngfge := aM x_7
      clear x_0 x_1 x_2 x_3 x_4 x_5 x_6 x_7
      refine norm_ (a' := ?_) ?_ ?_
      rotate_left
      · simp only [Go.Proofs.YtjkfkiebhgkolaaGreatDoorW.PrintLast.putAll, Act.put, List.setIfInBounds_toArray, List.set_cons_zero, List.set_cons_succ, i64_w, i32_w]
        rfl
      refine last_ (i := 15) (N := none) #[tT,tT,tT,tT,tT,tT,tT,tT,tT,tT,tT,tT,tT,tT,tT,tT,tF] rfl rfl (by kernel_rfl) (by decide) (fun K hK => ?_)
      obtain ⟨Ax, cx, rfl⟩ := Kd.R_slice HO.out
      obtain ⟨Ay, cy, rfl⟩ := Kd.R_slice HN.out
      have hs0 := (bC BF.out 0).trans (rfl : _ = some (Value.int .i64 0))
      have hf0 := bF BF.out 0
      have hs1 := (bC BF.out 1).trans (rfl : _ = some (Value.string ⟨#[]⟩))
      have hf1 := bF BF.out 1
      have hs2 := (bC BF.out 2).trans (rfl : _ = some (Value.slice none 0 0))
      have hf2 := bF BF.out 2
      have hs3 := (bC BF.out 3).trans (rfl : _ = some (Value.string ⟨#[]⟩))
      have hf3 := bF BF.out 3
      have hs4 := (bC BF.out 4).trans (rfl : _ = some (Value.slice none 0 0))
      have hf4 := bF BF.out 4
      refine skip_ (w1 := (((((W5.setCell ⟨gf, 0, none⟩ (.int .i64 r1)).setCell ⟨gf, 1, none⟩ (.string r2)).setCell ⟨gf, 2, none⟩ (.slice Ax r3.length cx)).setCell ⟨gf, 3, none⟩ (.string r4)).setCell ⟨gf, 4, none⟩ (.slice Ay r5.length cy))) (by rfl) rfl ?_ ?_
      · first | (go_simp; done) | (go_simp; rfl)
      have BE' := aM (show (((((W5.setCell ⟨gf, 0, none⟩ (.int .i64 r1)).setCell ⟨gf, 1, none⟩ (.string r2)).setCell ⟨gf, 2, none⟩ (.slice Ax r3.length cx)).setCell ⟨gf, 3, none⟩ (.string r4)).setCell ⟨gf, 4, none⟩ (.slice Ay r5.length cy)).heap[ge]? = some (.cells #[.int .i64 0, .string ⟨#[]⟩, .slice none 0 0, .string ⟨#[]⟩, .slice none 0 0] 36 (0, 0)) from blk_sets_far Ngfge.out.symm [.int .i64 r1, .string r2, .slice Ax r3.length cx, .string r4, .slice Ay r5.length cy] 0 _ BE.out)
      have BF' := aM (show (((((W5.setCell ⟨gf, 0, none⟩ (.int .i64 r1)).setCell ⟨gf, 1, none⟩ (.string r2)).setCell ⟨gf, 2, none⟩ (.slice Ax r3.length cx)).setCell ⟨gf, 3, none⟩ (.string r4)).setCell ⟨gf, 4, none⟩ (.slice Ay r5.length cy)).heap[gf]? = some (.cells #[.int .i64 r1, .string r2, .slice Ax r3.length cx, .string r4, .slice Ay r5.length cy] 36 (0, 0)) from blk_sets [.int .i64 r1, .string r2, .slice Ax r3.length cx, .string r4, .slice Ay r5.length cy] 0 _ _ BF.out)
      have HB' := aM (show Below w.heap.size w (((((W5.setCell ⟨gf, 0, none⟩ (.int .i64 r1)).setCell ⟨gf, 1, none⟩ (.string r2)).setCell ⟨gf, 2, none⟩ (.slice Ax r3.length cx)).setCell ⟨gf, 3, none⟩ (.string r4)).setCell ⟨gf, 4, none⟩ (.slice Ay r5.length cy)) from below_sets Ggf.out [.int .i64 r1, .string r2, .slice Ax r3.length cx, .string r4, .slice Ay r5.length cy] 0 _ HB.out)
      have HD' := aM (show DeskAt w0 g A c (.slice Ao dr.length co) (((((W5.setCell ⟨gf, 0, none⟩ (.int .i64 r1)).setCell ⟨gf, 1, none⟩ (.string r2)).setCell ⟨gf, 2, none⟩ (.slice Ax r3.length cx)).setCell ⟨gf, 3, none⟩ (.string r4)).setCell ⟨gf, 4, none⟩ (.slice Ay r5.length cy)) s l v y (db, dr, 0) from DeskAt.others (by decide) (by decide) (Nat.le_trans HS.out Ggf.out) [.int .i64 r1, .string r2, .slice Ax r3.length cx, .string r4, .slice Ay r5.length cy] 0 _ _ BF.out HD.out)
      have HN' := aM (show Kd.R k68 68 (((((W5.setCell ⟨gf, 0, none⟩ (.int .i64 r1)).setCell ⟨gf, 1, none⟩ (.string r2)).setCell ⟨gf, 2, none⟩ (.slice Ax r3.length cx)).setCell ⟨gf, 3, none⟩ (.string r4)).setCell ⟨gf, 4, none⟩ (.slice Ay r5.length cy)) w.heap.size (fun k_ => some k_ ≠ ((.slice Ax r3.length cx : Value) : Value).ownBlock) (.slice Ay r5.length cy : Value) r5 from R_sets (by decide) [.int .i64 r1, .string r2, .slice Ax r3.length cx, .string r4, .slice Ay r5.length cy] 0 _ _ BF.out HN.out)
      have HO' := aM (show Kd.R k68 68 (((((W5.setCell ⟨gf, 0, none⟩ (.int .i64 r1)).setCell ⟨gf, 1, none⟩ (.string r2)).setCell ⟨gf, 2, none⟩ (.slice Ax r3.length cx)).setCell ⟨gf, 3, none⟩ (.string r4)).setCell ⟨gf, 4, none⟩ (.slice Ay r5.length cy)) w.heap.size (fun k_ => some k_ ≠ ((.slice Ay r5.length cy : Value) : Value).ownBlock) (.slice Ax r3.length cx : Value) r3 from R_sets (by decide) [.int .i64 r1, .string r2, .slice Ax r3.length cx, .string r4, .slice Ay r5.length cy] 0 _ _ BF.out HO.out)
      clear hHeld
      clear hs0 hf0 hs1 hf1 hs2 hf2 hs3 hf3 hs4 hf4
      clear BE BF HB HD HN HO
      have BE := BE'
      have BF := BF'
      have HB := HB'
      have HD := HD'
      have HN := HN'
      have HO := HO'
      clear BE' BF' HB' HD' HN' HO'
      refine hK.out _ _ ?_
      clear hK K
      generalize (((((W5.setCell ⟨gf, 0, none⟩ (.int .i64 r1)).setCell ⟨gf, 1, none⟩ (.string r2)).setCell ⟨gf, 2, none⟩ (.slice Ax r3.length cx)).setCell ⟨gf, 3, none⟩ (.string r4)).setCell ⟨gf, 4, none⟩ (.slice Ay r5.length cy)) = W6 at BE BF HB HD HN HO ⊢
      refine sv 16 10 #[tT,tT,tT,tT,tT,tT,tT,tT,tT,tT,tT,tT,tT,tT,tT,tT,tT] ?_
      refine done_ (by kernel_rfl) ?_
      replace he0 := (bC BE.out 0).trans (rfl : _ = some (Value.int .i64 0))
      replace he1 := (bC BE.out 1).trans (rfl : _ = some (Value.string ⟨#[]⟩))
      replace he2 := (bC BE.out 2).trans (rfl : _ = some (Value.slice none 0 0))
      replace he3 := (bC BE.out 3).trans (rfl : _ = some (Value.string ⟨#[]⟩))
      replace he4 := (bC BE.out 4).trans (rfl : _ = some (Value.slice none 0 0))
      replace he0f := bF BE.out 0
      replace he1f := bF BE.out 1
      replace he2f := bF BE.out 2
      replace he3f := bF BE.out 3
      replace he4f := bF BE.out 4
      go_wp2
      refine bodyPost_ret (results_ctt rfl _ _ ge 36 #[.int .i64 0, .string ⟨#[]⟩, .slice none 0 0, .string ⟨#[]⟩, .slice none 0 0] (0, 0) _ rfl (blk_sets [.int .i64 0, .string ⟨#[]⟩, .slice none 0 0, .string ⟨#[]⟩, .slice none 0 0] 0 _ _ BE.out) Tryz.underlying36 rfl (by kernel_rfl)) rfl ?_
      exact ⟨_, _, rfl, Kd.R_nil _ _ _ _ _, Kd.R_nil _ _ _ _ _, below_sets Gge.out [.int .i64 0, .string ⟨#[]⟩, .slice none 0 0, .string ⟨#[]⟩, .slice none 0 0] 0 _ HB.out⟩
  · have HRR : turnD s l y (db, dr, de) a b = ((0, eB, [], eB, [], de), eB) := if_neg hd
    rw [HRR]
    have b3 : (de != 0) = true := bne_iff_ne.2 hd
    have b4 : (de == 0) = false := beq_eq_false_iff_ne.2 hd
    clear h hco hCo hd
    go_enter Tryz.func50, Tryz.ntmps50
    go_wp2_with (first
      | ((with_reducible refine gate_dst (N := 6) rfl ?_); refine box_event ?hg (N := 6) ?hd (cs := #[.int .i64 0, .string ⟨#[]⟩, .slice none 0 0, .string ⟨#[]⟩, .slice none 0 0]) (t := 36) ?hr ?_; (case hd => rfl); (case hg => rfl); (case hr => first | (go_simp; done) | (go_simp; rfl)); intro ge hg W1 hbox hb; have Gge := aM (show w.heap.size ≤ ge from by rw [hg]; exact Nat.le_refl _); replace HD := aM (HD.out.below hb); have HB := aM hb; have BE := aM hbox; clear hb hbox hg; replace hd4 := (bC HD.out.hg 6).trans (rfl : _ = some (Value.int .i64 de)))
      )
    have hb := below_drew1 (Below.refl W1.heap.size W1)
    replace HD := aM (HD.out.below hb)
    replace HB := aM (bP HB.out hb)
    replace BE := aM (bB BE.out hb)
    clear hb
    refine start_ (n := 8) (S := fun W => W.cell? ⟨g, 6, none⟩ = some (.int .i64 de) ∧ W.cell? ⟨g, 6, none⟩ = some (.int .i64 de)) (ds := []) #[tF,tF,tF,tF,tF,tF,tF,tF] (by kernel_rfl) rfl rfl ⟨(bC HD.out.hg 6).trans rfl, (bC HD.out.hg 6).trans rfl⟩ (fun hHeld => ?_)
    generalize W1.drew = W2 at HD HB BE hHeld ⊢
    refine sv 0 20 #[tT,tF,tF,tF,tF,tF,tF,tF] ?_
    refine sv 1 21 #[tT,tT,tF,tF,tF,tF,tF,tF] ?_
    refine sv 2 22 #[tT,tT,tT,tF,tF,tF,tF,tF] ?_
    refine sv 3 23 #[tT,tT,tT,tT,tF,tF,tF,tF] ?_
    refine st 4 24 #[tT,tT,tT,tT,tT,tF,tF,tF] hHeld ?_
    refine one_ (i := 5) (N := none) #[tT,tT,tT,tT,tT,tT,tF,tF] rfl rfl (by kernel_rfl) (by decide) (fun K hK => ?_)
    have hs0 := (bC BE.out 0).trans (rfl : _ = some (Value.int .i64 0))
    have hf0 := bF BE.out 0
    have hs1 := (bC BE.out 1).trans (rfl : _ = some (Value.string ⟨#[]⟩))
    have hf1 := bF BE.out 1
    have hs2 := (bC BE.out 2).trans (rfl : _ = some (Value.slice none 0 0))
    have hf2 := bF BE.out 2
    have hs3 := (bC BE.out 3).trans (rfl : _ = some (Value.string ⟨#[]⟩))
    have hf3 := bF BE.out 3
    have hs4 := (bC BE.out 4).trans (rfl : _ = some (Value.slice none 0 0))
    have hf4 := bF BE.out 4
    refine skip_ (w1 := (((((W2.setCell ⟨ge, 0, none⟩ (.int .i64 0)).setCell ⟨ge, 1, none⟩ (.string ⟨#[]⟩)).setCell ⟨ge, 2, none⟩ (.slice none 0 0)).setCell ⟨ge, 3, none⟩ (.string ⟨#[]⟩)).setCell ⟨ge, 4, none⟩ (.slice none 0 0))) (by rfl) rfl ?_ ?_
    · first | (go_simp; done) | (go_simp; rfl)
    have HD' := aM (show DeskAt w0 g A c (.slice Ao dr.length co) (((((W2.setCell ⟨ge, 0, none⟩ (.int .i64 0)).setCell ⟨ge, 1, none⟩ (.string ⟨#[]⟩)).setCell ⟨ge, 2, none⟩ (.slice none 0 0)).setCell ⟨ge, 3, none⟩ (.string ⟨#[]⟩)).setCell ⟨ge, 4, none⟩ (.slice none 0 0)) s l v y (db, dr, de) from DeskAt.others (by decide) (by decide) (Nat.le_trans HS.out Gge.out) [.int .i64 0, .string ⟨#[]⟩, .slice none 0 0, .string ⟨#[]⟩, .slice none 0 0] 0 _ _ BE.out HD.out)
    have HB' := aM (show Below w.heap.size w (((((W2.setCell ⟨ge, 0, none⟩ (.int .i64 0)).setCell ⟨ge, 1, none⟩ (.string ⟨#[]⟩)).setCell ⟨ge, 2, none⟩ (.slice none 0 0)).setCell ⟨ge, 3, none⟩ (.string ⟨#[]⟩)).setCell ⟨ge, 4, none⟩ (.slice none 0 0)) from below_sets Gge.out [.int .i64 0, .string ⟨#[]⟩, .slice none 0 0, .string ⟨#[]⟩, .slice none 0 0] 0 _ HB.out)
    have BE' := aM (show (((((W2.setCell ⟨ge, 0, none⟩ (.int .i64 0)).setCell ⟨ge, 1, none⟩ (.string ⟨#[]⟩)).setCell ⟨ge, 2, none⟩ (.slice none 0 0)).setCell ⟨ge, 3, none⟩ (.string ⟨#[]⟩)).setCell ⟨ge, 4, none⟩ (.slice none 0 0)).heap[ge]? = some (.cells #[.int .i64 0, .string ⟨#[]⟩, .slice none 0 0, .string ⟨#[]⟩, .slice none 0 0] 36 (0, 0)) from blk_sets [.int .i64 0, .string ⟨#[]⟩, .slice none 0 0, .string ⟨#[]⟩, .slice none 0 0] 0 _ _ BE.out)
    clear hHeld
    clear hs0 hf0 hs1 hf1 hs2 hf2 hs3 hf3 hs4 hf4
    clear HD HB BE
    have HD := HD'
    have HB := HB'
    have BE := BE'
    clear HD' HB' BE'
    refine hK.out _ _ ⟨(bC HD.out.hg 6).trans rfl, (bC HD.out.hg 6).trans rfl⟩ (fun hHeld => ?_)
    clear hK K
    generalize (((((W2.setCell ⟨ge, 0, none⟩ (.int .i64 0)).setCell ⟨ge, 1, none⟩ (.string ⟨#[]⟩)).setCell ⟨ge, 2, none⟩ (.slice none 0 0)).setCell ⟨ge, 3, none⟩ (.string ⟨#[]⟩)).setCell ⟨ge, 4, none⟩ (.slice none 0 0)) = W3 at HD HB BE hHeld ⊢
    refine sv 6 7 #[tT,tT,tT,tT,tT,tT,tT,tF] ?_
    refine sv 7 8 #[tT,tT,tT,tT,tT,tT,tT,tT] ?_
    refine done_ (by kernel_rfl) ?_
    clear hHeld
    go_wp2
    refine bodyPost_ret (results_ctt rfl _ _ ge 36 #[.int .i64 0, .string ⟨#[]⟩, .slice none 0 0, .string ⟨#[]⟩, .slice none 0 0] (0, 0) _ rfl BE.out Tryz.underlying36 rfl (by kernel_rfl)) rfl ?_
    exact ⟨_, _, rfl, Kd.R_nil _ _ _ _ _, Kd.R_nil _ _ _ _ _, HB.out⟩
end
end Go.Proofs.YtjkfkiebhgkolaaGreatDoor.PB
end
