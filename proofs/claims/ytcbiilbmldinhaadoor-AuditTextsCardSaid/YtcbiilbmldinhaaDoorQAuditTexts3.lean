/- What the row hangs on, part 3. -/
import Derived.Maps.OwnSet
import Derived.StillTailTactics
import Derived.StillTailTactics
import Derived.Test.YtcbiilbmldinhaaDoorQAuditTexts2
section
namespace Go.Proofs.YtcbiilbmldinhaaDoor.PB
open Go.RowKit Go.Proofs.YtcbiilbmldinhaaDoorW.PrintWords Go.Proofs.YtcbiilbmldinhaaDoorW.PrintLast Go.Proofs.YtcbiilbmldinhaaDoorW.PrintMore
attribute [local go_sem] max2_int min2_int max_two min_two max_three min_three max_four min_four   
set_option linter.unusedVariables false
set_option linter.unusedSimpArgs false
def bureauref18_Parse.l0 : Nat → ByteArray → List ByteArray → Int → Int → Option (Int × Int × Int × Int × Int × Int)
 | 0, _, _, _, _ => none
 | k + 1, x0, x4, x5, x7 => if x7 ≤ 4 then (if 1 < (x4.length : Int) then ((bureauref18_number.f k (rdOf ByteArray.empty x4 1)).bind fun t286 => (if 2 < (x4.length : Int) then ((bureauref18_number.f k (rdOf ByteArray.empty x4 2)).bind fun t288 => (if 3 < (x4.length : Int) then ((bureauref18_number.f k (rdOf ByteArray.empty x4 3)).bind fun t290 => ((bureauref18_Print.f k x5 x7 t286 t288 t290).bind fun bt292 => (if bt292.2 = 0 then (if bt292.1.toList = x0.toList then (some (x5, x7, t286, t288, t290, 0)) else (bureauref18_Parse.l0 k x0 x4 x5 (wrap64 (x7 + 1)))) else (bureauref18_Parse.l0 k x0 x4 x5 (wrap64 (x7 + 1)))))) else (none))) else (none))) else (none)) else (some (0, 0, 0, 0, 0, 5))
def bureauref18_Parse.f (k : Nat) (a0 : ByteArray) : Option (Int × Int × Int × Int × Int × Int) := (bureauref18_parts.f k a0).bind fun t279 => (if (t279.length : Int) = 5 then (if 4 < (t279.length : Int) then ((bureauref01_Parse.f k (rdOf ByteArray.empty t279 4)).bind fun bt283 => (if bt283.2 = 0 then (bureauref18_Parse.l0 k a0 t279 bt283.1 1) else (some (0, 0, 0, 0, 0, 5)))) else (none)) else (some (0, 0, 0, 0, 0, 5)))
def bureauref18_Parse.T10 : Bool × List (List Nat × List Nat) := (true, [([], []), ([], []), ([], []), ([2], [2]), ([3], [3]), ([4], [4]), ([], []), ([6], [6]), ([7], [7]), ([8, 5], [8]), ([], []), ([10], [10]), ([11], [11]), ([12, 9], [12]), ([0, 1, 5, 9, 13], [0, 1, 5, 9, 13]), ([], []), ([15, 14, 13, 0, 1, 2, 3, 4, 5, 6, 7, 8, 9, 10, 11, 12, 13, 14, 15], [14, 15])])
def bureauref18_Parse.B10 : List Nat := [0, 0, 0, 4, 12, 28, 0, 64, 192, 508, 0, 1024, 3072, 8188, 16383, 0, 65535]
theorem bureauref18_Parse.tab10 : rtab .any (opsOf Tryd.f29 10) = bureauref18_Parse.T10 := by kernel_rfl
theorem bureauref18_Parse.bits10 : waitsOk bureauref18_Parse.T10.2 bureauref18_Parse.B10 = true := by kernel_rfl
set_option maxHeartbeats 8000000 in
set_option maxRecDepth 100000 in
theorem bureauref18_Parse.calls (k : Nat) (a0 : ByteArray) (r1 : Int) (r2 : Int) (r3 : Int) (r4 : Int) (r5 : Int) (r6 : Int) (w : World) (h : bureauref18_Parse.f k a0 = some (r1, r2, r3, r4, r5, r6)) :
  Calls Tryd.prog 29 #[.string a0] w fun e w' => e = .returned (.tuple #[.agg #[.int .u64 r1, .int .i64 r2, .int .i64 r3, .int .i64 r4, .int .i64 r5], .int .i64 r6]) ∧ Below w.heap.size w w' := by
 have hu38 := Tryd.underlying38
 have HB := aM (Below.refl w.heap.size w)
 have H : ((bureauref18_parts.f k a0).bind fun t279 => (if (t279.length : Int) = 5 then (if 4 < (t279.length : Int) then ((bureauref01_Parse.f k (rdOf ByteArray.empty t279 4)).bind fun bt283 => (if bt283.2 = 0 then (bureauref18_Parse.l0 k a0 t279 bt283.1 1) else (some (0, 0, 0, 0, 0, 5)))) else (none)) else (some (0, 0, 0, 0, 0, 5)))) = some (r1, r2, r3, r4, r5, r6) := h
 clear h
 replace H := Option.bind_eq_some_iff.mp H
 obtain ⟨t279, A20, H⟩ := H
 replace H : (if (t279.length : Int) = 5 then (if 4 < (t279.length : Int) then ((bureauref01_Parse.f k (rdOf ByteArray.empty t279 4)).bind fun bt283 => (if bt283.2 = 0 then (bureauref18_Parse.l0 k a0 t279 bt283.1 1) else (some (0, 0, 0, 0, 0, 5)))) else (none)) else (some (0, 0, 0, 0, 0, 5))) = some (r1, r2, r3, r4, r5, r6) := H
 have A2 := aM A20
 clear A20
 by_cases c3 : (t279.length : Int) = 5
 ·rw [if_pos c3] at H
  have c3b0 : ((t279.length : Int) == 5) = true := beq_iff_eq.mpr c3
  have c3b1 : ((t279.length : Int) != 5) = false := bne_eq_false_iff_eq.mpr c3
  clear c3
  by_cases c4 : 4 < (t279.length : Int)
  ·rw [if_pos c4] at H
   have c4b0 : decide (4 < (t279.length : Int)) = true := decide_eq_true c4
   have c4b1 : decide (4 < t279.length) = true := decide_eq_true (by omega)
   clear c4
   replace H := Option.bind_eq_some_iff.mp H
   obtain ⟨⟨t283, t284⟩, A50, H⟩ := H
   replace H : (if t284 = 0 then (bureauref18_Parse.l0 k a0 t279 t283 1) else (some (0, 0, 0, 0, 0, 5))) = some (r1, r2, r3, r4, r5, r6) := H
   have A5 := aM A50
   clear A50
   by_cases c6 : t284 = 0
   ·rw [if_pos c6] at H
    have c6b0 : (t284 == 0) = true := beq_iff_eq.mpr c6
    have c6b1 : (t284 != 0) = false := bne_eq_false_iff_eq.mpr c6
    clear c6
    have H' := aM H
    clear H
    go_enter Tryd.func29, Tryd.ntmps29
    go_wp2_with (first | ((with_reducible refine gate_dst (N := 2) rfl ?_); refine box_event ?hg (N := 2) ?hd (cs := #[.int .u64 0, .int .i64 0, .int .i64 0, .int .i64 0, .int .i64 0]) (t := 38) ?hr ?_; (case hd | hg => rfl); (case hr => first | (go_simp; done) | (go_simp; rfl)); intro gb278 hg w7 hbox hb; have n0_ := aM (bP (ey HB.out) hb); have n1_ := aM (hbox); have n2_ := aM ((by rw [hg]; exact (bZ (ey HB.out)) : w.heap.size ≤ gb278)); have n3_ := n2_; clear HB; have HB := n0_; have BK278 := n1_; have GW278 := n2_; have GE278 := n3_; clear n0_ n1_ n2_ n3_; clear hb hbox hg) | ((with_reducible refine gate_callee (f := 48) rfl ?_); refine goesL_ (some 12) rfl rfl Tryd.func48 (by kernel_rfl) rfl #[.string a0] rfl (by (try simp only [mT, mC, mN]); first | done | rfl | (simp only [lD, lT]; rfl)) ?_; (with_reducible refine (bureauref18_parts.calls k a0 t279 _ A2.out).mono ?_); rintro e w8 ⟨v280, rfl, ho0, hb⟩; refine ⟨_, rfl, ?_⟩; have n0_ := aM (rL ho0 (bZ (by repeat (first | (with_reducible first | exact HB.out | apply ea | apply en | apply ed | refine es ?_ GE278.out) | exact HB.out)))); have n1_ := aM (bB (g := gb278) (qy BK278.out) hb); have n2_ := aM (bP (by repeat (first | (with_reducible first | exact HB.out | apply ea | apply en | apply ed | refine es ?_ GE278.out) | exact HB.out)) hb); clear BK278 HB; have HO281 := n0_; have BK278 := n1_; have HB := n2_; clear n0_ n1_ n2_; (try clear hb); (try clear hb2); (try clear hk); (try clear hi); (try clear ho0); obtain ⟨Ao9, co9, eo9⟩ := Kd.R_slice HO281.out; subst eo9; have p282 : 0 ≤ (4 : Int) := (by omega); have q282 : 4 < (t279.length : Int) := of_decide_eq_true (by first | (with_reducible assumption) | assumption); obtain ⟨ad282, e282, hx282_0⟩ := Kd.at_string (rR HO281.out).2.2 4 p282 q282; cases e282; (try simp only [show (4 : Int).toNat = 4 from rfl, Nat.reduceMul, Nat.reduceEqDiff, Go.Addr.add, ↓reduceIte] at hx282_0); have qi282 : (4 < t279.length) = True := eq_true (by omega); (try rw [show ((4 : Int)).toNat = 4 from rfl] at hx282_0); replace p282 := eq_true p282; replace q282 := eq_true q282) | ((with_reducible refine gate_callee (f := 49) rfl ?_); refine goesL_ (some 21) rfl rfl Tryd.func49 (by kernel_rfl) rfl #[.string (rdOf ByteArray.empty t279 4)] rfl (by (try simp only [mT, mC, mN]); first | done | rfl | (simp only [lD, lT]; rfl)) ?_; (with_reducible refine (bureauref01_Parse.calls k (rdOf ByteArray.empty t279 4) t283 t284 _ A5.out).mono ?_); rintro e w10 ⟨rfl, hb⟩; refine ⟨_, rfl, ?_⟩; have n0_ := aM (Kd.R_below (ry HO281.out) hb); have n1_ := aM (bB (g := gb278) (qy BK278.out) hb); have n2_ := aM (bP (by repeat (first | (with_reducible first | exact HB.out | apply ea | apply en | apply ed | refine es ?_ GE278.out) | exact HB.out)) hb); clear HO281 BK278 HB; have HO281 := n0_; have BK278 := n1_; have HB := n2_; clear n0_ n1_ n2_; (try clear hb); (try clear hb2); (try clear hk); (try clear hi)))
    go_loopg [7] k (fun kq v7 w' => ∃ (x7_1 : Int) (x279000_1 : Int) (x279001_1 : Int) (x279002_1 : Int) (x279003_1 : Int) (x279004_1 : Int), v7 = .int .i64 x7_1 ∧ Aside0 (bureauref18_Parse.l0 kq a0 t279 t283 x7_1 = some (r1, r2, r3, r4, r5, r6)) ∧ Aside0 (kq ≤ k) ∧ Aside0 (Kd.R Kd.string 9 w' w.heap.size (fun _ => True) (.slice (some ad282) t279.length co9) t279) ∧ Aside0 (w'.heap[gb278]? = some (.cells #[.int .u64 x279000_1, .int .i64 x279001_1, .int .i64 x279002_1, .int .i64 x279003_1, .int .i64 x279004_1] 38 (0, 0))) ∧ Aside0 (Below w.heap.size w w'))
    case atStart => exact ⟨(1), (0), (0), (0), (0), (0), (by first | rfl | (simp; done) | (simp [*]; done)), H', ⟨Nat.le_refl _⟩, ⟨by exact ry HO281.out⟩, ⟨by exact qy BK278.out⟩, ⟨by repeat (first | (with_reducible first | exact HB.out | apply ea | apply en | apply ed | refine es ?_ GE278.out) | exact HB.out)⟩⟩
    case round =>
     clear H'
     try clear c2
     try clear p2
     try clear q2
     try clear hx2
     try clear qi2
     try clear c3
     try clear c3b0
     try clear c3b1
     try clear c4
     try clear c4b0
     try clear c4b1
     try clear c6
     try clear c6b0
     try clear c6b1
     try clear hx282_0
     try clear p282
     try clear q282
     obtain ⟨x7_1, x279000_1, x279001_1, x279002_1, x279003_1, x279004_1, rfl, HA, HK1, HO_4, BK278, HB⟩ := hrel
     cases gk with
     | zero => exact absurd HA.out (by simp [bureauref18_Parse.l0])
     | succ k1 =>
      have H := HA.out
      clear HA
      simp only [bureauref18_Parse.l0] at H
      by_cases c11 : x7_1 ≤ 4
      ·rw [if_pos c11] at H
       have c11b0 : decide (x7_1 ≤ 4) = true := decide_eq_true c11
       clear c11
       by_cases c12 : 1 < (t279.length : Int)
       ·rw [if_pos c12] at H
        have c12b0 : decide (1 < (t279.length : Int)) = true := decide_eq_true c12
        have c12b1 : decide (1 < t279.length) = true := decide_eq_true (by omega)
        clear c12
        replace H := Option.bind_eq_some_iff.mp H
        obtain ⟨t286, A130, H⟩ := H
        replace H : (if 2 < (t279.length : Int) then ((bureauref18_number.f k1 (rdOf ByteArray.empty t279 2)).bind fun t288 => (if 3 < (t279.length : Int) then ((bureauref18_number.f k1 (rdOf ByteArray.empty t279 3)).bind fun t290 => ((bureauref18_Print.f k1 t283 x7_1 t286 t288 t290).bind fun bt292 => (if bt292.2 = 0 then (if bt292.1.toList = a0.toList then (some (t283, x7_1, t286, t288, t290, 0)) else (bureauref18_Parse.l0 k1 a0 t279 t283 (wrap64 (x7_1 + 1)))) else (bureauref18_Parse.l0 k1 a0 t279 t283 (wrap64 (x7_1 + 1)))))) else (none))) else (none)) = some (r1, r2, r3, r4, r5, r6) := H
        have A13 := aM A130
        clear A130
        by_cases c14 : 2 < (t279.length : Int)
        ·rw [if_pos c14] at H
         have c14b0 : decide (2 < (t279.length : Int)) = true := decide_eq_true c14
         have c14b1 : decide (2 < t279.length) = true := decide_eq_true (by omega)
         clear c14
         replace H := Option.bind_eq_some_iff.mp H
         obtain ⟨t288, A150, H⟩ := H
         replace H : (if 3 < (t279.length : Int) then ((bureauref18_number.f k1 (rdOf ByteArray.empty t279 3)).bind fun t290 => ((bureauref18_Print.f k1 t283 x7_1 t286 t288 t290).bind fun bt292 => (if bt292.2 = 0 then (if bt292.1.toList = a0.toList then (some (t283, x7_1, t286, t288, t290, 0)) else (bureauref18_Parse.l0 k1 a0 t279 t283 (wrap64 (x7_1 + 1)))) else (bureauref18_Parse.l0 k1 a0 t279 t283 (wrap64 (x7_1 + 1)))))) else (none)) = some (r1, r2, r3, r4, r5, r6) := H
         have A15 := aM A150
         clear A150
         by_cases c16 : 3 < (t279.length : Int)
         ·rw [if_pos c16] at H
          have c16b0 : decide (3 < (t279.length : Int)) = true := decide_eq_true c16
          have c16b1 : decide (3 < t279.length) = true := decide_eq_true (by omega)
          clear c16
          replace H := Option.bind_eq_some_iff.mp H
          obtain ⟨t290, A170, H⟩ := H
          replace H : ((bureauref18_Print.f k1 t283 x7_1 t286 t288 t290).bind fun bt292 => (if bt292.2 = 0 then (if bt292.1.toList = a0.toList then (some (t283, x7_1, t286, t288, t290, 0)) else (bureauref18_Parse.l0 k1 a0 t279 t283 (wrap64 (x7_1 + 1)))) else (bureauref18_Parse.l0 k1 a0 t279 t283 (wrap64 (x7_1 + 1))))) = some (r1, r2, r3, r4, r5, r6) := H
          have A17 := aM A170
          clear A170
          replace H := Option.bind_eq_some_iff.mp H
          obtain ⟨⟨t292, t293⟩, A180, H⟩ := H
          replace H : (if t293 = 0 then (if t292.toList = a0.toList then (some (t283, x7_1, t286, t288, t290, 0)) else (bureauref18_Parse.l0 k1 a0 t279 t283 (wrap64 (x7_1 + 1)))) else (bureauref18_Parse.l0 k1 a0 t279 t283 (wrap64 (x7_1 + 1)))) = some (r1, r2, r3, r4, r5, r6) := H
          have A18 := aM A180
          clear A180
          by_cases c19 : t293 = 0
          ·rw [if_pos c19] at H
           have c19b0 : (t293 == 0) = true := beq_iff_eq.mpr c19
           have c19b1 : (t293 != 0) = false := bne_eq_false_iff_eq.mpr c19
           clear c19
           by_cases c20 : t292.toList = a0.toList
           ·rw [if_pos c20] at H
            have c20b0 : (t292.toList == a0.toList) = true := beq_iff_eq.mpr c20
            have c20b1 : (t292.toList != a0.toList) = false := bne_eq_false_iff_eq.mpr c20
            clear c20
            simp only [Option.some.injEq, Prod.mk.injEq] at H
            obtain ⟨rfl, rfl, rfl, rfl, rfl, rfl⟩ := H
            try go_wp2
            have n0_ := aM (Kd.R_drew HO_4.out)
            have n1_ := aM (blk_drew BK278.out)
            have n2_ := aM (below_drew1 HB.out)
            clear HO_4
            clear BK278
            clear HB
            have HO_4 := n0_
            have BK278 := n1_
            have HB := n2_
            clear n0_ n1_ n2_
            have p285 : 0 ≤ (1 : Int) := (by omega)
            have q285 : 1 < (t279.length : Int) := of_decide_eq_true (by first | (with_reducible assumption) | assumption)
            obtain ⟨ad285, e285, hx285_0⟩ := Kd.at_string (rR HO_4.out).2.2 1 p285 q285
            obtain rfl : ad282 = ad285 := (by injection e285)
            (try simp only [show (1 : Int).toNat = 1 from rfl, Nat.reduceMul, Nat.reduceEqDiff, Go.Addr.add, ↓reduceIte] at hx285_0)
            have qi285 : (1 < t279.length) = True := eq_true (by omega)
            (try rw [show ((1 : Int)).toNat = 1 from rfl] at hx285_0)
            replace p285 := eq_true p285
            replace q285 := eq_true q285
            have p287 : 0 ≤ (2 : Int) := (by omega)
            have q287 : 2 < (t279.length : Int) := of_decide_eq_true (by first | (with_reducible assumption) | assumption)
            obtain ⟨ad287, e287, hx287_0⟩ := Kd.at_string (rR HO_4.out).2.2 2 p287 q287
            obtain rfl : ad282 = ad287 := (by injection e287)
            (try simp only [show (2 : Int).toNat = 2 from rfl, Nat.reduceMul, Nat.reduceEqDiff, Go.Addr.add, ↓reduceIte] at hx287_0)
            have qi287 : (2 < t279.length) = True := eq_true (by omega)
            (try rw [show ((2 : Int)).toNat = 2 from rfl] at hx287_0)
            replace p287 := eq_true p287
            replace q287 := eq_true q287
            have p289 : 0 ≤ (3 : Int) := (by omega)
            have q289 : 3 < (t279.length : Int) := of_decide_eq_true (by first | (with_reducible assumption) | assumption)
            obtain ⟨ad289, e289, hx289_0⟩ := Kd.at_string (rR HO_4.out).2.2 3 p289 q289
            obtain rfl : ad282 = ad289 := (by injection e289)
            (try simp only [show (3 : Int).toNat = 3 from rfl, Nat.reduceMul, Nat.reduceEqDiff, Go.Addr.add, ↓reduceIte] at hx289_0)
            have qi289 : (3 < t279.length) = True := eq_true (by omega)
            (try rw [show ((3 : Int)).toNat = 3 from rfl] at hx289_0)
            replace p289 := eq_true p289
            replace q289 := eq_true q289
            refine start_ (n := 17) (S := fun w' => w'.cell? ⟨ad282.block, ad282.off + 1, none⟩ = some (.string (rdOf ByteArray.empty t279 1)) ∧ w'.cell? ⟨ad282.block, ad282.off + 2, none⟩ = some (.string (rdOf ByteArray.empty t279 2)) ∧ w'.cell? ⟨ad282.block, ad282.off + 3, none⟩ = some (.string (rdOf ByteArray.empty t279 3))) (ds := []) b46_ (by kernel_rfl) rfl rfl ⟨hx285_0, hx287_0, hx289_0⟩ (fun hHeld => ?_); refine with_tabW bureauref18_Parse.tab10 bureauref18_Parse.bits10 (fun HT_ HW_ => ?_)
            generalize wr.drew = w21 at HO_4 BK278 HB hx285_0 hx287_0 hx289_0 hHeld ⊢
            refine pure_ (i := 0) (N := some 31) (v := ?_) (a' := ?_) b47_ rfl rfl (any_of HT_.out (by kernel_rfl)) (fun _ _ _ h => h) (Or.inl ⟨by rfl, ?_⟩) ?_ ?_
            rotate_left
            ·intro w'
             go_simp
             with_reducible rfl
            rotate_left
            ·simp only [Act.put, sA, sZ, sS, i64_w, i32_w]
             rfl
            refine pure_ (i := 1) (N := some 32) (v := ?_) (a' := ?_) b48_ rfl rfl (any_of HT_.out (by kernel_rfl)) (fun _ _ _ h => h) (Or.inl ⟨by rfl, ?_⟩) ?_ ?_
            rotate_left
            ·intro w'
             go_simp
             with_reducible rfl
            rotate_left
            ·simp only [Act.put, sA, sZ, sS, i64_w, i32_w]
             rfl
            refine pure_ (i := 2) (N := some 33) (v := ?_) (a' := ?_) b49_ rfl rfl (any_of HT_.out (by kernel_rfl)) (fun _ _ _ h => h) (Or.inl ⟨by rfl, ?_⟩) ?_ ?_
            rotate_left
            ·intro w'
             go_simp
             with_reducible rfl
            rotate_left
            ·simp only [Act.put, sA, sZ, sS, i64_w, i32_w]
             rfl
            refine pure_ (i := 3) (N := some 34) (v := ?_) (a' := ?_) b50_ rfl rfl (any_of HT_.out (by kernel_rfl)) (fun _ _ _ h => h) (Or.inl ⟨by rfl, ?_⟩) ?_ ?_
            rotate_left
            ·intro w'
             go_simp
             with_reducible rfl
            rotate_left
            ·simp only [Act.put, sA, sZ, sS, i64_w, i32_w]
             rfl
            refine pure_ (i := 6) (N := some 37) (v := ?_) (a' := ?_) b51_ rfl rfl (any_of HT_.out (by kernel_rfl)) (fun _ _ _ h => h) (Or.inl ⟨by rfl, ?_⟩) ?_ ?_
            rotate_left
            ·intro w'
             go_simp
             with_reducible rfl
            rotate_left
            ·simp only [Act.put, sA, sZ, sS, i64_w, i32_w]
             rfl
            refine pure_ (i := 7) (N := some 38) (v := ?_) (a' := ?_) b52_ rfl rfl (any_of HT_.out (by kernel_rfl)) (fun _ _ _ h => h) (Or.inl ⟨by rfl, ?_⟩) ?_ ?_
            rotate_left
            ·intro w'
             go_simp
             with_reducible rfl
            rotate_left
            ·simp only [Act.put, sA, sZ, sS, i64_w, i32_w]
             rfl
            refine pure_ (i := 10) (N := some 41) (v := ?_) (a' := ?_) b53_ rfl rfl (any_of HT_.out (by kernel_rfl)) (fun _ _ _ h => h) (Or.inl ⟨by rfl, ?_⟩) ?_ ?_
            rotate_left
            ·intro w'
             go_simp
             with_reducible rfl
            rotate_left
            ·simp only [Act.put, sA, sZ, sS, i64_w, i32_w]
             rfl
            refine pure_ (i := 11) (N := some 42) (v := ?_) (a' := ?_) b54_ rfl rfl (any_of HT_.out (by kernel_rfl)) (fun _ _ _ h => h) (Or.inl ⟨by rfl, ?_⟩) ?_ ?_
            rotate_left
            ·intro w'
             go_simp
             with_reducible rfl
            rotate_left
            ·simp only [Act.put, sA, sZ, sS, i64_w, i32_w]
             rfl
            refine take_ (i := 4) (N := some 35) (v := ?_) (a' := ?_) b55_ rfl rfl (take_ofW HT_.out HW_.out (by kernel_rfl)) (fun _ _ _ h => h) (Or.inl ⟨by rfl, ?_⟩) hHeld ?_ ?_
            rotate_left
            ·rintro w' ⟨s0, s1, s2⟩
             go_simp
             with_reducible rfl
            rotate_left
            ·simp only [Act.put, sA, sZ, sS, i64_w, i32_w]
             rfl
            refine take_ (i := 8) (N := some 39) (v := ?_) (a' := ?_) b56_ rfl rfl (take_ofW HT_.out HW_.out (by kernel_rfl)) (fun _ _ _ h => h) (Or.inl ⟨by rfl, ?_⟩) hHeld ?_ ?_
            rotate_left
            ·rintro w' ⟨s0, s1, s2⟩
             go_simp
             with_reducible rfl
            rotate_left
            ·simp only [Act.put, sA, sZ, sS, i64_w, i32_w]
             rfl
            refine take_ (i := 12) (N := some 43) (v := ?_) (a' := ?_) b57_ rfl rfl (take_ofW HT_.out HW_.out (by kernel_rfl)) (fun _ _ _ h => h) (Or.inl ⟨by rfl, ?_⟩) hHeld ?_ ?_
            rotate_left
            ·rintro w' ⟨s0, s1, s2⟩
             go_simp
             with_reducible rfl
            rotate_left
            ·simp only [Act.put, sA, sZ, sS, i64_w, i32_w]
             rfl
            refine join_ (σ := Nat) 1 b58_ (fun s_ => [(36, .int .i64 t286), (40, .int .i64 t288), (44, .int .i64 t290), (8, .pointer (some ⟨s_, 0, none⟩)), (45, .agg #[.int .u64 t283, .int .i64 x7_1, .int .i64 t286, .int .i64 t288, .int .i64 t290])]) (fun s_ w' => (w'.cell? ⟨ad282.block, ad282.off + 1, none⟩ = some (.string (rdOf ByteArray.empty t279 1)) ∧ w'.cell? ⟨ad282.block, ad282.off + 2, none⟩ = some (.string (rdOf ByteArray.empty t279 2)) ∧ w'.cell? ⟨ad282.block, ad282.off + 3, none⟩ = some (.string (rdOf ByteArray.empty t279 3))) ∧ (Kd.R Kd.string 9 w' w.heap.size (fun _ => True) (.slice (some ad282) t279.length co9) t279) ∧ (w'.heap[gb278]? = some (.cells #[.int .u64 x279000_1, .int .i64 x279001_1, .int .i64 x279002_1, .int .i64 x279003_1, .int .i64 x279004_1] 38 (0, 0))) ∧ (w'.heap[s_]? = some (.cells #[.int .u64 0, .int .i64 0, .int .i64 0, .int .i64 0, .int .i64 0] 38 (0, 0))) ∧ (w.heap.size ≤ s_) ∧ (w.heap.size ≤ s_) ∧ (gb278 ≠ s_) ∧ (s_ ≠ gb278) ∧ (Below w.heap.size w w')) ?_ ?_
            rotate_left
            ·intro hCont
             refine two_ (i := 5) (j := 15) (Ni := some 36) (Nj := some 8) b59_ b60_ rfl rfl rfl rfl (two_of HT_.out (by kernel_rfl)) (by decide) (by decide) (fun K hK => ?_) (fun K hK => ?_)
             ·skip
              refine goes_ Tryd.func50 (by kernel_rfl) rfl #[.string (rdOf ByteArray.empty t279 1)] (by rfl) rfl rfl (by (try simp only [mT, mC, mN]); first | done | rfl | (simp only [lD, lT]; rfl)) ?_
              with_reducible refine (bureauref18_number.calls k1 (rdOf ByteArray.empty t279 1) t286 _ A13.out).mono ?_
              rintro e w' ⟨rfl, ⟨nd, rfl⟩⟩
              refine ⟨_, rfl, ?_⟩
              refine hK.out _ _ ⟨hHeld.1, hHeld.2.1, hHeld.2.2⟩ (fun hHeld => ?_)
              clear hK K
              refine norm_ (a' := ?_) ?_ ?_
              rotate_left
              ·show Act.put _ (some 36) _ = _
               simp only [Act.put, sA, sZ, sS, i64_w, i32_w]
               rfl
              refine two_ (i := 9) (j := 15) (Ni := some 40) (Nj := some 8) b61_ b62_ rfl rfl rfl rfl (two_of HT_.out (by kernel_rfl)) (by decide) (by decide) (fun K hK => ?_) (fun K hK => ?_)
              ·skip
               refine goes_ Tryd.func50 (by kernel_rfl) rfl #[.string (rdOf ByteArray.empty t279 2)] (by rfl) rfl rfl (by (try simp only [mT, mC, mN]); first | done | rfl | (simp only [lD, lT]; rfl)) ?_
               with_reducible refine (bureauref18_number.calls k1 (rdOf ByteArray.empty t279 2) t288 _ A15.out).mono ?_
               rintro e w' ⟨rfl, ⟨nd, rfl⟩⟩
               refine ⟨_, rfl, ?_⟩
               refine hK.out _ _ ⟨hHeld.1, hHeld.2.1, hHeld.2.2⟩ (fun hHeld => ?_)
               clear hK K
               refine norm_ (a' := ?_) ?_ ?_
               rotate_left
               ·show Act.put _ (some 40) _ = _
                simp only [Act.put, sA, sZ, sS, i64_w, i32_w]
                rfl
               refine two_ (i := 13) (j := 15) (Ni := some 44) (Nj := some 8) b63_ b64_ rfl rfl rfl rfl (two_of HT_.out (by kernel_rfl)) (by decide) (by decide) (fun K hK => ?_) (fun K hK => ?_)
               ·skip
                refine goes_ Tryd.func50 (by kernel_rfl) rfl #[.string (rdOf ByteArray.empty t279 3)] (by rfl) rfl rfl (by (try simp only [mT, mC, mN]); first | done | rfl | (simp only [lD, lT]; rfl)) ?_
                with_reducible refine (bureauref18_number.calls k1 (rdOf ByteArray.empty t279 3) t290 _ A17.out).mono ?_
                rintro e w' ⟨rfl, ⟨nd, rfl⟩⟩
                refine ⟨_, rfl, ?_⟩
                refine hK.out _ _ ⟨hHeld.1, hHeld.2.1, hHeld.2.2⟩ (fun hHeld => ?_)
                clear hK K
                refine norm_ (a' := ?_) ?_ ?_
                rotate_left
                ·show Act.put _ (some 44) _ = _
                 simp only [Act.put, sA, sZ, sS, i64_w, i32_w]
                 rfl
                refine pure_ (i := 14) (N := some 45) (v := ?_) (a' := ?_) b65_ rfl rfl (any_of HT_.out (by kernel_rfl)) (fun _ _ _ h => h) (Or.inl ⟨by rfl, ?_⟩) ?_ ?_
                rotate_left
                ·intro w'
                 go_simp
                 with_reducible rfl
                rotate_left
                ·simp only [Act.put, sA, sZ, sS, i64_w, i32_w]
                 rfl
                refine one_ (i := 15) (N := some 8) b58_ rfl rfl (one_of HT_.out (by kernel_rfl)) (by decide) (fun K hK => ?_)
                refine box_step ?hg (N := 8) ?hd (cs := #[.int .u64 0, .int .i64 0, .int .i64 0, .int .i64 0, .int .i64 0]) (t := 38) ?hr ?_; (case hd | hg => rfl); (case hr => first | (go_simp; done) | (go_simp; rfl))
                intro gb291 hg w22 hbox hb
                have HS0_ := (hb.cell (World.block_lt_of_cell? _ _ (hHeld.1))).trans (hHeld.1)
                have HS1_ := (hb.cell (World.block_lt_of_cell? _ _ (hHeld.2.1))).trans (hHeld.2.1)
                have HS2_ := (hb.cell (World.block_lt_of_cell? _ _ (hHeld.2.2))).trans (hHeld.2.2)
                have n0_ := aM (Kd.R_below (ry HO_4.out) hb)
                have n1_ := aM (bB (g := gb278) (qy BK278.out) hb)
                have n2_ := aM (bP (by repeat (first | (with_reducible first | exact HB.out | apply ea | apply en | apply ed | refine es ?_ GE278.out) | exact HB.out)) hb)
                have n3_ := aM (hbox)
                have n4_ := aM ((by rw [hg]; exact (bZ (by repeat (first | (with_reducible first | exact HB.out | apply ea | apply en | apply ed | refine es ?_ GE278.out) | exact HB.out))) : w.heap.size ≤ gb291))
                have n5_ := aM ((by rw [hg]; exact (bZ (by repeat (first | (with_reducible first | exact HB.out | apply ea | apply en | apply ed | refine es ?_ GE278.out) | exact HB.out))) : w.heap.size ≤ gb291))
                have n6_ := aM ((by rw [hg]; exact Nat.ne_of_lt (blk_lt (g := gb278) (qy BK278.out)) : gb278 ≠ gb291))
                have n7_ := aM ((by rw [hg]; exact Nat.ne_of_gt (blk_lt (g := gb278) (qy BK278.out)) : gb291 ≠ gb278))
                clear HO_4
                clear BK278
                clear HB
                have HO_4 := n0_
                have BK278 := n1_
                have HB := n2_
                have BK291 := n3_
                have GW291 := n4_
                have GE291 := n5_
                have NB278_291 := n6_
                have NB291_278 := n7_
                clear n0_ n1_ n2_ n3_ n4_ n5_ n6_ n7_
                clear hb hbox hg
                refine hK.out _ _ ⟨HS0_, HS1_, HS2_⟩ (fun hHeld => ?_)
                clear hK K
                refine norm_ (a' := ?_) ?_ ?_
                rotate_left
                ·show Act.put _ (some 8) _ = _
                 simp only [Act.put, sA, sZ, sS, i64_w, i32_w]
                 rfl
                exact norm_ (by simp only [putAll, Act.put, sA, sZ, sS]) (hCont (gb291) _ ⟨hHeld, (ry HO_4.out), (qy BK278.out), (qy BK291.out), GW291.out, GE291.out, NB278_291.out, NB291_278.out, (by repeat (first | (with_reducible first | exact HB.out | apply ea | apply en | apply ed | refine es ?_ GE278.out | refine es ?_ GE291.out) | exact HB.out))⟩)
               ·skip
                refine box_step ?hg (N := 8) ?hd (cs := #[.int .u64 0, .int .i64 0, .int .i64 0, .int .i64 0, .int .i64 0]) (t := 38) ?hr ?_; (case hd | hg => rfl); (case hr => first | (go_simp; done) | (go_simp; rfl))
                intro gb291 hg w22 hbox hb
                have HS0_ := (hb.cell (World.block_lt_of_cell? _ _ (hHeld.1))).trans (hHeld.1)
                have HS1_ := (hb.cell (World.block_lt_of_cell? _ _ (hHeld.2.1))).trans (hHeld.2.1)
                have HS2_ := (hb.cell (World.block_lt_of_cell? _ _ (hHeld.2.2))).trans (hHeld.2.2)
                have n0_ := aM (Kd.R_below (ry HO_4.out) hb)
                have n1_ := aM (bB (g := gb278) (qy BK278.out) hb)
                have n2_ := aM (bP (by repeat (first | (with_reducible first | exact HB.out | apply ea | apply en | apply ed | refine es ?_ GE278.out) | exact HB.out)) hb)
                have n3_ := aM (hbox)
                have n4_ := aM ((by rw [hg]; exact (bZ (by repeat (first | (with_reducible first | exact HB.out | apply ea | apply en | apply ed | refine es ?_ GE278.out) | exact HB.out))) : w.heap.size ≤ gb291))
                have n5_ := aM ((by rw [hg]; exact (bZ (by repeat (first | (with_reducible first | exact HB.out | apply ea | apply en | apply ed | refine es ?_ GE278.out) | exact HB.out))) : w.heap.size ≤ gb291))
                have n6_ := aM ((by rw [hg]; exact Nat.ne_of_lt (blk_lt (g := gb278) (qy BK278.out)) : gb278 ≠ gb291))
                have n7_ := aM ((by rw [hg]; exact Nat.ne_of_gt (blk_lt (g := gb278) (qy BK278.out)) : gb291 ≠ gb278))
                clear HO_4
                clear BK278
                clear HB
                have HO_4 := n0_
                have BK278 := n1_
                have HB := n2_
                have BK291 := n3_
                have GW291 := n4_
                have GE291 := n5_
                have NB278_291 := n6_
                have NB291_278 := n7_
                clear n0_ n1_ n2_ n3_ n4_ n5_ n6_ n7_
                clear hb hbox hg
                refine hK.out _ _ ⟨HS0_, HS1_, HS2_⟩ (fun hHeld => ?_)
                clear hK K
                refine norm_ (a' := ?_) ?_ ?_
                rotate_left
                ·show Act.put _ (some 8) _ = _
                 simp only [Act.put, sA, sZ, sS, i64_w, i32_w]
                 rfl
                refine one_ (i := 13) (N := some 44) b66_ rfl rfl (one_of HT_.out (by kernel_rfl)) (by decide) (fun K hK => ?_)
                refine goes_ Tryd.func50 (by kernel_rfl) rfl #[.string (rdOf ByteArray.empty t279 3)] (by rfl) rfl rfl (by (try simp only [mT, mC, mN]); first | done | rfl | (simp only [lD, lT]; rfl)) ?_
                with_reducible refine (bureauref18_number.calls k1 (rdOf ByteArray.empty t279 3) t290 _ A17.out).mono ?_
                rintro e w' ⟨rfl, ⟨nd, rfl⟩⟩
                refine ⟨_, rfl, ?_⟩
                refine hK.out _ _ ⟨hHeld.1, hHeld.2.1, hHeld.2.2⟩ (fun hHeld => ?_)
                clear hK K
                refine norm_ (a' := ?_) ?_ ?_
                rotate_left
                ·show Act.put _ (some 44) _ = _
                 simp only [Act.put, sA, sZ, sS, i64_w, i32_w]
                 rfl
                refine pure_ (i := 14) (N := some 45) (v := ?_) (a' := ?_) b58_ rfl rfl (any_of HT_.out (by kernel_rfl)) (fun _ _ _ h => h) (Or.inl ⟨by rfl, ?_⟩) ?_ ?_
                rotate_left
                ·intro w'
                 go_simp
                 with_reducible rfl
                rotate_left
                ·simp only [Act.put, sA, sZ, sS, i64_w, i32_w]
                 rfl
                exact norm_ (by simp only [putAll, Act.put, sA, sZ, sS]) (hCont (gb291) _ ⟨hHeld, (ry HO_4.out), (qy BK278.out), (qy BK291.out), GW291.out, GE291.out, NB278_291.out, NB291_278.out, (by repeat (first | (with_reducible first | exact HB.out | apply ea | apply en | apply ed | refine es ?_ GE278.out | refine es ?_ GE291.out) | exact HB.out))⟩)
              ·skip
               refine box_step ?hg (N := 8) ?hd (cs := #[.int .u64 0, .int .i64 0, .int .i64 0, .int .i64 0, .int .i64 0]) (t := 38) ?hr ?_; (case hd | hg => rfl); (case hr => first | (go_simp; done) | (go_simp; rfl))
               intro gb291 hg w22 hbox hb
               have HS0_ := (hb.cell (World.block_lt_of_cell? _ _ (hHeld.1))).trans (hHeld.1)
               have HS1_ := (hb.cell (World.block_lt_of_cell? _ _ (hHeld.2.1))).trans (hHeld.2.1)
               have HS2_ := (hb.cell (World.block_lt_of_cell? _ _ (hHeld.2.2))).trans (hHeld.2.2)
               have n0_ := aM (Kd.R_below (ry HO_4.out) hb)
               have n1_ := aM (bB (g := gb278) (qy BK278.out) hb)
               have n2_ := aM (bP (by repeat (first | (with_reducible first | exact HB.out | apply ea | apply en | apply ed | refine es ?_ GE278.out) | exact HB.out)) hb)
               have n3_ := aM (hbox)
               have n4_ := aM ((by rw [hg]; exact (bZ (by repeat (first | (with_reducible first | exact HB.out | apply ea | apply en | apply ed | refine es ?_ GE278.out) | exact HB.out))) : w.heap.size ≤ gb291))
               have n5_ := aM ((by rw [hg]; exact (bZ (by repeat (first | (with_reducible first | exact HB.out | apply ea | apply en | apply ed | refine es ?_ GE278.out) | exact HB.out))) : w.heap.size ≤ gb291))
               have n6_ := aM ((by rw [hg]; exact Nat.ne_of_lt (blk_lt (g := gb278) (qy BK278.out)) : gb278 ≠ gb291))
               have n7_ := aM ((by rw [hg]; exact Nat.ne_of_gt (blk_lt (g := gb278) (qy BK278.out)) : gb291 ≠ gb278))
               clear HO_4
               clear BK278
               clear HB
               have HO_4 := n0_
               have BK278 := n1_
               have HB := n2_
               have BK291 := n3_
               have GW291 := n4_
               have GE291 := n5_
               have NB278_291 := n6_
               have NB291_278 := n7_
               clear n0_ n1_ n2_ n3_ n4_ n5_ n6_ n7_
               clear hb hbox hg
               refine hK.out _ _ ⟨HS0_, HS1_, HS2_⟩ (fun hHeld => ?_)
               clear hK K
               refine norm_ (a' := ?_) ?_ ?_
               rotate_left
               ·show Act.put _ (some 8) _ = _
                simp only [Act.put, sA, sZ, sS, i64_w, i32_w]
                rfl
               refine one_ (i := 9) (N := some 40) b64_ rfl rfl (one_of HT_.out (by kernel_rfl)) (by decide) (fun K hK => ?_)
               refine goes_ Tryd.func50 (by kernel_rfl) rfl #[.string (rdOf ByteArray.empty t279 2)] (by rfl) rfl rfl (by (try simp only [mT, mC, mN]); first | done | rfl | (simp only [lD, lT]; rfl)) ?_
               with_reducible refine (bureauref18_number.calls k1 (rdOf ByteArray.empty t279 2) t288 _ A15.out).mono ?_
               rintro e w' ⟨rfl, ⟨nd, rfl⟩⟩
               refine ⟨_, rfl, ?_⟩
               refine hK.out _ _ ⟨hHeld.1, hHeld.2.1, hHeld.2.2⟩ (fun hHeld => ?_)
               clear hK K
               refine norm_ (a' := ?_) ?_ ?_
               rotate_left
               ·show Act.put _ (some 40) _ = _
                simp only [Act.put, sA, sZ, sS, i64_w, i32_w]
                rfl
               refine one_ (i := 13) (N := some 44) b66_ rfl rfl (one_of HT_.out (by kernel_rfl)) (by decide) (fun K hK => ?_)
               refine goes_ Tryd.func50 (by kernel_rfl) rfl #[.string (rdOf ByteArray.empty t279 3)] (by rfl) rfl rfl (by (try simp only [mT, mC, mN]); first | done | rfl | (simp only [lD, lT]; rfl)) ?_
               with_reducible refine (bureauref18_number.calls k1 (rdOf ByteArray.empty t279 3) t290 _ A17.out).mono ?_
               rintro e w' ⟨rfl, ⟨nd, rfl⟩⟩
               refine ⟨_, rfl, ?_⟩
               refine hK.out _ _ ⟨hHeld.1, hHeld.2.1, hHeld.2.2⟩ (fun hHeld => ?_)
               clear hK K
               refine norm_ (a' := ?_) ?_ ?_
               rotate_left
               ·show Act.put _ (some 44) _ = _
                simp only [Act.put, sA, sZ, sS, i64_w, i32_w]
                rfl
               refine pure_ (i := 14) (N := some 45) (v := ?_) (a' := ?_) b58_ rfl rfl (any_of HT_.out (by kernel_rfl)) (fun _ _ _ h => h) (Or.inl ⟨by rfl, ?_⟩) ?_ ?_
               rotate_left
               ·intro w'
                go_simp
                with_reducible rfl
               rotate_left
               ·simp only [Act.put, sA, sZ, sS, i64_w, i32_w]
                rfl
               exact norm_ (by simp only [putAll, Act.put, sA, sZ, sS]) (hCont (gb291) _ ⟨hHeld, (ry HO_4.out), (qy BK278.out), (qy BK291.out), GW291.out, GE291.out, NB278_291.out, NB291_278.out, (by repeat (first | (with_reducible first | exact HB.out | apply ea | apply en | apply ed | refine es ?_ GE278.out | refine es ?_ GE291.out) | exact HB.out))⟩)
             ·skip
              refine box_step ?hg (N := 8) ?hd (cs := #[.int .u64 0, .int .i64 0, .int .i64 0, .int .i64 0, .int .i64 0]) (t := 38) ?hr ?_; (case hd | hg => rfl); (case hr => first | (go_simp; done) | (go_simp; rfl))
              intro gb291 hg w22 hbox hb
              have HS0_ := (hb.cell (World.block_lt_of_cell? _ _ (hHeld.1))).trans (hHeld.1)
              have HS1_ := (hb.cell (World.block_lt_of_cell? _ _ (hHeld.2.1))).trans (hHeld.2.1)
              have HS2_ := (hb.cell (World.block_lt_of_cell? _ _ (hHeld.2.2))).trans (hHeld.2.2)
              have n0_ := aM (Kd.R_below (ry HO_4.out) hb)
              have n1_ := aM (bB (g := gb278) (qy BK278.out) hb)
              have n2_ := aM (bP (by repeat (first | (with_reducible first | exact HB.out | apply ea | apply en | apply ed | refine es ?_ GE278.out) | exact HB.out)) hb)
              have n3_ := aM (hbox)
              have n4_ := aM ((by rw [hg]; exact (bZ (by repeat (first | (with_reducible first | exact HB.out | apply ea | apply en | apply ed | refine es ?_ GE278.out) | exact HB.out))) : w.heap.size ≤ gb291))
              have n5_ := aM ((by rw [hg]; exact (bZ (by repeat (first | (with_reducible first | exact HB.out | apply ea | apply en | apply ed | refine es ?_ GE278.out) | exact HB.out))) : w.heap.size ≤ gb291))
              have n6_ := aM ((by rw [hg]; exact Nat.ne_of_lt (blk_lt (g := gb278) (qy BK278.out)) : gb278 ≠ gb291))
              have n7_ := aM ((by rw [hg]; exact Nat.ne_of_gt (blk_lt (g := gb278) (qy BK278.out)) : gb291 ≠ gb278))
              clear HO_4
              clear BK278
              clear HB
              have HO_4 := n0_
              have BK278 := n1_
              have HB := n2_
              have BK291 := n3_
              have GW291 := n4_
              have GE291 := n5_
              have NB278_291 := n6_
              have NB291_278 := n7_
              clear n0_ n1_ n2_ n3_ n4_ n5_ n6_ n7_
              clear hb hbox hg
              refine hK.out _ _ ⟨HS0_, HS1_, HS2_⟩ (fun hHeld => ?_)
              clear hK K
              refine norm_ (a' := ?_) ?_ ?_
              rotate_left
              ·show Act.put _ (some 8) _ = _
               simp only [Act.put, sA, sZ, sS, i64_w, i32_w]
               rfl
              refine one_ (i := 5) (N := some 36) b62_ rfl rfl (one_of HT_.out (by kernel_rfl)) (by decide) (fun K hK => ?_)
              refine goes_ Tryd.func50 (by kernel_rfl) rfl #[.string (rdOf ByteArray.empty t279 1)] (by rfl) rfl rfl (by (try simp only [mT, mC, mN]); first | done | rfl | (simp only [lD, lT]; rfl)) ?_
              with_reducible refine (bureauref18_number.calls k1 (rdOf ByteArray.empty t279 1) t286 _ A13.out).mono ?_
              rintro e w' ⟨rfl, ⟨nd, rfl⟩⟩
              refine ⟨_, rfl, ?_⟩
              refine hK.out _ _ ⟨hHeld.1, hHeld.2.1, hHeld.2.2⟩ (fun hHeld => ?_)
              clear hK K
              refine norm_ (a' := ?_) ?_ ?_
              rotate_left
              ·show Act.put _ (some 36) _ = _
               simp only [Act.put, sA, sZ, sS, i64_w, i32_w]
               rfl
              refine one_ (i := 9) (N := some 40) b64_ rfl rfl (one_of HT_.out (by kernel_rfl)) (by decide) (fun K hK => ?_)
              refine goes_ Tryd.func50 (by kernel_rfl) rfl #[.string (rdOf ByteArray.empty t279 2)] (by rfl) rfl rfl (by (try simp only [mT, mC, mN]); first | done | rfl | (simp only [lD, lT]; rfl)) ?_
              with_reducible refine (bureauref18_number.calls k1 (rdOf ByteArray.empty t279 2) t288 _ A15.out).mono ?_
              rintro e w' ⟨rfl, ⟨nd, rfl⟩⟩
              refine ⟨_, rfl, ?_⟩
              refine hK.out _ _ ⟨hHeld.1, hHeld.2.1, hHeld.2.2⟩ (fun hHeld => ?_)
              clear hK K
              refine norm_ (a' := ?_) ?_ ?_
              rotate_left
              ·show Act.put _ (some 40) _ = _
               simp only [Act.put, sA, sZ, sS, i64_w, i32_w]
               rfl
              refine one_ (i := 13) (N := some 44) b66_ rfl rfl (one_of HT_.out (by kernel_rfl)) (by decide) (fun K hK => ?_)
              refine goes_ Tryd.func50 (by kernel_rfl) rfl #[.string (rdOf ByteArray.empty t279 3)] (by rfl) rfl rfl (by (try simp only [mT, mC, mN]); first | done | rfl | (simp only [lD, lT]; rfl)) ?_
              with_reducible refine (bureauref18_number.calls k1 (rdOf ByteArray.empty t279 3) t290 _ A17.out).mono ?_
              rintro e w' ⟨rfl, ⟨nd, rfl⟩⟩
              refine ⟨_, rfl, ?_⟩
              refine hK.out _ _ ⟨hHeld.1, hHeld.2.1, hHeld.2.2⟩ (fun hHeld => ?_)
              clear hK K
              refine norm_ (a' := ?_) ?_ ?_
              rotate_left
              ·show Act.put _ (some 44) _ = _
               simp only [Act.put, sA, sZ, sS, i64_w, i32_w]
               rfl
              refine pure_ (i := 14) (N := some 45) (v := ?_) (a' := ?_) b58_ rfl rfl (any_of HT_.out (by kernel_rfl)) (fun _ _ _ h => h) (Or.inl ⟨by rfl, ?_⟩) ?_ ?_
              rotate_left
              ·intro w'
               go_simp
               with_reducible rfl
              rotate_left
              ·simp only [Act.put, sA, sZ, sS, i64_w, i32_w]
               rfl
              exact norm_ (by simp only [putAll, Act.put, sA, sZ, sS]) (hCont (gb291) _ ⟨hHeld, (ry HO_4.out), (qy BK278.out), (qy BK291.out), GW291.out, GE291.out, NB278_291.out, NB291_278.out, (by repeat (first | (with_reducible first | exact HB.out | apply ea | apply en | apply ed | refine es ?_ GE278.out | refine es ?_ GE291.out) | exact HB.out))⟩)
            rintro gb291 w23 ⟨hS_, h0_, h1_, h2_, h3_, h4_, h5_, h6_, h7_⟩
            have n0_ : Aside0 (Kd.R Kd.string 9 w23 w.heap.size (fun _ => True) (.slice (some ad282) t279.length co9) t279) := ⟨h0_⟩
            have n1_ : Aside0 (w23.heap[gb278]? = some (.cells #[.int .u64 x279000_1, .int .i64 x279001_1, .int .i64 x279002_1, .int .i64 x279003_1, .int .i64 x279004_1] 38 (0, 0))) := ⟨h1_⟩
            have n2_ : Aside0 (w23.heap[gb291]? = some (.cells #[.int .u64 0, .int .i64 0, .int .i64 0, .int .i64 0, .int .i64 0] 38 (0, 0))) := ⟨h2_⟩
            have n3_ : Aside0 (w.heap.size ≤ gb291) := ⟨h3_⟩
            have n4_ : Aside0 (w.heap.size ≤ gb291) := ⟨h4_⟩
            have n5_ : Aside0 (gb278 ≠ gb291) := ⟨h5_⟩
            have n6_ : Aside0 (gb291 ≠ gb278) := ⟨h6_⟩
            have n7_ : Aside0 (Below w.heap.size w w23) := ⟨h7_⟩
            clear HO_4
            clear BK278
            clear HB
            clear h0_ h1_ h2_ h3_ h4_ h5_ h6_ h7_
            have HO_4 := n0_
            have BK278 := n1_
            have BK291 := n2_
            have GW291 := n3_
            have GE291 := n4_
            have NB278_291 := n5_
            have NB291_278 := n6_
            have HB := n7_
            clear n0_ n1_ n2_ n3_ n4_ n5_ n6_ n7_
            have hHeld : w23.cell? ⟨ad282.block, ad282.off + 1, none⟩ = some (.string (rdOf ByteArray.empty t279 1)) ∧ w23.cell? ⟨ad282.block, ad282.off + 2, none⟩ = some (.string (rdOf ByteArray.empty t279 2)) ∧ w23.cell? ⟨ad282.block, ad282.off + 3, none⟩ = some (.string (rdOf ByteArray.empty t279 3)) := hS_
            refine norm_ (a' := ?_) ?_ ?_
            rotate_left
            ·simp only [putAll, Act.put, sA, sZ, sS]
             rfl
            refine one_ (i := 16) (N := none) b67_ rfl rfl (one_of HT_.out (by kernel_rfl)) (by decide) (fun K hK => ?_)
            have hs24 : w23.cell? ⟨gb291, 0, none⟩ = some (.int .u64 0) := (bC BK291.out 0).trans rfl
            have hfs24 := bF BK291.out 0
            have hns24_0 := NB278_291.out
            have hms24_0 := NB291_278.out
            have hs25 : w23.cell? ⟨gb291, 1, none⟩ = some (.int .i64 0) := (bC BK291.out 1).trans rfl
            have hfs25 := bF BK291.out 1
            have hns25_0 := NB278_291.out
            have hms25_0 := NB291_278.out
            have hs26 : w23.cell? ⟨gb291, 2, none⟩ = some (.int .i64 0) := (bC BK291.out 2).trans rfl
            have hfs26 := bF BK291.out 2
            have hns26_0 := NB278_291.out
            have hms26_0 := NB291_278.out
            have hs27 : w23.cell? ⟨gb291, 3, none⟩ = some (.int .i64 0) := (bC BK291.out 3).trans rfl
            have hfs27 := bF BK291.out 3
            have hns27_0 := NB278_291.out
            have hms27_0 := NB291_278.out
            have hs28 : w23.cell? ⟨gb291, 4, none⟩ = some (.int .i64 0) := (bC BK291.out 4).trans rfl
            have hfs28 := bF BK291.out 4
            have hns28_0 := NB278_291.out
            have hms28_0 := NB291_278.out
            refine skip_ (w1 := ?_) (by rfl) rfl ?_ ?_
            rotate_left
            ·go_simp
             rfl
            refine hK.out _ _ ⟨((cell_far (p := ⟨gb291, _, none⟩) (by first | (dsimp only; with_reducible exact Kd.own_blk (Kd.R_ne HO_4.out BK291.out (by decide))) | exact Kd.own_blk (Kd.R_ne HO_4.out BK291.out (by decide)) | (rw [add_block]; exact Kd.own_blk (Kd.R_ne HO_4.out BK291.out (by decide))) | (show (Addr.add _ _).block ≠ _; rw [add_block]; exact Kd.own_blk (Kd.R_ne HO_4.out BK291.out (by decide))) | (dsimp only; exact Kd.own_blk (Kd.R_ne HO_4.out BK291.out (by decide)))) _).trans (((cell_far (p := ⟨gb291, _, none⟩) (by first | (dsimp only; with_reducible exact Kd.own_blk (Kd.R_ne HO_4.out BK291.out (by decide))) | exact Kd.own_blk (Kd.R_ne HO_4.out BK291.out (by decide)) | (rw [add_block]; exact Kd.own_blk (Kd.R_ne HO_4.out BK291.out (by decide))) | (show (Addr.add _ _).block ≠ _; rw [add_block]; exact Kd.own_blk (Kd.R_ne HO_4.out BK291.out (by decide))) | (dsimp only; exact Kd.own_blk (Kd.R_ne HO_4.out BK291.out (by decide)))) _).trans (((cell_far (p := ⟨gb291, _, none⟩) (by first | (dsimp only; with_reducible exact Kd.own_blk (Kd.R_ne HO_4.out BK291.out (by decide))) | exact Kd.own_blk (Kd.R_ne HO_4.out BK291.out (by decide)) | (rw [add_block]; exact Kd.own_blk (Kd.R_ne HO_4.out BK291.out (by decide))) | (show (Addr.add _ _).block ≠ _; rw [add_block]; exact Kd.own_blk (Kd.R_ne HO_4.out BK291.out (by decide))) | (dsimp only; exact Kd.own_blk (Kd.R_ne HO_4.out BK291.out (by decide)))) _).trans (((cell_far (p := ⟨gb291, _, none⟩) (by first | (dsimp only; with_reducible exact Kd.own_blk (Kd.R_ne HO_4.out BK291.out (by decide))) | exact Kd.own_blk (Kd.R_ne HO_4.out BK291.out (by decide)) | (rw [add_block]; exact Kd.own_blk (Kd.R_ne HO_4.out BK291.out (by decide))) | (show (Addr.add _ _).block ≠ _; rw [add_block]; exact Kd.own_blk (Kd.R_ne HO_4.out BK291.out (by decide))) | (dsimp only; exact Kd.own_blk (Kd.R_ne HO_4.out BK291.out (by decide)))) _).trans (((cell_far (p := ⟨gb291, _, none⟩) (by first | (dsimp only; with_reducible exact Kd.own_blk (Kd.R_ne HO_4.out BK291.out (by decide))) | exact Kd.own_blk (Kd.R_ne HO_4.out BK291.out (by decide)) | (rw [add_block]; exact Kd.own_blk (Kd.R_ne HO_4.out BK291.out (by decide))) | (show (Addr.add _ _).block ≠ _; rw [add_block]; exact Kd.own_blk (Kd.R_ne HO_4.out BK291.out (by decide))) | (dsimp only; exact Kd.own_blk (Kd.R_ne HO_4.out BK291.out (by decide)))) _).trans (hHeld.1)))))))))), ((cell_far (p := ⟨gb291, _, none⟩) (by first | (dsimp only; with_reducible exact Kd.own_blk (Kd.R_ne HO_4.out BK291.out (by decide))) | exact Kd.own_blk (Kd.R_ne HO_4.out BK291.out (by decide)) | (rw [add_block]; exact Kd.own_blk (Kd.R_ne HO_4.out BK291.out (by decide))) | (show (Addr.add _ _).block ≠ _; rw [add_block]; exact Kd.own_blk (Kd.R_ne HO_4.out BK291.out (by decide))) | (dsimp only; exact Kd.own_blk (Kd.R_ne HO_4.out BK291.out (by decide)))) _).trans (((cell_far (p := ⟨gb291, _, none⟩) (by first | (dsimp only; with_reducible exact Kd.own_blk (Kd.R_ne HO_4.out BK291.out (by decide))) | exact Kd.own_blk (Kd.R_ne HO_4.out BK291.out (by decide)) | (rw [add_block]; exact Kd.own_blk (Kd.R_ne HO_4.out BK291.out (by decide))) | (show (Addr.add _ _).block ≠ _; rw [add_block]; exact Kd.own_blk (Kd.R_ne HO_4.out BK291.out (by decide))) | (dsimp only; exact Kd.own_blk (Kd.R_ne HO_4.out BK291.out (by decide)))) _).trans (((cell_far (p := ⟨gb291, _, none⟩) (by first | (dsimp only; with_reducible exact Kd.own_blk (Kd.R_ne HO_4.out BK291.out (by decide))) | exact Kd.own_blk (Kd.R_ne HO_4.out BK291.out (by decide)) | (rw [add_block]; exact Kd.own_blk (Kd.R_ne HO_4.out BK291.out (by decide))) | (show (Addr.add _ _).block ≠ _; rw [add_block]; exact Kd.own_blk (Kd.R_ne HO_4.out BK291.out (by decide))) | (dsimp only; exact Kd.own_blk (Kd.R_ne HO_4.out BK291.out (by decide)))) _).trans (((cell_far (p := ⟨gb291, _, none⟩) (by first | (dsimp only; with_reducible exact Kd.own_blk (Kd.R_ne HO_4.out BK291.out (by decide))) | exact Kd.own_blk (Kd.R_ne HO_4.out BK291.out (by decide)) | (rw [add_block]; exact Kd.own_blk (Kd.R_ne HO_4.out BK291.out (by decide))) | (show (Addr.add _ _).block ≠ _; rw [add_block]; exact Kd.own_blk (Kd.R_ne HO_4.out BK291.out (by decide))) | (dsimp only; exact Kd.own_blk (Kd.R_ne HO_4.out BK291.out (by decide)))) _).trans (((cell_far (p := ⟨gb291, _, none⟩) (by first | (dsimp only; with_reducible exact Kd.own_blk (Kd.R_ne HO_4.out BK291.out (by decide))) | exact Kd.own_blk (Kd.R_ne HO_4.out BK291.out (by decide)) | (rw [add_block]; exact Kd.own_blk (Kd.R_ne HO_4.out BK291.out (by decide))) | (show (Addr.add _ _).block ≠ _; rw [add_block]; exact Kd.own_blk (Kd.R_ne HO_4.out BK291.out (by decide))) | (dsimp only; exact Kd.own_blk (Kd.R_ne HO_4.out BK291.out (by decide)))) _).trans (hHeld.2.1)))))))))), ((cell_far (p := ⟨gb291, _, none⟩) (by first | (dsimp only; with_reducible exact Kd.own_blk (Kd.R_ne HO_4.out BK291.out (by decide))) | exact Kd.own_blk (Kd.R_ne HO_4.out BK291.out (by decide)) | (rw [add_block]; exact Kd.own_blk (Kd.R_ne HO_4.out BK291.out (by decide))) | (show (Addr.add _ _).block ≠ _; rw [add_block]; exact Kd.own_blk (Kd.R_ne HO_4.out BK291.out (by decide))) | (dsimp only; exact Kd.own_blk (Kd.R_ne HO_4.out BK291.out (by decide)))) _).trans (((cell_far (p := ⟨gb291, _, none⟩) (by first | (dsimp only; with_reducible exact Kd.own_blk (Kd.R_ne HO_4.out BK291.out (by decide))) | exact Kd.own_blk (Kd.R_ne HO_4.out BK291.out (by decide)) | (rw [add_block]; exact Kd.own_blk (Kd.R_ne HO_4.out BK291.out (by decide))) | (show (Addr.add _ _).block ≠ _; rw [add_block]; exact Kd.own_blk (Kd.R_ne HO_4.out BK291.out (by decide))) | (dsimp only; exact Kd.own_blk (Kd.R_ne HO_4.out BK291.out (by decide)))) _).trans (((cell_far (p := ⟨gb291, _, none⟩) (by first | (dsimp only; with_reducible exact Kd.own_blk (Kd.R_ne HO_4.out BK291.out (by decide))) | exact Kd.own_blk (Kd.R_ne HO_4.out BK291.out (by decide)) | (rw [add_block]; exact Kd.own_blk (Kd.R_ne HO_4.out BK291.out (by decide))) | (show (Addr.add _ _).block ≠ _; rw [add_block]; exact Kd.own_blk (Kd.R_ne HO_4.out BK291.out (by decide))) | (dsimp only; exact Kd.own_blk (Kd.R_ne HO_4.out BK291.out (by decide)))) _).trans (((cell_far (p := ⟨gb291, _, none⟩) (by first | (dsimp only; with_reducible exact Kd.own_blk (Kd.R_ne HO_4.out BK291.out (by decide))) | exact Kd.own_blk (Kd.R_ne HO_4.out BK291.out (by decide)) | (rw [add_block]; exact Kd.own_blk (Kd.R_ne HO_4.out BK291.out (by decide))) | (show (Addr.add _ _).block ≠ _; rw [add_block]; exact Kd.own_blk (Kd.R_ne HO_4.out BK291.out (by decide))) | (dsimp only; exact Kd.own_blk (Kd.R_ne HO_4.out BK291.out (by decide)))) _).trans (((cell_far (p := ⟨gb291, _, none⟩) (by first | (dsimp only; with_reducible exact Kd.own_blk (Kd.R_ne HO_4.out BK291.out (by decide))) | exact Kd.own_blk (Kd.R_ne HO_4.out BK291.out (by decide)) | (rw [add_block]; exact Kd.own_blk (Kd.R_ne HO_4.out BK291.out (by decide))) | (show (Addr.add _ _).block ≠ _; rw [add_block]; exact Kd.own_blk (Kd.R_ne HO_4.out BK291.out (by decide))) | (dsimp only; exact Kd.own_blk (Kd.R_ne HO_4.out BK291.out (by decide)))) _).trans (hHeld.2.2))))))))))⟩ (fun hHeld => ?_)
            clear hK K
            refine done_ (done_of HT_.out (by kernel_rfl)) ?_
            have hnb29 := NB291_278.out
            have hnc29 := NB278_291.out
            have hcz30_0 := zC BK291.out 0 (.int .u64 0)
            have hcz30_1 := zC BK291.out 1 (.int .i64 0)
            have hcz30_2 := zC BK291.out 2 (.int .i64 0)
            have hcz30_3 := zC BK291.out 3 (.int .i64 0)
            have hcz30_4 := zC BK291.out 4 (.int .i64 0)
            have hfz30_0 := bF BK291.out 0
            have hfz30_1 := bF BK291.out 1
            have hfz30_2 := bF BK291.out 2
            have hfz30_3 := bF BK291.out 3
            have hfz30_4 := bF BK291.out 4
            try go_wp2_with (first | ((with_reducible refine gate_callee (f := 27) rfl ?_); refine goesL_ (some 48) rfl rfl Tryd.func27 (by kernel_rfl) rfl #[.agg #[.int .u64 t283, .int .i64 x7_1, .int .i64 t286, .int .i64 t288, .int .i64 t290]] rfl (by (try simp only [mT, mC, mN]); first | done | rfl | (simp only [lD, lT]; rfl)) ?_; (with_reducible refine (bureauref18_Print.calls k1 t283 x7_1 t286 t288 t290 t292 t293 _ A18.out).mono ?_); rintro e w31 ⟨rfl, hb⟩; refine ⟨_, rfl, ?_⟩; have n0_ := aM (Kd.R_below (by (with_reducible repeat (first | apply ra | apply rn | apply rd_)); exact (rM (rF (p := ⟨gb291, 4, none⟩) (rF (p := ⟨gb291, 3, none⟩) (rF (p := ⟨gb291, 2, none⟩) (rF (p := ⟨gb291, 1, none⟩) (rF (p := ⟨gb291, 0, none⟩) (rT HO_4.out BK291.out (by decide)) (fun _ hk => hk.2) (.int .u64 t283)) (fun _ hk => hk.2) (.int .i64 x7_1)) (fun _ hk => hk.2) (.int .i64 t286)) (fun _ hk => hk.2) (.int .i64 t288)) (fun _ hk => hk.2) (.int .i64 t290)) (fun _ h_ => h_.1))) hb); have n1_ := aM (bB (g := gb278) (o := .cells #[.int .u64 x279000_1, .int .i64 x279001_1, .int .i64 x279002_1, .int .i64 x279003_1, .int .i64 x279004_1] 38 (0, 0)) (by (with_reducible repeat (first | apply qn | apply qd | apply qa)); refine bR ?_ NB278_291.out _; (with_reducible repeat (first | apply qn | apply qd | apply qa)); refine bR ?_ NB278_291.out _; (with_reducible repeat (first | apply qn | apply qd | apply qa)); refine bR ?_ NB278_291.out _; (with_reducible repeat (first | apply qn | apply qd | apply qa)); refine bR ?_ NB278_291.out _; (with_reducible repeat (first | apply qn | apply qd | apply qa)); refine bR ?_ NB278_291.out _; exact qy BK278.out) hb); have n2_ := aM (bB (g := gb291) (o := .cells #[.int .u64 t283, .int .i64 x7_1, .int .i64 t286, .int .i64 t288, .int .i64 t290] 38 (0, 0)) (by (with_reducible repeat (first | apply qn | apply qd | apply qa)); refine bU (cs := #[.int .u64 t283, .int .i64 x7_1, .int .i64 t286, .int .i64 t288, .int .i64 0]) ?_ 4 _ rfl; (with_reducible repeat (first | apply qn | apply qd | apply qa)); refine bU (cs := #[.int .u64 t283, .int .i64 x7_1, .int .i64 t286, .int .i64 0, .int .i64 0]) ?_ 3 _ rfl; (with_reducible repeat (first | apply qn | apply qd | apply qa)); refine bU (cs := #[.int .u64 t283, .int .i64 x7_1, .int .i64 0, .int .i64 0, .int .i64 0]) ?_ 2 _ rfl; (with_reducible repeat (first | apply qn | apply qd | apply qa)); refine bU (cs := #[.int .u64 t283, .int .i64 0, .int .i64 0, .int .i64 0, .int .i64 0]) ?_ 1 _ rfl; (with_reducible repeat (first | apply qn | apply qd | apply qa)); refine bU (cs := #[.int .u64 0, .int .i64 0, .int .i64 0, .int .i64 0, .int .i64 0]) ?_ 0 _ rfl; exact qy BK291.out) hb); have n3_ := aM (bP (by repeat (first | (with_reducible first | exact HB.out | apply ea | apply en | apply ed | refine es ?_ GE278.out | refine es ?_ GE291.out) | exact HB.out)) hb); clear HO_4 BK278 BK291 HB; have HO_4 := n0_; have BK278 := n1_; have BK291 := n2_; have HB := n3_; clear n0_ n1_ n2_ n3_; (try clear hb); (try clear hb2); (try clear hk); (try clear hi); have hcz32_0 := zC BK291.out 0 (.int .u64 t283); have hcz32_1 := zC BK291.out 1 (.int .i64 x7_1); have hcz32_2 := zC BK291.out 2 (.int .i64 t286); have hcz32_3 := zC BK291.out 3 (.int .i64 t288); have hcz32_4 := zC BK291.out 4 (.int .i64 t290); have hfz32_0 := bF BK291.out 0; have hfz32_1 := bF BK291.out 1; have hfz32_2 := bF BK291.out 2; have hfz32_3 := bF BK291.out 3; have hfz32_4 := bF BK291.out 4; have hcz33_0 := zC BK278.out 0 (.int .u64 x279000_1); have hcz33_1 := zC BK278.out 1 (.int .i64 x279001_1); have hcz33_2 := zC BK278.out 2 (.int .i64 x279002_1); have hcz33_3 := zC BK278.out 3 (.int .i64 x279003_1); have hcz33_4 := zC BK278.out 4 (.int .i64 x279004_1); have hfz33_0 := bF BK278.out 0; have hfz33_1 := bF BK278.out 1; have hfz33_2 := bF BK278.out 2; have hfz33_3 := bF BK278.out 3; have hfz33_4 := bF BK278.out 4))
            refine bodyPost_ret (results_ct rfl _ _ gb278 38 #[.int .u64 t283, .int .i64 x7_1, .int .i64 t286, .int .i64 t288, .int .i64 t290] (0, 0) _ rfl (by (with_reducible repeat (first | apply qn | apply qd | apply qa)); refine bU (cs := #[.int .u64 t283, .int .i64 x7_1, .int .i64 t286, .int .i64 t288, .int .i64 x279004_1]) ?_ 4 _ rfl; (with_reducible repeat (first | apply qn | apply qd | apply qa)); refine bU (cs := #[.int .u64 t283, .int .i64 x7_1, .int .i64 t286, .int .i64 x279003_1, .int .i64 x279004_1]) ?_ 3 _ rfl; (with_reducible repeat (first | apply qn | apply qd | apply qa)); refine bU (cs := #[.int .u64 t283, .int .i64 x7_1, .int .i64 x279002_1, .int .i64 x279003_1, .int .i64 x279004_1]) ?_ 2 _ rfl; (with_reducible repeat (first | apply qn | apply qd | apply qa)); refine bU (cs := #[.int .u64 t283, .int .i64 x279001_1, .int .i64 x279002_1, .int .i64 x279003_1, .int .i64 x279004_1]) ?_ 1 _ rfl; (with_reducible repeat (first | apply qn | apply qd | apply qa)); refine bU (cs := #[.int .u64 x279000_1, .int .i64 x279001_1, .int .i64 x279002_1, .int .i64 x279003_1, .int .i64 x279004_1]) ?_ 0 _ rfl; exact qy BK278.out) Tryd.underlying38 rfl (by kernel_rfl)) rfl ?_
            exact ⟨by first | rfl | (simp [errW_none, errW_some] <;> rfl) | (simp [*, errW_none, errW_some] <;> rfl), by repeat (first | (with_reducible first | exact HB.out | apply ea | apply en | apply ed | refine es ?_ GE278.out | refine es ?_ GE291.out) | exact HB.out)⟩
           ·rw [if_neg c20] at H
            have c20b0 : (t292.toList == a0.toList) = false := beq_eq_false_iff_ne.mpr c20
            have c20b1 : (t292.toList != a0.toList) = true := bne_iff_ne.mpr c20
            have H' := aM H
            clear H
            try go_wp2
            have n0_ := aM (Kd.R_drew HO_4.out)
            have n1_ := aM (blk_drew BK278.out)
            have n2_ := aM (below_drew1 HB.out)
            clear HO_4
            clear BK278
            clear HB
            have HO_4 := n0_
            have BK278 := n1_
            have HB := n2_
            clear n0_ n1_ n2_
            have p285 : 0 ≤ (1 : Int) := (by omega)
            have q285 : 1 < (t279.length : Int) := of_decide_eq_true (by first | (with_reducible assumption) | assumption)
            obtain ⟨ad285, e285, hx285_0⟩ := Kd.at_string (rR HO_4.out).2.2 1 p285 q285
            obtain rfl : ad282 = ad285 := (by injection e285)
            (try simp only [show (1 : Int).toNat = 1 from rfl, Nat.reduceMul, Nat.reduceEqDiff, Go.Addr.add, ↓reduceIte] at hx285_0)
            have qi285 : (1 < t279.length) = True := eq_true (by omega)
            (try rw [show ((1 : Int)).toNat = 1 from rfl] at hx285_0)
            replace p285 := eq_true p285
            replace q285 := eq_true q285
            have p287 : 0 ≤ (2 : Int) := (by omega)
            have q287 : 2 < (t279.length : Int) := of_decide_eq_true (by first | (with_reducible assumption) | assumption)
            obtain ⟨ad287, e287, hx287_0⟩ := Kd.at_string (rR HO_4.out).2.2 2 p287 q287
            obtain rfl : ad282 = ad287 := (by injection e287)
            (try simp only [show (2 : Int).toNat = 2 from rfl, Nat.reduceMul, Nat.reduceEqDiff, Go.Addr.add, ↓reduceIte] at hx287_0)
            have qi287 : (2 < t279.length) = True := eq_true (by omega)
            (try rw [show ((2 : Int)).toNat = 2 from rfl] at hx287_0)
            replace p287 := eq_true p287
            replace q287 := eq_true q287
            have p289 : 0 ≤ (3 : Int) := (by omega)
            have q289 : 3 < (t279.length : Int) := of_decide_eq_true (by first | (with_reducible assumption) | assumption)
            obtain ⟨ad289, e289, hx289_0⟩ := Kd.at_string (rR HO_4.out).2.2 3 p289 q289
            obtain rfl : ad282 = ad289 := (by injection e289)
            (try simp only [show (3 : Int).toNat = 3 from rfl, Nat.reduceMul, Nat.reduceEqDiff, Go.Addr.add, ↓reduceIte] at hx289_0)
            have qi289 : (3 < t279.length) = True := eq_true (by omega)
            (try rw [show ((3 : Int)).toNat = 3 from rfl] at hx289_0)
            replace p289 := eq_true p289
            replace q289 := eq_true q289
            refine start_ (n := 17) (S := fun w' => w'.cell? ⟨ad282.block, ad282.off + 1, none⟩ = some (.string (rdOf ByteArray.empty t279 1)) ∧ w'.cell? ⟨ad282.block, ad282.off + 2, none⟩ = some (.string (rdOf ByteArray.empty t279 2)) ∧ w'.cell? ⟨ad282.block, ad282.off + 3, none⟩ = some (.string (rdOf ByteArray.empty t279 3))) (ds := []) b46_ (by kernel_rfl) rfl rfl ⟨hx285_0, hx287_0, hx289_0⟩ (fun hHeld => ?_); refine with_tabW bureauref18_Parse.tab10 bureauref18_Parse.bits10 (fun HT_ HW_ => ?_)
            generalize wr.drew = w34 at HO_4 BK278 HB hx285_0 hx287_0 hx289_0 hHeld ⊢
            refine pure_ (i := 0) (N := some 31) (v := ?_) (a' := ?_) b47_ rfl rfl (any_of HT_.out (by kernel_rfl)) (fun _ _ _ h => h) (Or.inl ⟨by rfl, ?_⟩) ?_ ?_
            rotate_left
            ·intro w'
             go_simp
             with_reducible rfl
            rotate_left
            ·simp only [Act.put, sA, sZ, sS, i64_w, i32_w]
             rfl
            refine pure_ (i := 1) (N := some 32) (v := ?_) (a' := ?_) b48_ rfl rfl (any_of HT_.out (by kernel_rfl)) (fun _ _ _ h => h) (Or.inl ⟨by rfl, ?_⟩) ?_ ?_
            rotate_left
            ·intro w'
             go_simp
             with_reducible rfl
            rotate_left
            ·simp only [Act.put, sA, sZ, sS, i64_w, i32_w]
             rfl
            refine pure_ (i := 2) (N := some 33) (v := ?_) (a' := ?_) b49_ rfl rfl (any_of HT_.out (by kernel_rfl)) (fun _ _ _ h => h) (Or.inl ⟨by rfl, ?_⟩) ?_ ?_
            rotate_left
            ·intro w'
             go_simp
             with_reducible rfl
            rotate_left
            ·simp only [Act.put, sA, sZ, sS, i64_w, i32_w]
             rfl
            refine pure_ (i := 3) (N := some 34) (v := ?_) (a' := ?_) b50_ rfl rfl (any_of HT_.out (by kernel_rfl)) (fun _ _ _ h => h) (Or.inl ⟨by rfl, ?_⟩) ?_ ?_
            rotate_left
            ·intro w'
             go_simp
             with_reducible rfl
            rotate_left
            ·simp only [Act.put, sA, sZ, sS, i64_w, i32_w]
             rfl
            refine pure_ (i := 6) (N := some 37) (v := ?_) (a' := ?_) b51_ rfl rfl (any_of HT_.out (by kernel_rfl)) (fun _ _ _ h => h) (Or.inl ⟨by rfl, ?_⟩) ?_ ?_
            rotate_left
            ·intro w'
             go_simp
             with_reducible rfl
            rotate_left
            ·simp only [Act.put, sA, sZ, sS, i64_w, i32_w]
             rfl
            refine pure_ (i := 7) (N := some 38) (v := ?_) (a' := ?_) b52_ rfl rfl (any_of HT_.out (by kernel_rfl)) (fun _ _ _ h => h) (Or.inl ⟨by rfl, ?_⟩) ?_ ?_
            rotate_left
            ·intro w'
             go_simp
             with_reducible rfl
            rotate_left
            ·simp only [Act.put, sA, sZ, sS, i64_w, i32_w]
             rfl
            refine pure_ (i := 10) (N := some 41) (v := ?_) (a' := ?_) b53_ rfl rfl (any_of HT_.out (by kernel_rfl)) (fun _ _ _ h => h) (Or.inl ⟨by rfl, ?_⟩) ?_ ?_
            rotate_left
            ·intro w'
             go_simp
             with_reducible rfl
            rotate_left
            ·simp only [Act.put, sA, sZ, sS, i64_w, i32_w]
             rfl
            refine pure_ (i := 11) (N := some 42) (v := ?_) (a' := ?_) b54_ rfl rfl (any_of HT_.out (by kernel_rfl)) (fun _ _ _ h => h) (Or.inl ⟨by rfl, ?_⟩) ?_ ?_
            rotate_left
            ·intro w'
             go_simp
             with_reducible rfl
            rotate_left
            ·simp only [Act.put, sA, sZ, sS, i64_w, i32_w]
             rfl
            refine take_ (i := 4) (N := some 35) (v := ?_) (a' := ?_) b55_ rfl rfl (take_ofW HT_.out HW_.out (by kernel_rfl)) (fun _ _ _ h => h) (Or.inl ⟨by rfl, ?_⟩) hHeld ?_ ?_
            rotate_left
            ·rintro w' ⟨s0, s1, s2⟩
             go_simp
             with_reducible rfl
            rotate_left
            ·simp only [Act.put, sA, sZ, sS, i64_w, i32_w]
             rfl
            refine take_ (i := 8) (N := some 39) (v := ?_) (a' := ?_) b56_ rfl rfl (take_ofW HT_.out HW_.out (by kernel_rfl)) (fun _ _ _ h => h) (Or.inl ⟨by rfl, ?_⟩) hHeld ?_ ?_
            rotate_left
            ·rintro w' ⟨s0, s1, s2⟩
             go_simp
             with_reducible rfl
            rotate_left
            ·simp only [Act.put, sA, sZ, sS, i64_w, i32_w]
             rfl
            refine take_ (i := 12) (N := some 43) (v := ?_) (a' := ?_) b57_ rfl rfl (take_ofW HT_.out HW_.out (by kernel_rfl)) (fun _ _ _ h => h) (Or.inl ⟨by rfl, ?_⟩) hHeld ?_ ?_
            rotate_left
            ·rintro w' ⟨s0, s1, s2⟩
             go_simp
             with_reducible rfl
            rotate_left
            ·simp only [Act.put, sA, sZ, sS, i64_w, i32_w]
             rfl
            refine join_ (σ := Nat) 1 b58_ (fun s_ => [(36, .int .i64 t286), (40, .int .i64 t288), (44, .int .i64 t290), (8, .pointer (some ⟨s_, 0, none⟩)), (45, .agg #[.int .u64 t283, .int .i64 x7_1, .int .i64 t286, .int .i64 t288, .int .i64 t290])]) (fun s_ w' => (w'.cell? ⟨ad282.block, ad282.off + 1, none⟩ = some (.string (rdOf ByteArray.empty t279 1)) ∧ w'.cell? ⟨ad282.block, ad282.off + 2, none⟩ = some (.string (rdOf ByteArray.empty t279 2)) ∧ w'.cell? ⟨ad282.block, ad282.off + 3, none⟩ = some (.string (rdOf ByteArray.empty t279 3))) ∧ (Kd.R Kd.string 9 w' w.heap.size (fun _ => True) (.slice (some ad282) t279.length co9) t279) ∧ (w'.heap[gb278]? = some (.cells #[.int .u64 x279000_1, .int .i64 x279001_1, .int .i64 x279002_1, .int .i64 x279003_1, .int .i64 x279004_1] 38 (0, 0))) ∧ (w'.heap[s_]? = some (.cells #[.int .u64 0, .int .i64 0, .int .i64 0, .int .i64 0, .int .i64 0] 38 (0, 0))) ∧ (w.heap.size ≤ s_) ∧ (w.heap.size ≤ s_) ∧ (gb278 ≠ s_) ∧ (s_ ≠ gb278) ∧ (Below w.heap.size w w')) ?_ ?_
            rotate_left
            ·intro hCont
             refine two_ (i := 5) (j := 15) (Ni := some 36) (Nj := some 8) b59_ b60_ rfl rfl rfl rfl (two_of HT_.out (by kernel_rfl)) (by decide) (by decide) (fun K hK => ?_) (fun K hK => ?_)
             ·skip
              refine goes_ Tryd.func50 (by kernel_rfl) rfl #[.string (rdOf ByteArray.empty t279 1)] (by rfl) rfl rfl (by (try simp only [mT, mC, mN]); first | done | rfl | (simp only [lD, lT]; rfl)) ?_
              with_reducible refine (bureauref18_number.calls k1 (rdOf ByteArray.empty t279 1) t286 _ A13.out).mono ?_
              rintro e w' ⟨rfl, ⟨nd, rfl⟩⟩
              refine ⟨_, rfl, ?_⟩
              refine hK.out _ _ ⟨hHeld.1, hHeld.2.1, hHeld.2.2⟩ (fun hHeld => ?_)
              clear hK K
              refine norm_ (a' := ?_) ?_ ?_
              rotate_left
              ·show Act.put _ (some 36) _ = _
               simp only [Act.put, sA, sZ, sS, i64_w, i32_w]
               rfl
              refine two_ (i := 9) (j := 15) (Ni := some 40) (Nj := some 8) b61_ b62_ rfl rfl rfl rfl (two_of HT_.out (by kernel_rfl)) (by decide) (by decide) (fun K hK => ?_) (fun K hK => ?_)
              ·skip
               refine goes_ Tryd.func50 (by kernel_rfl) rfl #[.string (rdOf ByteArray.empty t279 2)] (by rfl) rfl rfl (by (try simp only [mT, mC, mN]); first | done | rfl | (simp only [lD, lT]; rfl)) ?_
               with_reducible refine (bureauref18_number.calls k1 (rdOf ByteArray.empty t279 2) t288 _ A15.out).mono ?_
               rintro e w' ⟨rfl, ⟨nd, rfl⟩⟩
               refine ⟨_, rfl, ?_⟩
               refine hK.out _ _ ⟨hHeld.1, hHeld.2.1, hHeld.2.2⟩ (fun hHeld => ?_)
               clear hK K
               refine norm_ (a' := ?_) ?_ ?_
               rotate_left
               ·show Act.put _ (some 40) _ = _
                simp only [Act.put, sA, sZ, sS, i64_w, i32_w]
                rfl
               refine two_ (i := 13) (j := 15) (Ni := some 44) (Nj := some 8) b63_ b64_ rfl rfl rfl rfl (two_of HT_.out (by kernel_rfl)) (by decide) (by decide) (fun K hK => ?_) (fun K hK => ?_)
               ·skip
                refine goes_ Tryd.func50 (by kernel_rfl) rfl #[.string (rdOf ByteArray.empty t279 3)] (by rfl) rfl rfl (by (try simp only [mT, mC, mN]); first | done | rfl | (simp only [lD, lT]; rfl)) ?_
                with_reducible refine (bureauref18_number.calls k1 (rdOf ByteArray.empty t279 3) t290 _ A17.out).mono ?_
                rintro e w' ⟨rfl, ⟨nd, rfl⟩⟩
                refine ⟨_, rfl, ?_⟩
                refine hK.out _ _ ⟨hHeld.1, hHeld.2.1, hHeld.2.2⟩ (fun hHeld => ?_)
                clear hK K
                refine norm_ (a' := ?_) ?_ ?_
                rotate_left
                ·show Act.put _ (some 44) _ = _
                 simp only [Act.put, sA, sZ, sS, i64_w, i32_w]
                 rfl
                refine pure_ (i := 14) (N := some 45) (v := ?_) (a' := ?_) b65_ rfl rfl (any_of HT_.out (by kernel_rfl)) (fun _ _ _ h => h) (Or.inl ⟨by rfl, ?_⟩) ?_ ?_
                rotate_left
                ·intro w'
                 go_simp
                 with_reducible rfl
                rotate_left
                ·simp only [Act.put, sA, sZ, sS, i64_w, i32_w]
                 rfl
                refine one_ (i := 15) (N := some 8) b58_ rfl rfl (one_of HT_.out (by kernel_rfl)) (by decide) (fun K hK => ?_)
                refine box_step ?hg (N := 8) ?hd (cs := #[.int .u64 0, .int .i64 0, .int .i64 0, .int .i64 0, .int .i64 0]) (t := 38) ?hr ?_; (case hd | hg => rfl); (case hr => first | (go_simp; done) | (go_simp; rfl))
                intro gb291 hg w35 hbox hb
                have HS0_ := (hb.cell (World.block_lt_of_cell? _ _ (hHeld.1))).trans (hHeld.1)
                have HS1_ := (hb.cell (World.block_lt_of_cell? _ _ (hHeld.2.1))).trans (hHeld.2.1)
                have HS2_ := (hb.cell (World.block_lt_of_cell? _ _ (hHeld.2.2))).trans (hHeld.2.2)
                have n0_ := aM (Kd.R_below (ry HO_4.out) hb)
                have n1_ := aM (bB (g := gb278) (qy BK278.out) hb)
                have n2_ := aM (bP (by repeat (first | (with_reducible first | exact HB.out | apply ea | apply en | apply ed | refine es ?_ GE278.out) | exact HB.out)) hb)
                have n3_ := aM (hbox)
                have n4_ := aM ((by rw [hg]; exact (bZ (by repeat (first | (with_reducible first | exact HB.out | apply ea | apply en | apply ed | refine es ?_ GE278.out) | exact HB.out))) : w.heap.size ≤ gb291))
                have n5_ := aM ((by rw [hg]; exact (bZ (by repeat (first | (with_reducible first | exact HB.out | apply ea | apply en | apply ed | refine es ?_ GE278.out) | exact HB.out))) : w.heap.size ≤ gb291))
                have n6_ := aM ((by rw [hg]; exact Nat.ne_of_lt (blk_lt (g := gb278) (qy BK278.out)) : gb278 ≠ gb291))
                have n7_ := aM ((by rw [hg]; exact Nat.ne_of_gt (blk_lt (g := gb278) (qy BK278.out)) : gb291 ≠ gb278))
                clear HO_4
                clear BK278
                clear HB
                have HO_4 := n0_
                have BK278 := n1_
                have HB := n2_
                have BK291 := n3_
                have GW291 := n4_
                have GE291 := n5_
                have NB278_291 := n6_
                have NB291_278 := n7_
                clear n0_ n1_ n2_ n3_ n4_ n5_ n6_ n7_
                clear hb hbox hg
                refine hK.out _ _ ⟨HS0_, HS1_, HS2_⟩ (fun hHeld => ?_)
                clear hK K
                refine norm_ (a' := ?_) ?_ ?_
                rotate_left
                ·show Act.put _ (some 8) _ = _
                 simp only [Act.put, sA, sZ, sS, i64_w, i32_w]
                 rfl
                exact norm_ (by simp only [putAll, Act.put, sA, sZ, sS]) (hCont (gb291) _ ⟨hHeld, (ry HO_4.out), (qy BK278.out), (qy BK291.out), GW291.out, GE291.out, NB278_291.out, NB291_278.out, (by repeat (first | (with_reducible first | exact HB.out | apply ea | apply en | apply ed | refine es ?_ GE278.out | refine es ?_ GE291.out) | exact HB.out))⟩)
               ·skip
                refine box_step ?hg (N := 8) ?hd (cs := #[.int .u64 0, .int .i64 0, .int .i64 0, .int .i64 0, .int .i64 0]) (t := 38) ?hr ?_; (case hd | hg => rfl); (case hr => first | (go_simp; done) | (go_simp; rfl))
                intro gb291 hg w35 hbox hb
                have HS0_ := (hb.cell (World.block_lt_of_cell? _ _ (hHeld.1))).trans (hHeld.1)
                have HS1_ := (hb.cell (World.block_lt_of_cell? _ _ (hHeld.2.1))).trans (hHeld.2.1)
                have HS2_ := (hb.cell (World.block_lt_of_cell? _ _ (hHeld.2.2))).trans (hHeld.2.2)
                have n0_ := aM (Kd.R_below (ry HO_4.out) hb)
                have n1_ := aM (bB (g := gb278) (qy BK278.out) hb)
                have n2_ := aM (bP (by repeat (first | (with_reducible first | exact HB.out | apply ea | apply en | apply ed | refine es ?_ GE278.out) | exact HB.out)) hb)
                have n3_ := aM (hbox)
                have n4_ := aM ((by rw [hg]; exact (bZ (by repeat (first | (with_reducible first | exact HB.out | apply ea | apply en | apply ed | refine es ?_ GE278.out) | exact HB.out))) : w.heap.size ≤ gb291))
                have n5_ := aM ((by rw [hg]; exact (bZ (by repeat (first | (with_reducible first | exact HB.out | apply ea | apply en | apply ed | refine es ?_ GE278.out) | exact HB.out))) : w.heap.size ≤ gb291))
                have n6_ := aM ((by rw [hg]; exact Nat.ne_of_lt (blk_lt (g := gb278) (qy BK278.out)) : gb278 ≠ gb291))
                have n7_ := aM ((by rw [hg]; exact Nat.ne_of_gt (blk_lt (g := gb278) (qy BK278.out)) : gb291 ≠ gb278))
                clear HO_4
                clear BK278
                clear HB
                have HO_4 := n0_
                have BK278 := n1_
                have HB := n2_
                have BK291 := n3_
                have GW291 := n4_
                have GE291 := n5_
                have NB278_291 := n6_
                have NB291_278 := n7_
                clear n0_ n1_ n2_ n3_ n4_ n5_ n6_ n7_
                clear hb hbox hg
                refine hK.out _ _ ⟨HS0_, HS1_, HS2_⟩ (fun hHeld => ?_)
                clear hK K
                refine norm_ (a' := ?_) ?_ ?_
                rotate_left
                ·show Act.put _ (some 8) _ = _
                 simp only [Act.put, sA, sZ, sS, i64_w, i32_w]
                 rfl
                refine one_ (i := 13) (N := some 44) b66_ rfl rfl (one_of HT_.out (by kernel_rfl)) (by decide) (fun K hK => ?_)
                refine goes_ Tryd.func50 (by kernel_rfl) rfl #[.string (rdOf ByteArray.empty t279 3)] (by rfl) rfl rfl (by (try simp only [mT, mC, mN]); first | done | rfl | (simp only [lD, lT]; rfl)) ?_
                with_reducible refine (bureauref18_number.calls k1 (rdOf ByteArray.empty t279 3) t290 _ A17.out).mono ?_
                rintro e w' ⟨rfl, ⟨nd, rfl⟩⟩
                refine ⟨_, rfl, ?_⟩
                refine hK.out _ _ ⟨hHeld.1, hHeld.2.1, hHeld.2.2⟩ (fun hHeld => ?_)
                clear hK K
                refine norm_ (a' := ?_) ?_ ?_
                rotate_left
                ·show Act.put _ (some 44) _ = _
                 simp only [Act.put, sA, sZ, sS, i64_w, i32_w]
                 rfl
                refine pure_ (i := 14) (N := some 45) (v := ?_) (a' := ?_) b58_ rfl rfl (any_of HT_.out (by kernel_rfl)) (fun _ _ _ h => h) (Or.inl ⟨by rfl, ?_⟩) ?_ ?_
                rotate_left
                ·intro w'
                 go_simp
                 with_reducible rfl
                rotate_left
                ·simp only [Act.put, sA, sZ, sS, i64_w, i32_w]
                 rfl
                exact norm_ (by simp only [putAll, Act.put, sA, sZ, sS]) (hCont (gb291) _ ⟨hHeld, (ry HO_4.out), (qy BK278.out), (qy BK291.out), GW291.out, GE291.out, NB278_291.out, NB291_278.out, (by repeat (first | (with_reducible first | exact HB.out | apply ea | apply en | apply ed | refine es ?_ GE278.out | refine es ?_ GE291.out) | exact HB.out))⟩)
              ·skip
               refine box_step ?hg (N := 8) ?hd (cs := #[.int .u64 0, .int .i64 0, .int .i64 0, .int .i64 0, .int .i64 0]) (t := 38) ?hr ?_; (case hd | hg => rfl); (case hr => first | (go_simp; done) | (go_simp; rfl))
               intro gb291 hg w35 hbox hb
               have HS0_ := (hb.cell (World.block_lt_of_cell? _ _ (hHeld.1))).trans (hHeld.1)
               have HS1_ := (hb.cell (World.block_lt_of_cell? _ _ (hHeld.2.1))).trans (hHeld.2.1)
               have HS2_ := (hb.cell (World.block_lt_of_cell? _ _ (hHeld.2.2))).trans (hHeld.2.2)
               have n0_ := aM (Kd.R_below (ry HO_4.out) hb)
               have n1_ := aM (bB (g := gb278) (qy BK278.out) hb)
               have n2_ := aM (bP (by repeat (first | (with_reducible first | exact HB.out | apply ea | apply en | apply ed | refine es ?_ GE278.out) | exact HB.out)) hb)
               have n3_ := aM (hbox)
               have n4_ := aM ((by rw [hg]; exact (bZ (by repeat (first | (with_reducible first | exact HB.out | apply ea | apply en | apply ed | refine es ?_ GE278.out) | exact HB.out))) : w.heap.size ≤ gb291))
               have n5_ := aM ((by rw [hg]; exact (bZ (by repeat (first | (with_reducible first | exact HB.out | apply ea | apply en | apply ed | refine es ?_ GE278.out) | exact HB.out))) : w.heap.size ≤ gb291))
               have n6_ := aM ((by rw [hg]; exact Nat.ne_of_lt (blk_lt (g := gb278) (qy BK278.out)) : gb278 ≠ gb291))
               have n7_ := aM ((by rw [hg]; exact Nat.ne_of_gt (blk_lt (g := gb278) (qy BK278.out)) : gb291 ≠ gb278))
               clear HO_4
               clear BK278
               clear HB
               have HO_4 := n0_
               have BK278 := n1_
               have HB := n2_
               have BK291 := n3_
               have GW291 := n4_
               have GE291 := n5_
               have NB278_291 := n6_
               have NB291_278 := n7_
               clear n0_ n1_ n2_ n3_ n4_ n5_ n6_ n7_
               clear hb hbox hg
               refine hK.out _ _ ⟨HS0_, HS1_, HS2_⟩ (fun hHeld => ?_)
               clear hK K
               refine norm_ (a' := ?_) ?_ ?_
               rotate_left
               ·show Act.put _ (some 8) _ = _
                simp only [Act.put, sA, sZ, sS, i64_w, i32_w]
                rfl
               refine one_ (i := 9) (N := some 40) b64_ rfl rfl (one_of HT_.out (by kernel_rfl)) (by decide) (fun K hK => ?_)
               refine goes_ Tryd.func50 (by kernel_rfl) rfl #[.string (rdOf ByteArray.empty t279 2)] (by rfl) rfl rfl (by (try simp only [mT, mC, mN]); first | done | rfl | (simp only [lD, lT]; rfl)) ?_
               with_reducible refine (bureauref18_number.calls k1 (rdOf ByteArray.empty t279 2) t288 _ A15.out).mono ?_
               rintro e w' ⟨rfl, ⟨nd, rfl⟩⟩
               refine ⟨_, rfl, ?_⟩
               refine hK.out _ _ ⟨hHeld.1, hHeld.2.1, hHeld.2.2⟩ (fun hHeld => ?_)
               clear hK K
               refine norm_ (a' := ?_) ?_ ?_
               rotate_left
               ·show Act.put _ (some 40) _ = _
                simp only [Act.put, sA, sZ, sS, i64_w, i32_w]
                rfl
               refine one_ (i := 13) (N := some 44) b66_ rfl rfl (one_of HT_.out (by kernel_rfl)) (by decide) (fun K hK => ?_)
               refine goes_ Tryd.func50 (by kernel_rfl) rfl #[.string (rdOf ByteArray.empty t279 3)] (by rfl) rfl rfl (by (try simp only [mT, mC, mN]); first | done | rfl | (simp only [lD, lT]; rfl)) ?_
               with_reducible refine (bureauref18_number.calls k1 (rdOf ByteArray.empty t279 3) t290 _ A17.out).mono ?_
               rintro e w' ⟨rfl, ⟨nd, rfl⟩⟩
               refine ⟨_, rfl, ?_⟩
               refine hK.out _ _ ⟨hHeld.1, hHeld.2.1, hHeld.2.2⟩ (fun hHeld => ?_)
               clear hK K
               refine norm_ (a' := ?_) ?_ ?_
               rotate_left
               ·show Act.put _ (some 44) _ = _
                simp only [Act.put, sA, sZ, sS, i64_w, i32_w]
                rfl
               refine pure_ (i := 14) (N := some 45) (v := ?_) (a' := ?_) b58_ rfl rfl (any_of HT_.out (by kernel_rfl)) (fun _ _ _ h => h) (Or.inl ⟨by rfl, ?_⟩) ?_ ?_
               rotate_left
               ·intro w'
                go_simp
                with_reducible rfl
               rotate_left
               ·simp only [Act.put, sA, sZ, sS, i64_w, i32_w]
                rfl
               exact norm_ (by simp only [putAll, Act.put, sA, sZ, sS]) (hCont (gb291) _ ⟨hHeld, (ry HO_4.out), (qy BK278.out), (qy BK291.out), GW291.out, GE291.out, NB278_291.out, NB291_278.out, (by repeat (first | (with_reducible first | exact HB.out | apply ea | apply en | apply ed | refine es ?_ GE278.out | refine es ?_ GE291.out) | exact HB.out))⟩)
             ·skip
              refine box_step ?hg (N := 8) ?hd (cs := #[.int .u64 0, .int .i64 0, .int .i64 0, .int .i64 0, .int .i64 0]) (t := 38) ?hr ?_; (case hd | hg => rfl); (case hr => first | (go_simp; done) | (go_simp; rfl))
              intro gb291 hg w35 hbox hb
              have HS0_ := (hb.cell (World.block_lt_of_cell? _ _ (hHeld.1))).trans (hHeld.1)
              have HS1_ := (hb.cell (World.block_lt_of_cell? _ _ (hHeld.2.1))).trans (hHeld.2.1)
              have HS2_ := (hb.cell (World.block_lt_of_cell? _ _ (hHeld.2.2))).trans (hHeld.2.2)
              have n0_ := aM (Kd.R_below (ry HO_4.out) hb)
              have n1_ := aM (bB (g := gb278) (qy BK278.out) hb)
              have n2_ := aM (bP (by repeat (first | (with_reducible first | exact HB.out | apply ea | apply en | apply ed | refine es ?_ GE278.out) | exact HB.out)) hb)
              have n3_ := aM (hbox)
              have n4_ := aM ((by rw [hg]; exact (bZ (by repeat (first | (with_reducible first | exact HB.out | apply ea | apply en | apply ed | refine es ?_ GE278.out) | exact HB.out))) : w.heap.size ≤ gb291))
              have n5_ := aM ((by rw [hg]; exact (bZ (by repeat (first | (with_reducible first | exact HB.out | apply ea | apply en | apply ed | refine es ?_ GE278.out) | exact HB.out))) : w.heap.size ≤ gb291))
              have n6_ := aM ((by rw [hg]; exact Nat.ne_of_lt (blk_lt (g := gb278) (qy BK278.out)) : gb278 ≠ gb291))
              have n7_ := aM ((by rw [hg]; exact Nat.ne_of_gt (blk_lt (g := gb278) (qy BK278.out)) : gb291 ≠ gb278))
              clear HO_4
              clear BK278
              clear HB
              have HO_4 := n0_
              have BK278 := n1_
              have HB := n2_
              have BK291 := n3_
              have GW291 := n4_
              have GE291 := n5_
              have NB278_291 := n6_
              have NB291_278 := n7_
              clear n0_ n1_ n2_ n3_ n4_ n5_ n6_ n7_
              clear hb hbox hg
              refine hK.out _ _ ⟨HS0_, HS1_, HS2_⟩ (fun hHeld => ?_)
              clear hK K
              refine norm_ (a' := ?_) ?_ ?_
              rotate_left
              ·show Act.put _ (some 8) _ = _
               simp only [Act.put, sA, sZ, sS, i64_w, i32_w]
               rfl
              refine one_ (i := 5) (N := some 36) b62_ rfl rfl (one_of HT_.out (by kernel_rfl)) (by decide) (fun K hK => ?_)
              refine goes_ Tryd.func50 (by kernel_rfl) rfl #[.string (rdOf ByteArray.empty t279 1)] (by rfl) rfl rfl (by (try simp only [mT, mC, mN]); first | done | rfl | (simp only [lD, lT]; rfl)) ?_
              with_reducible refine (bureauref18_number.calls k1 (rdOf ByteArray.empty t279 1) t286 _ A13.out).mono ?_
              rintro e w' ⟨rfl, ⟨nd, rfl⟩⟩
              refine ⟨_, rfl, ?_⟩
              refine hK.out _ _ ⟨hHeld.1, hHeld.2.1, hHeld.2.2⟩ (fun hHeld => ?_)
              clear hK K
              refine norm_ (a' := ?_) ?_ ?_
              rotate_left
              ·show Act.put _ (some 36) _ = _
               simp only [Act.put, sA, sZ, sS, i64_w, i32_w]
               rfl
              refine one_ (i := 9) (N := some 40) b64_ rfl rfl (one_of HT_.out (by kernel_rfl)) (by decide) (fun K hK => ?_)
              refine goes_ Tryd.func50 (by kernel_rfl) rfl #[.string (rdOf ByteArray.empty t279 2)] (by rfl) rfl rfl (by (try simp only [mT, mC, mN]); first | done | rfl | (simp only [lD, lT]; rfl)) ?_
              with_reducible refine (bureauref18_number.calls k1 (rdOf ByteArray.empty t279 2) t288 _ A15.out).mono ?_
              rintro e w' ⟨rfl, ⟨nd, rfl⟩⟩
              refine ⟨_, rfl, ?_⟩
              refine hK.out _ _ ⟨hHeld.1, hHeld.2.1, hHeld.2.2⟩ (fun hHeld => ?_)
              clear hK K
              refine norm_ (a' := ?_) ?_ ?_
              rotate_left
              ·show Act.put _ (some 40) _ = _
               simp only [Act.put, sA, sZ, sS, i64_w, i32_w]
               rfl
              refine one_ (i := 13) (N := some 44) b66_ rfl rfl (one_of HT_.out (by kernel_rfl)) (by decide) (fun K hK => ?_)
              refine goes_ Tryd.func50 (by kernel_rfl) rfl #[.string (rdOf ByteArray.empty t279 3)] (by rfl) rfl rfl (by (try simp only [mT, mC, mN]); first | done | rfl | (simp only [lD, lT]; rfl)) ?_
              with_reducible refine (bureauref18_number.calls k1 (rdOf ByteArray.empty t279 3) t290 _ A17.out).mono ?_
              rintro e w' ⟨rfl, ⟨nd, rfl⟩⟩
              refine ⟨_, rfl, ?_⟩
              refine hK.out _ _ ⟨hHeld.1, hHeld.2.1, hHeld.2.2⟩ (fun hHeld => ?_)
              clear hK K
              refine norm_ (a' := ?_) ?_ ?_
              rotate_left
              ·show Act.put _ (some 44) _ = _
               simp only [Act.put, sA, sZ, sS, i64_w, i32_w]
               rfl
              refine pure_ (i := 14) (N := some 45) (v := ?_) (a' := ?_) b58_ rfl rfl (any_of HT_.out (by kernel_rfl)) (fun _ _ _ h => h) (Or.inl ⟨by rfl, ?_⟩) ?_ ?_
              rotate_left
              ·intro w'
               go_simp
               with_reducible rfl
              rotate_left
              ·simp only [Act.put, sA, sZ, sS, i64_w, i32_w]
               rfl
              exact norm_ (by simp only [putAll, Act.put, sA, sZ, sS]) (hCont (gb291) _ ⟨hHeld, (ry HO_4.out), (qy BK278.out), (qy BK291.out), GW291.out, GE291.out, NB278_291.out, NB291_278.out, (by repeat (first | (with_reducible first | exact HB.out | apply ea | apply en | apply ed | refine es ?_ GE278.out | refine es ?_ GE291.out) | exact HB.out))⟩)
            rintro gb291 w36 ⟨hS_, h0_, h1_, h2_, h3_, h4_, h5_, h6_, h7_⟩
            have n0_ : Aside0 (Kd.R Kd.string 9 w36 w.heap.size (fun _ => True) (.slice (some ad282) t279.length co9) t279) := ⟨h0_⟩
            have n1_ : Aside0 (w36.heap[gb278]? = some (.cells #[.int .u64 x279000_1, .int .i64 x279001_1, .int .i64 x279002_1, .int .i64 x279003_1, .int .i64 x279004_1] 38 (0, 0))) := ⟨h1_⟩
            have n2_ : Aside0 (w36.heap[gb291]? = some (.cells #[.int .u64 0, .int .i64 0, .int .i64 0, .int .i64 0, .int .i64 0] 38 (0, 0))) := ⟨h2_⟩
            have n3_ : Aside0 (w.heap.size ≤ gb291) := ⟨h3_⟩
            have n4_ : Aside0 (w.heap.size ≤ gb291) := ⟨h4_⟩
            have n5_ : Aside0 (gb278 ≠ gb291) := ⟨h5_⟩
            have n6_ : Aside0 (gb291 ≠ gb278) := ⟨h6_⟩
            have n7_ : Aside0 (Below w.heap.size w w36) := ⟨h7_⟩
            clear HO_4
            clear BK278
            clear HB
            clear h0_ h1_ h2_ h3_ h4_ h5_ h6_ h7_
            have HO_4 := n0_
            have BK278 := n1_
            have BK291 := n2_
            have GW291 := n3_
            have GE291 := n4_
            have NB278_291 := n5_
            have NB291_278 := n6_
            have HB := n7_
            clear n0_ n1_ n2_ n3_ n4_ n5_ n6_ n7_
            have hHeld : w36.cell? ⟨ad282.block, ad282.off + 1, none⟩ = some (.string (rdOf ByteArray.empty t279 1)) ∧ w36.cell? ⟨ad282.block, ad282.off + 2, none⟩ = some (.string (rdOf ByteArray.empty t279 2)) ∧ w36.cell? ⟨ad282.block, ad282.off + 3, none⟩ = some (.string (rdOf ByteArray.empty t279 3)) := hS_
            refine norm_ (a' := ?_) ?_ ?_
            rotate_left
            ·simp only [putAll, Act.put, sA, sZ, sS]
             rfl
            refine one_ (i := 16) (N := none) b67_ rfl rfl (one_of HT_.out (by kernel_rfl)) (by decide) (fun K hK => ?_)
            have hs37 : w36.cell? ⟨gb291, 0, none⟩ = some (.int .u64 0) := (bC BK291.out 0).trans rfl
            have hfs37 := bF BK291.out 0
            have hns37_0 := NB278_291.out
            have hms37_0 := NB291_278.out
            have hs38 : w36.cell? ⟨gb291, 1, none⟩ = some (.int .i64 0) := (bC BK291.out 1).trans rfl
            have hfs38 := bF BK291.out 1
            have hns38_0 := NB278_291.out
            have hms38_0 := NB291_278.out
            have hs39 : w36.cell? ⟨gb291, 2, none⟩ = some (.int .i64 0) := (bC BK291.out 2).trans rfl
            have hfs39 := bF BK291.out 2
            have hns39_0 := NB278_291.out
            have hms39_0 := NB291_278.out
            have hs40 : w36.cell? ⟨gb291, 3, none⟩ = some (.int .i64 0) := (bC BK291.out 3).trans rfl
            have hfs40 := bF BK291.out 3
            have hns40_0 := NB278_291.out
            have hms40_0 := NB291_278.out
            have hs41 : w36.cell? ⟨gb291, 4, none⟩ = some (.int .i64 0) := (bC BK291.out 4).trans rfl
            have hfs41 := bF BK291.out 4
            have hns41_0 := NB278_291.out
            have hms41_0 := NB291_278.out
            refine skip_ (w1 := ?_) (by rfl) rfl ?_ ?_
            rotate_left
            ·go_simp
             rfl
            refine hK.out _ _ ⟨((cell_far (p := ⟨gb291, _, none⟩) (by first | (dsimp only; with_reducible exact Kd.own_blk (Kd.R_ne HO_4.out BK291.out (by decide))) | exact Kd.own_blk (Kd.R_ne HO_4.out BK291.out (by decide)) | (rw [add_block]; exact Kd.own_blk (Kd.R_ne HO_4.out BK291.out (by decide))) | (show (Addr.add _ _).block ≠ _; rw [add_block]; exact Kd.own_blk (Kd.R_ne HO_4.out BK291.out (by decide))) | (dsimp only; exact Kd.own_blk (Kd.R_ne HO_4.out BK291.out (by decide)))) _).trans (((cell_far (p := ⟨gb291, _, none⟩) (by first | (dsimp only; with_reducible exact Kd.own_blk (Kd.R_ne HO_4.out BK291.out (by decide))) | exact Kd.own_blk (Kd.R_ne HO_4.out BK291.out (by decide)) | (rw [add_block]; exact Kd.own_blk (Kd.R_ne HO_4.out BK291.out (by decide))) | (show (Addr.add _ _).block ≠ _; rw [add_block]; exact Kd.own_blk (Kd.R_ne HO_4.out BK291.out (by decide))) | (dsimp only; exact Kd.own_blk (Kd.R_ne HO_4.out BK291.out (by decide)))) _).trans (((cell_far (p := ⟨gb291, _, none⟩) (by first | (dsimp only; with_reducible exact Kd.own_blk (Kd.R_ne HO_4.out BK291.out (by decide))) | exact Kd.own_blk (Kd.R_ne HO_4.out BK291.out (by decide)) | (rw [add_block]; exact Kd.own_blk (Kd.R_ne HO_4.out BK291.out (by decide))) | (show (Addr.add _ _).block ≠ _; rw [add_block]; exact Kd.own_blk (Kd.R_ne HO_4.out BK291.out (by decide))) | (dsimp only; exact Kd.own_blk (Kd.R_ne HO_4.out BK291.out (by decide)))) _).trans (((cell_far (p := ⟨gb291, _, none⟩) (by first | (dsimp only; with_reducible exact Kd.own_blk (Kd.R_ne HO_4.out BK291.out (by decide))) | exact Kd.own_blk (Kd.R_ne HO_4.out BK291.out (by decide)) | (rw [add_block]; exact Kd.own_blk (Kd.R_ne HO_4.out BK291.out (by decide))) | (show (Addr.add _ _).block ≠ _; rw [add_block]; exact Kd.own_blk (Kd.R_ne HO_4.out BK291.out (by decide))) | (dsimp only; exact Kd.own_blk (Kd.R_ne HO_4.out BK291.out (by decide)))) _).trans (((cell_far (p := ⟨gb291, _, none⟩) (by first | (dsimp only; with_reducible exact Kd.own_blk (Kd.R_ne HO_4.out BK291.out (by decide))) | exact Kd.own_blk (Kd.R_ne HO_4.out BK291.out (by decide)) | (rw [add_block]; exact Kd.own_blk (Kd.R_ne HO_4.out BK291.out (by decide))) | (show (Addr.add _ _).block ≠ _; rw [add_block]; exact Kd.own_blk (Kd.R_ne HO_4.out BK291.out (by decide))) | (dsimp only; exact Kd.own_blk (Kd.R_ne HO_4.out BK291.out (by decide)))) _).trans (hHeld.1)))))))))), ((cell_far (p := ⟨gb291, _, none⟩) (by first | (dsimp only; with_reducible exact Kd.own_blk (Kd.R_ne HO_4.out BK291.out (by decide))) | exact Kd.own_blk (Kd.R_ne HO_4.out BK291.out (by decide)) | (rw [add_block]; exact Kd.own_blk (Kd.R_ne HO_4.out BK291.out (by decide))) | (show (Addr.add _ _).block ≠ _; rw [add_block]; exact Kd.own_blk (Kd.R_ne HO_4.out BK291.out (by decide))) | (dsimp only; exact Kd.own_blk (Kd.R_ne HO_4.out BK291.out (by decide)))) _).trans (((cell_far (p := ⟨gb291, _, none⟩) (by first | (dsimp only; with_reducible exact Kd.own_blk (Kd.R_ne HO_4.out BK291.out (by decide))) | exact Kd.own_blk (Kd.R_ne HO_4.out BK291.out (by decide)) | (rw [add_block]; exact Kd.own_blk (Kd.R_ne HO_4.out BK291.out (by decide))) | (show (Addr.add _ _).block ≠ _; rw [add_block]; exact Kd.own_blk (Kd.R_ne HO_4.out BK291.out (by decide))) | (dsimp only; exact Kd.own_blk (Kd.R_ne HO_4.out BK291.out (by decide)))) _).trans (((cell_far (p := ⟨gb291, _, none⟩) (by first | (dsimp only; with_reducible exact Kd.own_blk (Kd.R_ne HO_4.out BK291.out (by decide))) | exact Kd.own_blk (Kd.R_ne HO_4.out BK291.out (by decide)) | (rw [add_block]; exact Kd.own_blk (Kd.R_ne HO_4.out BK291.out (by decide))) | (show (Addr.add _ _).block ≠ _; rw [add_block]; exact Kd.own_blk (Kd.R_ne HO_4.out BK291.out (by decide))) | (dsimp only; exact Kd.own_blk (Kd.R_ne HO_4.out BK291.out (by decide)))) _).trans (((cell_far (p := ⟨gb291, _, none⟩) (by first | (dsimp only; with_reducible exact Kd.own_blk (Kd.R_ne HO_4.out BK291.out (by decide))) | exact Kd.own_blk (Kd.R_ne HO_4.out BK291.out (by decide)) | (rw [add_block]; exact Kd.own_blk (Kd.R_ne HO_4.out BK291.out (by decide))) | (show (Addr.add _ _).block ≠ _; rw [add_block]; exact Kd.own_blk (Kd.R_ne HO_4.out BK291.out (by decide))) | (dsimp only; exact Kd.own_blk (Kd.R_ne HO_4.out BK291.out (by decide)))) _).trans (((cell_far (p := ⟨gb291, _, none⟩) (by first | (dsimp only; with_reducible exact Kd.own_blk (Kd.R_ne HO_4.out BK291.out (by decide))) | exact Kd.own_blk (Kd.R_ne HO_4.out BK291.out (by decide)) | (rw [add_block]; exact Kd.own_blk (Kd.R_ne HO_4.out BK291.out (by decide))) | (show (Addr.add _ _).block ≠ _; rw [add_block]; exact Kd.own_blk (Kd.R_ne HO_4.out BK291.out (by decide))) | (dsimp only; exact Kd.own_blk (Kd.R_ne HO_4.out BK291.out (by decide)))) _).trans (hHeld.2.1)))))))))), ((cell_far (p := ⟨gb291, _, none⟩) (by first | (dsimp only; with_reducible exact Kd.own_blk (Kd.R_ne HO_4.out BK291.out (by decide))) | exact Kd.own_blk (Kd.R_ne HO_4.out BK291.out (by decide)) | (rw [add_block]; exact Kd.own_blk (Kd.R_ne HO_4.out BK291.out (by decide))) | (show (Addr.add _ _).block ≠ _; rw [add_block]; exact Kd.own_blk (Kd.R_ne HO_4.out BK291.out (by decide))) | (dsimp only; exact Kd.own_blk (Kd.R_ne HO_4.out BK291.out (by decide)))) _).trans (((cell_far (p := ⟨gb291, _, none⟩) (by first | (dsimp only; with_reducible exact Kd.own_blk (Kd.R_ne HO_4.out BK291.out (by decide))) | exact Kd.own_blk (Kd.R_ne HO_4.out BK291.out (by decide)) | (rw [add_block]; exact Kd.own_blk (Kd.R_ne HO_4.out BK291.out (by decide))) | (show (Addr.add _ _).block ≠ _; rw [add_block]; exact Kd.own_blk (Kd.R_ne HO_4.out BK291.out (by decide))) | (dsimp only; exact Kd.own_blk (Kd.R_ne HO_4.out BK291.out (by decide)))) _).trans (((cell_far (p := ⟨gb291, _, none⟩) (by first | (dsimp only; with_reducible exact Kd.own_blk (Kd.R_ne HO_4.out BK291.out (by decide))) | exact Kd.own_blk (Kd.R_ne HO_4.out BK291.out (by decide)) | (rw [add_block]; exact Kd.own_blk (Kd.R_ne HO_4.out BK291.out (by decide))) | (show (Addr.add _ _).block ≠ _; rw [add_block]; exact Kd.own_blk (Kd.R_ne HO_4.out BK291.out (by decide))) | (dsimp only; exact Kd.own_blk (Kd.R_ne HO_4.out BK291.out (by decide)))) _).trans (((cell_far (p := ⟨gb291, _, none⟩) (by first | (dsimp only; with_reducible exact Kd.own_blk (Kd.R_ne HO_4.out BK291.out (by decide))) | exact Kd.own_blk (Kd.R_ne HO_4.out BK291.out (by decide)) | (rw [add_block]; exact Kd.own_blk (Kd.R_ne HO_4.out BK291.out (by decide))) | (show (Addr.add _ _).block ≠ _; rw [add_block]; exact Kd.own_blk (Kd.R_ne HO_4.out BK291.out (by decide))) | (dsimp only; exact Kd.own_blk (Kd.R_ne HO_4.out BK291.out (by decide)))) _).trans (((cell_far (p := ⟨gb291, _, none⟩) (by first | (dsimp only; with_reducible exact Kd.own_blk (Kd.R_ne HO_4.out BK291.out (by decide))) | exact Kd.own_blk (Kd.R_ne HO_4.out BK291.out (by decide)) | (rw [add_block]; exact Kd.own_blk (Kd.R_ne HO_4.out BK291.out (by decide))) | (show (Addr.add _ _).block ≠ _; rw [add_block]; exact Kd.own_blk (Kd.R_ne HO_4.out BK291.out (by decide))) | (dsimp only; exact Kd.own_blk (Kd.R_ne HO_4.out BK291.out (by decide)))) _).trans (hHeld.2.2))))))))))⟩ (fun hHeld => ?_)
            clear hK K
            refine done_ (done_of HT_.out (by kernel_rfl)) ?_
            have hnb42 := NB291_278.out
            have hnc42 := NB278_291.out
            have hcz43_0 := zC BK291.out 0 (.int .u64 0)
            have hcz43_1 := zC BK291.out 1 (.int .i64 0)
            have hcz43_2 := zC BK291.out 2 (.int .i64 0)
            have hcz43_3 := zC BK291.out 3 (.int .i64 0)
            have hcz43_4 := zC BK291.out 4 (.int .i64 0)
            have hfz43_0 := bF BK291.out 0
            have hfz43_1 := bF BK291.out 1
            have hfz43_2 := bF BK291.out 2
            have hfz43_3 := bF BK291.out 3
            have hfz43_4 := bF BK291.out 4
            try go_wp2_with (first | ((with_reducible refine gate_callee (f := 27) rfl ?_); refine goesL_ (some 48) rfl rfl Tryd.func27 (by kernel_rfl) rfl #[.agg #[.int .u64 t283, .int .i64 x7_1, .int .i64 t286, .int .i64 t288, .int .i64 t290]] rfl (by (try simp only [mT, mC, mN]); first | done | rfl | (simp only [lD, lT]; rfl)) ?_; (with_reducible refine (bureauref18_Print.calls k1 t283 x7_1 t286 t288 t290 t292 t293 _ A18.out).mono ?_); rintro e w44 ⟨rfl, hb⟩; refine ⟨_, rfl, ?_⟩; have n0_ := aM (Kd.R_below (by (with_reducible repeat (first | apply ra | apply rn | apply rd_)); exact (rM (rF (p := ⟨gb291, 4, none⟩) (rF (p := ⟨gb291, 3, none⟩) (rF (p := ⟨gb291, 2, none⟩) (rF (p := ⟨gb291, 1, none⟩) (rF (p := ⟨gb291, 0, none⟩) (rT HO_4.out BK291.out (by decide)) (fun _ hk => hk.2) (.int .u64 t283)) (fun _ hk => hk.2) (.int .i64 x7_1)) (fun _ hk => hk.2) (.int .i64 t286)) (fun _ hk => hk.2) (.int .i64 t288)) (fun _ hk => hk.2) (.int .i64 t290)) (fun _ h_ => h_.1))) hb); have n1_ := aM (bB (g := gb278) (o := .cells #[.int .u64 x279000_1, .int .i64 x279001_1, .int .i64 x279002_1, .int .i64 x279003_1, .int .i64 x279004_1] 38 (0, 0)) (by (with_reducible repeat (first | apply qn | apply qd | apply qa)); refine bR ?_ NB278_291.out _; (with_reducible repeat (first | apply qn | apply qd | apply qa)); refine bR ?_ NB278_291.out _; (with_reducible repeat (first | apply qn | apply qd | apply qa)); refine bR ?_ NB278_291.out _; (with_reducible repeat (first | apply qn | apply qd | apply qa)); refine bR ?_ NB278_291.out _; (with_reducible repeat (first | apply qn | apply qd | apply qa)); refine bR ?_ NB278_291.out _; exact qy BK278.out) hb); have n2_ := aM (bB (g := gb291) (o := .cells #[.int .u64 t283, .int .i64 x7_1, .int .i64 t286, .int .i64 t288, .int .i64 t290] 38 (0, 0)) (by (with_reducible repeat (first | apply qn | apply qd | apply qa)); refine bU (cs := #[.int .u64 t283, .int .i64 x7_1, .int .i64 t286, .int .i64 t288, .int .i64 0]) ?_ 4 _ rfl; (with_reducible repeat (first | apply qn | apply qd | apply qa)); refine bU (cs := #[.int .u64 t283, .int .i64 x7_1, .int .i64 t286, .int .i64 0, .int .i64 0]) ?_ 3 _ rfl; (with_reducible repeat (first | apply qn | apply qd | apply qa)); refine bU (cs := #[.int .u64 t283, .int .i64 x7_1, .int .i64 0, .int .i64 0, .int .i64 0]) ?_ 2 _ rfl; (with_reducible repeat (first | apply qn | apply qd | apply qa)); refine bU (cs := #[.int .u64 t283, .int .i64 0, .int .i64 0, .int .i64 0, .int .i64 0]) ?_ 1 _ rfl; (with_reducible repeat (first | apply qn | apply qd | apply qa)); refine bU (cs := #[.int .u64 0, .int .i64 0, .int .i64 0, .int .i64 0, .int .i64 0]) ?_ 0 _ rfl; exact qy BK291.out) hb); have n3_ := aM (bP (by repeat (first | (with_reducible first | exact HB.out | apply ea | apply en | apply ed | refine es ?_ GE278.out | refine es ?_ GE291.out) | exact HB.out)) hb); clear HO_4 BK278 BK291 HB; have HO_4 := n0_; have BK278 := n1_; have BK291 := n2_; have HB := n3_; clear n0_ n1_ n2_ n3_; (try clear hb); (try clear hb2); (try clear hk); (try clear hi)))
            go_roundg k1
            case measure => have := HK1.out; omega
            case rel => exact ⟨(wrap64 (x7_1 + 1)), (x279000_1), (x279001_1), (x279002_1), (x279003_1), (x279004_1), (by first | rfl | (simp; done) | (simp [*]; done)), H', ⟨by have := HK1.out; omega⟩, ⟨by exact ry HO_4.out⟩, ⟨by exact qy BK278.out⟩, ⟨by repeat (first | (with_reducible first | exact HB.out | apply ea | apply en | apply ed | refine es ?_ GE278.out | refine es ?_ GE291.out) | exact HB.out)⟩⟩
          ·rw [if_neg c19] at H
           have c19b0 : (t293 == 0) = false := beq_eq_false_iff_ne.mpr c19
           have c19b1 : (t293 != 0) = true := bne_iff_ne.mpr c19
           have H' := aM H
           clear H
           try go_wp2
           have n0_ := aM (Kd.R_drew HO_4.out)
           have n1_ := aM (blk_drew BK278.out)
           have n2_ := aM (below_drew1 HB.out)
           clear HO_4
           clear BK278
           clear HB
           have HO_4 := n0_
           have BK278 := n1_
           have HB := n2_
           clear n0_ n1_ n2_
           have p285 : 0 ≤ (1 : Int) := (by omega)
           have q285 : 1 < (t279.length : Int) := of_decide_eq_true (by first | (with_reducible assumption) | assumption)
           obtain ⟨ad285, e285, hx285_0⟩ := Kd.at_string (rR HO_4.out).2.2 1 p285 q285
           obtain rfl : ad282 = ad285 := (by injection e285)
           (try simp only [show (1 : Int).toNat = 1 from rfl, Nat.reduceMul, Nat.reduceEqDiff, Go.Addr.add, ↓reduceIte] at hx285_0)
           have qi285 : (1 < t279.length) = True := eq_true (by omega)
           (try rw [show ((1 : Int)).toNat = 1 from rfl] at hx285_0)
           replace p285 := eq_true p285
           replace q285 := eq_true q285
           have p287 : 0 ≤ (2 : Int) := (by omega)
           have q287 : 2 < (t279.length : Int) := of_decide_eq_true (by first | (with_reducible assumption) | assumption)
           obtain ⟨ad287, e287, hx287_0⟩ := Kd.at_string (rR HO_4.out).2.2 2 p287 q287
           obtain rfl : ad282 = ad287 := (by injection e287)
           (try simp only [show (2 : Int).toNat = 2 from rfl, Nat.reduceMul, Nat.reduceEqDiff, Go.Addr.add, ↓reduceIte] at hx287_0)
           have qi287 : (2 < t279.length) = True := eq_true (by omega)
           (try rw [show ((2 : Int)).toNat = 2 from rfl] at hx287_0)
           replace p287 := eq_true p287
           replace q287 := eq_true q287
           have p289 : 0 ≤ (3 : Int) := (by omega)
           have q289 : 3 < (t279.length : Int) := of_decide_eq_true (by first | (with_reducible assumption) | assumption)
           obtain ⟨ad289, e289, hx289_0⟩ := Kd.at_string (rR HO_4.out).2.2 3 p289 q289
           obtain rfl : ad282 = ad289 := (by injection e289)
           (try simp only [show (3 : Int).toNat = 3 from rfl, Nat.reduceMul, Nat.reduceEqDiff, Go.Addr.add, ↓reduceIte] at hx289_0)
           have qi289 : (3 < t279.length) = True := eq_true (by omega)
           (try rw [show ((3 : Int)).toNat = 3 from rfl] at hx289_0)
           replace p289 := eq_true p289
           replace q289 := eq_true q289
           refine start_ (n := 17) (S := fun w' => w'.cell? ⟨ad282.block, ad282.off + 1, none⟩ = some (.string (rdOf ByteArray.empty t279 1)) ∧ w'.cell? ⟨ad282.block, ad282.off + 2, none⟩ = some (.string (rdOf ByteArray.empty t279 2)) ∧ w'.cell? ⟨ad282.block, ad282.off + 3, none⟩ = some (.string (rdOf ByteArray.empty t279 3))) (ds := []) b46_ (by kernel_rfl) rfl rfl ⟨hx285_0, hx287_0, hx289_0⟩ (fun hHeld => ?_); refine with_tabW bureauref18_Parse.tab10 bureauref18_Parse.bits10 (fun HT_ HW_ => ?_)
           generalize wr.drew = w45 at HO_4 BK278 HB hx285_0 hx287_0 hx289_0 hHeld ⊢
           refine pure_ (i := 0) (N := some 31) (v := ?_) (a' := ?_) b47_ rfl rfl (any_of HT_.out (by kernel_rfl)) (fun _ _ _ h => h) (Or.inl ⟨by rfl, ?_⟩) ?_ ?_
           rotate_left
           ·intro w'
            go_simp
            with_reducible rfl
           rotate_left
           ·simp only [Act.put, sA, sZ, sS, i64_w, i32_w]
            rfl
           refine pure_ (i := 1) (N := some 32) (v := ?_) (a' := ?_) b48_ rfl rfl (any_of HT_.out (by kernel_rfl)) (fun _ _ _ h => h) (Or.inl ⟨by rfl, ?_⟩) ?_ ?_
           rotate_left
           ·intro w'
            go_simp
            with_reducible rfl
           rotate_left
           ·simp only [Act.put, sA, sZ, sS, i64_w, i32_w]
            rfl
           refine pure_ (i := 2) (N := some 33) (v := ?_) (a' := ?_) b49_ rfl rfl (any_of HT_.out (by kernel_rfl)) (fun _ _ _ h => h) (Or.inl ⟨by rfl, ?_⟩) ?_ ?_
           rotate_left
           ·intro w'
            go_simp
            with_reducible rfl
           rotate_left
           ·simp only [Act.put, sA, sZ, sS, i64_w, i32_w]
            rfl
           refine pure_ (i := 3) (N := some 34) (v := ?_) (a' := ?_) b50_ rfl rfl (any_of HT_.out (by kernel_rfl)) (fun _ _ _ h => h) (Or.inl ⟨by rfl, ?_⟩) ?_ ?_
           rotate_left
           ·intro w'
            go_simp
            with_reducible rfl
           rotate_left
           ·simp only [Act.put, sA, sZ, sS, i64_w, i32_w]
            rfl
           refine pure_ (i := 6) (N := some 37) (v := ?_) (a' := ?_) b51_ rfl rfl (any_of HT_.out (by kernel_rfl)) (fun _ _ _ h => h) (Or.inl ⟨by rfl, ?_⟩) ?_ ?_
           rotate_left
           ·intro w'
            go_simp
            with_reducible rfl
           rotate_left
           ·simp only [Act.put, sA, sZ, sS, i64_w, i32_w]
            rfl
           refine pure_ (i := 7) (N := some 38) (v := ?_) (a' := ?_) b52_ rfl rfl (any_of HT_.out (by kernel_rfl)) (fun _ _ _ h => h) (Or.inl ⟨by rfl, ?_⟩) ?_ ?_
           rotate_left
           ·intro w'
            go_simp
            with_reducible rfl
           rotate_left
           ·simp only [Act.put, sA, sZ, sS, i64_w, i32_w]
            rfl
           refine pure_ (i := 10) (N := some 41) (v := ?_) (a' := ?_) b53_ rfl rfl (any_of HT_.out (by kernel_rfl)) (fun _ _ _ h => h) (Or.inl ⟨by rfl, ?_⟩) ?_ ?_
           rotate_left
           ·intro w'
            go_simp
            with_reducible rfl
           rotate_left
           ·simp only [Act.put, sA, sZ, sS, i64_w, i32_w]
            rfl
           refine pure_ (i := 11) (N := some 42) (v := ?_) (a' := ?_) b54_ rfl rfl (any_of HT_.out (by kernel_rfl)) (fun _ _ _ h => h) (Or.inl ⟨by rfl, ?_⟩) ?_ ?_
           rotate_left
           ·intro w'
            go_simp
            with_reducible rfl
           rotate_left
           ·simp only [Act.put, sA, sZ, sS, i64_w, i32_w]
            rfl
           refine take_ (i := 4) (N := some 35) (v := ?_) (a' := ?_) b55_ rfl rfl (take_ofW HT_.out HW_.out (by kernel_rfl)) (fun _ _ _ h => h) (Or.inl ⟨by rfl, ?_⟩) hHeld ?_ ?_
           rotate_left
           ·rintro w' ⟨s0, s1, s2⟩
            go_simp
            with_reducible rfl
           rotate_left
           ·simp only [Act.put, sA, sZ, sS, i64_w, i32_w]
            rfl
           refine take_ (i := 8) (N := some 39) (v := ?_) (a' := ?_) b56_ rfl rfl (take_ofW HT_.out HW_.out (by kernel_rfl)) (fun _ _ _ h => h) (Or.inl ⟨by rfl, ?_⟩) hHeld ?_ ?_
           rotate_left
           ·rintro w' ⟨s0, s1, s2⟩
            go_simp
            with_reducible rfl
           rotate_left
           ·simp only [Act.put, sA, sZ, sS, i64_w, i32_w]
            rfl
           refine take_ (i := 12) (N := some 43) (v := ?_) (a' := ?_) b57_ rfl rfl (take_ofW HT_.out HW_.out (by kernel_rfl)) (fun _ _ _ h => h) (Or.inl ⟨by rfl, ?_⟩) hHeld ?_ ?_
           rotate_left
           ·rintro w' ⟨s0, s1, s2⟩
            go_simp
            with_reducible rfl
           rotate_left
           ·simp only [Act.put, sA, sZ, sS, i64_w, i32_w]
            rfl
           refine join_ (σ := Nat) 1 b58_ (fun s_ => [(36, .int .i64 t286), (40, .int .i64 t288), (44, .int .i64 t290), (8, .pointer (some ⟨s_, 0, none⟩)), (45, .agg #[.int .u64 t283, .int .i64 x7_1, .int .i64 t286, .int .i64 t288, .int .i64 t290])]) (fun s_ w' => (w'.cell? ⟨ad282.block, ad282.off + 1, none⟩ = some (.string (rdOf ByteArray.empty t279 1)) ∧ w'.cell? ⟨ad282.block, ad282.off + 2, none⟩ = some (.string (rdOf ByteArray.empty t279 2)) ∧ w'.cell? ⟨ad282.block, ad282.off + 3, none⟩ = some (.string (rdOf ByteArray.empty t279 3))) ∧ (Kd.R Kd.string 9 w' w.heap.size (fun _ => True) (.slice (some ad282) t279.length co9) t279) ∧ (w'.heap[gb278]? = some (.cells #[.int .u64 x279000_1, .int .i64 x279001_1, .int .i64 x279002_1, .int .i64 x279003_1, .int .i64 x279004_1] 38 (0, 0))) ∧ (w'.heap[s_]? = some (.cells #[.int .u64 0, .int .i64 0, .int .i64 0, .int .i64 0, .int .i64 0] 38 (0, 0))) ∧ (w.heap.size ≤ s_) ∧ (w.heap.size ≤ s_) ∧ (gb278 ≠ s_) ∧ (s_ ≠ gb278) ∧ (Below w.heap.size w w')) ?_ ?_
           rotate_left
           ·intro hCont
            refine two_ (i := 5) (j := 15) (Ni := some 36) (Nj := some 8) b59_ b60_ rfl rfl rfl rfl (two_of HT_.out (by kernel_rfl)) (by decide) (by decide) (fun K hK => ?_) (fun K hK => ?_)
            ·skip
             refine goes_ Tryd.func50 (by kernel_rfl) rfl #[.string (rdOf ByteArray.empty t279 1)] (by rfl) rfl rfl (by (try simp only [mT, mC, mN]); first | done | rfl | (simp only [lD, lT]; rfl)) ?_
             with_reducible refine (bureauref18_number.calls k1 (rdOf ByteArray.empty t279 1) t286 _ A13.out).mono ?_
             rintro e w' ⟨rfl, ⟨nd, rfl⟩⟩
             refine ⟨_, rfl, ?_⟩
             refine hK.out _ _ ⟨hHeld.1, hHeld.2.1, hHeld.2.2⟩ (fun hHeld => ?_)
             clear hK K
             refine norm_ (a' := ?_) ?_ ?_
             rotate_left
             ·show Act.put _ (some 36) _ = _
              simp only [Act.put, sA, sZ, sS, i64_w, i32_w]
              rfl
             refine two_ (i := 9) (j := 15) (Ni := some 40) (Nj := some 8) b61_ b62_ rfl rfl rfl rfl (two_of HT_.out (by kernel_rfl)) (by decide) (by decide) (fun K hK => ?_) (fun K hK => ?_)
             ·skip
              refine goes_ Tryd.func50 (by kernel_rfl) rfl #[.string (rdOf ByteArray.empty t279 2)] (by rfl) rfl rfl (by (try simp only [mT, mC, mN]); first | done | rfl | (simp only [lD, lT]; rfl)) ?_
              with_reducible refine (bureauref18_number.calls k1 (rdOf ByteArray.empty t279 2) t288 _ A15.out).mono ?_
              rintro e w' ⟨rfl, ⟨nd, rfl⟩⟩
              refine ⟨_, rfl, ?_⟩
              refine hK.out _ _ ⟨hHeld.1, hHeld.2.1, hHeld.2.2⟩ (fun hHeld => ?_)
              clear hK K
              refine norm_ (a' := ?_) ?_ ?_
              rotate_left
              ·show Act.put _ (some 40) _ = _
               simp only [Act.put, sA, sZ, sS, i64_w, i32_w]
               rfl
              refine two_ (i := 13) (j := 15) (Ni := some 44) (Nj := some 8) b63_ b64_ rfl rfl rfl rfl (two_of HT_.out (by kernel_rfl)) (by decide) (by decide) (fun K hK => ?_) (fun K hK => ?_)
              ·skip
               refine goes_ Tryd.func50 (by kernel_rfl) rfl #[.string (rdOf ByteArray.empty t279 3)] (by rfl) rfl rfl (by (try simp only [mT, mC, mN]); first | done | rfl | (simp only [lD, lT]; rfl)) ?_
               with_reducible refine (bureauref18_number.calls k1 (rdOf ByteArray.empty t279 3) t290 _ A17.out).mono ?_
               rintro e w' ⟨rfl, ⟨nd, rfl⟩⟩
               refine ⟨_, rfl, ?_⟩
               refine hK.out _ _ ⟨hHeld.1, hHeld.2.1, hHeld.2.2⟩ (fun hHeld => ?_)
               clear hK K
               refine norm_ (a' := ?_) ?_ ?_
               rotate_left
               ·show Act.put _ (some 44) _ = _
                simp only [Act.put, sA, sZ, sS, i64_w, i32_w]
                rfl
               refine pure_ (i := 14) (N := some 45) (v := ?_) (a' := ?_) b65_ rfl rfl (any_of HT_.out (by kernel_rfl)) (fun _ _ _ h => h) (Or.inl ⟨by rfl, ?_⟩) ?_ ?_
               rotate_left
               ·intro w'
                go_simp
                with_reducible rfl
               rotate_left
               ·simp only [Act.put, sA, sZ, sS, i64_w, i32_w]
                rfl
               refine one_ (i := 15) (N := some 8) b58_ rfl rfl (one_of HT_.out (by kernel_rfl)) (by decide) (fun K hK => ?_)
               refine box_step ?hg (N := 8) ?hd (cs := #[.int .u64 0, .int .i64 0, .int .i64 0, .int .i64 0, .int .i64 0]) (t := 38) ?hr ?_; (case hd | hg => rfl); (case hr => first | (go_simp; done) | (go_simp; rfl))
               intro gb291 hg w46 hbox hb
               have HS0_ := (hb.cell (World.block_lt_of_cell? _ _ (hHeld.1))).trans (hHeld.1)
               have HS1_ := (hb.cell (World.block_lt_of_cell? _ _ (hHeld.2.1))).trans (hHeld.2.1)
               have HS2_ := (hb.cell (World.block_lt_of_cell? _ _ (hHeld.2.2))).trans (hHeld.2.2)
               have n0_ := aM (Kd.R_below (ry HO_4.out) hb)
               have n1_ := aM (bB (g := gb278) (qy BK278.out) hb)
               have n2_ := aM (bP (by repeat (first | (with_reducible first | exact HB.out | apply ea | apply en | apply ed | refine es ?_ GE278.out) | exact HB.out)) hb)
               have n3_ := aM (hbox)
               have n4_ := aM ((by rw [hg]; exact (bZ (by repeat (first | (with_reducible first | exact HB.out | apply ea | apply en | apply ed | refine es ?_ GE278.out) | exact HB.out))) : w.heap.size ≤ gb291))
               have n5_ := aM ((by rw [hg]; exact (bZ (by repeat (first | (with_reducible first | exact HB.out | apply ea | apply en | apply ed | refine es ?_ GE278.out) | exact HB.out))) : w.heap.size ≤ gb291))
               have n6_ := aM ((by rw [hg]; exact Nat.ne_of_lt (blk_lt (g := gb278) (qy BK278.out)) : gb278 ≠ gb291))
               have n7_ := aM ((by rw [hg]; exact Nat.ne_of_gt (blk_lt (g := gb278) (qy BK278.out)) : gb291 ≠ gb278))
               clear HO_4
               clear BK278
               clear HB
               have HO_4 := n0_
               have BK278 := n1_
               have HB := n2_
               have BK291 := n3_
               have GW291 := n4_
               have GE291 := n5_
               have NB278_291 := n6_
               have NB291_278 := n7_
               clear n0_ n1_ n2_ n3_ n4_ n5_ n6_ n7_
               clear hb hbox hg
               refine hK.out _ _ ⟨HS0_, HS1_, HS2_⟩ (fun hHeld => ?_)
               clear hK K
               refine norm_ (a' := ?_) ?_ ?_
               rotate_left
               ·show Act.put _ (some 8) _ = _
                simp only [Act.put, sA, sZ, sS, i64_w, i32_w]
                rfl
               exact norm_ (by simp only [putAll, Act.put, sA, sZ, sS]) (hCont (gb291) _ ⟨hHeld, (ry HO_4.out), (qy BK278.out), (qy BK291.out), GW291.out, GE291.out, NB278_291.out, NB291_278.out, (by repeat (first | (with_reducible first | exact HB.out | apply ea | apply en | apply ed | refine es ?_ GE278.out | refine es ?_ GE291.out) | exact HB.out))⟩)
              ·skip
               refine box_step ?hg (N := 8) ?hd (cs := #[.int .u64 0, .int .i64 0, .int .i64 0, .int .i64 0, .int .i64 0]) (t := 38) ?hr ?_; (case hd | hg => rfl); (case hr => first | (go_simp; done) | (go_simp; rfl))
               intro gb291 hg w46 hbox hb
               have HS0_ := (hb.cell (World.block_lt_of_cell? _ _ (hHeld.1))).trans (hHeld.1)
               have HS1_ := (hb.cell (World.block_lt_of_cell? _ _ (hHeld.2.1))).trans (hHeld.2.1)
               have HS2_ := (hb.cell (World.block_lt_of_cell? _ _ (hHeld.2.2))).trans (hHeld.2.2)
               have n0_ := aM (Kd.R_below (ry HO_4.out) hb)
               have n1_ := aM (bB (g := gb278) (qy BK278.out) hb)
               have n2_ := aM (bP (by repeat (first | (with_reducible first | exact HB.out | apply ea | apply en | apply ed | refine es ?_ GE278.out) | exact HB.out)) hb)
               have n3_ := aM (hbox)
               have n4_ := aM ((by rw [hg]; exact (bZ (by repeat (first | (with_reducible first | exact HB.out | apply ea | apply en | apply ed | refine es ?_ GE278.out) | exact HB.out))) : w.heap.size ≤ gb291))
               have n5_ := aM ((by rw [hg]; exact (bZ (by repeat (first | (with_reducible first | exact HB.out | apply ea | apply en | apply ed | refine es ?_ GE278.out) | exact HB.out))) : w.heap.size ≤ gb291))
               have n6_ := aM ((by rw [hg]; exact Nat.ne_of_lt (blk_lt (g := gb278) (qy BK278.out)) : gb278 ≠ gb291))
               have n7_ := aM ((by rw [hg]; exact Nat.ne_of_gt (blk_lt (g := gb278) (qy BK278.out)) : gb291 ≠ gb278))
               clear HO_4
               clear BK278
               clear HB
               have HO_4 := n0_
               have BK278 := n1_
               have HB := n2_
               have BK291 := n3_
               have GW291 := n4_
               have GE291 := n5_
               have NB278_291 := n6_
               have NB291_278 := n7_
               clear n0_ n1_ n2_ n3_ n4_ n5_ n6_ n7_
               clear hb hbox hg
               refine hK.out _ _ ⟨HS0_, HS1_, HS2_⟩ (fun hHeld => ?_)
               clear hK K
               refine norm_ (a' := ?_) ?_ ?_
               rotate_left
               ·show Act.put _ (some 8) _ = _
                simp only [Act.put, sA, sZ, sS, i64_w, i32_w]
                rfl
               refine one_ (i := 13) (N := some 44) b66_ rfl rfl (one_of HT_.out (by kernel_rfl)) (by decide) (fun K hK => ?_)
               refine goes_ Tryd.func50 (by kernel_rfl) rfl #[.string (rdOf ByteArray.empty t279 3)] (by rfl) rfl rfl (by (try simp only [mT, mC, mN]); first | done | rfl | (simp only [lD, lT]; rfl)) ?_
               with_reducible refine (bureauref18_number.calls k1 (rdOf ByteArray.empty t279 3) t290 _ A17.out).mono ?_
               rintro e w' ⟨rfl, ⟨nd, rfl⟩⟩
               refine ⟨_, rfl, ?_⟩
               refine hK.out _ _ ⟨hHeld.1, hHeld.2.1, hHeld.2.2⟩ (fun hHeld => ?_)
               clear hK K
               refine norm_ (a' := ?_) ?_ ?_
               rotate_left
               ·show Act.put _ (some 44) _ = _
                simp only [Act.put, sA, sZ, sS, i64_w, i32_w]
                rfl
               refine pure_ (i := 14) (N := some 45) (v := ?_) (a' := ?_) b58_ rfl rfl (any_of HT_.out (by kernel_rfl)) (fun _ _ _ h => h) (Or.inl ⟨by rfl, ?_⟩) ?_ ?_
               rotate_left
               ·intro w'
                go_simp
                with_reducible rfl
               rotate_left
               ·simp only [Act.put, sA, sZ, sS, i64_w, i32_w]
                rfl
               exact norm_ (by simp only [putAll, Act.put, sA, sZ, sS]) (hCont (gb291) _ ⟨hHeld, (ry HO_4.out), (qy BK278.out), (qy BK291.out), GW291.out, GE291.out, NB278_291.out, NB291_278.out, (by repeat (first | (with_reducible first | exact HB.out | apply ea | apply en | apply ed | refine es ?_ GE278.out | refine es ?_ GE291.out) | exact HB.out))⟩)
             ·skip
              refine box_step ?hg (N := 8) ?hd (cs := #[.int .u64 0, .int .i64 0, .int .i64 0, .int .i64 0, .int .i64 0]) (t := 38) ?hr ?_; (case hd | hg => rfl); (case hr => first | (go_simp; done) | (go_simp; rfl))
              intro gb291 hg w46 hbox hb
              have HS0_ := (hb.cell (World.block_lt_of_cell? _ _ (hHeld.1))).trans (hHeld.1)
              have HS1_ := (hb.cell (World.block_lt_of_cell? _ _ (hHeld.2.1))).trans (hHeld.2.1)
              have HS2_ := (hb.cell (World.block_lt_of_cell? _ _ (hHeld.2.2))).trans (hHeld.2.2)
              have n0_ := aM (Kd.R_below (ry HO_4.out) hb)
              have n1_ := aM (bB (g := gb278) (qy BK278.out) hb)
              have n2_ := aM (bP (by repeat (first | (with_reducible first | exact HB.out | apply ea | apply en | apply ed | refine es ?_ GE278.out) | exact HB.out)) hb)
              have n3_ := aM (hbox)
              have n4_ := aM ((by rw [hg]; exact (bZ (by repeat (first | (with_reducible first | exact HB.out | apply ea | apply en | apply ed | refine es ?_ GE278.out) | exact HB.out))) : w.heap.size ≤ gb291))
              have n5_ := aM ((by rw [hg]; exact (bZ (by repeat (first | (with_reducible first | exact HB.out | apply ea | apply en | apply ed | refine es ?_ GE278.out) | exact HB.out))) : w.heap.size ≤ gb291))
              have n6_ := aM ((by rw [hg]; exact Nat.ne_of_lt (blk_lt (g := gb278) (qy BK278.out)) : gb278 ≠ gb291))
              have n7_ := aM ((by rw [hg]; exact Nat.ne_of_gt (blk_lt (g := gb278) (qy BK278.out)) : gb291 ≠ gb278))
              clear HO_4
              clear BK278
              clear HB
              have HO_4 := n0_
              have BK278 := n1_
              have HB := n2_
              have BK291 := n3_
              have GW291 := n4_
              have GE291 := n5_
              have NB278_291 := n6_
              have NB291_278 := n7_
              clear n0_ n1_ n2_ n3_ n4_ n5_ n6_ n7_
              clear hb hbox hg
              refine hK.out _ _ ⟨HS0_, HS1_, HS2_⟩ (fun hHeld => ?_)
              clear hK K
              refine norm_ (a' := ?_) ?_ ?_
              rotate_left
              ·show Act.put _ (some 8) _ = _
               simp only [Act.put, sA, sZ, sS, i64_w, i32_w]
               rfl
              refine one_ (i := 9) (N := some 40) b64_ rfl rfl (one_of HT_.out (by kernel_rfl)) (by decide) (fun K hK => ?_)
              refine goes_ Tryd.func50 (by kernel_rfl) rfl #[.string (rdOf ByteArray.empty t279 2)] (by rfl) rfl rfl (by (try simp only [mT, mC, mN]); first | done | rfl | (simp only [lD, lT]; rfl)) ?_
              with_reducible refine (bureauref18_number.calls k1 (rdOf ByteArray.empty t279 2) t288 _ A15.out).mono ?_
              rintro e w' ⟨rfl, ⟨nd, rfl⟩⟩
              refine ⟨_, rfl, ?_⟩
              refine hK.out _ _ ⟨hHeld.1, hHeld.2.1, hHeld.2.2⟩ (fun hHeld => ?_)
              clear hK K
              refine norm_ (a' := ?_) ?_ ?_
              rotate_left
              ·show Act.put _ (some 40) _ = _
               simp only [Act.put, sA, sZ, sS, i64_w, i32_w]
               rfl
              refine one_ (i := 13) (N := some 44) b66_ rfl rfl (one_of HT_.out (by kernel_rfl)) (by decide) (fun K hK => ?_)
              refine goes_ Tryd.func50 (by kernel_rfl) rfl #[.string (rdOf ByteArray.empty t279 3)] (by rfl) rfl rfl (by (try simp only [mT, mC, mN]); first | done | rfl | (simp only [lD, lT]; rfl)) ?_
              with_reducible refine (bureauref18_number.calls k1 (rdOf ByteArray.empty t279 3) t290 _ A17.out).mono ?_
              rintro e w' ⟨rfl, ⟨nd, rfl⟩⟩
              refine ⟨_, rfl, ?_⟩
              refine hK.out _ _ ⟨hHeld.1, hHeld.2.1, hHeld.2.2⟩ (fun hHeld => ?_)
              clear hK K
              refine norm_ (a' := ?_) ?_ ?_
              rotate_left
              ·show Act.put _ (some 44) _ = _
               simp only [Act.put, sA, sZ, sS, i64_w, i32_w]
               rfl
              refine pure_ (i := 14) (N := some 45) (v := ?_) (a' := ?_) b58_ rfl rfl (any_of HT_.out (by kernel_rfl)) (fun _ _ _ h => h) (Or.inl ⟨by rfl, ?_⟩) ?_ ?_
              rotate_left
              ·intro w'
               go_simp
               with_reducible rfl
              rotate_left
              ·simp only [Act.put, sA, sZ, sS, i64_w, i32_w]
               rfl
              exact norm_ (by simp only [putAll, Act.put, sA, sZ, sS]) (hCont (gb291) _ ⟨hHeld, (ry HO_4.out), (qy BK278.out), (qy BK291.out), GW291.out, GE291.out, NB278_291.out, NB291_278.out, (by repeat (first | (with_reducible first | exact HB.out | apply ea | apply en | apply ed | refine es ?_ GE278.out | refine es ?_ GE291.out) | exact HB.out))⟩)
            ·skip
             refine box_step ?hg (N := 8) ?hd (cs := #[.int .u64 0, .int .i64 0, .int .i64 0, .int .i64 0, .int .i64 0]) (t := 38) ?hr ?_; (case hd | hg => rfl); (case hr => first | (go_simp; done) | (go_simp; rfl))
             intro gb291 hg w46 hbox hb
             have HS0_ := (hb.cell (World.block_lt_of_cell? _ _ (hHeld.1))).trans (hHeld.1)
             have HS1_ := (hb.cell (World.block_lt_of_cell? _ _ (hHeld.2.1))).trans (hHeld.2.1)
             have HS2_ := (hb.cell (World.block_lt_of_cell? _ _ (hHeld.2.2))).trans (hHeld.2.2)
             have n0_ := aM (Kd.R_below (ry HO_4.out) hb)
             have n1_ := aM (bB (g := gb278) (qy BK278.out) hb)
             have n2_ := aM (bP (by repeat (first | (with_reducible first | exact HB.out | apply ea | apply en | apply ed | refine es ?_ GE278.out) | exact HB.out)) hb)
             have n3_ := aM (hbox)
             have n4_ := aM ((by rw [hg]; exact (bZ (by repeat (first | (with_reducible first | exact HB.out | apply ea | apply en | apply ed | refine es ?_ GE278.out) | exact HB.out))) : w.heap.size ≤ gb291))
             have n5_ := aM ((by rw [hg]; exact (bZ (by repeat (first | (with_reducible first | exact HB.out | apply ea | apply en | apply ed | refine es ?_ GE278.out) | exact HB.out))) : w.heap.size ≤ gb291))
             have n6_ := aM ((by rw [hg]; exact Nat.ne_of_lt (blk_lt (g := gb278) (qy BK278.out)) : gb278 ≠ gb291))
             have n7_ := aM ((by rw [hg]; exact Nat.ne_of_gt (blk_lt (g := gb278) (qy BK278.out)) : gb291 ≠ gb278))
             clear HO_4
             clear BK278
             clear HB
             have HO_4 := n0_
             have BK278 := n1_
             have HB := n2_
             have BK291 := n3_
             have GW291 := n4_
             have GE291 := n5_
             have NB278_291 := n6_
             have NB291_278 := n7_
             clear n0_ n1_ n2_ n3_ n4_ n5_ n6_ n7_
             clear hb hbox hg
             refine hK.out _ _ ⟨HS0_, HS1_, HS2_⟩ (fun hHeld => ?_)
             clear hK K
             refine norm_ (a' := ?_) ?_ ?_
             rotate_left
             ·show Act.put _ (some 8) _ = _
              simp only [Act.put, sA, sZ, sS, i64_w, i32_w]
              rfl
             refine one_ (i := 5) (N := some 36) b62_ rfl rfl (one_of HT_.out (by kernel_rfl)) (by decide) (fun K hK => ?_)
             refine goes_ Tryd.func50 (by kernel_rfl) rfl #[.string (rdOf ByteArray.empty t279 1)] (by rfl) rfl rfl (by (try simp only [mT, mC, mN]); first | done | rfl | (simp only [lD, lT]; rfl)) ?_
             with_reducible refine (bureauref18_number.calls k1 (rdOf ByteArray.empty t279 1) t286 _ A13.out).mono ?_
             rintro e w' ⟨rfl, ⟨nd, rfl⟩⟩
             refine ⟨_, rfl, ?_⟩
             refine hK.out _ _ ⟨hHeld.1, hHeld.2.1, hHeld.2.2⟩ (fun hHeld => ?_)
             clear hK K
             refine norm_ (a' := ?_) ?_ ?_
             rotate_left
             ·show Act.put _ (some 36) _ = _
              simp only [Act.put, sA, sZ, sS, i64_w, i32_w]
              rfl
             refine one_ (i := 9) (N := some 40) b64_ rfl rfl (one_of HT_.out (by kernel_rfl)) (by decide) (fun K hK => ?_)
             refine goes_ Tryd.func50 (by kernel_rfl) rfl #[.string (rdOf ByteArray.empty t279 2)] (by rfl) rfl rfl (by (try simp only [mT, mC, mN]); first | done | rfl | (simp only [lD, lT]; rfl)) ?_
             with_reducible refine (bureauref18_number.calls k1 (rdOf ByteArray.empty t279 2) t288 _ A15.out).mono ?_
             rintro e w' ⟨rfl, ⟨nd, rfl⟩⟩
             refine ⟨_, rfl, ?_⟩
             refine hK.out _ _ ⟨hHeld.1, hHeld.2.1, hHeld.2.2⟩ (fun hHeld => ?_)
             clear hK K
             refine norm_ (a' := ?_) ?_ ?_
             rotate_left
             ·show Act.put _ (some 40) _ = _
              simp only [Act.put, sA, sZ, sS, i64_w, i32_w]
              rfl
             refine one_ (i := 13) (N := some 44) b66_ rfl rfl (one_of HT_.out (by kernel_rfl)) (by decide) (fun K hK => ?_)
             refine goes_ Tryd.func50 (by kernel_rfl) rfl #[.string (rdOf ByteArray.empty t279 3)] (by rfl) rfl rfl (by (try simp only [mT, mC, mN]); first | done | rfl | (simp only [lD, lT]; rfl)) ?_
             with_reducible refine (bureauref18_number.calls k1 (rdOf ByteArray.empty t279 3) t290 _ A17.out).mono ?_
             rintro e w' ⟨rfl, ⟨nd, rfl⟩⟩
             refine ⟨_, rfl, ?_⟩
             refine hK.out _ _ ⟨hHeld.1, hHeld.2.1, hHeld.2.2⟩ (fun hHeld => ?_)
             clear hK K
             refine norm_ (a' := ?_) ?_ ?_
             rotate_left
             ·show Act.put _ (some 44) _ = _
              simp only [Act.put, sA, sZ, sS, i64_w, i32_w]
              rfl
             refine pure_ (i := 14) (N := some 45) (v := ?_) (a' := ?_) b58_ rfl rfl (any_of HT_.out (by kernel_rfl)) (fun _ _ _ h => h) (Or.inl ⟨by rfl, ?_⟩) ?_ ?_
             rotate_left
             ·intro w'
              go_simp
              with_reducible rfl
             rotate_left
             ·simp only [Act.put, sA, sZ, sS, i64_w, i32_w]
              rfl
             exact norm_ (by simp only [putAll, Act.put, sA, sZ, sS]) (hCont (gb291) _ ⟨hHeld, (ry HO_4.out), (qy BK278.out), (qy BK291.out), GW291.out, GE291.out, NB278_291.out, NB291_278.out, (by repeat (first | (with_reducible first | exact HB.out | apply ea | apply en | apply ed | refine es ?_ GE278.out | refine es ?_ GE291.out) | exact HB.out))⟩)
           rintro gb291 w47 ⟨hS_, h0_, h1_, h2_, h3_, h4_, h5_, h6_, h7_⟩
           have n0_ : Aside0 (Kd.R Kd.string 9 w47 w.heap.size (fun _ => True) (.slice (some ad282) t279.length co9) t279) := ⟨h0_⟩
           have n1_ : Aside0 (w47.heap[gb278]? = some (.cells #[.int .u64 x279000_1, .int .i64 x279001_1, .int .i64 x279002_1, .int .i64 x279003_1, .int .i64 x279004_1] 38 (0, 0))) := ⟨h1_⟩
           have n2_ : Aside0 (w47.heap[gb291]? = some (.cells #[.int .u64 0, .int .i64 0, .int .i64 0, .int .i64 0, .int .i64 0] 38 (0, 0))) := ⟨h2_⟩
           have n3_ : Aside0 (w.heap.size ≤ gb291) := ⟨h3_⟩
           have n4_ : Aside0 (w.heap.size ≤ gb291) := ⟨h4_⟩
           have n5_ : Aside0 (gb278 ≠ gb291) := ⟨h5_⟩
           have n6_ : Aside0 (gb291 ≠ gb278) := ⟨h6_⟩
           have n7_ : Aside0 (Below w.heap.size w w47) := ⟨h7_⟩
           clear HO_4
           clear BK278
           clear HB
           clear h0_ h1_ h2_ h3_ h4_ h5_ h6_ h7_
           have HO_4 := n0_
           have BK278 := n1_
           have BK291 := n2_
           have GW291 := n3_
           have GE291 := n4_
           have NB278_291 := n5_
           have NB291_278 := n6_
           have HB := n7_
           clear n0_ n1_ n2_ n3_ n4_ n5_ n6_ n7_
           have hHeld : w47.cell? ⟨ad282.block, ad282.off + 1, none⟩ = some (.string (rdOf ByteArray.empty t279 1)) ∧ w47.cell? ⟨ad282.block, ad282.off + 2, none⟩ = some (.string (rdOf ByteArray.empty t279 2)) ∧ w47.cell? ⟨ad282.block, ad282.off + 3, none⟩ = some (.string (rdOf ByteArray.empty t279 3)) := hS_
           refine norm_ (a' := ?_) ?_ ?_
           rotate_left
           ·simp only [putAll, Act.put, sA, sZ, sS]
            rfl
           refine one_ (i := 16) (N := none) b67_ rfl rfl (one_of HT_.out (by kernel_rfl)) (by decide) (fun K hK => ?_)
           have hs48 : w47.cell? ⟨gb291, 0, none⟩ = some (.int .u64 0) := (bC BK291.out 0).trans rfl
           have hfs48 := bF BK291.out 0
           have hns48_0 := NB278_291.out
           have hms48_0 := NB291_278.out
           have hs49 : w47.cell? ⟨gb291, 1, none⟩ = some (.int .i64 0) := (bC BK291.out 1).trans rfl
           have hfs49 := bF BK291.out 1
           have hns49_0 := NB278_291.out
           have hms49_0 := NB291_278.out
           have hs50 : w47.cell? ⟨gb291, 2, none⟩ = some (.int .i64 0) := (bC BK291.out 2).trans rfl
           have hfs50 := bF BK291.out 2
           have hns50_0 := NB278_291.out
           have hms50_0 := NB291_278.out
           have hs51 : w47.cell? ⟨gb291, 3, none⟩ = some (.int .i64 0) := (bC BK291.out 3).trans rfl
           have hfs51 := bF BK291.out 3
           have hns51_0 := NB278_291.out
           have hms51_0 := NB291_278.out
           have hs52 : w47.cell? ⟨gb291, 4, none⟩ = some (.int .i64 0) := (bC BK291.out 4).trans rfl
           have hfs52 := bF BK291.out 4
           have hns52_0 := NB278_291.out
           have hms52_0 := NB291_278.out
           refine skip_ (w1 := ?_) (by rfl) rfl ?_ ?_
           rotate_left
           ·go_simp
            rfl
           refine hK.out _ _ ⟨((cell_far (p := ⟨gb291, _, none⟩) (by first | (dsimp only; with_reducible exact Kd.own_blk (Kd.R_ne HO_4.out BK291.out (by decide))) | exact Kd.own_blk (Kd.R_ne HO_4.out BK291.out (by decide)) | (rw [add_block]; exact Kd.own_blk (Kd.R_ne HO_4.out BK291.out (by decide))) | (show (Addr.add _ _).block ≠ _; rw [add_block]; exact Kd.own_blk (Kd.R_ne HO_4.out BK291.out (by decide))) | (dsimp only; exact Kd.own_blk (Kd.R_ne HO_4.out BK291.out (by decide)))) _).trans (((cell_far (p := ⟨gb291, _, none⟩) (by first | (dsimp only; with_reducible exact Kd.own_blk (Kd.R_ne HO_4.out BK291.out (by decide))) | exact Kd.own_blk (Kd.R_ne HO_4.out BK291.out (by decide)) | (rw [add_block]; exact Kd.own_blk (Kd.R_ne HO_4.out BK291.out (by decide))) | (show (Addr.add _ _).block ≠ _; rw [add_block]; exact Kd.own_blk (Kd.R_ne HO_4.out BK291.out (by decide))) | (dsimp only; exact Kd.own_blk (Kd.R_ne HO_4.out BK291.out (by decide)))) _).trans (((cell_far (p := ⟨gb291, _, none⟩) (by first | (dsimp only; with_reducible exact Kd.own_blk (Kd.R_ne HO_4.out BK291.out (by decide))) | exact Kd.own_blk (Kd.R_ne HO_4.out BK291.out (by decide)) | (rw [add_block]; exact Kd.own_blk (Kd.R_ne HO_4.out BK291.out (by decide))) | (show (Addr.add _ _).block ≠ _; rw [add_block]; exact Kd.own_blk (Kd.R_ne HO_4.out BK291.out (by decide))) | (dsimp only; exact Kd.own_blk (Kd.R_ne HO_4.out BK291.out (by decide)))) _).trans (((cell_far (p := ⟨gb291, _, none⟩) (by first | (dsimp only; with_reducible exact Kd.own_blk (Kd.R_ne HO_4.out BK291.out (by decide))) | exact Kd.own_blk (Kd.R_ne HO_4.out BK291.out (by decide)) | (rw [add_block]; exact Kd.own_blk (Kd.R_ne HO_4.out BK291.out (by decide))) | (show (Addr.add _ _).block ≠ _; rw [add_block]; exact Kd.own_blk (Kd.R_ne HO_4.out BK291.out (by decide))) | (dsimp only; exact Kd.own_blk (Kd.R_ne HO_4.out BK291.out (by decide)))) _).trans (((cell_far (p := ⟨gb291, _, none⟩) (by first | (dsimp only; with_reducible exact Kd.own_blk (Kd.R_ne HO_4.out BK291.out (by decide))) | exact Kd.own_blk (Kd.R_ne HO_4.out BK291.out (by decide)) | (rw [add_block]; exact Kd.own_blk (Kd.R_ne HO_4.out BK291.out (by decide))) | (show (Addr.add _ _).block ≠ _; rw [add_block]; exact Kd.own_blk (Kd.R_ne HO_4.out BK291.out (by decide))) | (dsimp only; exact Kd.own_blk (Kd.R_ne HO_4.out BK291.out (by decide)))) _).trans (hHeld.1)))))))))), ((cell_far (p := ⟨gb291, _, none⟩) (by first | (dsimp only; with_reducible exact Kd.own_blk (Kd.R_ne HO_4.out BK291.out (by decide))) | exact Kd.own_blk (Kd.R_ne HO_4.out BK291.out (by decide)) | (rw [add_block]; exact Kd.own_blk (Kd.R_ne HO_4.out BK291.out (by decide))) | (show (Addr.add _ _).block ≠ _; rw [add_block]; exact Kd.own_blk (Kd.R_ne HO_4.out BK291.out (by decide))) | (dsimp only; exact Kd.own_blk (Kd.R_ne HO_4.out BK291.out (by decide)))) _).trans (((cell_far (p := ⟨gb291, _, none⟩) (by first | (dsimp only; with_reducible exact Kd.own_blk (Kd.R_ne HO_4.out BK291.out (by decide))) | exact Kd.own_blk (Kd.R_ne HO_4.out BK291.out (by decide)) | (rw [add_block]; exact Kd.own_blk (Kd.R_ne HO_4.out BK291.out (by decide))) | (show (Addr.add _ _).block ≠ _; rw [add_block]; exact Kd.own_blk (Kd.R_ne HO_4.out BK291.out (by decide))) | (dsimp only; exact Kd.own_blk (Kd.R_ne HO_4.out BK291.out (by decide)))) _).trans (((cell_far (p := ⟨gb291, _, none⟩) (by first | (dsimp only; with_reducible exact Kd.own_blk (Kd.R_ne HO_4.out BK291.out (by decide))) | exact Kd.own_blk (Kd.R_ne HO_4.out BK291.out (by decide)) | (rw [add_block]; exact Kd.own_blk (Kd.R_ne HO_4.out BK291.out (by decide))) | (show (Addr.add _ _).block ≠ _; rw [add_block]; exact Kd.own_blk (Kd.R_ne HO_4.out BK291.out (by decide))) | (dsimp only; exact Kd.own_blk (Kd.R_ne HO_4.out BK291.out (by decide)))) _).trans (((cell_far (p := ⟨gb291, _, none⟩) (by first | (dsimp only; with_reducible exact Kd.own_blk (Kd.R_ne HO_4.out BK291.out (by decide))) | exact Kd.own_blk (Kd.R_ne HO_4.out BK291.out (by decide)) | (rw [add_block]; exact Kd.own_blk (Kd.R_ne HO_4.out BK291.out (by decide))) | (show (Addr.add _ _).block ≠ _; rw [add_block]; exact Kd.own_blk (Kd.R_ne HO_4.out BK291.out (by decide))) | (dsimp only; exact Kd.own_blk (Kd.R_ne HO_4.out BK291.out (by decide)))) _).trans (((cell_far (p := ⟨gb291, _, none⟩) (by first | (dsimp only; with_reducible exact Kd.own_blk (Kd.R_ne HO_4.out BK291.out (by decide))) | exact Kd.own_blk (Kd.R_ne HO_4.out BK291.out (by decide)) | (rw [add_block]; exact Kd.own_blk (Kd.R_ne HO_4.out BK291.out (by decide))) | (show (Addr.add _ _).block ≠ _; rw [add_block]; exact Kd.own_blk (Kd.R_ne HO_4.out BK291.out (by decide))) | (dsimp only; exact Kd.own_blk (Kd.R_ne HO_4.out BK291.out (by decide)))) _).trans (hHeld.2.1)))))))))), ((cell_far (p := ⟨gb291, _, none⟩) (by first | (dsimp only; with_reducible exact Kd.own_blk (Kd.R_ne HO_4.out BK291.out (by decide))) | exact Kd.own_blk (Kd.R_ne HO_4.out BK291.out (by decide)) | (rw [add_block]; exact Kd.own_blk (Kd.R_ne HO_4.out BK291.out (by decide))) | (show (Addr.add _ _).block ≠ _; rw [add_block]; exact Kd.own_blk (Kd.R_ne HO_4.out BK291.out (by decide))) | (dsimp only; exact Kd.own_blk (Kd.R_ne HO_4.out BK291.out (by decide)))) _).trans (((cell_far (p := ⟨gb291, _, none⟩) (by first | (dsimp only; with_reducible exact Kd.own_blk (Kd.R_ne HO_4.out BK291.out (by decide))) | exact Kd.own_blk (Kd.R_ne HO_4.out BK291.out (by decide)) | (rw [add_block]; exact Kd.own_blk (Kd.R_ne HO_4.out BK291.out (by decide))) | (show (Addr.add _ _).block ≠ _; rw [add_block]; exact Kd.own_blk (Kd.R_ne HO_4.out BK291.out (by decide))) | (dsimp only; exact Kd.own_blk (Kd.R_ne HO_4.out BK291.out (by decide)))) _).trans (((cell_far (p := ⟨gb291, _, none⟩) (by first | (dsimp only; with_reducible exact Kd.own_blk (Kd.R_ne HO_4.out BK291.out (by decide))) | exact Kd.own_blk (Kd.R_ne HO_4.out BK291.out (by decide)) | (rw [add_block]; exact Kd.own_blk (Kd.R_ne HO_4.out BK291.out (by decide))) | (show (Addr.add _ _).block ≠ _; rw [add_block]; exact Kd.own_blk (Kd.R_ne HO_4.out BK291.out (by decide))) | (dsimp only; exact Kd.own_blk (Kd.R_ne HO_4.out BK291.out (by decide)))) _).trans (((cell_far (p := ⟨gb291, _, none⟩) (by first | (dsimp only; with_reducible exact Kd.own_blk (Kd.R_ne HO_4.out BK291.out (by decide))) | exact Kd.own_blk (Kd.R_ne HO_4.out BK291.out (by decide)) | (rw [add_block]; exact Kd.own_blk (Kd.R_ne HO_4.out BK291.out (by decide))) | (show (Addr.add _ _).block ≠ _; rw [add_block]; exact Kd.own_blk (Kd.R_ne HO_4.out BK291.out (by decide))) | (dsimp only; exact Kd.own_blk (Kd.R_ne HO_4.out BK291.out (by decide)))) _).trans (((cell_far (p := ⟨gb291, _, none⟩) (by first | (dsimp only; with_reducible exact Kd.own_blk (Kd.R_ne HO_4.out BK291.out (by decide))) | exact Kd.own_blk (Kd.R_ne HO_4.out BK291.out (by decide)) | (rw [add_block]; exact Kd.own_blk (Kd.R_ne HO_4.out BK291.out (by decide))) | (show (Addr.add _ _).block ≠ _; rw [add_block]; exact Kd.own_blk (Kd.R_ne HO_4.out BK291.out (by decide))) | (dsimp only; exact Kd.own_blk (Kd.R_ne HO_4.out BK291.out (by decide)))) _).trans (hHeld.2.2))))))))))⟩ (fun hHeld => ?_)
           clear hK K
           refine done_ (done_of HT_.out (by kernel_rfl)) ?_
           have hnb53 := NB291_278.out
           have hnc53 := NB278_291.out
           have hcz54_0 := zC BK291.out 0 (.int .u64 0)
           have hcz54_1 := zC BK291.out 1 (.int .i64 0)
           have hcz54_2 := zC BK291.out 2 (.int .i64 0)
           have hcz54_3 := zC BK291.out 3 (.int .i64 0)
           have hcz54_4 := zC BK291.out 4 (.int .i64 0)
           have hfz54_0 := bF BK291.out 0
           have hfz54_1 := bF BK291.out 1
           have hfz54_2 := bF BK291.out 2
           have hfz54_3 := bF BK291.out 3
           have hfz54_4 := bF BK291.out 4
           try go_wp2_with (first | ((with_reducible refine gate_callee (f := 27) rfl ?_); refine goesL_ (some 48) rfl rfl Tryd.func27 (by kernel_rfl) rfl #[.agg #[.int .u64 t283, .int .i64 x7_1, .int .i64 t286, .int .i64 t288, .int .i64 t290]] rfl (by (try simp only [mT, mC, mN]); first | done | rfl | (simp only [lD, lT]; rfl)) ?_; (with_reducible refine (bureauref18_Print.calls k1 t283 x7_1 t286 t288 t290 t292 t293 _ A18.out).mono ?_); rintro e w55 ⟨rfl, hb⟩; refine ⟨_, rfl, ?_⟩; have n0_ := aM (Kd.R_below (by (with_reducible repeat (first | apply ra | apply rn | apply rd_)); exact (rM (rF (p := ⟨gb291, 4, none⟩) (rF (p := ⟨gb291, 3, none⟩) (rF (p := ⟨gb291, 2, none⟩) (rF (p := ⟨gb291, 1, none⟩) (rF (p := ⟨gb291, 0, none⟩) (rT HO_4.out BK291.out (by decide)) (fun _ hk => hk.2) (.int .u64 t283)) (fun _ hk => hk.2) (.int .i64 x7_1)) (fun _ hk => hk.2) (.int .i64 t286)) (fun _ hk => hk.2) (.int .i64 t288)) (fun _ hk => hk.2) (.int .i64 t290)) (fun _ h_ => h_.1))) hb); have n1_ := aM (bB (g := gb278) (o := .cells #[.int .u64 x279000_1, .int .i64 x279001_1, .int .i64 x279002_1, .int .i64 x279003_1, .int .i64 x279004_1] 38 (0, 0)) (by (with_reducible repeat (first | apply qn | apply qd | apply qa)); refine bR ?_ NB278_291.out _; (with_reducible repeat (first | apply qn | apply qd | apply qa)); refine bR ?_ NB278_291.out _; (with_reducible repeat (first | apply qn | apply qd | apply qa)); refine bR ?_ NB278_291.out _; (with_reducible repeat (first | apply qn | apply qd | apply qa)); refine bR ?_ NB278_291.out _; (with_reducible repeat (first | apply qn | apply qd | apply qa)); refine bR ?_ NB278_291.out _; exact qy BK278.out) hb); have n2_ := aM (bB (g := gb291) (o := .cells #[.int .u64 t283, .int .i64 x7_1, .int .i64 t286, .int .i64 t288, .int .i64 t290] 38 (0, 0)) (by (with_reducible repeat (first | apply qn | apply qd | apply qa)); refine bU (cs := #[.int .u64 t283, .int .i64 x7_1, .int .i64 t286, .int .i64 t288, .int .i64 0]) ?_ 4 _ rfl; (with_reducible repeat (first | apply qn | apply qd | apply qa)); refine bU (cs := #[.int .u64 t283, .int .i64 x7_1, .int .i64 t286, .int .i64 0, .int .i64 0]) ?_ 3 _ rfl; (with_reducible repeat (first | apply qn | apply qd | apply qa)); refine bU (cs := #[.int .u64 t283, .int .i64 x7_1, .int .i64 0, .int .i64 0, .int .i64 0]) ?_ 2 _ rfl; (with_reducible repeat (first | apply qn | apply qd | apply qa)); refine bU (cs := #[.int .u64 t283, .int .i64 0, .int .i64 0, .int .i64 0, .int .i64 0]) ?_ 1 _ rfl; (with_reducible repeat (first | apply qn | apply qd | apply qa)); refine bU (cs := #[.int .u64 0, .int .i64 0, .int .i64 0, .int .i64 0, .int .i64 0]) ?_ 0 _ rfl; exact qy BK291.out) hb); have n3_ := aM (bP (by repeat (first | (with_reducible first | exact HB.out | apply ea | apply en | apply ed | refine es ?_ GE278.out | refine es ?_ GE291.out) | exact HB.out)) hb); clear HO_4 BK278 BK291 HB; have HO_4 := n0_; have BK278 := n1_; have BK291 := n2_; have HB := n3_; clear n0_ n1_ n2_ n3_; (try clear hb); (try clear hb2); (try clear hk); (try clear hi)))
           go_roundg k1
           case measure => have := HK1.out; omega
           case rel => exact ⟨(wrap64 (x7_1 + 1)), (x279000_1), (x279001_1), (x279002_1), (x279003_1), (x279004_1), (by first | rfl | (simp; done) | (simp [*]; done)), H', ⟨by have := HK1.out; omega⟩, ⟨by exact ry HO_4.out⟩, ⟨by exact qy BK278.out⟩, ⟨by repeat (first | (with_reducible first | exact HB.out | apply ea | apply en | apply ed | refine es ?_ GE278.out | refine es ?_ GE291.out) | exact HB.out)⟩⟩
         ·rw [if_neg c16] at H
          exact absurd H (by simp)
        ·rw [if_neg c14] at H
         exact absurd H (by simp)
       ·rw [if_neg c12] at H
        exact absurd H (by simp)
      ·rw [if_neg c11] at H
       have c11b0 : decide (x7_1 ≤ 4) = false := decide_eq_false c11
       clear c11
       simp only [Option.some.injEq, Prod.mk.injEq] at H
       obtain ⟨rfl, rfl, rfl, rfl, rfl, rfl⟩ := H
       have hcz56_0 := zC BK278.out 0 (.int .u64 x279000_1)
       have hcz56_1 := zC BK278.out 1 (.int .i64 x279001_1)
       have hcz56_2 := zC BK278.out 2 (.int .i64 x279002_1)
       have hcz56_3 := zC BK278.out 3 (.int .i64 x279003_1)
       have hcz56_4 := zC BK278.out 4 (.int .i64 x279004_1)
       have hfz56_0 := bF BK278.out 0
       have hfz56_1 := bF BK278.out 1
       have hfz56_2 := bF BK278.out 2
       have hfz56_3 := bF BK278.out 3
       have hfz56_4 := bF BK278.out 4
       go_wp2
       refine bodyPost_ret (results_ct rfl _ _ gb278 38 #[.int .u64 0, .int .i64 0, .int .i64 0, .int .i64 0, .int .i64 0] (0, 0) _ rfl (by (with_reducible repeat (first | apply qn | apply qd | apply qa)); refine bU (cs := #[.int .u64 0, .int .i64 0, .int .i64 0, .int .i64 0, .int .i64 x279004_1]) ?_ 4 _ rfl; (with_reducible repeat (first | apply qn | apply qd | apply qa)); refine bU (cs := #[.int .u64 0, .int .i64 0, .int .i64 0, .int .i64 x279003_1, .int .i64 x279004_1]) ?_ 3 _ rfl; (with_reducible repeat (first | apply qn | apply qd | apply qa)); refine bU (cs := #[.int .u64 0, .int .i64 0, .int .i64 x279002_1, .int .i64 x279003_1, .int .i64 x279004_1]) ?_ 2 _ rfl; (with_reducible repeat (first | apply qn | apply qd | apply qa)); refine bU (cs := #[.int .u64 0, .int .i64 x279001_1, .int .i64 x279002_1, .int .i64 x279003_1, .int .i64 x279004_1]) ?_ 1 _ rfl; (with_reducible repeat (first | apply qn | apply qd | apply qa)); refine bU (cs := #[.int .u64 x279000_1, .int .i64 x279001_1, .int .i64 x279002_1, .int .i64 x279003_1, .int .i64 x279004_1]) ?_ 0 _ rfl; exact qy BK278.out) Tryd.underlying38 rfl (by kernel_rfl)) rfl ?_
       exact ⟨by first | rfl | (simp [errW_none, errW_some] <;> rfl) | (simp [*, errW_none, errW_some] <;> rfl), by repeat (first | (with_reducible first | exact HB.out | apply ea | apply en | apply ed | refine es ?_ GE278.out) | exact HB.out)⟩
   ·rw [if_neg c6] at H
    have c6b0 : (t284 == 0) = false := beq_eq_false_iff_ne.mpr c6
    have c6b1 : (t284 != 0) = true := bne_iff_ne.mpr c6
    simp only [Option.some.injEq, Prod.mk.injEq] at H
    obtain ⟨rfl, rfl, rfl, rfl, rfl, rfl⟩ := H
    go_enter Tryd.func29, Tryd.ntmps29
    go_wp2_with (first | ((with_reducible refine gate_dst (N := 2) rfl ?_); refine box_event ?hg (N := 2) ?hd (cs := #[.int .u64 0, .int .i64 0, .int .i64 0, .int .i64 0, .int .i64 0]) (t := 38) ?hr ?_; (case hd | hg => rfl); (case hr => first | (go_simp; done) | (go_simp; rfl)); intro gb278 hg w57 hbox hb; have n0_ := aM (bP (ey HB.out) hb); have n1_ := aM (hbox); have n2_ := aM ((by rw [hg]; exact (bZ (ey HB.out)) : w.heap.size ≤ gb278)); have n3_ := n2_; clear HB; have HB := n0_; have BK278 := n1_; have GW278 := n2_; have GE278 := n3_; clear n0_ n1_ n2_ n3_; clear hb hbox hg) | ((with_reducible refine gate_callee (f := 48) rfl ?_); refine goesL_ (some 12) rfl rfl Tryd.func48 (by kernel_rfl) rfl #[.string a0] rfl (by (try simp only [mT, mC, mN]); first | done | rfl | (simp only [lD, lT]; rfl)) ?_; (with_reducible refine (bureauref18_parts.calls k a0 t279 _ A2.out).mono ?_); rintro e w58 ⟨v280, rfl, ho0, hb⟩; refine ⟨_, rfl, ?_⟩; have n0_ := aM (rL ho0 (bZ (by repeat (first | (with_reducible first | exact HB.out | apply ea | apply en | apply ed | refine es ?_ GE278.out) | exact HB.out)))); have n1_ := aM (bB (g := gb278) (qy BK278.out) hb); have n2_ := aM (bP (by repeat (first | (with_reducible first | exact HB.out | apply ea | apply en | apply ed | refine es ?_ GE278.out) | exact HB.out)) hb); clear BK278 HB; have HO281 := n0_; have BK278 := n1_; have HB := n2_; clear n0_ n1_ n2_; (try clear hb); (try clear hb2); (try clear hk); (try clear hi); (try clear ho0); obtain ⟨Ao59, co59, eo59⟩ := Kd.R_slice HO281.out; subst eo59; have p282 : 0 ≤ (4 : Int) := (by omega); have q282 : 4 < (t279.length : Int) := of_decide_eq_true (by first | (with_reducible assumption) | assumption); obtain ⟨ad282, e282, hx282_0⟩ := Kd.at_string (rR HO281.out).2.2 4 p282 q282; cases e282; (try simp only [show (4 : Int).toNat = 4 from rfl, Nat.reduceMul, Nat.reduceEqDiff, Go.Addr.add, ↓reduceIte] at hx282_0); have qi282 : (4 < t279.length) = True := eq_true (by omega); (try rw [show ((4 : Int)).toNat = 4 from rfl] at hx282_0); replace p282 := eq_true p282; replace q282 := eq_true q282) | ((with_reducible refine gate_callee (f := 49) rfl ?_); refine goesL_ (some 21) rfl rfl Tryd.func49 (by kernel_rfl) rfl #[.string (rdOf ByteArray.empty t279 4)] rfl (by (try simp only [mT, mC, mN]); first | done | rfl | (simp only [lD, lT]; rfl)) ?_; (with_reducible refine (bureauref01_Parse.calls k (rdOf ByteArray.empty t279 4) t283 t284 _ A5.out).mono ?_); rintro e w60 ⟨rfl, hb⟩; refine ⟨_, rfl, ?_⟩; have n0_ := aM (Kd.R_below (ry HO281.out) hb); have n1_ := aM (bB (g := gb278) (qy BK278.out) hb); have n2_ := aM (bP (by repeat (first | (with_reducible first | exact HB.out | apply ea | apply en | apply ed | refine es ?_ GE278.out) | exact HB.out)) hb); clear HO281 BK278 HB; have HO281 := n0_; have BK278 := n1_; have HB := n2_; clear n0_ n1_ n2_; (try clear hb); (try clear hb2); (try clear hk); (try clear hi); have hcz61_0 := zC BK278.out 0 (.int .u64 0); have hcz61_1 := zC BK278.out 1 (.int .i64 0); have hcz61_2 := zC BK278.out 2 (.int .i64 0); have hcz61_3 := zC BK278.out 3 (.int .i64 0); have hcz61_4 := zC BK278.out 4 (.int .i64 0); have hfz61_0 := bF BK278.out 0; have hfz61_1 := bF BK278.out 1; have hfz61_2 := bF BK278.out 2; have hfz61_3 := bF BK278.out 3; have hfz61_4 := bF BK278.out 4))
    refine bodyPost_ret (results_ct rfl _ _ gb278 38 #[.int .u64 0, .int .i64 0, .int .i64 0, .int .i64 0, .int .i64 0] (0, 0) _ rfl (by (with_reducible repeat (first | apply qn | apply qd | apply qa)); refine bU (cs := #[.int .u64 0, .int .i64 0, .int .i64 0, .int .i64 0, .int .i64 0]) ?_ 4 _ rfl; (with_reducible repeat (first | apply qn | apply qd | apply qa)); refine bU (cs := #[.int .u64 0, .int .i64 0, .int .i64 0, .int .i64 0, .int .i64 0]) ?_ 3 _ rfl; (with_reducible repeat (first | apply qn | apply qd | apply qa)); refine bU (cs := #[.int .u64 0, .int .i64 0, .int .i64 0, .int .i64 0, .int .i64 0]) ?_ 2 _ rfl; (with_reducible repeat (first | apply qn | apply qd | apply qa)); refine bU (cs := #[.int .u64 0, .int .i64 0, .int .i64 0, .int .i64 0, .int .i64 0]) ?_ 1 _ rfl; (with_reducible repeat (first | apply qn | apply qd | apply qa)); refine bU (cs := #[.int .u64 0, .int .i64 0, .int .i64 0, .int .i64 0, .int .i64 0]) ?_ 0 _ rfl; exact qy BK278.out) Tryd.underlying38 rfl (by kernel_rfl)) rfl ?_
    exact ⟨by first | rfl | (simp [errW_none, errW_some] <;> rfl) | (simp [*, errW_none, errW_some] <;> rfl), by repeat (first | (with_reducible first | exact HB.out | apply ea | apply en | apply ed | refine es ?_ GE278.out) | exact HB.out)⟩
  ·rw [if_neg c4] at H
   exact absurd H (by simp)
 ·rw [if_neg c3] at H
  have c3b0 : ((t279.length : Int) == 5) = false := beq_eq_false_iff_ne.mpr c3
  have c3b1 : ((t279.length : Int) != 5) = true := bne_iff_ne.mpr c3
  simp only [Option.some.injEq, Prod.mk.injEq] at H
  obtain ⟨rfl, rfl, rfl, rfl, rfl, rfl⟩ := H
  go_enter Tryd.func29, Tryd.ntmps29
  go_wp2_with (first | ((with_reducible refine gate_dst (N := 2) rfl ?_); refine box_event ?hg (N := 2) ?hd (cs := #[.int .u64 0, .int .i64 0, .int .i64 0, .int .i64 0, .int .i64 0]) (t := 38) ?hr ?_; (case hd | hg => rfl); (case hr => first | (go_simp; done) | (go_simp; rfl)); intro gb278 hg w62 hbox hb; have n0_ := aM (bP (ey HB.out) hb); have n1_ := aM (hbox); have n2_ := aM ((by rw [hg]; exact (bZ (ey HB.out)) : w.heap.size ≤ gb278)); have n3_ := n2_; clear HB; have HB := n0_; have BK278 := n1_; have GW278 := n2_; have GE278 := n3_; clear n0_ n1_ n2_ n3_; clear hb hbox hg) | ((with_reducible refine gate_callee (f := 48) rfl ?_); refine goesL_ (some 12) rfl rfl Tryd.func48 (by kernel_rfl) rfl #[.string a0] rfl (by (try simp only [mT, mC, mN]); first | done | rfl | (simp only [lD, lT]; rfl)) ?_; (with_reducible refine (bureauref18_parts.calls k a0 t279 _ A2.out).mono ?_); rintro e w63 ⟨v280, rfl, ho0, hb⟩; refine ⟨_, rfl, ?_⟩; have n0_ := aM (rL ho0 (bZ (by repeat (first | (with_reducible first | exact HB.out | apply ea | apply en | apply ed | refine es ?_ GE278.out) | exact HB.out)))); have n1_ := aM (bB (g := gb278) (qy BK278.out) hb); have n2_ := aM (bP (by repeat (first | (with_reducible first | exact HB.out | apply ea | apply en | apply ed | refine es ?_ GE278.out) | exact HB.out)) hb); clear BK278 HB; have HO281 := n0_; have BK278 := n1_; have HB := n2_; clear n0_ n1_ n2_; (try clear hb); (try clear hb2); (try clear hk); (try clear hi); (try clear ho0); obtain ⟨Ao64, co64, eo64⟩ := Kd.R_slice HO281.out; subst eo64; have hcz65_0 := zC BK278.out 0 (.int .u64 0); have hcz65_1 := zC BK278.out 1 (.int .i64 0); have hcz65_2 := zC BK278.out 2 (.int .i64 0); have hcz65_3 := zC BK278.out 3 (.int .i64 0); have hcz65_4 := zC BK278.out 4 (.int .i64 0); have hfz65_0 := bF BK278.out 0; have hfz65_1 := bF BK278.out 1; have hfz65_2 := bF BK278.out 2; have hfz65_3 := bF BK278.out 3; have hfz65_4 := bF BK278.out 4))
  refine bodyPost_ret (results_ct rfl _ _ gb278 38 #[.int .u64 0, .int .i64 0, .int .i64 0, .int .i64 0, .int .i64 0] (0, 0) _ rfl (by (with_reducible repeat (first | apply qn | apply qd | apply qa)); refine bU (cs := #[.int .u64 0, .int .i64 0, .int .i64 0, .int .i64 0, .int .i64 0]) ?_ 4 _ rfl; (with_reducible repeat (first | apply qn | apply qd | apply qa)); refine bU (cs := #[.int .u64 0, .int .i64 0, .int .i64 0, .int .i64 0, .int .i64 0]) ?_ 3 _ rfl; (with_reducible repeat (first | apply qn | apply qd | apply qa)); refine bU (cs := #[.int .u64 0, .int .i64 0, .int .i64 0, .int .i64 0, .int .i64 0]) ?_ 2 _ rfl; (with_reducible repeat (first | apply qn | apply qd | apply qa)); refine bU (cs := #[.int .u64 0, .int .i64 0, .int .i64 0, .int .i64 0, .int .i64 0]) ?_ 1 _ rfl; (with_reducible repeat (first | apply qn | apply qd | apply qa)); refine bU (cs := #[.int .u64 0, .int .i64 0, .int .i64 0, .int .i64 0, .int .i64 0]) ?_ 0 _ rfl; exact qy BK278.out) Tryd.underlying38 rfl (by kernel_rfl)) rfl ?_
  exact ⟨by first | rfl | (simp [errW_none, errW_some] <;> rfl) | (simp [*, errW_none, errW_some] <;> rfl), by repeat (first | (with_reducible first | exact HB.out | apply ea | apply en | apply ed | refine es ?_ GE278.out) | exact HB.out)⟩
end Go.Proofs.YtcbiilbmldinhaaDoor.PB
end

section
namespace Go.Proofs.YtcbiilbmldinhaaDoor.PB
open Go.RowKit Go.Maps Go.Proofs.YtcbiilbmldinhaaDoorW.PrintWords Go.Proofs.YtcbiilbmldinhaaDoorW.PrintLast Go.Proofs.YtcbiilbmldinhaaDoorW.PrintMore
set_option maxRecDepth 100000
set_option linter.unusedVariables false
set_option linter.unusedSimpArgs false
abbrev iL (a : Int) : DataW Unit := .lit (.int .i64 a)
abbrev kL (L : Int) : Lit := .int .u64 L
theorem lawK : Keyed Tryd.prog 34 := int_keyed Tryd.underlying34
theorem zeroE (w : World) : (zeroValue 3).run Tryd.prog w = .ok (.int .i64 0) w := by kernel_rfl
theorem mapne (b : Nat) (w : World) : (binOp BinOp.neq 53 (.map (some b)) (.map none)).run Tryd.prog w = .ok (.bool true) w := by kernel_rfl
structure LogAt (B g bm : Nat) (v : Value) (w : World) (D : DataW Unit) (xs : List S36) : Prop where
  hg : w.heap[g]? = some (.cells #[.map (some bm), v] 55 (0, 0))
  hm : w.ownsMap Tryd.prog 34 (plainElem Tryd.prog 3) bm 8 D
  hR : Kd.R k36 36 w B (fun _ => True) v xs
  hB : B ≤ g
  hb : B ≤ bm
theorem LogAt.below {B g bm : Nat} {v : Value} {w W : World} {D : DataW Unit} {xs : List S36} (h : LogAt B g bm v w D xs) (hb : Below w.heap.size w W) : LogAt B g bm v W D xs :=
  ⟨bB h.hg hb, h.hm.kept (grown_of_below hb none) (by simp), Kd.R_below h.hR hb, h.hB, h.hb⟩
theorem LogAt.ne {B g bm : Nat} {v : Value} {w : World} {D : DataW Unit} {xs : List S36} (h : LogAt B g bm v w D xs) {i : Nat} {cs : Array Value} {t : TypeId} {fr : Nat × Nat} (hi : w.heap[i]? = some (.cells cs t fr)) : i ≠ bm := by
  rintro rfl
  obtain ⟨es, clock, hb, _⟩ := h.hm
  rw [hi] at hb
  cases hb
section
variable {P : Program} {ops : Array Oper} {Q : Exit → Act → World → Prop} {md : Region.Mode} {S : World → Prop} {ds : List Nat} {oi : Oper} {v : Value} {fuel : Nat} {l : Array Bool} {a : Act} {w : World} {a' : Act}
theorem sv (i n : Nat) (l' : Array Bool) (h : wpAnyLast P md ops Q S ds fuel l' a' w) (hi : ops[i]? = some oi := by rfl) (hN : oi.dst = some n := by rfl) (hc : anyB md ops l l' i = true := by kernel_rfl) (hQ : ∀ (c : List PanicEntry) (a : Act) (w : World), Q (.panic c) (a.put oi.dst v) w → Q (.panic c) a w := by exact fun _ _ _ h => h) (hy : Yields P ops oi v a := by exact Or.inl ⟨by rfl, fun w' => by go_simp; with_reducible rfl⟩) (ha : a.put (some n) v = a' := by simp only [Act.put, List.setIfInBounds_toArray, List.set_cons_zero, List.set_cons_succ, i64_w, i32_w]; rfl) : wpAnyLast P md ops Q S ds (fuel + 1) l a w := pure_ l' hi hN hc hQ hy ha h
theorem st (i n : Nat) (l' : Array Bool) (hS : S w) (h : wpAnyLast P md ops Q S ds fuel l' a' w) (hi : ops[i]? = some oi := by rfl) (hN : oi.dst = some n := by rfl) (hc : takeB md ops ds l l' i = true := by kernel_rfl) (hQ : ∀ (c : List PanicEntry) (a : Act) (w : World), Q (.panic c) (a.put oi.dst v) w → Q (.panic c) a w := by exact fun _ _ _ h => h) (hy : YieldsIf P ops S oi v a := by exact Or.inl ⟨by rfl, fun w' hs => by (repeat obtain ⟨_, hs⟩ := hs); go_simp; with_reducible rfl⟩) (ha : a.put (some n) v = a' := by simp only [Act.put, List.setIfInBounds_toArray, List.set_cons_zero, List.set_cons_succ, i64_w, i32_w]; rfl) : wpAnyLast P md ops Q S ds (fuel + 1) l a w := take_ l' hi hN hc hQ hy hS ha h
end
abbrev tT := true
abbrev tF := false
theorem w1n {i n : Nat} (h : i < n) (hn : n ≤ 1000000000000000) : wrap64 ((i : Int) + 1) = ((i + 1 : Nat) : Int) := by unfold wrap64; omega
theorem wlen {n : Nat} (h : n ≤ 1000000000000000) : wrap64 (n : Int) = (n : Int) := by
  unfold wrap64
  omega
theorem ownsMap_tight {P : Program} {kt : TypeId} {R : Value → Option (DataW Unit × List MemPlace)} {w : World} {b n m : Nat} {D : DataW Unit} (K : Keyed P kt) (h : w.ownsMap P kt R b n D) (hm : Maps.size D ≤ m) : w.ownsMap P kt R b m D := by
  obtain ⟨es, clock, hb, F, _, rfl⟩ := h
  refine ⟨es, clock, hb, F, ?_, rfl⟩
  rwa [Maps.size_eq, length_read] at hm
theorem good_ok {g bm : Nat} {v : Value} {w : World} (hg : w.heap[g]? = some (.cells #[.map (some bm), v] 55 (0, 0))) :
    Calls Tryd.prog 32 #[.pointer (some ⟨g, 0, none⟩)] w fun e w' => e = .returned (.bool true) ∧ w' = w := by
  have c0 : w.cell? ⟨g, 0, none⟩ = some (.map (some bm)) := (bC hg 0).trans rfl
  have hne := mapne bm
  go_enter Tryd.func32, Tryd.ntmps32
  go_wp2
  go_ret
  exact ⟨rfl, rfl⟩
theorem room_ok {B g bm : Nat} {v : Value} {w : World} {D : DataW Unit} {xs : List S36} (h : LogAt B g bm v w D xs) (L : Int) (hL : (kL L).wf = true) :
    Calls Tryd.prog 21 #[.pointer (some ⟨g, 0, none⟩), .int .u64 L] w fun e w' => ∃ c, e = .returned (.int .i64 c) ∧ D.atKey (kL L) (iL 0) = iL c ∧ w' = w := by
  have c0 : w.cell? ⟨g, 0, none⟩ = some (.map (some bm)) := (bC h.hg 0).trans rfl
  have hkey := keyOf_int_mk Tryd.underlying34 hL
  go_enter Tryd.func21, Tryd.ntmps21
  go_wp2_with (first
    | ((with_reducible refine gate_callee (f := 32) rfl ?_); refine goesL_ (some 6) rfl rfl Tryd.func32 (by kernel_rfl) rfl #[.pointer (some ⟨g, 0, none⟩)] rfl (by (try simp only [List.map_toArray, List.map_cons, List.map_nil]); first | done | rfl) ?_; (with_reducible refine (good_ok h.hg).mono ?_); rintro e w3 ⟨rfl, hw⟩; subst w3; refine ⟨_, rfl, ?_⟩)
    | (at_lookup; refine wpList_lookup_own_int _ rfl _ _ 53 rfl 34 3 .i64 lawK Tryd.underlying53 Tryd.underlying3 (zeroE _) bm 8 D rfl h.hm _ _ rfl hkey ?_; intro c hat hwc)
    )
  go_ret
  exact ⟨c, rfl, hat, rfl⟩
theorem add_ok (k : Nat) {B g bm : Nat} {v : Value} {w : World} {D : DataW Unit} {xs : List S36} (h : LogAt B g bm v w D xs) (hBw : B ≤ w.heap.size)
    (a0 a1 a2 a3 a4 : Int) (hL : (kL a0).wf = true) (hmay : audit_Record_may.f k a0 a1 a2 a3 a4 = some true) (hhas : Maps.has D (kL a0) = true) (c : Int) (hc : D.atKey (kL a0) (iL 0) = iL c) (hroom : ¬ c < 1) (hlen : (xs.length + 1) * 40 ≤ 140737488355328) :
    Calls Tryd.prog 13 #[.pointer (some ⟨g, 0, none⟩), .agg #[.int .u64 a0, .int .i64 a1, .int .i64 a2, .int .i64 a3, .int .i64 a4]] w fun e w' =>
      e = .returned (.tuple #[.int .i64 xs.length, .int .i64 0]) ∧ ∃ v', LogAt B g bm v' w' (D.put (kL a0) (iL (wrap64 (c - 1)))) (xs ++ [⟨a0, a1, a2, a3, a4⟩]) ∧ Below B w w' ∧ Kept w w' (fun k => k = g ∨ k = bm ∨ some k = v.ownBlock) ∧ ∀ k, v'.ownBlock = some k → v.ownBlock = some k ∨ w.heap.size ≤ k := by
  have hu36 := Tryd.underlying36
  have hkey := keyOf_int_mk Tryd.underlying34 hL
  have hcr : decide (c < 1) = false := decide_eq_false hroom
  have HL := aM hlen
  have HH := aM h
  clear hlen h
  go_enter Tryd.func13, Tryd.ntmps13
  go_wp2_with (first
    | ((with_reducible refine gate_dst (N := 3) rfl ?_); (try (refine gate_guard (by rfl) ?_; dsimp only)); refine box_event ?hg (N := 3) ?hd (cs := #[.int .u64 a0, .int .i64 a1, .int .i64 a2, .int .i64 a3, .int .i64 a4]) (t := 36) ?hr ?_; (case hd => rfl); (case hg => rfl); (case hr => first | (go_simp; done) | (go_simp; rfl)); intro gb hg w4 hbox hb; have HA := aM (HH.out.below hb); have BK := aM hbox; have HW := aM hb; have GE := aM (show w.heap.size ≤ gb by omega); clear hb hbox hg)
    | ((with_reducible refine gate_callee (f := 32) rfl ?_); refine goesL_ (some 9) rfl rfl Tryd.func32 (by kernel_rfl) rfl #[.pointer (some ⟨g, 0, none⟩)] rfl (by (try simp only [List.map_toArray, List.map_cons, List.map_nil]); first | done | rfl) ?_; (with_reducible refine (good_ok HA.out.hg).mono ?_); rintro e w3 ⟨rfl, hw⟩; subst w3; refine ⟨_, rfl, ?_⟩)
    )
  have c0 : w4.cell? ⟨g, 0, none⟩ = some (.map (some bm)) := (bC HA.out.hg 0).trans rfl
  have hx0 : w4.cell? ⟨gb, 0, none⟩ = some (.int .u64 a0) := (bC BK.out 0).trans rfl
  obtain ⟨v0, ps0, hv0, hrun⟩ : ∃ v0 ps0, plainElem Tryd.prog 3 v0 = some (D.atKey (kL a0) (iL 0), ps0) ∧ ∀ n, (Instr.lookup 53 (.map (some bm)) (.int .u64 a0) true).run Tryd.prog (w4.drewN n) = .ok (.tuple #[v0, .bool (Maps.has D (kL a0))]) (w4.drewN n) := by
    obtain ⟨v0, ps0, hr0, hv0⟩ := HA.out.hm.look_ok lawK Tryd.underlying53 (zeroE _) (plainElem_int Tryd.underlying3 (by decide)) hkey
    refine ⟨v0, ps0, hv0, fun n => ?_⟩
    obtain ⟨v1, ps1, hr1, hv1⟩ := World.ownsMap.look_ok (w := w4.drewN n) HA.out.hm lawK Tryd.underlying53 (zeroE _) (plainElem_int Tryd.underlying3 (by decide)) hkey
    obtain ⟨x0, rfl, e0, _⟩ := plainElem_int_inv Tryd.underlying3 hv0
    obtain ⟨x1, rfl, e1, _⟩ := plainElem_int_inv Tryd.underlying3 hv1
    rw [hr1]
    have h0 := congrArg Prod.fst e0
    have h1 := congrArg Prod.fst e1
    have h2 : (iL x0 : DataW Unit) = iL x1 := h0.symm.trans h1
    injection h2 with h2
    injection h2 with _ h2
    rw [h2]
  obtain ⟨x0, rfl, e0, _⟩ := plainElem_int_inv Tryd.underlying3 hv0
  obtain rfl : x0 = c := by rw [hc] at e0; simpa using (congrArg Prod.fst e0).symm
  rw [hhas] at hrun
  clear hv0 e0
  go_quiet (fail)
  have HA5 := aM (HA.out.below (pw_below_drewN (Below.refl _ _) nq : Below w4.heap.size w4 (w4.drewN nq)))
  have BK5 := aM (blk_drewN BK.out nq)
  have hsz5 : w.heap.size ≤ (w4.drewN nq).heap.size := Nat.le_of_lt (Nat.lt_of_le_of_lt GE.out (blk_lt BK5.out))
  have HW5 := aM (pw_below_drewN HW.out nq)
  generalize w4.drewN nq = w5 at *
  clear HA BK HW c0 hx0 hrun
  have HA := HA5
  have BK := BK5
  have HW := HW5
  clear HA5 BK5 HW5
  have hy0 : w5.cell? ⟨gb, 0, none⟩ = some (.int .u64 a0) := (bC BK.out 0).trans rfl
  have hy1 : w5.cell? ⟨gb, 1, none⟩ = some (.int .i64 a1) := (bC BK.out 1).trans rfl
  have hy2 : w5.cell? ⟨gb, 2, none⟩ = some (.int .i64 a2) := (bC BK.out 2).trans rfl
  have hy3 : w5.cell? ⟨gb, 3, none⟩ = some (.int .i64 a3) := (bC BK.out 3).trans rfl
  have hy4 : w5.cell? ⟨gb, 4, none⟩ = some (.int .i64 a4) := (bC BK.out 4).trans rfl
  go_wp2_with (first
    | ((with_reducible refine gate_callee (f := 33) rfl ?_); refine goesL_ (some 23) rfl rfl Tryd.func33 (by kernel_rfl) rfl #[.agg #[.int .u64 a0, .int .i64 a1, .int .i64 a2, .int .i64 a3, .int .i64 a4]] rfl (by (try simp only [List.map_toArray, List.map_cons, List.map_nil]); first | done | rfl) ?_; (with_reducible refine (audit_Record_may.calls k a0 a1 a2 a3 a4 true _ hmay).mono ?_); rintro e w6 ⟨rfl, hb⟩; refine ⟨_, rfl, ?_⟩; have HA6 := aM (HA.out.below hb); have BK6 := aM (bB BK.out hb); have HW6 := aM (bP HW.out hb); have hsz6 := Nat.le_trans hsz5 hb.size; clear hb)
    )
  clear hy0 hy1 hy2 hy3 hy4 HA BK HW hsz5
  have hz0 : w6.cell? ⟨g, 0, none⟩ = some (.map (some bm)) := (bC HA6.out.hg 0).trans rfl
  have hy0 : w6.cell? ⟨gb, 0, none⟩ = some (.int .u64 a0) := (bC BK6.out 0).trans rfl
  go_still_tail 8, (by kernel_rfl)
  have HA7 := aM (HA6.out.below ((Below.refl _ _).drew : Below w6.heap.size w6 w6.drew))
  have BK7 := aM (blk_drew BK6.out)
  have HW7 := aM (HW6.out.drew)
  have hsz7 : w.heap.size ≤ w6.drew.heap.size := hsz6
  clear HA6 BK6 HW6 hz0 hy0
  change wpList _ _ _ _ _ w6.drew
  generalize w6.drew = w7 at *
  simp only [i64_w]
  go_wp2_with (first
    | (at_mapUpdate; refine wpList_mapUpdate_in _ rfl _ _ _ 53 rfl 34 3 lawK Tryd.underlying53 _ bm 8 D rfl HA7.out.hm (by decide) _ _ _ rfl rfl hkey _ [] (plainElem_int Tryd.underlying3 (wrap64_wf _)) ?_; intro w8 hown8 hturn8)
    )
  have hvb := Kd.R_lt HH.out.hR
  have hgbm := HA7.out.ne HA7.out.hg
  have hbb := HA7.out.ne BK7.out
  have HG8 := aM (blk_grown HA7.out.hg hturn8.grown (by simpa using hgbm))
  have BK8 := aM (blk_grown BK7.out hturn8.grown (by simpa using hbb))
  have HR8 := aM (Kd.R_grown2 HA7.out.hR rfl hturn8.grown (fun k hk e => by
    obtain ⟨cells, hc⟩ := Kd.R_typed HA7.out.hR k e.symm
    cases hk
    exact HA7.out.ne hc rfl))
  have hsz8 : w.heap.size ≤ w8.heap.size := Nat.le_trans hsz7 hturn8.grown.size
  refine start_ (n := 11) (S := fun w' => w'.cell? ⟨g, 1, none⟩ = some v ∧ w'.cell? ⟨gb, 0, none⟩ = some (.int .u64 a0) ∧ w'.cell? ⟨gb, 1, none⟩ = some (.int .i64 a1) ∧ w'.cell? ⟨gb, 2, none⟩ = some (.int .i64 a2) ∧ w'.cell? ⟨gb, 3, none⟩ = some (.int .i64 a3) ∧ w'.cell? ⟨gb, 4, none⟩ = some (.int .i64 a4)) (ds := [10]) #[tF,tF,tF,tF,tF,tF,tF,tF,tF,tF,tF] (by kernel_rfl) rfl rfl ⟨(bC HG8.out 1).trans rfl, (bC BK8.out 0).trans rfl, (bC BK8.out 1).trans rfl, (bC BK8.out 2).trans rfl, (bC BK8.out 3).trans rfl, (bC BK8.out 4).trans rfl⟩ (fun hHeld => ?_)
  refine sv 0 39 #[tT,tF,tF,tF,tF,tF,tF,tF,tF,tF,tF] ?_
  refine sv 1 40 #[tT,tT,tF,tF,tF,tF,tF,tF,tF,tF,tF] ?_
  refine sv 2 41 #[tT,tT,tT,tF,tF,tF,tF,tF,tF,tF,tF] ?_
  refine sv 3 42 #[tT,tT,tT,tT,tF,tF,tF,tF,tF,tF,tF] ?_
  refine st 5 44 #[tT,tT,tT,tT,tF,tT,tF,tF,tF,tF,tF] hHeld ?_
  refine st 4 43 #[tT,tT,tT,tT,tT,tT,tF,tF,tF,tF,tF] hHeld ?_
  have HB9 := aM (((HW7.out.mono hBw).grown hturn8.grown (Nat.le_trans hBw hsz7) (fun k hk => by cases hk; exact HH.out.hb)).drew)
  have HK9 := aM ((Kept.of_grown hturn8.grown (Kept.of_below HW7.out (fun k => k = g ∨ k = bm ∨ some k = v.ownBlock)) (fun k hk => .inl (.inr (.inl (by cases hk; rfl))))).drew)
  have HG9 := aM (blk_drew HG8.out)
  have BK9 := aM (blk_drew BK8.out)
  have HR9 := aM (Kd.R_drew HR8.out)
  have hsz9 : w.heap.size ≤ w8.drew.heap.size := hsz8
  have hm9 : w8.drew.ownsMap Tryd.prog 34 (plainElem Tryd.prog 3) bm (8 + 1) (D.put (kL a0) (iL (wrap64 (x0 - 1)))) := hown8
  generalize w8.drew = w9 at HG9 BK9 HR9 hsz9 hHeld hm9 HB9 HK9 ⊢
  have HM9 := aM hm9
  clear HG8 BK8 HR8 hsz8 hm9 hown8 hturn8 HA7 BK7 HW7 hsz7
  have HB0 := aM hBw
  refine one_ (i := 6) (N := some 45) #[tT,tT,tT,tT,tT,tT,tT,tF,tF,tF,tF] rfl rfl (by kernel_rfl) (by decide) (fun K hK => ?_)
  refine value_ (v := .slice (some ⟨w9.heap.size, 0, none⟩) 1 1) (w1 := w9.alloc (.cells #[.int .u64 a0, .int .i64 a1, .int .i64 a2, .int .i64 a3, .int .i64 a4] 36)) (by rfl) rfl ?_ ?_
  · go_simp
  have HG' := aM (blk_alloc HG9.out (.cells #[.int .u64 a0, .int .i64 a1, .int .i64 a2, .int .i64 a3, .int .i64 a4] 36))
  have BK' := aM (blk_alloc BK9.out (.cells #[.int .u64 a0, .int .i64 a1, .int .i64 a2, .int .i64 a3, .int .i64 a4] 36))
  refine hK.out _ _ ⟨(bC HG'.out 1).trans rfl, (bC BK'.out 0).trans rfl, (bC BK'.out 1).trans rfl, (bC BK'.out 2).trans rfl, (bC BK'.out 3).trans rfl, (bC BK'.out 4).trans rfl⟩ (fun hHeld => ?_)
  clear hK K HG' BK'
  refine norm_ (a' := ?_) ?_ ?_
  rotate_left
  · show Act.put _ (some 45) _ = _
    simp only [Act.put, List.setIfInBounds_toArray, List.set_cons_zero, List.set_cons_succ]
    rfl
  refine one_ (i := 7) (N := some 46) #[tT,tT,tT,tT,tT,tT,tT,tT,tF,tF,tF] rfl rfl (by kernel_rfl) (by decide) (fun K hK => ?_)
  refine Kd.R_append_step k36 (w0 := w) B (by rfl) (.tmp 43) (.tmp 45) 43 36 (.agg #[(.int .u64 0), (.int .i64 0), (.int .i64 0), (.int .i64 0), (.int .i64 0)]) 40 rfl Tryd.underlying43 info36 rfl (by decide) (by omega) v xs (⟨a0, a1, a2, a3, a4⟩ : S36) [.int .u64 a0, .int .i64 a1, .int .i64 a2, .int .i64 a3, .int .i64 a4] (fun _ => True) (fun _ => False) rfl rfl (k36_mkM _ _ _ _) (fun _ h => h.elim) (fun _ _ => trivial) HR9.out HB9.out (Nat.le_trans HB0.out hsz9) HL.out ?_
  intro v1 w10 ho hb hg1 hat
  obtain ⟨A1, c1, e1⟩ := Kd.R_slice ho
  rw [List.length_append, List.length_singleton] at e1
  subst e1
  have hgv := Kd.R_ne HR9.out HG9.out (by decide)
  have hgbv : some gb ≠ v.ownBlock := fun e => by have := hvb gb e.symm; have := GE.out; omega
  have hbmv : some bm ≠ v.ownBlock := fun e => by
    obtain ⟨cells, hc⟩ := Kd.R_typed HR9.out bm e.symm
    obtain ⟨es, clock, h2, _⟩ := HM9.out
    rw [h2] at hc
    cases hc
  have HG := aM (blk_grown HG9.out hg1 hgv)
  have BK := aM (blk_grown BK9.out hg1 hgbv)
  have HM := aM (HM9.out.kept hg1 hbmv)
  have HB := aM hb
  have HK := aM (Kept.of_grown hg1 HK9.out (fun k hk => .inl (.inr (.inr hk.symm))))
  have HO := aM ho
  have HQ := aM (show ∀ k, (Value.slice A1 (xs.length + 1) c1).ownBlock = some k → v.ownBlock = some k ∨ w.heap.size ≤ k from fun k hk => hat.elim (fun h => .inl (h ▸ hk)) (fun ⟨b, hb, hle⟩ => .inr (by rw [hb] at hk; cases hk; exact Nat.le_trans hsz9 hle)))
  clear ho hb hg1 hat HG9 BK9 HM9 HB9 HK9 HR9 hsz9
  refine hK.out _ _ ⟨(bC HG.out 1).trans rfl, (bC BK.out 0).trans rfl, (bC BK.out 1).trans rfl, (bC BK.out 2).trans rfl, (bC BK.out 3).trans rfl, (bC BK.out 4).trans rfl⟩ (fun hHeld => ?_)
  clear hK K
  refine norm_ (a' := ?_) ?_ ?_
  rotate_left
  · show Act.put _ (some 46) _ = _
    simp only [Act.put, List.setIfInBounds_toArray, List.set_cons_zero, List.set_cons_succ]
    rfl
  refine sv 8 47 #[tT,tT,tT,tT,tT,tT,tT,tT,tT,tF,tF] ?_
  refine sv 9 48 #[tT,tT,tT,tT,tT,tT,tT,tT,tT,tT,tF] ?_
  refine last_ (i := 10) (N := none) #[tT,tT,tT,tT,tT,tT,tT,tT,tT,tT,tT] rfl rfl (by kernel_rfl) (by decide) (fun K hK => ?_)
  have hs1 : w10.cell? ⟨g, 1, none⟩ = some v := (bC HG.out 1).trans rfl
  have hf1 := bF HG.out 1
  refine skip_ (w1 := ?_) (by rfl) rfl ?_ ?_
  rotate_left
  · go_simp
    rfl
  refine hK.out _ _ (done_ (by kernel_rfl) ?_)
  clear hK K
  have HG2 := aM (bU (cs' := #[.map (some bm), .slice A1 (xs.length + 1) c1]) HG.out 1 (.slice A1 (xs.length + 1) c1) rfl)
  have hq1 := (bC HG2.out 1).trans (rfl : _ = some (Value.slice A1 (xs.length + 1) c1))
  go_wp2
  go_ret2
  refine ⟨?_, _, ⟨HG2.out, ?_, Kd.R_set HO.out HG.out (by decide) _ _, HH.out.hB, HH.out.hb⟩, HB.out.setCell HH.out.hB _, HK.out.setCell (.inl (.inl rfl)) _, HQ.out⟩
  · rw [wlen (by have := HL.out; omega)]
    rfl
  · refine ownsMap_tight lawK (HM.out.setCell (hgbm.symm) _) ?_
    rw [Maps.size_put (HH.out.hm.tidy lawK), if_pos hhas]
    exact HH.out.hm.size_le
end Go.Proofs.YtcbiilbmldinhaaDoor.PB
end

section
namespace Go.Proofs.YtcbiilbmldinhaaDoor.PB
open Go.RowKit Go.Proofs.YtcbiilbmldinhaaDoorW.PrintWords Go.Proofs.YtcbiilbmldinhaaDoorW.PrintLast Go.Proofs.YtcbiilbmldinhaaDoorW.PrintMore
attribute [local go_sem] max2_int min2_int max_two min_two max_three min_three max_four min_four   
set_option linter.unusedVariables false
set_option linter.unusedSimpArgs false
mutual
def label_category.j0 : Nat → ByteArray → Bool → Option (Int × Bool)
 | 0, _, _ => none
 | k + 1, x0, x23 => if x23 = true then (some (0, false)) else (label_category.l0 k x0 0 (x0.size : Int) 0)
def label_category.l0 : Nat → ByteArray → Int → Int → Int → Option (Int × Bool)
 | 0, _, _, _, _ => none
 | k + 1, x0, x4, x25, x26 => if x26 < x25 then (if 0 ≤ x26 then (if x26 < (x0.size : Int) then (if (bt x0 x26) < 48 then (some (0, false)) else (if (bt x0 x26) > 57 then (some (0, false)) else (label_category.l0 k x0 (wrap64 ((wrap64 (x4 * 10)) + (((bt x0 x26) - 48) % 256))) x25 (wrap64 (x26 + 1))))) else (none)) else (none)) else (some (x4, decide (x4 < 64)))
end
def label_category.f (k : Nat) (a0 : ByteArray) : Option (Int × Bool) := if (a0.size : Int) < 1 then (label_category.j0 k a0 true) else (if (a0.size : Int) > 2 then (label_category.j0 k a0 true) else (if (a0.size : Int) = 2 then (if 0 < (a0.size : Int) then (label_category.j0 k a0 ((bt a0 0) == 48)) else (none)) else (label_category.j0 k a0 false)))
set_option maxHeartbeats 8000000 in
set_option maxRecDepth 100000 in
theorem label_category.calls (k : Nat) (a0 : ByteArray) (r1 : Int) (r2 : Bool) (w : World) (h : label_category.f k a0 = some (r1, r2)) :
  Calls Tryd.prog 62 #[.string a0] w fun e w' => e = .returned (.tuple #[.int .i64 r1, .bool r2]) ∧ Drawn0 w w' := by
 have H : (if (a0.size : Int) < 1 then (label_category.j0 k a0 true) else (if (a0.size : Int) > 2 then (label_category.j0 k a0 true) else (if (a0.size : Int) = 2 then (if 0 < (a0.size : Int) then (label_category.j0 k a0 ((bt a0 0) == 48)) else (none)) else (label_category.j0 k a0 false)))) = some (r1, r2) := h
 clear h
 have HC2 := aM H
 clear H
 go_enter Tryd.func62, Tryd.ntmps62
 go_upto_region 1 with (fail)
 go_cut [23] (fun v23 wc => ∃ (kq : Nat) (x23_1 : Bool), v23 = .bool x23_1 ∧ Aside0 (label_category.j0 kq a0 x23_1 = some (r1, r2)) ∧ Aside0 (kq ≤ k) ∧ Drawn0 w wc)
 case first =>
  have H := HC2.out
  clear HC2
  by_cases c3 : (a0.size : Int) < 1
  ·rw [if_pos c3] at H
   have c3b0 : decide ((a0.size : Int) < 1) = true := decide_eq_true c3
   have c3b1 : decide (a0.size < 1) = true := decide_eq_true (by omega)
   clear c3
   (first | rw [c3b0] | (simp only [i64_w, i32_w]; rw [c3b0]) | skip)
   have H' := aM H
   clear H
   go_wp2
   go_meet
   case rel => exact ⟨_, (true), (by first | rfl | (simp; done) | (simp [*]; done)), H', ⟨by first | omega | exact Nat.le_refl _⟩, by repeat (first | exact Drawn0.refl _ | apply Drawn0.step)⟩
  ·rw [if_neg c3] at H
   have c3b0 : decide ((a0.size : Int) < 1) = false := decide_eq_false c3
   have c3b1 : decide (a0.size < 1) = false := decide_eq_false (by omega)
   clear c3
   (first | rw [c3b0] | (simp only [i64_w, i32_w]; rw [c3b0]) | skip)
   by_cases c4 : (a0.size : Int) > 2
   ·rw [if_pos c4] at H
    have c4b0 : decide (2 < (a0.size : Int)) = true := decide_eq_true c4
    have c4b1 : decide (2 < a0.size) = true := decide_eq_true (by omega)
    clear c4
    have H' := aM H
    clear H
    go_wp2
    go_meet
    case rel => exact ⟨_, (true), (by first | rfl | (simp; done) | (simp [*]; done)), H', ⟨by first | omega | exact Nat.le_refl _⟩, by repeat (first | exact Drawn0.refl _ | apply Drawn0.step)⟩
   ·rw [if_neg c4] at H
    have c4b0 : decide (2 < (a0.size : Int)) = false := decide_eq_false c4
    have c4b1 : decide (2 < a0.size) = false := decide_eq_false (by omega)
    clear c4
    by_cases c5 : (a0.size : Int) = 2
    ·rw [if_pos c5] at H
     have c5b0 : ((a0.size : Int) == 2) = true := beq_iff_eq.mpr c5
     have c5b1 : ((a0.size : Int) != 2) = false := bne_eq_false_iff_eq.mpr c5
     clear c5
     by_cases c6 : 0 < (a0.size : Int)
     ·rw [if_pos c6] at H
      have c6b0 : decide (0 < (a0.size : Int)) = true := decide_eq_true c6
      have c6b1 : decide (0 < a0.size) = true := decide_eq_true (by omega)
      clear c6
      have H' := aM H
      clear H
      have p7 : 0 ≤ (0 : Int) := (by omega)
      have q7 : 0 < a0.size := (by have : (0 : Int) < (a0.size : Int) := of_decide_eq_true (by first | (with_reducible assumption) | assumption); omega)
      have hx7 : ∀ h : 0 < a0.size, ((a0[0]'h).toNat : Int) = bt a0 0 := bt_at a0 0
      clear p7
      have qi7 : (0 < (a0.size : Int)) = True := eq_true (of_decide_eq_true (by first | (with_reducible assumption) | assumption))
      replace q7 := eq_true q7
      go_wp2
      go_meet
      case rel => exact ⟨_, (((bt a0 0) == 48)), (by first | rfl | (simp; done) | (simp [*]; done)), H', ⟨by first | omega | exact Nat.le_refl _⟩, by repeat (first | exact Drawn0.refl _ | apply Drawn0.step)⟩
     ·rw [if_neg c6] at H
      exact absurd H (by simp)
    ·rw [if_neg c5] at H
     have c5b0 : ((a0.size : Int) == 2) = false := beq_eq_false_iff_ne.mpr c5
     have c5b1 : ((a0.size : Int) != 2) = true := bne_iff_ne.mpr c5
     have H' := aM H
     clear H
     go_wp2
     go_meet
     case rel => exact ⟨_, (false), (by first | rfl | (simp; done) | (simp [*]; done)), H', ⟨by first | omega | exact Nat.le_refl _⟩, by repeat (first | exact Drawn0.refl _ | apply Drawn0.step)⟩
 case rest =>
  clear HC2
  try clear p2
  try clear c3
  try clear c3b0
  try clear c3b1
  try clear c4
  try clear c4b0
  try clear c4b1
  try clear c5
  try clear c5b0
  try clear c5b1
  try clear c6
  try clear c6b0
  try clear c6b1
  try clear p7
  try clear q7
  try clear hx7
  try clear qi7
  try clear p7
  try clear q7
  obtain ⟨kq, x23_1, rfl, HA, HJ1, ⟨mc1, rfl⟩⟩ := hcut
  cases kq with
  | zero => exact absurd HA.out (by simp [label_category.j0])
  | succ kj1 =>
   have H := HA.out
   clear HA
   simp only [label_category.j0] at H
   by_cases c8 : x23_1 = true
   ·subst c8
    have H1 : (some (0, false)) = some (r1, r2) := by rw [if_pos rfl] at H; exact H
    clear H
    have H := H1
    clear H1
    simp only [Option.some.injEq, Prod.mk.injEq] at H
    obtain ⟨rfl, rfl⟩ := H
    go_wp2
    go_ret2
    exact ⟨by first | rfl | (simp; done) | (simp [*]; done), by repeat (first | exact Drawn0.refl _ | apply Drawn0.step)⟩
   ·replace c8 := Bool.eq_false_iff.mpr c8
    subst c8
    have H1 : (label_category.l0 kj1 a0 0 (a0.size : Int) 0) = some (r1, r2) := by rw [if_neg (show ¬ (false = true) by decide)] at H; exact H
    clear H
    have H := H1
    clear H1
    have H' := aM H
    clear H
    go_wp2
    go_loopg [4, 26] kj1 (fun kq v4 v26 w' => ∃ (x4_2 : Int) (x26_2 : Int), v4 = .int .i64 x4_2 ∧ v26 = .int .i64 x26_2 ∧ Aside0 (label_category.l0 kq a0 x4_2 (a0.size : Int) x26_2 = some (r1, r2)) ∧ Aside0 (kq ≤ kj1) ∧ Drawn0 w w')
    case atStart => exact ⟨(0), (0), (by first | rfl | (simp; done) | (simp [*]; done)), (by first | rfl | (simp; done) | (simp [*]; done)), H', ⟨Nat.le_refl _⟩, by repeat (first | exact Drawn0.refl _ | apply Drawn0.step)⟩
    case round =>
     clear H'
     try clear c1
     try clear p2
     try clear c3
     try clear c3b0
     try clear c3b1
     try clear c4
     try clear c4b0
     try clear c4b1
     try clear c5
     try clear c5b0
     try clear c5b1
     try clear c6
     try clear c6b0
     try clear c6b1
     try clear p7
     try clear q7
     try clear hx7
     try clear qi7
     try clear c8
     try clear p2
     try clear p7
     try clear q7
     obtain ⟨x4_2, x26_2, rfl, rfl, HA, HK2, ⟨m2, rfl⟩⟩ := hrel
     cases gk with
     | zero => exact absurd HA.out (by simp [label_category.l0])
     | succ k2 =>
      have H := HA.out
      clear HA
      simp only [label_category.l0] at H
      by_cases c9 : x26_2 < (a0.size : Int)
      ·rw [if_pos c9] at H
       have c9b0 : decide (x26_2 < (a0.size : Int)) = true := decide_eq_true c9
       clear c9
       by_cases c10 : 0 ≤ x26_2
       ·rw [if_pos c10] at H
        have c10b0 : decide (0 ≤ x26_2) = true := decide_eq_true c10
        clear c10
        by_cases c11 : x26_2 < (a0.size : Int)
        ·rw [if_pos c11] at H
         have c11b0 : decide (x26_2 < (a0.size : Int)) = true := decide_eq_true c11
         clear c11
         by_cases c13 : (bt a0 x26_2) < 48
         ·rw [if_pos c13] at H
          have c13b0 : decide ((bt a0 x26_2) < 48) = true := decide_eq_true c13
          clear c13
          simp only [Option.some.injEq, Prod.mk.injEq] at H
          obtain ⟨rfl, rfl⟩ := H
          have p12 : 0 ≤ (x26_2 : Int) := of_decide_eq_true (by first | (with_reducible assumption) | assumption)
          have q12 : x26_2 < (a0.size : Int) := of_decide_eq_true (by first | (with_reducible assumption) | assumption)
          have hx12 := bt_at a0 x26_2
          replace p12 := eq_true p12
          replace q12 := eq_true q12
          go_wp2
          go_ret2
          exact ⟨by first | rfl | (simp; done) | (simp [*]; done), by repeat (first | exact Drawn0.refl _ | apply Drawn0.step)⟩
         ·rw [if_neg c13] at H
          have c13b0 : decide ((bt a0 x26_2) < 48) = false := decide_eq_false c13
          clear c13
          by_cases c15 : (bt a0 x26_2) > 57
          ·rw [if_pos c15] at H
           have c15b0 : decide (57 < (bt a0 x26_2)) = true := decide_eq_true c15
           clear c15
           simp only [Option.some.injEq, Prod.mk.injEq] at H
           obtain ⟨rfl, rfl⟩ := H
           have p12 : 0 ≤ (x26_2 : Int) := of_decide_eq_true (by first | (with_reducible assumption) | assumption)
           have q12 : x26_2 < (a0.size : Int) := of_decide_eq_true (by first | (with_reducible assumption) | assumption)
           have hx12 := bt_at a0 x26_2
           replace p12 := eq_true p12
           replace q12 := eq_true q12
           have p14 : 0 ≤ (x26_2 : Int) := of_decide_eq_true (by first | (with_reducible assumption) | assumption)
           have q14 : x26_2 < (a0.size : Int) := of_decide_eq_true (by first | (with_reducible assumption) | assumption)
           have hx14 := bt_at a0 x26_2
           replace p14 := eq_true p14
           replace q14 := eq_true q14
           go_wp2
           go_ret2
           exact ⟨by first | rfl | (simp; done) | (simp [*]; done), by repeat (first | exact Drawn0.refl _ | apply Drawn0.step)⟩
          ·rw [if_neg c15] at H
           have c15b0 : decide (57 < (bt a0 x26_2)) = false := decide_eq_false c15
           clear c15
           have H' := aM H
           clear H
           have p12 : 0 ≤ (x26_2 : Int) := of_decide_eq_true (by first | (with_reducible assumption) | assumption)
           have q12 : x26_2 < (a0.size : Int) := of_decide_eq_true (by first | (with_reducible assumption) | assumption)
           have hx12 := bt_at a0 x26_2
           replace p12 := eq_true p12
           replace q12 := eq_true q12
           have p14 : 0 ≤ (x26_2 : Int) := of_decide_eq_true (by first | (with_reducible assumption) | assumption)
           have q14 : x26_2 < (a0.size : Int) := of_decide_eq_true (by first | (with_reducible assumption) | assumption)
           have hx14 := bt_at a0 x26_2
           replace p14 := eq_true p14
           replace q14 := eq_true q14
           have p16 : 0 ≤ (x26_2 : Int) := of_decide_eq_true (by first | (with_reducible assumption) | assumption)
           have q16 : x26_2 < (a0.size : Int) := of_decide_eq_true (by first | (with_reducible assumption) | assumption)
           have hx16 := bt_at a0 x26_2
           replace p16 := eq_true p16
           replace q16 := eq_true q16
           go_wp2
           go_roundg k2
           case measure => have := HJ1.out; have := HK2.out; omega
           case rel => exact ⟨(wrap64 ((wrap64 (x4_2 * 10)) + (((bt a0 x26_2) - 48) % 256))), (wrap64 (x26_2 + 1)), (by first | rfl | (simp; done) | (simp [*]; done)), (by first | rfl | (simp; done) | (simp [*]; done)), H', ⟨by have := HJ1.out; have := HK2.out; omega⟩, by repeat (first | exact Drawn0.refl _ | apply Drawn0.step)⟩
        ·rw [if_neg c11] at H
         exact absurd H (by simp)
       ·rw [if_neg c10] at H
        exact absurd H (by simp)
      ·rw [if_neg c9] at H
       have c9b0 : decide (x26_2 < (a0.size : Int)) = false := decide_eq_false c9
       clear c9
       simp only [Option.some.injEq, Prod.mk.injEq] at H
       obtain ⟨rfl, rfl⟩ := H
       go_wp2
       go_ret2
       exact ⟨by first | rfl | (simp; done) | (simp [*]; done), by repeat (first | exact Drawn0.refl _ | apply Drawn0.step)⟩
end Go.Proofs.YtcbiilbmldinhaaDoor.PB
end

section
namespace Go.Proofs.YtcbiilbmldinhaaDoor.PB
open Go.RowKit Go.Proofs.YtcbiilbmldinhaaDoorW.PrintWords Go.Proofs.YtcbiilbmldinhaaDoorW.PrintLast Go.Proofs.YtcbiilbmldinhaaDoorW.PrintMore
attribute [local go_sem] max2_int min2_int max_two min_two max_three min_three max_four min_four   
set_option linter.unusedVariables false
set_option linter.unusedSimpArgs false
def label_Parse.l0 : Nat → Int → Int → List ByteArray → Int → Int → Option (Int × Int)
 | 0, _, _, _, _, _ => none
 | k + 1, x4, x5, x13, x14, x15 => if x15 < x14 then (if 0 ≤ x15 then (if x15 < (x13.length : Int) then ((label_category.f k (rdOf ByteArray.empty x13 x15)).bind fun bt270 => (if bt270.2 = true then (if bt270.1 ≤ x5 then (some (0, 5)) else (if 0 ≤ bt270.1 then (label_Parse.l0 k (Go.bits .or .u64 x4 (shl .u64 1 bt270.1)) bt270.1 x13 x14 (wrap64 (x15 + 1))) else (none))) else (some (0, 5)))) else (none)) else (none)) else (some (x4, 0))
def label_Parse.f (k : Nat) (a0 : ByteArray) : Option (Int × Int) := if a0.toList = ([45] : List UInt8) then (some (0, 0)) else ((strings_Split.f a0 (⟨#[46]⟩ : ByteArray)).bind fun t266 => (label_Parse.l0 k 0 (-1) t266 (t266.length : Int) 0))
set_option maxHeartbeats 8000000 in
set_option maxRecDepth 100000 in
theorem label_Parse.calls (k : Nat) (a0 : ByteArray) (r1 : Int) (r2 : Int) (w : World) (h : label_Parse.f k a0 = some (r1, r2)) :
  Calls Tryd.prog 47 #[.string a0] w fun e w' => e = .returned (.tuple #[.int .u64 r1, .int .i64 r2]) ∧ Below w.heap.size w w' := by
 have HB := aM (Below.refl w.heap.size w)
 have H : (if a0.toList = ([45] : List UInt8) then (some (0, 0)) else ((strings_Split.f a0 (⟨#[46]⟩ : ByteArray)).bind fun t266 => (label_Parse.l0 k 0 (-1) t266 (t266.length : Int) 0))) = some (r1, r2) := h
 clear h
 by_cases c2 : a0.toList = ([45] : List UInt8)
 ·rw [if_pos c2] at H
  have c2b0 : (a0.toList == ([45] : List UInt8)) = true := beq_iff_eq.mpr c2
  have c2b1 : (a0.toList != ([45] : List UInt8)) = false := bne_eq_false_iff_eq.mpr c2
  clear c2
  simp only [Option.some.injEq, Prod.mk.injEq] at H
  obtain ⟨rfl, rfl⟩ := H
  go_enter Tryd.func47, Tryd.ntmps47
  go_wp2
  go_ret2
  exact ⟨by first | rfl | (simp [errW_none, errW_some] <;> rfl) | (simp [*, errW_none, errW_some] <;> rfl), by exact ey HB.out⟩
 ·rw [if_neg c2] at H
  have c2b0 : (a0.toList == ([45] : List UInt8)) = false := beq_eq_false_iff_ne.mpr c2
  have c2b1 : (a0.toList != ([45] : List UInt8)) = true := bne_iff_ne.mpr c2
  replace H := Option.bind_eq_some_iff.mp H
  obtain ⟨t266, A30, H⟩ := H
  replace H : (label_Parse.l0 k 0 (-1) t266 (t266.length : Int) 0) = some (r1, r2) := H
  have A3 := aM A30
  clear A30
  have H' := aM H
  clear H
  go_enter Tryd.func47, Tryd.ntmps47
  go_wp2_with (first | ((with_reducible refine gate_callee (f := 45) rfl ?_); refine goesL_ (some 13) rfl rfl Tryd.func45 (by kernel_rfl) rfl #[.string a0, .string (⟨#[46]⟩ : ByteArray)] rfl (by (try simp only [mT, mC, mN]); first | done | rfl | (simp only [lD, lT]; rfl)) ?_; (with_reducible refine (strings_Split.calls a0 (⟨#[46]⟩ : ByteArray) t266 _ A3.out).mono ?_); rintro e w4 ⟨v267, rfl, ho0, hb⟩; refine ⟨_, rfl, ?_⟩; have n0_ := aM (rL ho0 (bZ (ey HB.out))); have n1_ := aM (bP (ey HB.out) hb); clear HB; have HO268 := n0_; have HB := n1_; clear n0_ n1_; (try clear hb); (try clear hb2); (try clear hk); (try clear hi); (try clear ho0); obtain ⟨Ao5, co5, eo5⟩ := Kd.R_slice HO268.out; subst eo5))
  go_loopg [4, 5, 15] k (fun kq v4 v5 v15 w' => ∃ (x4_1 : Int) (x5_1 : Int) (x15_1 : Int), v4 = .int .u64 x4_1 ∧ v5 = .int .i64 x5_1 ∧ v15 = .int .i64 x15_1 ∧ Aside0 (label_Parse.l0 kq x4_1 x5_1 t266 (t266.length : Int) x15_1 = some (r1, r2)) ∧ Aside0 (kq ≤ k) ∧ Aside0 (Kd.R Kd.string 9 w' w.heap.size (fun _ => True) (.slice Ao5 t266.length co5) t266) ∧ Aside0 (Below w.heap.size w w'))
  case atStart => exact ⟨(0), ((-1)), (0), (by first | rfl | (simp; done) | (simp [*]; done)), (by first | rfl | (simp; done) | (simp [*]; done)), (by first | rfl | (simp; done) | (simp [*]; done)), H', ⟨Nat.le_refl _⟩, ⟨by exact ry HO268.out⟩, ⟨by exact ey HB.out⟩⟩
  case round =>
   clear H'
   try clear c2
   try clear c2b0
   try clear c2b1
   try clear p2
   try clear c4
   obtain ⟨x4_1, x5_1, x15_1, rfl, rfl, rfl, HA, HK1, HO_13, HB⟩ := hrel
   cases gk with
   | zero => exact absurd HA.out (by simp [label_Parse.l0])
   | succ k1 =>
    have H := HA.out
    clear HA
    simp only [label_Parse.l0] at H
    by_cases c6 : x15_1 < (t266.length : Int)
    ·rw [if_pos c6] at H
     have c6b0 : decide (x15_1 < (t266.length : Int)) = true := decide_eq_true c6
     clear c6
     by_cases c7 : 0 ≤ x15_1
     ·rw [if_pos c7] at H
      have c7b0 : decide (0 ≤ x15_1) = true := decide_eq_true c7
      clear c7
      by_cases c8 : x15_1 < (t266.length : Int)
      ·rw [if_pos c8] at H
       have c8b0 : decide (x15_1 < (t266.length : Int)) = true := decide_eq_true c8
       clear c8
       replace H := Option.bind_eq_some_iff.mp H
       obtain ⟨⟨t270, t271⟩, A90, H⟩ := H
       replace H : (if t271 = true then (if t270 ≤ x5_1 then (some (0, 5)) else (if 0 ≤ t270 then (label_Parse.l0 k1 (Go.bits .or .u64 x4_1 (shl .u64 1 t270)) t270 t266 (t266.length : Int) (wrap64 (x15_1 + 1))) else (none))) else (some (0, 5))) = some (r1, r2) := H
       have A9 := aM A90
       clear A90
       by_cases c10 : t271 = true
       ·subst c10
        have H1 : (if t270 ≤ x5_1 then (some (0, 5)) else (if 0 ≤ t270 then (label_Parse.l0 k1 (Go.bits .or .u64 x4_1 (shl .u64 1 t270)) t270 t266 (t266.length : Int) (wrap64 (x15_1 + 1))) else (none))) = some (r1, r2) := by rw [if_pos rfl] at H; exact H
        clear H
        have H := H1
        clear H1
        by_cases c11 : t270 ≤ x5_1
        ·rw [if_pos c11] at H
         have c11b0 : decide (t270 ≤ x5_1) = true := decide_eq_true c11
         clear c11
         simp only [Option.some.injEq, Prod.mk.injEq] at H
         obtain ⟨rfl, rfl⟩ := H
         have p269 : 0 ≤ (x15_1 : Int) := of_decide_eq_true (by first | (with_reducible assumption) | assumption)
         have q269 : x15_1 < (t266.length : Int) := of_decide_eq_true (by first | (with_reducible assumption) | assumption)
         obtain ⟨ad269, e269, hx269_0⟩ := Kd.at_string (rR HO_13.out).2.2 x15_1 p269 q269
         cases e269
         replace p269 := eq_true p269
         replace q269 := eq_true q269
         go_wp2_with (first | ((with_reducible refine gate_callee (f := 62) rfl ?_); refine goesL_ (some 21) rfl rfl Tryd.func62 (by kernel_rfl) rfl #[.string (rdOf ByteArray.empty t266 x15_1)] rfl (by (try simp only [mT, mC, mN]); first | done | rfl | (simp only [lD, lT]; rfl)) ?_; (with_reducible refine (label_category.calls k1 (rdOf ByteArray.empty t266 x15_1) t270 true _ A9.out).mono ?_); rintro e w' ⟨rfl, ⟨nd, rfl⟩⟩; refine ⟨_, rfl, ?_⟩))
         go_ret2
         exact ⟨by first | rfl | (simp [errW_none, errW_some] <;> rfl) | (simp [*, errW_none, errW_some] <;> rfl), by exact ey HB.out⟩
        ·rw [if_neg c11] at H
         have c11b0 : decide (t270 ≤ x5_1) = false := decide_eq_false c11
         clear c11
         by_cases c12 : 0 ≤ t270
         ·rw [if_pos c12] at H
          have c12b0 := eq_true c12
          have c12b1 : decide (0 ≤ t270) = true := decide_eq_true c12
          clear c12
          obtain ⟨ji13, hji13⟩ : ∃ j_ : Int, (shl .u64 1 t270) = j_ := ⟨_, rfl⟩
          replace H : (label_Parse.l0 k1 (Go.bits .or .u64 x4_1 (ji13)) t270 t266 (t266.length : Int) (wrap64 (x15_1 + 1))) = some (r1, r2) := by first | (rw [hji13] at H; exact H) | (simp only [hji13] at H ⊢; exact H)
          (try rw [hji13] at A9)
          have hji13_ : (IntKind.u64.wrap (1 * 2 ^ min t270.toNat 64)) = ji13 := hji13
          have hji13z : t270 ≤ 64 → (IntKind.u64.wrap (1 * 2 ^ t270.toNat)) = ji13 := shl_small hji13
          have hji13u : (IntKind.u64.wrap (2 ^ min t270.toNat 64)) = ji13 := by have h_ := hji13_; rw [Int.one_mul] at h_; exact h_
          have hji13v : t270 ≤ 64 → (IntKind.u64.wrap (2 ^ t270.toNat)) = ji13 := fun hle_ => by have h_ := hji13z hle_; rw [Int.one_mul] at h_; exact h_
          have H' := aM H
          clear H
          have p269 : 0 ≤ (x15_1 : Int) := of_decide_eq_true (by first | (with_reducible assumption) | assumption)
          have q269 : x15_1 < (t266.length : Int) := of_decide_eq_true (by first | (with_reducible assumption) | assumption)
          obtain ⟨ad269, e269, hx269_0⟩ := Kd.at_string (rR HO_13.out).2.2 x15_1 p269 q269
          cases e269
          replace p269 := eq_true p269
          replace q269 := eq_true q269
          go_wp2_with (first | ((with_reducible refine gate_callee (f := 62) rfl ?_); refine goesL_ (some 21) rfl rfl Tryd.func62 (by kernel_rfl) rfl #[.string (rdOf ByteArray.empty t266 x15_1)] rfl (by (try simp only [mT, mC, mN]); first | done | rfl | (simp only [lD, lT]; rfl)) ?_; (with_reducible refine (label_category.calls k1 (rdOf ByteArray.empty t266 x15_1) t270 true _ A9.out).mono ?_); rintro e w' ⟨rfl, ⟨nd, rfl⟩⟩; refine ⟨_, rfl, ?_⟩))
          go_roundg k1
          case measure => have := HK1.out; omega
          case rel => exact ⟨(Go.bits .or .u64 x4_1 (ji13)), (t270), (wrap64 (x15_1 + 1)), (by first | rfl | (simp; done) | (simp only [← hji13] <;> (first | rfl | simp)) | (simp [*]; done)), (by first | rfl | (simp; done) | (simp [*]; done)), (by first | rfl | (simp; done) | (simp [*]; done)), H', ⟨by have := HK1.out; omega⟩, ⟨by exact ry HO_13.out⟩, ⟨by exact ey HB.out⟩⟩
         ·rw [if_neg c12] at H
          exact absurd H (by simp)
       ·replace c10 := Bool.eq_false_iff.mpr c10
        subst c10
        have H1 : (some (0, 5)) = some (r1, r2) := by rw [if_neg (show ¬ (false = true) by decide)] at H; exact H
        clear H
        have H := H1
        clear H1
        simp only [Option.some.injEq, Prod.mk.injEq] at H
        obtain ⟨rfl, rfl⟩ := H
        have p269 : 0 ≤ (x15_1 : Int) := of_decide_eq_true (by first | (with_reducible assumption) | assumption)
        have q269 : x15_1 < (t266.length : Int) := of_decide_eq_true (by first | (with_reducible assumption) | assumption)
        obtain ⟨ad269, e269, hx269_0⟩ := Kd.at_string (rR HO_13.out).2.2 x15_1 p269 q269
        cases e269
        replace p269 := eq_true p269
        replace q269 := eq_true q269
        go_wp2_with (first | ((with_reducible refine gate_callee (f := 62) rfl ?_); refine goesL_ (some 21) rfl rfl Tryd.func62 (by kernel_rfl) rfl #[.string (rdOf ByteArray.empty t266 x15_1)] rfl (by (try simp only [mT, mC, mN]); first | done | rfl | (simp only [lD, lT]; rfl)) ?_; (with_reducible refine (label_category.calls k1 (rdOf ByteArray.empty t266 x15_1) t270 false _ A9.out).mono ?_); rintro e w' ⟨rfl, ⟨nd, rfl⟩⟩; refine ⟨_, rfl, ?_⟩))
        go_ret2
        exact ⟨by first | rfl | (simp [errW_none, errW_some] <;> rfl) | (simp [*, errW_none, errW_some] <;> rfl), by exact ey HB.out⟩
      ·rw [if_neg c8] at H
       exact absurd H (by simp)
     ·rw [if_neg c7] at H
      exact absurd H (by simp)
    ·rw [if_neg c6] at H
     have c6b0 : decide (x15_1 < (t266.length : Int)) = false := decide_eq_false c6
     clear c6
     simp only [Option.some.injEq, Prod.mk.injEq] at H
     obtain ⟨rfl, rfl⟩ := H
     go_wp2
     go_ret2
     exact ⟨by first | rfl | (simp [errW_none, errW_some] <;> rfl) | (simp [*, errW_none, errW_some] <;> rfl), by exact ey HB.out⟩
end Go.Proofs.YtcbiilbmldinhaaDoor.PB
end

section
namespace Go.Proofs.YtcbiilbmldinhaaDoor.PB
open Go.RowKit Go.Proofs.YtcbiilbmldinhaaDoorW.PrintWords Go.Proofs.YtcbiilbmldinhaaDoorW.PrintLast Go.Proofs.YtcbiilbmldinhaaDoorW.PrintMore
set_option maxRecDepth 100000
set_option linter.unusedVariables false
set_option linter.unusedSimpArgs false
def wordB (a : Int) : ByteArray := if a = 1 then ⟨#[103, 114, 97, 110, 116]⟩ else if a = 2 then ⟨#[114, 101, 118, 111, 107, 101]⟩ else if a = 3 then ⟨#[114, 101, 108, 101, 97, 115, 101]⟩ else if a = 4 then ⟨#[100, 101, 110, 121]⟩ else ⟨#[]⟩
theorem wordB_eq (a : Int) : audit_word.f a = some (wordB a) := by
  unfold audit_word.f wordB
  repeat' split
  all_goals first | rfl | contradiction
def kindUpto (p : ByteArray) : Nat → Int
  | 0 => 0
  | n + 1 => if (wordB ((n : Int) + 1)).toList = p.toList then ((n : Int) + 1) else kindUpto p n
theorem p5 {p : List ByteArray} (h : p.length = 5) : ∃ x0 x1 x2 x3 x4, p = [x0, x1, x2, x3, x4] := by
  match p, h with
  | [x0, x1, x2, x3, x4], _ => exact ⟨x0, x1, x2, x3, x4, rfl⟩
abbrev zR : Array Value := #[.int .u64 0, .int .i64 0, .int .i64 0, .int .i64 0, .int .i64 0]
set_option maxHeartbeats 8000000 in
theorem aparse_ok (k : Nat) (s : ByteArray) (w : World) (hm : NumOk w) (hs : s.size ≤ 4096) (x0 x1 x2 x3 x4 : ByteArray) (L z e1 : Int) (t : ByteArray)
    (hp : strings_Split.f s ⟨#[32]⟩ = some [x0, x1, x2, x3, x4]) (hL : label_Parse.f k x4 = some (L, z)) (hP : audit_Print2.f k L (kindUpto x0 4) (atoiV x1) (atoiV x2) (atoiV x3) = some (t, e1))
    (h1 : x1.size ≤ 4096) (h2 : x2.size ≤ 4096) (h3 : x3.size ≤ 4096) (q : Bool) (hq : (e1 = 0 ∧ t.toList = s.toList) ↔ q = true) :
    Calls Tryd.prog 28 #[.string s] w fun e w' => e = .returned (.tuple #[if q then .agg #[.int .u64 L, .int .i64 (kindUpto x0 4), .int .i64 (atoiV x1), .int .i64 (atoiV x2), .int .i64 (atoiV x3)] else .agg zR, .int .i64 (if q then 0 else 5)]) ∧ Below w.heap.size w w' := by
  have hu36 := Tryd.underlying36
  have HM := aM hm
  have HP := aM hp
  have HQ := aM hq
  have HPR := aM hP
  have HLB := aM hL
  clear hm hp hq hP hL
  go_enter Tryd.func28, Tryd.ntmps28
  go_wp2_with (first
    | ((with_reducible refine gate_dst (N := 2) rfl ?_); refine box_event ?hg (N := 2) ?hd (cs := zR) (t := 36) ?hr ?_; (case hd => rfl); (case hg => rfl); (case hr => first | (go_simp; done) | (go_simp; rfl)); intro g2 hg w2 hbox hb; have HB2 := aM hb; have HX2 := aM hbox; have GE2 := aM (Nat.le_of_eq hg.symm); clear hb hbox hg)
    | ((with_reducible refine gate_callee (f := 45) rfl ?_); refine goesL_ (some 12) rfl rfl Tryd.func45 (by kernel_rfl) rfl #[.string s, .string ⟨#[32]⟩] rfl (by (try simp only [List.map_toArray, List.map_cons, List.map_nil]); first | done | rfl) ?_; (with_reducible refine (strings_Split.calls s ⟨#[32]⟩ _ _ HP.out).mono ?_); rintro e w3 ⟨v3, rfl, ho, hb⟩; refine ⟨_, rfl, ?_⟩; obtain ⟨gA, c, rfl, -, -, -⟩ := Kd.R_form ho (by simp); have HO3 := aM (rL ho HB2.out.size); have HB3 := aM (bP HB2.out hb); have HX3 := aM (bB HX2.out hb); clear ho hb)
    | ((with_reducible refine gate_dst (N := 5) rfl ?_); refine box_event ?hg (N := 5) ?hd (cs := zR) (t := 36) ?hr ?_; (case hd => rfl); (case hg => rfl); (case hr => first | (go_simp; done) | (go_simp; rfl)); intro g5 hg w5 hbox hb; have HB5 := aM (bP HB3.out hb); have HX5 := aM hbox; have HY5 := aM (bB HX3.out hb); have HO5 := aM (Kd.R_below HO3.out hb); have NE := aM (show g5 ≠ g2 from fun e => by have := blk_lt HX3.out; omega); have GE5 := aM (Nat.le_trans HB3.out.size (Nat.le_of_eq hg.symm)); clear hb hbox hg)
    )
  go_loopg [6] 4 (fun kq v6 w' => ∃ i : Nat, v6 = .int .i64 ((i : Int) + 1) ∧ Aside0 (kq + i = 4) ∧ Aside0 (w'.heap[g5]? = some (.cells #[.int .u64 0, .int .i64 (kindUpto x0 i), .int .i64 0, .int .i64 0, .int .i64 0] 36 (0, 0))) ∧ Aside0 (w'.heap[g2]? = some (.cells zR 36 (0, 0))) ∧ Aside0 (Kd.R Kd.string 9 w' w.heap.size (fun _ => True) (.slice (some ⟨gA, 0, none⟩) 5 c) [x0, x1, x2, x3, x4]) ∧ Aside0 (Below w.heap.size w w'))
  case atStart => exact ⟨0, rfl, ⟨rfl⟩, HX5, HY5, HO5, HB5⟩
  case round =>
    clear HX5 HY5 HO5 HB5
    obtain ⟨i, rfl, HI, HX, HY, HO, HB⟩ := hrel
    have hi := HI.out
    by_cases c1 : i < 4
    · cases gk with
      | zero => exact absurd hi (by omega)
      | succ k1 =>
        have c1b : decide ((i : Int) + 1 ≤ 4) = true := decide_eq_true (by omega)
        have p1 : ((i : Int) + 1 ≤ 4) = True := eq_true (by omega)
        have hx : ∀ {W : World}, Kd.R Kd.string 9 W w.heap.size (fun _ => True) (.slice (some ⟨gA, 0, none⟩) 5 c) [x0, x1, x2, x3, x4] → W.cell? ⟨gA, 0, none⟩ = some (.string x0) := fun h => (Kd.R_cell ⟨#[]⟩ h 0 (by omega) (by simp)).1
        go_wp2
        have HX1 := aM (blk_drew HX.out)
        have HY1 := aM (blk_drew HY.out)
        have HO1 := aM (Kd.R_drew HO.out)
        have HB1 := aM (below_drew1 HB.out)
        refine start_ (n := 6) (S := fun w' => w'.cell? ⟨gA, 0, none⟩ = some (.string x0)) (ds := []) #[tF,tF,tF,tF,tF,tF] (by kernel_rfl) rfl rfl (hx HO1.out) (fun hHeld => ?_)
        generalize World.drew _ = w6 at HX1 HY1 HO1 HB1 hHeld ⊢
        clear HX HY HO HB
        refine sv 0 21 #[tT,tF,tF,tF,tF,tF] ?_
        refine sv 2 23 #[tT,tF,tT,tF,tF,tF] ?_
        refine sv 3 24 #[tT,tF,tT,tT,tF,tF] ?_
        refine st 4 25 #[tT,tF,tT,tT,tT,tF] hHeld ?_
        refine one_ (i := 1) (N := some 22) #[tT,tT,tT,tT,tT,tF] rfl rfl (by kernel_rfl) (by decide) (fun K hK => ?_)
        refine goes_ Tryd.func39 (by kernel_rfl) rfl #[.int .i64 ((i : Int) + 1)] (by rfl) rfl rfl (by (try simp only [List.map_toArray, List.map_cons, List.map_nil]); first | done | rfl) ?_
        refine (audit_word.calls _ _ _ (wordB_eq _)).mono ?_
        rintro e w7 ⟨rfl, nd, rfl⟩
        refine ⟨_, rfl, ?_⟩
        have HX2 := aM (blk_drewN HX1.out nd)
        have HY2 := aM (blk_drewN HY1.out nd)
        have HO2 := aM (Kd.R_drewN HO1.out nd)
        have HB2 := aM (pw_below_drewN HB1.out nd)
        refine hK.out _ _ (hx HO2.out) (fun hHeld => ?_)
        clear hK K HX1 HY1 HO1 HB1
        generalize World.drewN _ _ = w7 at HX2 HY2 HO2 HB2 hHeld ⊢
        refine norm_ (a' := ?_) ?_ ?_
        rotate_left
        · show Act.put _ (some 22) _ = _
          simp only [Act.put, List.setIfInBounds_toArray, List.set_cons_zero, List.set_cons_succ, i64_w, i32_w]
          rfl
        have hc1 := (bC HX2.out 1).trans (rfl : _ = some (Value.int .i64 (kindUpto x0 i)))
        have hf1 := bF HX2.out 1
        have hk : ∀ b : Bool, ((wordB ((i : Int) + 1)).toList == x0.toList) = b → kindUpto x0 (i + 1) = if b then ((i : Int) + 1) else kindUpto x0 i := fun b hb => by
          show (if (wordB ((i : Int) + 1)).toList = x0.toList then ((i : Int) + 1) else kindUpto x0 i) = _
          cases b
          · rw [if_neg (beq_eq_false_iff_ne.1 hb), if_neg (by decide)]
          · rw [if_pos (beq_iff_eq.1 hb), if_pos rfl]
        have HK := aM hk
        clear hk
        have hwr : wrap64 (((i : Int) + 1) + 1) = ((i + 1 : Nat) : Int) + 1 := by unfold wrap64; omega
        cases he : (wordB ((i : Int) + 1)).toList == x0.toList
        · refine sv 5 26 #[tT,tT,tT,tT,tT,tT] ?_
          refine done_ (by kernel_rfl) ?_
          go_wp2
          go_roundg k1
          case measure => have := HI.out; omega
          case rel => exact ⟨i + 1, rfl, ⟨by have := HI.out; omega⟩, ⟨by rw [HK.out false he]; exact HX2.out⟩, HY2, HO2, HB2⟩
        · refine sv 5 26 #[tT,tT,tT,tT,tT,tT] ?_
          refine done_ (by kernel_rfl) ?_
          have HX3 := aM (bU (cs' := #[.int .u64 0, .int .i64 ((i : Int) + 1), .int .i64 0, .int .i64 0, .int .i64 0]) HX2.out 1 (.int .i64 ((i : Int) + 1)) rfl)
          go_wp2
          go_roundg k1
          case measure => have := HI.out; omega
          case rel => exact ⟨i + 1, rfl, ⟨by have := HI.out; omega⟩, ⟨by rw [HK.out true he]; exact HX3.out⟩, ⟨bR HY2.out (fun e => NE.out e.symm) _⟩, ⟨Kd.R_set HO2.out HX2.out (by decide) _ _⟩, ⟨HB2.out.setCell GE5.out _⟩⟩
    · obtain rfl : i = 4 := by omega
      have c1b : decide (((4 : Nat) : Int) + 1 ≤ 4) = false := decide_eq_false (by omega)
      have hx : ∀ {W : World} (i : Nat) (h : i < 5), Kd.R Kd.string 9 W w.heap.size (fun _ => True) (.slice (some ⟨gA, 0, none⟩) 5 c) [x0, x1, x2, x3, x4] → W.cell? ⟨gA, i, none⟩ = some (.string ([x0, x1, x2, x3, x4].getD i ⟨#[]⟩)) := fun i hi h => by
        have h2 := (Kd.R_cell ⟨#[]⟩ h (i : Int) (by omega) (by simp; omega)).1
        rw [rdOf, Int.toNat_natCast] at h2
        exact h2
      have HXX := aM @hx
      clear hx
      go_wp2
      have HXA := aM (blk_alloc HX.out (.cells #[.pointer (some ⟨g5, 2, none⟩), .pointer (some ⟨g5, 3, none⟩), .pointer (some ⟨g5, 4, none⟩)] 79))
      have HYA := aM (blk_alloc HY.out (.cells #[.pointer (some ⟨g5, 2, none⟩), .pointer (some ⟨g5, 3, none⟩), .pointer (some ⟨g5, 4, none⟩)] 79))
      have HOA := aM (Kd.R_alloc HO.out (.cells #[.pointer (some ⟨g5, 2, none⟩), .pointer (some ⟨g5, 3, none⟩), .pointer (some ⟨g5, 4, none⟩)] 79))
      have HBA := aM (below_alloc HB.out (.cells #[.pointer (some ⟨g5, 2, none⟩), .pointer (some ⟨g5, 3, none⟩), .pointer (some ⟨g5, 4, none⟩)] 79))
      have HPA := aM (blk_new wr (.cells #[.pointer (some ⟨g5, 2, none⟩), .pointer (some ⟨g5, 3, none⟩), .pointer (some ⟨g5, 4, none⟩)] 79))
      have NP := aM (show wr.heap.size ≠ g5 from fun e => by have := blk_lt HX.out; omega)
      clear HX HY HO HB
      generalize World.alloc wr _ = w8 at HXA HYA HOA HBA HPA ⊢
      generalize wr.heap.size = gp at NP HPA ⊢
      go_loopg [34] 3 (fun kq v34 w' => ∃ i : Nat, v34 = .int .i64 (i : Int) ∧ Aside0 (kq + i = 3) ∧ Aside0 (w'.heap[g5]? = some (.cells #[.int .u64 0, .int .i64 (kindUpto x0 4), .int .i64 (if 0 < i then atoiV x1 else 0), .int .i64 (if 1 < i then atoiV x2 else 0), .int .i64 (if 2 < i then atoiV x3 else 0)] 36 (0, 0))) ∧ Aside0 (w'.heap[g2]? = some (.cells zR 36 (0, 0))) ∧ Aside0 (Kd.R Kd.string 9 w' w.heap.size (fun _ => True) (.slice (some ⟨gA, 0, none⟩) 5 c) [x0, x1, x2, x3, x4]) ∧ Aside0 (w'.heap[gp]? = some (.cells #[.pointer (some ⟨g5, 2, none⟩), .pointer (some ⟨g5, 3, none⟩), .pointer (some ⟨g5, 4, none⟩)] 79 (0, 0))) ∧ Aside0 (Below w.heap.size w w'))
      case atStart => exact ⟨0, rfl, ⟨rfl⟩, HXA, HYA, HOA, HPA, HBA⟩
      case round =>
        clear HXA HYA HOA HBA HPA
        obtain ⟨i, rfl, HI, HX, HY, HO, HPP, HB⟩ := hrel
        have hi := HI.out
        have hi4 : i = 0 ∨ i = 1 ∨ i = 2 ∨ i = 3 := by omega
        rcases hi4 with rfl | rfl | rfl | rfl
        · cases gk with
          | zero => exact absurd hi (by omega)
          | succ k1 =>
            have hp0 : wr.cell? ⟨gp, 0, none⟩ = some (.pointer (some ⟨g5, 2, none⟩)) := (bC HPP.out 0).trans rfl
            have hs0 : wr.cell? ⟨gA, 1, none⟩ = some (.string x1) := HXX.out 1 (by omega) HO.out
            go_wp2_with (first
              | ((with_reducible refine gate_callee (f := 46) rfl ?_); refine goesL_ (some 46) rfl rfl Tryd.func46 (by kernel_rfl) rfl #[.string x1] rfl (by (try simp only [List.map_toArray, List.map_cons, List.map_nil]); first | done | rfl) ?_; (with_reducible refine (atoi_ok x1 _ (HM.out.below HB.out) h1).mono ?_); rintro e w9 ⟨v9, rfl, hb⟩; refine ⟨_, rfl, ?_⟩; have HX9 := aM (bB HX.out hb); have HY9 := aM (bB HY.out hb); have HO9 := aM (Kd.R_below HO.out hb); have HP9 := aM (bB HPP.out hb); have HB9 := aM (bP HB.out hb); clear hb; have hc2 : w9.cell? ⟨g5, 2, none⟩ = some (.int .i64 0) := (bC HX9.out 2).trans (by rfl); have hf2 := bF HX9.out 2)
              )
            have HX10 := aM (bU (cs' := #[.int .u64 0, .int .i64 (kindUpto x0 4), .int .i64 (if 0 < 1 then atoiV x1 else 0), .int .i64 (if 1 < 1 then atoiV x2 else 0), .int .i64 (if 2 < 1 then atoiV x3 else 0)]) HX9.out 2 (.int .i64 (atoiV x1)) (by rfl))
            go_roundg k1
            case measure => have := HI.out; omega
            case rel => exact ⟨1, rfl, ⟨by have := HI.out; omega⟩, HX10, ⟨bR HY9.out (fun e => NE.out e.symm) _⟩, ⟨Kd.R_set HO9.out HX9.out (by decide) _ _⟩, ⟨bR HP9.out NP.out _⟩, ⟨HB9.out.setCell GE5.out _⟩⟩
        · cases gk with
          | zero => exact absurd hi (by omega)
          | succ k1 =>
            have hp0 : wr.cell? ⟨gp, 1, none⟩ = some (.pointer (some ⟨g5, 3, none⟩)) := (bC HPP.out 1).trans rfl
            have hs0 : wr.cell? ⟨gA, 2, none⟩ = some (.string x2) := HXX.out 2 (by omega) HO.out
            go_wp2_with (first
              | ((with_reducible refine gate_callee (f := 46) rfl ?_); refine goesL_ (some 46) rfl rfl Tryd.func46 (by kernel_rfl) rfl #[.string x2] rfl (by (try simp only [List.map_toArray, List.map_cons, List.map_nil]); first | done | rfl) ?_; (with_reducible refine (atoi_ok x2 _ (HM.out.below HB.out) h2).mono ?_); rintro e w9 ⟨v9, rfl, hb⟩; refine ⟨_, rfl, ?_⟩; have HX9 := aM (bB HX.out hb); have HY9 := aM (bB HY.out hb); have HO9 := aM (Kd.R_below HO.out hb); have HP9 := aM (bB HPP.out hb); have HB9 := aM (bP HB.out hb); clear hb; have hc2 : w9.cell? ⟨g5, 3, none⟩ = some (.int .i64 0) := (bC HX9.out 3).trans (by rfl); have hf2 := bF HX9.out 3)
              )
            have HX10 := aM (bU (cs' := #[.int .u64 0, .int .i64 (kindUpto x0 4), .int .i64 (if 0 < 2 then atoiV x1 else 0), .int .i64 (if 1 < 2 then atoiV x2 else 0), .int .i64 (if 2 < 2 then atoiV x3 else 0)]) HX9.out 3 (.int .i64 (atoiV x2)) (by rfl))
            go_roundg k1
            case measure => have := HI.out; omega
            case rel => exact ⟨2, rfl, ⟨by have := HI.out; omega⟩, HX10, ⟨bR HY9.out (fun e => NE.out e.symm) _⟩, ⟨Kd.R_set HO9.out HX9.out (by decide) _ _⟩, ⟨bR HP9.out NP.out _⟩, ⟨HB9.out.setCell GE5.out _⟩⟩
        · cases gk with
          | zero => exact absurd hi (by omega)
          | succ k1 =>
            have hp0 : wr.cell? ⟨gp, 2, none⟩ = some (.pointer (some ⟨g5, 4, none⟩)) := (bC HPP.out 2).trans rfl
            have hs0 : wr.cell? ⟨gA, 3, none⟩ = some (.string x3) := HXX.out 3 (by omega) HO.out
            go_wp2_with (first
              | ((with_reducible refine gate_callee (f := 46) rfl ?_); refine goesL_ (some 46) rfl rfl Tryd.func46 (by kernel_rfl) rfl #[.string x3] rfl (by (try simp only [List.map_toArray, List.map_cons, List.map_nil]); first | done | rfl) ?_; (with_reducible refine (atoi_ok x3 _ (HM.out.below HB.out) h3).mono ?_); rintro e w9 ⟨v9, rfl, hb⟩; refine ⟨_, rfl, ?_⟩; have HX9 := aM (bB HX.out hb); have HY9 := aM (bB HY.out hb); have HO9 := aM (Kd.R_below HO.out hb); have HP9 := aM (bB HPP.out hb); have HB9 := aM (bP HB.out hb); clear hb; have hc2 : w9.cell? ⟨g5, 4, none⟩ = some (.int .i64 0) := (bC HX9.out 4).trans (by rfl); have hf2 := bF HX9.out 4)
              )
            have HX10 := aM (bU (cs' := #[.int .u64 0, .int .i64 (kindUpto x0 4), .int .i64 (if 0 < 3 then atoiV x1 else 0), .int .i64 (if 1 < 3 then atoiV x2 else 0), .int .i64 (if 2 < 3 then atoiV x3 else 0)]) HX9.out 4 (.int .i64 (atoiV x3)) (by rfl))
            go_roundg k1
            case measure => have := HI.out; omega
            case rel => exact ⟨3, rfl, ⟨by have := HI.out; omega⟩, HX10, ⟨bR HY9.out (fun e => NE.out e.symm) _⟩, ⟨Kd.R_set HO9.out HX9.out (by decide) _ _⟩, ⟨bR HP9.out NP.out _⟩, ⟨HB9.out.setCell GE5.out _⟩⟩
        · have hs4 : wr.cell? ⟨gA, 4, none⟩ = some (.string x4) := HXX.out 4 (by omega) HO.out
          have HX := aM (show wr.heap[g5]? = some (.cells #[.int .u64 0, .int .i64 (kindUpto x0 4), .int .i64 (atoiV x1), .int .i64 (atoiV x2), .int .i64 (atoiV x3)] 36 (0, 0)) from HX.out)
          by_cases he : e1 = 0
          · subst he
            by_cases ht : t.toList = s.toList
            · obtain rfl : q = true := HQ.out.1 ⟨rfl, ht⟩
              have ht1 : (t.toList == s.toList) = true := beq_iff_eq.mpr ht
              have ht2 : (t.toList != s.toList) = false := bne_eq_false_iff_eq.mpr ht
              clear ht
              go_wp2_with (first
                | ((with_reducible refine gate_callee (f := 47) rfl ?_); refine goesL_ (some 55) rfl rfl Tryd.func47 (by kernel_rfl) rfl #[.string x4] rfl (by (try simp only [List.map_toArray, List.map_cons, List.map_nil]); first | done | rfl) ?_; (with_reducible refine (label_Parse.calls k x4 L z _ HLB.out).mono ?_); rintro e w9 ⟨rfl, hb⟩; refine ⟨_, rfl, ?_⟩; have HX9 := aM (bB HX.out hb); have HY9 := aM (bB HY.out hb); have HB9 := aM (bP HB.out hb); clear hb; have hc0 : w9.cell? ⟨g5, 0, none⟩ = some (.int .u64 0) := (bC HX9.out 0).trans (by rfl); have hc1 : w9.cell? ⟨g5, 1, none⟩ = some (.int .i64 (kindUpto x0 4)) := (bC HX9.out 1).trans (by rfl); have hc2 : w9.cell? ⟨g5, 2, none⟩ = some (.int .i64 (atoiV x1)) := (bC HX9.out 2).trans (by rfl); have hc3 : w9.cell? ⟨g5, 3, none⟩ = some (.int .i64 (atoiV x2)) := (bC HX9.out 3).trans (by rfl); have hc4 : w9.cell? ⟨g5, 4, none⟩ = some (.int .i64 (atoiV x3)) := (bC HX9.out 4).trans (by rfl); have hf0 := bF HX9.out 0)
                | ((with_reducible refine gate_callee (f := 26) rfl ?_); refine goesL_ (some 61) rfl rfl Tryd.func26 (by kernel_rfl) rfl #[.agg #[.int .u64 L, .int .i64 (kindUpto x0 4), .int .i64 (atoiV x1), .int .i64 (atoiV x2), .int .i64 (atoiV x3)]] rfl (by (try simp only [List.map_toArray, List.map_cons, List.map_nil]); first | done | rfl) ?_; have HX10 := aM (bU (cs' := #[.int .u64 L, .int .i64 (kindUpto x0 4), .int .i64 (atoiV x1), .int .i64 (atoiV x2), .int .i64 (atoiV x3)]) HX9.out 0 (.int .u64 L) (by rfl)); have HY10 := aM (bR (p := ⟨g5, 0, none⟩) HY9.out (fun e => NE.out e.symm) (.int .u64 L)); have HB10 := aM (HB9.out.setCell (p := ⟨g5, 0, none⟩) GE5.out (.int .u64 L)); (with_reducible refine (audit_Print2.calls k _ _ _ _ _ t _ _ (HM.out.below HB10.out) HPR.out).mono ?_); rintro e w10 ⟨rfl, hb⟩; refine ⟨_, rfl, ?_⟩; have HX11 := aM (bB HX10.out hb); have HY11 := aM (bB HY10.out hb); have HB11 := aM (bP HB10.out hb); clear hb; clear hc0 hc1 hc2 hc3 hc4 hf0; have hc0 := (bC HX11.out 0).trans (rfl : _ = some (Value.int .u64 L)); have hc1 := (bC HX11.out 1).trans (rfl : _ = some (Value.int .i64 (kindUpto x0 4))); have hc2 := (bC HX11.out 2).trans (rfl : _ = some (Value.int .i64 (atoiV x1))); have hc3 := (bC HX11.out 3).trans (rfl : _ = some (Value.int .i64 (atoiV x2))); have hc4 := (bC HX11.out 4).trans (rfl : _ = some (Value.int .i64 (atoiV x3))); have hz0 := (bC HY11.out 0).trans (rfl : _ = some (Value.int .u64 0)); have hz1 := (bC HY11.out 1).trans (rfl : _ = some (Value.int .i64 0)); have hz2 := (bC HY11.out 2).trans (rfl : _ = some (Value.int .i64 0)); have hz3 := (bC HY11.out 3).trans (rfl : _ = some (Value.int .i64 0)); have hz4 := (bC HY11.out 4).trans (rfl : _ = some (Value.int .i64 0)); have hfz0 := bF HY11.out 0; have hfz1 := bF HY11.out 1; have hfz2 := bF HY11.out 2; have hfz3 := bF HY11.out 3; have hfz4 := bF HY11.out 4)
                )
              refine bodyPost_ret (results_ct rfl _ _ g2 36 #[.int .u64 L, .int .i64 (kindUpto x0 4), .int .i64 (atoiV x1), .int .i64 (atoiV x2), .int .i64 (atoiV x3)] (0, 0) _ rfl ((blk_set (blk_set (blk_set (blk_set (blk_set HY11.out 0 _) 1 _) 2 _) 3 _) 4 _).trans rfl) Tryd.underlying36 rfl (by kernel_rfl)) rfl ?_
              exact ⟨rfl, by repeat (first | exact HB11.out | refine es ?_ GE2.out)⟩
            · obtain rfl : q = false := by cases q with | true => exact absurd (HQ.out.2 rfl).2 ht | false => rfl
              have ht1 : (t.toList == s.toList) = false := beq_eq_false_iff_ne.mpr ht
              have ht2 : (t.toList != s.toList) = true := bne_iff_ne.mpr ht
              clear ht
              go_wp2_with (first
                | ((with_reducible refine gate_callee (f := 47) rfl ?_); refine goesL_ (some 55) rfl rfl Tryd.func47 (by kernel_rfl) rfl #[.string x4] rfl (by (try simp only [List.map_toArray, List.map_cons, List.map_nil]); first | done | rfl) ?_; (with_reducible refine (label_Parse.calls k x4 L z _ HLB.out).mono ?_); rintro e w9 ⟨rfl, hb⟩; refine ⟨_, rfl, ?_⟩; have HX9 := aM (bB HX.out hb); have HY9 := aM (bB HY.out hb); have HB9 := aM (bP HB.out hb); clear hb; have hc0 : w9.cell? ⟨g5, 0, none⟩ = some (.int .u64 0) := (bC HX9.out 0).trans (by rfl); have hc1 : w9.cell? ⟨g5, 1, none⟩ = some (.int .i64 (kindUpto x0 4)) := (bC HX9.out 1).trans (by rfl); have hc2 : w9.cell? ⟨g5, 2, none⟩ = some (.int .i64 (atoiV x1)) := (bC HX9.out 2).trans (by rfl); have hc3 : w9.cell? ⟨g5, 3, none⟩ = some (.int .i64 (atoiV x2)) := (bC HX9.out 3).trans (by rfl); have hc4 : w9.cell? ⟨g5, 4, none⟩ = some (.int .i64 (atoiV x3)) := (bC HX9.out 4).trans (by rfl); have hf0 := bF HX9.out 0)
                | ((with_reducible refine gate_callee (f := 26) rfl ?_); refine goesL_ (some 61) rfl rfl Tryd.func26 (by kernel_rfl) rfl #[.agg #[.int .u64 L, .int .i64 (kindUpto x0 4), .int .i64 (atoiV x1), .int .i64 (atoiV x2), .int .i64 (atoiV x3)]] rfl (by (try simp only [List.map_toArray, List.map_cons, List.map_nil]); first | done | rfl) ?_; have HX10 := aM (bU (cs' := #[.int .u64 L, .int .i64 (kindUpto x0 4), .int .i64 (atoiV x1), .int .i64 (atoiV x2), .int .i64 (atoiV x3)]) HX9.out 0 (.int .u64 L) (by rfl)); have HY10 := aM (bR (p := ⟨g5, 0, none⟩) HY9.out (fun e => NE.out e.symm) (.int .u64 L)); have HB10 := aM (HB9.out.setCell (p := ⟨g5, 0, none⟩) GE5.out (.int .u64 L)); (with_reducible refine (audit_Print2.calls k _ _ _ _ _ t _ _ (HM.out.below HB10.out) HPR.out).mono ?_); rintro e w10 ⟨rfl, hb⟩; refine ⟨_, rfl, ?_⟩; have HX11 := aM (bB HX10.out hb); have HY11 := aM (bB HY10.out hb); have HB11 := aM (bP HB10.out hb); clear hb; clear hc0 hc1 hc2 hc3 hc4 hf0; have hc0 := (bC HX11.out 0).trans (rfl : _ = some (Value.int .u64 L)); have hc1 := (bC HX11.out 1).trans (rfl : _ = some (Value.int .i64 (kindUpto x0 4))); have hc2 := (bC HX11.out 2).trans (rfl : _ = some (Value.int .i64 (atoiV x1))); have hc3 := (bC HX11.out 3).trans (rfl : _ = some (Value.int .i64 (atoiV x2))); have hc4 := (bC HX11.out 4).trans (rfl : _ = some (Value.int .i64 (atoiV x3))); have hz0 := (bC HY11.out 0).trans (rfl : _ = some (Value.int .u64 0)); have hz1 := (bC HY11.out 1).trans (rfl : _ = some (Value.int .i64 0)); have hz2 := (bC HY11.out 2).trans (rfl : _ = some (Value.int .i64 0)); have hz3 := (bC HY11.out 3).trans (rfl : _ = some (Value.int .i64 0)); have hz4 := (bC HY11.out 4).trans (rfl : _ = some (Value.int .i64 0)); have hfz0 := bF HY11.out 0; have hfz1 := bF HY11.out 1; have hfz2 := bF HY11.out 2; have hfz3 := bF HY11.out 3; have hfz4 := bF HY11.out 4)
                )
              refine bodyPost_ret (results_ct rfl _ _ g2 36 zR (0, 0) _ rfl ((blk_set (blk_set (blk_set (blk_set (blk_set HY11.out 0 _) 1 _) 2 _) 3 _) 4 _).trans rfl) Tryd.underlying36 rfl (by kernel_rfl)) rfl ?_
              exact ⟨rfl, by repeat (first | exact HB11.out | refine es ?_ GE2.out)⟩
          · obtain rfl : q = false := by cases q with | true => exact absurd (HQ.out.2 rfl).1 he | false => rfl
            have he1 : (e1 != 0) = true := bne_iff_ne.mpr he
            have he2 : (e1 == 0) = false := beq_eq_false_iff_ne.mpr he
            go_wp2_with (first
              | ((with_reducible refine gate_callee (f := 47) rfl ?_); refine goesL_ (some 55) rfl rfl Tryd.func47 (by kernel_rfl) rfl #[.string x4] rfl (by (try simp only [List.map_toArray, List.map_cons, List.map_nil]); first | done | rfl) ?_; (with_reducible refine (label_Parse.calls k x4 L z _ HLB.out).mono ?_); rintro e w9 ⟨rfl, hb⟩; refine ⟨_, rfl, ?_⟩; have HX9 := aM (bB HX.out hb); have HY9 := aM (bB HY.out hb); have HB9 := aM (bP HB.out hb); clear hb; have hc0 : w9.cell? ⟨g5, 0, none⟩ = some (.int .u64 0) := (bC HX9.out 0).trans (by rfl); have hc1 : w9.cell? ⟨g5, 1, none⟩ = some (.int .i64 (kindUpto x0 4)) := (bC HX9.out 1).trans (by rfl); have hc2 : w9.cell? ⟨g5, 2, none⟩ = some (.int .i64 (atoiV x1)) := (bC HX9.out 2).trans (by rfl); have hc3 : w9.cell? ⟨g5, 3, none⟩ = some (.int .i64 (atoiV x2)) := (bC HX9.out 3).trans (by rfl); have hc4 : w9.cell? ⟨g5, 4, none⟩ = some (.int .i64 (atoiV x3)) := (bC HX9.out 4).trans (by rfl); have hf0 := bF HX9.out 0)
              | ((with_reducible refine gate_callee (f := 26) rfl ?_); refine goesL_ (some 61) rfl rfl Tryd.func26 (by kernel_rfl) rfl #[.agg #[.int .u64 L, .int .i64 (kindUpto x0 4), .int .i64 (atoiV x1), .int .i64 (atoiV x2), .int .i64 (atoiV x3)]] rfl (by (try simp only [List.map_toArray, List.map_cons, List.map_nil]); first | done | rfl) ?_; have HX10 := aM (bU (cs' := #[.int .u64 L, .int .i64 (kindUpto x0 4), .int .i64 (atoiV x1), .int .i64 (atoiV x2), .int .i64 (atoiV x3)]) HX9.out 0 (.int .u64 L) (by rfl)); have HY10 := aM (bR (p := ⟨g5, 0, none⟩) HY9.out (fun e => NE.out e.symm) (.int .u64 L)); have HB10 := aM (HB9.out.setCell (p := ⟨g5, 0, none⟩) GE5.out (.int .u64 L)); (with_reducible refine (audit_Print2.calls k _ _ _ _ _ t _ _ (HM.out.below HB10.out) HPR.out).mono ?_); rintro e w10 ⟨rfl, hb⟩; refine ⟨_, rfl, ?_⟩; have HX11 := aM (bB HX10.out hb); have HY11 := aM (bB HY10.out hb); have HB11 := aM (bP HB10.out hb); clear hb; clear hc0 hc1 hc2 hc3 hc4 hf0; have hc0 := (bC HX11.out 0).trans (rfl : _ = some (Value.int .u64 L)); have hc1 := (bC HX11.out 1).trans (rfl : _ = some (Value.int .i64 (kindUpto x0 4))); have hc2 := (bC HX11.out 2).trans (rfl : _ = some (Value.int .i64 (atoiV x1))); have hc3 := (bC HX11.out 3).trans (rfl : _ = some (Value.int .i64 (atoiV x2))); have hc4 := (bC HX11.out 4).trans (rfl : _ = some (Value.int .i64 (atoiV x3))); have hz0 := (bC HY11.out 0).trans (rfl : _ = some (Value.int .u64 0)); have hz1 := (bC HY11.out 1).trans (rfl : _ = some (Value.int .i64 0)); have hz2 := (bC HY11.out 2).trans (rfl : _ = some (Value.int .i64 0)); have hz3 := (bC HY11.out 3).trans (rfl : _ = some (Value.int .i64 0)); have hz4 := (bC HY11.out 4).trans (rfl : _ = some (Value.int .i64 0)); have hfz0 := bF HY11.out 0; have hfz1 := bF HY11.out 1; have hfz2 := bF HY11.out 2; have hfz3 := bF HY11.out 3; have hfz4 := bF HY11.out 4)
              )
            refine bodyPost_ret (results_ct rfl _ _ g2 36 zR (0, 0) _ rfl ((blk_set (blk_set (blk_set (blk_set (blk_set HY11.out 0 _) 1 _) 2 _) 3 _) 4 _).trans rfl) Tryd.underlying36 rfl (by kernel_rfl)) rfl ?_
            exact ⟨rfl, by repeat (first | exact HB11.out | refine es ?_ GE2.out)⟩
set_option maxHeartbeats 8000000 in
theorem aparse_not (s : ByteArray) (w : World) (p : List ByteArray) (hp : strings_Split.f s ⟨#[32]⟩ = some p) (hn : p.length ≠ 5) (hl : p.length ≤ 100000) :
    Calls Tryd.prog 28 #[.string s] w fun e w' => e = .returned (.tuple #[.agg zR, .int .i64 5]) ∧ Below w.heap.size w w' := by
  have hu36 := Tryd.underlying36
  have HP := aM hp
  have hn1 : ((p.length : Int) != 5) = true := bne_iff_ne.mpr (by omega)
  have hn2 : ((p.length : Int) == 5) = false := beq_eq_false_iff_ne.mpr (by omega)
  have hn3 : ((p.length : Int) = 5) = False := eq_false (by omega)
  have hn4 : wrap64 (p.length : Int) = (p.length : Int) := by unfold wrap64; omega
  clear hp
  go_enter Tryd.func28, Tryd.ntmps28
  go_wp2_with (first
    | ((with_reducible refine gate_dst (N := 2) rfl ?_); refine box_event ?hg (N := 2) ?hd (cs := zR) (t := 36) ?hr ?_; (case hd => rfl); (case hg => rfl); (case hr => first | (go_simp; done) | (go_simp; rfl)); intro g2 hg w2 hbox hb; have HB2 := aM hb; have HX2 := aM hbox; have GE2 := aM (Nat.le_of_eq hg.symm); clear hb hbox hg)
    | ((with_reducible refine gate_callee (f := 45) rfl ?_); refine goesL_ (some 12) rfl rfl Tryd.func45 (by kernel_rfl) rfl #[.string s, .string ⟨#[32]⟩] rfl (by (try simp only [List.map_toArray, List.map_cons, List.map_nil]); first | done | rfl) ?_; (with_reducible refine (strings_Split.calls s ⟨#[32]⟩ _ _ HP.out).mono ?_); rintro e w3 ⟨v3, rfl, ho, hb⟩; refine ⟨_, rfl, ?_⟩; obtain ⟨A, c, rfl⟩ := Kd.R_slice ho; have HB3 := aM (bP HB2.out hb); have HX3 := aM (bB HX2.out hb); clear ho hb; have hz0 := (bC HX3.out 0).trans (rfl : _ = some (Value.int .u64 0)); have hz1 := (bC HX3.out 1).trans (rfl : _ = some (Value.int .i64 0)); have hz2 := (bC HX3.out 2).trans (rfl : _ = some (Value.int .i64 0)); have hz3 := (bC HX3.out 3).trans (rfl : _ = some (Value.int .i64 0)); have hz4 := (bC HX3.out 4).trans (rfl : _ = some (Value.int .i64 0)); have hfz0 := bF HX3.out 0; have hfz1 := bF HX3.out 1; have hfz2 := bF HX3.out 2; have hfz3 := bF HX3.out 3; have hfz4 := bF HX3.out 4)
    )
  refine bodyPost_ret (results_ct rfl _ _ g2 36 zR (0, 0) _ rfl ((blk_set (blk_set (blk_set (blk_set (blk_set HX3.out 0 _) 1 _) 2 _) 3 _) 4 _).trans rfl) Tryd.underlying36 rfl (by kernel_rfl)) rfl ?_
  exact ⟨rfl, by repeat (first | exact HB3.out | refine es ?_ GE2.out)⟩
def audit_Parse.f (k : Nat) (s : ByteArray) : Option (Int × Int × Int × Int × Int × Int) :=
  if s.size ≤ 4096 then (strings_Split.f s ⟨#[32]⟩).bind fun p =>
    if p.length = 5 then (if p.all (fun x => decide (x.size ≤ 4096)) = true then
      (label_Parse.f k (p.getD 4 ⟨#[]⟩)).bind fun lz =>
        (audit_Print2.f k lz.1 (kindUpto (p.getD 0 ⟨#[]⟩) 4) (atoiV (p.getD 1 ⟨#[]⟩)) (atoiV (p.getD 2 ⟨#[]⟩)) (atoiV (p.getD 3 ⟨#[]⟩))).bind fun te =>
          some (if te.2 = 0 ∧ te.1.toList = s.toList then (lz.1, kindUpto (p.getD 0 ⟨#[]⟩) 4, atoiV (p.getD 1 ⟨#[]⟩), atoiV (p.getD 2 ⟨#[]⟩), atoiV (p.getD 3 ⟨#[]⟩), 0) else (0, 0, 0, 0, 0, 5))
      else none)
    else (if p.length ≤ 100000 then some (0, 0, 0, 0, 0, 5) else none)
  else none
theorem audit_Parse.calls (k : Nat) (a0 : ByteArray) (r1 r2 r3 r4 r5 r6 : Int) (w : World) (hMX : NumOk w) (h : audit_Parse.f k a0 = some (r1, r2, r3, r4, r5, r6)) :
    Calls Tryd.prog 28 #[.string a0] w fun e w' => e = .returned (.tuple #[.agg #[.int .u64 r1, .int .i64 r2, .int .i64 r3, .int .i64 r4, .int .i64 r5], .int .i64 r6]) ∧ Below w.heap.size w w' := by
  unfold audit_Parse.f at h
  split at h
  case isFalse => cases h
  rename_i hs
  obtain ⟨p, hp, h⟩ := Option.bind_eq_some_iff.1 h
  by_cases hl : p.length = 5
  · rw [if_pos hl] at h
    split at h
    case isFalse => cases h
    rename_i hall
    obtain ⟨x0, x1, x2, x3, x4, rfl⟩ := p5 hl
    obtain ⟨⟨L, z⟩, hL, h⟩ := Option.bind_eq_some_iff.1 h
    obtain ⟨⟨t, e1⟩, hP, h⟩ := Option.bind_eq_some_iff.1 h
    simp only [List.all_cons, List.all_nil, Bool.and_true, Bool.and_eq_true, decide_eq_true_eq] at hall
    have h := Option.some.inj h
    by_cases hq : e1 = 0 ∧ t.toList = a0.toList
    · have h2 := aparse_ok k a0 w hMX hs x0 x1 x2 x3 x4 L z e1 t hp hL hP hall.2.1 hall.2.2.1 hall.2.2.2.1 true (by simp [hq])
      rw [if_pos hq] at h
      cases h
      exact h2
    · have h2 := aparse_ok k a0 w hMX hs x0 x1 x2 x3 x4 L z e1 t hp hL hP hall.2.1 hall.2.2.1 hall.2.2.2.1 false (by simp [hq])
      rw [if_neg hq] at h
      cases h
      exact h2
  · rw [if_neg hl] at h
    split at h
    case isFalse => cases h
    rename_i hn
    cases h
    exact aparse_not a0 w p hp hl hn
end Go.Proofs.YtcbiilbmldinhaaDoor.PB
end

section
namespace Go.Proofs.YtcbiilbmldinhaaDoor.PB
open Go.RowKit Go.Proofs.YtcbiilbmldinhaaDoorW.PrintWords Go.Proofs.YtcbiilbmldinhaaDoorW.PrintLast Go.Proofs.YtcbiilbmldinhaaDoorW.PrintMore
attribute [local go_sem] max2_int min2_int max_two min_two max_three min_three max_four min_four   
set_option linter.unusedVariables false
set_option linter.unusedSimpArgs false
def label_Below.f (a0 : Int) (a1 : Int) : Option (Bool) := some ((Go.bits .andNot .u64 a0 a1) == 0)
set_option maxHeartbeats 8000000 in
set_option maxRecDepth 100000 in
theorem label_Below.calls (a0 : Int) (a1 : Int) (r : Bool) (w : World) (h : label_Below.f a0 a1 = some r) :
  Calls Tryd.prog 35 #[.int .u64 a0, .int .u64 a1] w fun e w' => e = .returned (.bool r) ∧ Drawn0 w w' := by
 have H : (some ((Go.bits .andNot .u64 a0 a1) == 0)) = some r := h
 clear h
 obtain rfl := Option.some.inj H
 go_enter Tryd.func35, Tryd.ntmps35
 go_wp2
 go_ret
 exact ⟨by first | rfl | (simp; done) | (simp [*]; done), by repeat (first | exact Drawn0.refl _ | apply Drawn0.step)⟩
end Go.Proofs.YtcbiilbmldinhaaDoor.PB
end

section
namespace Go.Proofs.YtcbiilbmldinhaaDoor.PB
open Go.RowKit Go.Maps Go.Proofs.YtcbiilbmldinhaaDoorW.PrintWords Go.Proofs.YtcbiilbmldinhaaDoorW.PrintLast Go.Proofs.YtcbiilbmldinhaaDoorW.PrintMore
set_option maxRecDepth 100000
set_option linter.unusedVariables false
set_option linter.unusedSimpArgs false
def newD (l : List Int) (q : Int) : DataW Unit := l.foldl (fun D x => D.put (kL x) (iL q)) (.map [])
theorem newD_snoc (l : List Int) (q x : Int) : newD (l ++ [x]) q = (newD l q).put (kL x) (iL q) := by simp [newD, List.foldl_append]
theorem keyL (x : Int) : WideAt.IsKeyLit (kL x) := by trivial
theorem newD_tidy (q : Int) (l : List Int) : Maps.Tidy (newD l q) ∧ Maps.size (newD l q) ≤ l.length := by
  suffices h : ∀ (l r : List Int), Maps.Tidy (newD r q) ∧ Maps.size (newD r q) ≤ r.length → Maps.Tidy (newD (r ++ l) q) ∧ Maps.size (newD (r ++ l) q) ≤ (r ++ l).length from h l [] ⟨Maps.tidy_empty, by simp [newD, Maps.size]⟩
  intro l
  induction l with
  | nil => intro r h; simpa using h
  | cons x l ih =>
    intro r h
    have := ih (r ++ [x]) (by
      rw [newD_snoc]
      refine ⟨h.1.put (keyL x) _, ?_⟩
      rw [Maps.size_put h.1]
      simp only [List.length_append, List.length_singleton]
      split <;> omega)
    simpa using this
theorem new_ok {A0 : Option Addr} {c0 : Nat} {l0 : List Int} {q : Int} {w : World} (hr0 : Kd.C (Kd.int .u64) w A0 l0.length l0) (hc0 : l0.length ≤ c0) (hwf : ∀ x ∈ l0, (kL x).wf = true) (h1 : 1 ≤ l0.length) (h8 : l0.length ≤ 8) (hq1 : 1 ≤ q) (hq2 : q ≤ 1024) (b : Bool) (hsz : (Maps.size (newD l0 q) = l0.length) ↔ b = true) :
    Calls Tryd.prog 11 #[.slice A0 l0.length c0, .int .i64 q] w fun e w' => ∃ g bm, e = .returned (.pointer (if b then some ⟨g, 0, none⟩ else none)) ∧ LogAt w.heap.size g bm (.slice none 0 0) w' (newD l0 q) [] ∧ Below w.heap.size w w' := by
  have hu55 := Tryd.underlying55
  have d1 : decide ((l0.length : Int) < 1) = false := decide_eq_false (by omega)
  have d2 : decide ((l0.length : Int) > 8) = false := decide_eq_false (by omega)
  have d3 : decide (q < 1) = false := decide_eq_false (by omega)
  have d4 : decide (q > 1024) = false := decide_eq_false (by omega)
  have HR0 := aM hr0
  have HC0 := aM hc0
  have HWF := aM hwf
  clear hr0 hc0 hwf
  have hmm := @run_makeMap Tryd.prog
  go_enter Tryd.func11, Tryd.ntmps11
  go_wp2
  have hM0 : LogAt w.heap.size (w.heap.size + 1) w.heap.size (.slice none 0 0) ((w.alloc (.map #[] 0)).alloc (.cells #[.map (some w.heap.size), .slice none 0 0] 55)) (newD [] q) [] := by
    have h := blk_new (w.alloc (.map #[] 0)) (.cells #[.map (some w.heap.size), .slice none 0 0] 55)
    rw [show (w.alloc (.map #[] 0)).heap.size = w.heap.size + 1 by simp] at h
    exact ⟨h, ((World.ownsMap_made w Tryd.prog 34 (plainElem Tryd.prog 3)).alloc _).mono (by omega), Kd.R_nil _ _ _ _ _, by omega, by omega⟩
  have hB0 : Below w.heap.size w ((w.alloc (.map #[] 0)).alloc (.cells #[.map (some w.heap.size), .slice none 0 0] 55)) := ((Below.refl _ _).alloc (Nat.le_refl _) _).alloc (by simp) _
  generalize hW : (w.alloc (.map #[] 0)).alloc (.cells #[.map (some w.heap.size), .slice none 0 0] 55) = W at hM0 hB0 ⊢
  generalize hg : w.heap.size + 1 = g at hM0 ⊢
  have HM := aM hM0
  have HB := aM hB0
  have HS := aM hsz
  have H8 := aM h8
  clear hM0 hB0 hW hg hmm hsz h1 h8 d1 d2 d3 d4
  go_loopg [29] l0.length (fun kq v29 w' => ∃ i : Nat, v29 = .int .i64 (i : Int) ∧ Aside0 (kq + i = l0.length) ∧ Aside0 (LogAt w.heap.size g w.heap.size (.slice none 0 0) w' (newD (l0.take i) q) []) ∧ Aside0 (Below w.heap.size w w'))
  case atStart => exact ⟨0, rfl, ⟨by simp⟩, ⟨by simpa using HM.out⟩, HB⟩
  case round =>
    clear HM HB
    obtain ⟨i, rfl, HI, HM, HB⟩ := hrel
    have hi := HI.out
    by_cases c1 : i < l0.length
    · cases gk with
      | zero => exact absurd hi (by omega)
      | succ k1 =>
        have c1b : decide ((i : Int) < (l0.length : Int)) = true := decide_eq_true (by omega)
        obtain ⟨ad, e1, hx0⟩ := Kd.at_int HR0.out (i : Int) (by omega) (by omega)
        cases e1
        replace hx0 := (HB.out.cell (World.block_lt_of_cell? w _ hx0)).trans hx0
        have p1 : (0 ≤ (i : Int)) = True := eq_true (by omega)
        have q1 : ((i : Int) < (l0.length : Int)) = True := eq_true (by omega)
        rw [Int.toNat_natCast] at hx0
        have c0 : wr.cell? ⟨g, 0, none⟩ = some (.map (some w.heap.size)) := (bC HM.out.hg 0).trans rfl
        have hxi : rd l0 (i : Int) ∈ l0 := by
          unfold rd
          rw [Int.toNat_natCast, List.getD_eq_getElem?_getD, List.getElem?_eq_getElem c1, Option.getD_some]
          exact List.getElem_mem c1
        have hkey := keyOf_int_mk Tryd.underlying34 (HWF.out _ hxi)
        have hqw : (Lit.int .i64 q).wf = true := WalkArith.wf_i64 (by omega)
        go_wp2_with (first
          | (at_mapUpdate; refine wpList_mapUpdate_in _ rfl _ _ _ 53 rfl 34 3 lawK Tryd.underlying53 _ w.heap.size 8 (newD (l0.take i) q) rfl HM.out.hm (by decide) _ _ _ rfl rfl hkey _ [] (plainElem_int Tryd.underlying3 hqw) ?_; intro w8 hown8 hturn8)
          )
        go_roundg k1
        case measure => have := HI.out; omega
        case rel =>
          have hgbm := HM.out.ne HM.out.hg
          have ht : l0.take (i + 1) = l0.take i ++ [rd l0 (i : Int)] := by
            unfold rd
            rw [Int.toNat_natCast, List.getD_eq_getElem?_getD, List.getElem?_eq_getElem c1, Option.getD_some]
            exact (List.take_append_getElem c1).symm
          have hD : newD (l0.take (i + 1)) q = (newD (l0.take i) q).put (kL (rd l0 (i : Int))) (iL q) := by rw [ht, newD_snoc]
          refine ⟨i + 1, ?_, ⟨by have := HI.out; omega⟩, ⟨⟨blk_grown HM.out.hg hturn8.grown (by simpa using hgbm), ?_, Kd.R_nil _ _ _ _ _, HM.out.hB, HM.out.hb⟩⟩, ⟨HB.out.grown hturn8.grown HB.out.size (fun k hk => by cases hk; exact Nat.le_refl _)⟩⟩
          · rw [w1n c1 (by have := H8.out; omega)]
          · refine ownsMap_tight lawK (m := 8) (D := newD (l0.take (i + 1)) q) (by rw [hD]; exact hown8) ?_
            exact Nat.le_trans (newD_tidy q _).2 (by have := H8.out; simp; omega)
    · obtain rfl : i = l0.length := by omega
      have c1b : decide ((l0.length : Int) < (l0.length : Int)) = false := decide_eq_false (by omega)
      have c0 : wr.cell? ⟨g, 0, none⟩ = some (.map (some w.heap.size)) := (bC HM.out.hg 0).trans rfl
      have hMM := HM.out
      rw [List.take_length] at hMM
      have hS := HS.out
      cases b
      · have hq : ((Maps.size (newD l0 q) : Int) != (l0.length : Int)) = true := by
          rw [bne_iff_ne]
          intro e
          have := hS.1 (by omega)
          cases this
        go_wp2_with (first
          | (at_len; refine wpList_len_own _ rfl _ 53 rfl 34 3 Tryd.underlying53 _ w.heap.size 8 (newD l0 q) rfl hMM.hm ?_)
          )
        go_ret
        exact ⟨rfl, ⟨g, _, hMM⟩, HB.out⟩
      · have hq : ((Maps.size (newD l0 q) : Int) != (l0.length : Int)) = false := by
          rw [bne_eq_false_iff_eq]
          have := hS.2 rfl
          omega
        go_wp2_with (first
          | (at_len; refine wpList_len_own _ rfl _ 53 rfl 34 3 Tryd.underlying53 _ w.heap.size 8 (newD l0 q) rfl hMM.hm ?_)
          )
        go_ret
        exact ⟨g, rfl, ⟨_, hMM⟩, HB.out⟩
end Go.Proofs.YtcbiilbmldinhaaDoor.PB
end

section
namespace Go.Proofs.YtcbiilbmldinhaaDoor.PB
open Go.RowKit Go.Maps Go.Proofs.YtcbiilbmldinhaaDoorW.PrintWords Go.Proofs.YtcbiilbmldinhaaDoorW.PrintLast Go.Proofs.YtcbiilbmldinhaaDoorW.PrintMore
set_option maxRecDepth 100000
set_option linter.unusedVariables false
set_option linter.unusedSimpArgs false
theorem sleq (a : Addr) (n c : Nat) (w : World) : (binOp BinOp.eql 43 (.slice (some a) n c) (.slice none 0 0)).run Tryd.prog w = .ok (.bool false) w := by kernel_rfl
theorem slnil (w : World) : (binOp BinOp.eql 43 (.slice none 0 0) (.slice none 0 0)).run Tryd.prog w = .ok (.bool true) w := by kernel_rfl
theorem clone_nil (w : World) : Calls Tryd.prog 34 #[.slice none 0 0] w fun e w' => e = .returned (.slice none 0 0) ∧ w' = w := by
  have h := slnil
  go_enter Tryd.func34, Tryd.ntmps34
  go_wp2
  go_ret
  exact ⟨rfl, rfl⟩
theorem clone_some {a : Addr} {c : Nat} {xs : List S36} {w : World} (hC : Kd.C k36 w (some a) xs.length xs) (hc : xs.length ≤ c) (hl : xs.length * 40 ≤ 140737488355328) :
    Calls Tryd.prog 34 #[.slice (some a) xs.length c] w fun e w' => ∃ v', e = .returned v' ∧ Kd.R k36 36 w' w.heap.size (fun _ => True) v' xs ∧ Below w.heap.size w w' := by
  have h := sleq
  have HC := aM hC
  have HL := aM hl
  clear hC hl
  have HO : Kd.R k36 36 (w.alloc (.cells #[] 36)) w.heap.size (fun _ => True) (.slice (some ⟨w.heap.size, 0, none⟩) 0 0) [] :=
    ⟨fun _ _ => trivial, [], ⟨by simp, .inr ⟨w.heap.size, 0, #[], rfl, Nat.le_refl _, blk_new w _, Nat.le_refl _, by decide, by simp, by simp⟩⟩, Reps.none _ _⟩
  go_enter Tryd.func34, Tryd.ntmps34
  go_wp2_with (first
    | ((with_reducible refine gate_builtin (b := .append) (xs := #[.tmp 5, .tmp 6]) rfl ?_); at_builtin; refine Kd.R_append_rows k36 (w0 := w) w.heap.size rfl (.tmp 5) (.tmp 6) 43 36 (.agg #[(.int .u64 0), (.int .i64 0), (.int .i64 0), (.int .i64 0), (.int .i64 0)]) 40 rfl Tryd.underlying43 info36 rfl (by decide) (by omega) (.slice (some ⟨w.heap.size, 0, none⟩) 0 0) ([] : List S36) xs _ _ _ (fun _ => True) (fun _ => False) rfl rfl HO (Kd.C_alloc HC.out _) (fun _ _ h => h) (fun _ h => h.elim) (fun _ _ => trivial) ((Below.refl _ _).alloc (Nat.le_refl _) _) (by simp) (by have := HL.out; simpa using this) ?_; intro v1 w1 ho hb hg hat; rw [List.nil_append] at ho; have HR := aM ho; have HB := aM hb; clear ho hb hg hat)
    )
  go_ret
  exact ⟨v1, rfl, HR.out, HB.out⟩
theorem all_ok {B g bm : Nat} {v : Value} {w : World} {D : DataW Unit} {xs : List S36} (h : LogAt B g bm v w D xs) (hl : xs.length * 40 ≤ 140737488355328) :
    Calls Tryd.prog 18 #[.pointer (some ⟨g, 0, none⟩)] w fun e w' => ∃ v', e = .returned v' ∧ Kd.R k36 36 w' w.heap.size (fun _ => True) v' xs ∧ Below w.heap.size w w' := by
  have HH := aM h
  clear h
  have hv : v = .slice none 0 0 ∨ ∃ a c, v = .slice (some a) xs.length c := by
    obtain ⟨_, inner, ⟨_, h⟩, _⟩ := HH.out.hR
    rcases h with ⟨h, _⟩ | ⟨g, cap, cur, h, _⟩
    · exact .inl h
    · exact .inr ⟨_, _, h⟩
  rcases hv with rfl | ⟨a, c, rfl⟩
  · have hx : xs = [] := by
      have := (rR HH.out.hR).1
      exact List.length_eq_zero_iff.1 this.symm
    subst hx
    have c1 := (bC HH.out.hg 1).trans (rfl : _ = some (Value.slice none 0 0))
    go_enter Tryd.func18, Tryd.ntmps18
    go_wp2_with (first
      | ((with_reducible refine gate_callee (f := 32) rfl ?_); refine goesL_ (some 4) rfl rfl Tryd.func32 (by kernel_rfl) rfl #[.pointer (some ⟨g, 0, none⟩)] rfl (by (try simp only [List.map_toArray, List.map_cons, List.map_nil]); first | done | rfl) ?_; (with_reducible refine (good_ok HH.out.hg).mono ?_); rintro e w3 ⟨rfl, hw⟩; subst w3; refine ⟨_, rfl, ?_⟩)
      | ((with_reducible refine gate_callee (f := 34) rfl ?_); refine goesL_ (some 10) rfl rfl Tryd.func34 (by kernel_rfl) rfl #[.slice none 0 0] rfl (by (try simp only [List.map_toArray, List.map_cons, List.map_nil]); first | done | rfl) ?_; (with_reducible refine (clone_nil w).mono ?_); rintro e w3 ⟨rfl, hw⟩; subst w3; refine ⟨_, rfl, ?_⟩)
      )
    go_ret
    exact ⟨_, rfl, Kd.R_nil _ _ _ _ _, Below.refl _ _⟩
  · have c1 := (bC HH.out.hg 1).trans (rfl : _ = some (Value.slice (some a) xs.length c))
    obtain ⟨_, hc, hC⟩ := rR HH.out.hR
    have HC := aM hC
    have HL := aM hl
    clear hC hl
    go_enter Tryd.func18, Tryd.ntmps18
    go_wp2_with (first
      | ((with_reducible refine gate_callee (f := 32) rfl ?_); refine goesL_ (some 4) rfl rfl Tryd.func32 (by kernel_rfl) rfl #[.pointer (some ⟨g, 0, none⟩)] rfl (by (try simp only [List.map_toArray, List.map_cons, List.map_nil]); first | done | rfl) ?_; (with_reducible refine (good_ok HH.out.hg).mono ?_); rintro e w3 ⟨rfl, hw⟩; subst w3; refine ⟨_, rfl, ?_⟩)
      | ((with_reducible refine gate_callee (f := 34) rfl ?_); refine goesL_ (some 10) rfl rfl Tryd.func34 (by kernel_rfl) rfl #[.slice (some a) xs.length c] rfl (by (try simp only [List.map_toArray, List.map_cons, List.map_nil]); first | done | rfl) ?_; (with_reducible refine (clone_some HC.out hc HL.out).mono ?_); rintro e w3 ⟨v', rfl, ho, hb⟩; refine ⟨_, rfl, ?_⟩; have HO := aM ho; have HB := aM hb; clear ho hb)
      )
    go_ret
    exact ⟨v', rfl, HO.out, HB.out⟩
end Go.Proofs.YtcbiilbmldinhaaDoor.PB
end

section
namespace Go.Proofs.YtcbiilbmldinhaaDoor.PB
open Go.RowKit Go.Maps Go.Proofs.YtcbiilbmldinhaaDoorW.PrintWords Go.Proofs.YtcbiilbmldinhaaDoorW.PrintLast Go.Proofs.YtcbiilbmldinhaaDoorW.PrintMore
set_option maxRecDepth 100000
set_option linter.unusedVariables false
set_option linter.unusedSimpArgs false
def belowB (a b : Int) : Bool := (Go.bits .andNot .u64 a b) == 0
def seenL (xs : List S36) (L : Int) : List S36 := xs.filter (fun r => belowB r.f0 L)
set_option maxHeartbeats 8000000 in
theorem seen_ok {B g bm : Nat} {v : Value} {w : World} {D : DataW Unit} {xs : List S36} (h : LogAt B g bm v w D xs) (hl : xs.length * 40 ≤ 100000000) (L : Int) :
    Calls Tryd.prog 19 #[.pointer (some ⟨g, 0, none⟩), .int .u64 L] w fun e w' => ∃ v', e = .returned v' ∧ Kd.R k36 36 w' w.heap.size (fun _ => True) v' (seenL xs L) ∧ Below w.heap.size w w' := by
  have hu36 := Tryd.underlying36
  have HH := aM h
  have HL := aM hl
  clear h hl
  go_enter Tryd.func19, Tryd.ntmps19
  go_wp2_with (first
    | ((with_reducible refine gate_callee (f := 18) rfl ?_); refine goesL_ (some 9) rfl rfl Tryd.func18 (by kernel_rfl) rfl #[.pointer (some ⟨g, 0, none⟩)] rfl (by (try simp only [List.map_toArray, List.map_cons, List.map_nil]); first | done | rfl) ?_; (with_reducible refine (all_ok HH.out (by have := HL.out; omega)).mono ?_); rintro e w3 ⟨v', rfl, ho, hb⟩; refine ⟨_, rfl, ?_⟩; obtain ⟨A, c, rfl⟩ := Kd.R_slice ho; have HA := aM ho; have HB := aM hb; clear ho hb)
    )
  go_loopg [5, 11] xs.length (fun kq v5 v11 w' => ∃ i : Nat, v11 = .int .i64 (i : Int) ∧ Aside0 (kq + i = xs.length) ∧ Aside0 (Kd.R k36 36 w' w.heap.size (fun k => some k ≠ (Value.slice A xs.length c).ownBlock) v5 (seenL (xs.take i) L)) ∧ Aside0 (Kd.R k36 36 w' w.heap.size (fun _ => True) (.slice A xs.length c) xs) ∧ Aside0 (Below w.heap.size w w'))
  case atStart => exact ⟨0, rfl, ⟨by simp⟩, ⟨by simpa [seenL] using Kd.R_nil _ _ _ _ _⟩, HA, HB⟩
  case round =>
    clear HA HB
    obtain ⟨i, rfl, HI, HO, HA, HB⟩ := hrel
    have hi := HI.out
    by_cases c1 : i < xs.length
    · cases gk with
      | zero => exact absurd hi (by omega)
      | succ k1 =>
        have c1b : decide ((i : Int) < (xs.length : Int)) = true := decide_eq_true (by omega)
        obtain ⟨ad, e1, hx0, hx1, hx2, hx3, hx4⟩ := at_T36 (rR HA.out).2.2 (i : Int) (by omega) (by omega)
        cases e1
        have p1 : (0 ≤ (i : Int)) = True := eq_true (by omega)
        have q1 : ((i : Int) < (xs.length : Int)) = True := eq_true (by omega)
        rw [Int.toNat_natCast] at hx0 hx1 hx2 hx3 hx4
        go_wp2_with (first
          | ((with_reducible refine gate_dst (N := 7) rfl ?_); refine box_event ?hg (N := 7) ?hd (cs := #[.int .u64 0, .int .i64 0, .int .i64 0, .int .i64 0, .int .i64 0]) (t := 36) ?hr ?_; (case hd => rfl); (case hg => rfl); (case hr => first | (go_simp; done) | (go_simp; rfl)); intro gb hg w6 hbox hb; have BK := aM hbox; have HN := aM hb; have GE := aM (Nat.le_of_eq hg.symm); clear hb hbox hg; have hz0 := (bC BK.out 0).trans (rfl : _ = some (Value.int .u64 0)); have hz1 := (bC BK.out 1).trans (rfl : _ = some (Value.int .i64 0)); have hz2 := (bC BK.out 2).trans (rfl : _ = some (Value.int .i64 0)); have hz3 := (bC BK.out 3).trans (rfl : _ = some (Value.int .i64 0)); have hz4 := (bC BK.out 4).trans (rfl : _ = some (Value.int .i64 0)); have hf0 := bF BK.out 0; have hf1 := bF BK.out 1; have hf2 := bF BK.out 2; have hf3 := bF BK.out 3; have hf4 := bF BK.out 4)
          )
        generalize hW : World.setCell _ ⟨gb, 4, none⟩ _ = w8
        have HW : Below wr.heap.size wr w8 := by
          subst hW
          repeat (first | exact HN.out | refine es ?_ GE.out)
        have BW : w8.heap[gb]? = some (.cells #[.int .u64 (rd_T36 xs (i : Int)).f0, .int .i64 (rd_T36 xs (i : Int)).f1, .int .i64 (rd_T36 xs (i : Int)).f2, .int .i64 (rd_T36 xs (i : Int)).f3, .int .i64 (rd_T36 xs (i : Int)).f4] 36 (0, 0)) := by
          subst hW
          exact (blk_set (blk_set (blk_set (blk_set (blk_set BK.out 0 _) 1 _) 2 _) 3 _) 4 _).trans rfl
        clear hW BK HN hz0 hz1 hz2 hz3 hz4 hf0 hf1 hf2 hf3 hf4 hx0 hx1 hx2 hx3 hx4
        refine (label_Below.calls _ L (belowB (rd_T36 xs (i : Int)).f0 L) _ rfl).mono ?_
        rintro e w9 ⟨rfl, nd, rfl⟩
        have HW9 := aM (pw_below_drewN HW nd)
        have BW9 := aM (blk_drewN BW nd)
        have hle : w8.heap.size = (w8.drewN nd).heap.size := rfl
        generalize w8.drewN nd = w9 at HW9 BW9 ⊢
        clear HW BW hle
        have hHO := aM (Kd.R_below HO.out HW9.out)
        have hHA := aM (Kd.R_below HA.out HW9.out)
        have hHB := aM (bP HB.out HW9.out)
        have hgb : ∀ k, u5.ownBlock = some k → k < gb := fun k hk => Nat.lt_of_lt_of_le (Kd.R_lt HO.out k hk) GE.out
        clear HO HA HB HW9
        have ht : xs.take (i + 1) = xs.take i ++ [rd_T36 xs (i : Int)] := by
          unfold rd_T36
          rw [Int.toNat_natCast, List.getD_eq_getElem?_getD, List.getElem?_eq_getElem c1, Option.getD_some]
          exact (List.take_append_getElem c1).symm
        have hs : seenL (xs.take (i + 1)) L = seenL (xs.take i) L ++ if belowB (rd_T36 xs (i : Int)).f0 L then [rd_T36 xs (i : Int)] else [] := by
          unfold seenL
          rw [ht, List.filter_append, List.filter_cons, List.filter_nil]
        have hsl : (seenL (xs.take i) L).length ≤ xs.length := Nat.le_trans (List.length_filter_le _ _) (List.length_take_le' _ _)
        have HS := aM hs
        have HSL := aM hsl
        clear ht hs hsl
        generalize rd_T36 xs (i : Int) = r at BW9 HS ⊢
        have hc0 := (bC BW9.out 0).trans (rfl : _ = some (Value.int .u64 r.f0))
        have hc1 := (bC BW9.out 1).trans (rfl : _ = some (Value.int .i64 r.f1))
        have hc2 := (bC BW9.out 2).trans (rfl : _ = some (Value.int .i64 r.f2))
        have hc3 := (bC BW9.out 3).trans (rfl : _ = some (Value.int .i64 r.f3))
        have hc4 := (bC BW9.out 4).trans (rfl : _ = some (Value.int .i64 r.f4))
        cases hbl : belowB r.f0 L
        · go_wp2
          go_roundg k1
          case measure => have := HI.out; omega
          case rel => exact ⟨i + 1, by rw [w1n c1 (by have := HL.out; omega)], ⟨by have := HI.out; omega⟩, ⟨by have h := HS.out; rw [hbl] at h; rw [h]; simpa using hHO.out⟩, hHA, hHB⟩
        · go_wp2_with (first
            | ((with_reducible refine gate_builtin (b := .append) (xs := #[.tmp 19, .tmp 21]) rfl ?_); at_builtin; refine Kd.R_append k36 (w0 := w) w.heap.size rfl (.tmp 19) (.tmp 21) 43 36 (.agg #[(.int .u64 0), (.int .i64 0), (.int .i64 0), (.int .i64 0), (.int .i64 0)]) 40 rfl Tryd.underlying43 info36 rfl (by decide) (by omega) u5 (seenL (xs.take i) L) r [.int .u64 r.f0, .int .i64 r.f1, .int .i64 r.f2, .int .i64 r.f3, .int .i64 r.f4] (fun k => some k ≠ (Value.slice (some ad) xs.length c).ownBlock) (fun _ => False) rfl (by first | (go_simp; done) | (go_simp; rfl)) (k36_mkM _ _ _ r) (fun _ hk => hk.elim) (fun k hk e => by have := Kd.R_lt hHA.out k e.symm; omega) hHO.out hHB.out hHB.out.size (by have := HL.out; have := HSL.out; omega) ?_; intro v1 w10 ho hb hg hat; have HA1 := aM (Kd.R_grown2 hHA.out rfl hg (fun k hk => hHO.out.1 k hk)); have HO1 := aM ho; have HB1 := aM hb; clear ho hb hg hat)
            )
          go_roundg k1
          case measure => have := HI.out; omega
          case rel => exact ⟨i + 1, by rw [w1n c1 (by have := HL.out; omega)], ⟨by have := HI.out; omega⟩, ⟨by have h := HS.out; rw [hbl] at h; rw [h]; exact HO1.out⟩, HA1, HB1⟩
    · obtain rfl : i = xs.length := by have := HI.out; omega
      have c1b : decide ((xs.length : Int) < (xs.length : Int)) = false := decide_eq_false (by omega)
      have hO := HO.out
      rw [List.take_length] at hO
      go_wp2
      go_ret
      exact ⟨_, rfl, rM hO (fun _ _ => trivial), HB.out⟩
end Go.Proofs.YtcbiilbmldinhaaDoor.PB
end

section
namespace Go.Proofs.YtcbiilbmldinhaaDoor.PB
open Go.RowKit Go.Proofs.YtcbiilbmldinhaaDoorW.PrintWords Go.Proofs.YtcbiilbmldinhaaDoorW.PrintLast Go.Proofs.YtcbiilbmldinhaaDoorW.PrintMore
attribute [local go_sem] max2_int min2_int max_two min_two max_three min_three max_four min_four   
set_option linter.unusedVariables false
set_option linter.unusedSimpArgs false
def audit_Print.f (k : Nat) (a0_0 : Int) (a0_1 : Int) (a0_2 : Int) (a0_3 : Int) (a0_4 : Int) : Option (ByteArray × Int) := (audit_Record_may.f k a0_0 a0_1 a0_2 a0_3 a0_4).bind fun t143 => (if t143 = true then ((audit_word.f a0_1).bind fun t144 => ((strconv_Itoa_40.f a0_2).bind fun t145 => ((strconv_Itoa_40.f a0_3).bind fun t146 => ((strconv_Itoa_40.f a0_4).bind fun t147 => ((label_Print.f k a0_0).bind fun t148 => ((strings_Join.f (([t144, t145, t146, t147, t148] : List ByteArray)) (⟨#[32]⟩ : ByteArray)).bind fun t152 => (some (t152, 0)))))))) else (some ((⟨#[]⟩ : ByteArray), 2)))
def audit_Print.T3 : Bool × List (List Nat × List Nat) := (true, [([], []), ([0], [0]), ([1], [1]), ([], []), ([3], [3]), ([4, 2], [4]), ([], []), ([6], [6]), ([7, 5], [7]), ([], []), ([9], [9]), ([10, 8], [10]), ([], []), ([12], [12]), ([13, 11], [13]), ([2, 5, 8, 11, 14], [2, 5, 8, 11, 14]), ([15, 14], [15]), ([16, 16, 0, 1, 2, 3, 4, 5, 6, 7, 8, 9, 10, 11, 12, 13, 14, 15, 16], [16]), ([17, 0, 1, 2, 3, 4, 5, 6, 7, 8, 9, 10, 11, 12, 13, 14, 15, 16, 17], [])])
def audit_Print.B3 : List Nat := [0, 1, 3, 0, 8, 31, 0, 64, 255, 0, 512, 2047, 0, 4096, 16383, 32767, 65535, 131071, 262143]
theorem audit_Print.tab3 : rtab .any (opsOf Tryd.f26 3) = audit_Print.T3 := by kernel_rfl
theorem audit_Print.bits3 : waitsOk audit_Print.T3.2 audit_Print.B3 = true := by kernel_rfl
set_option maxHeartbeats 8000000 in
set_option maxRecDepth 100000 in
theorem audit_Print.calls (k : Nat) (a0_0 : Int) (a0_1 : Int) (a0_2 : Int) (a0_3 : Int) (a0_4 : Int) (r1 : ByteArray) (r2 : Int) (w : World) (h : audit_Print.f k a0_0 a0_1 a0_2 a0_3 a0_4 = some (r1, r2)) :
  Calls Tryd.prog 26 #[.agg #[.int .u64 a0_0, .int .i64 a0_1, .int .i64 a0_2, .int .i64 a0_3, .int .i64 a0_4]] w fun e w' => e = .returned (.tuple #[.string r1, .int .i64 r2]) ∧ Below w.heap.size w w' := by
 have hu36 := Tryd.underlying36
 have HB := aM (Below.refl w.heap.size w)
 have H : ((audit_Record_may.f k a0_0 a0_1 a0_2 a0_3 a0_4).bind fun t143 => (if t143 = true then ((audit_word.f a0_1).bind fun t144 => ((strconv_Itoa_40.f a0_2).bind fun t145 => ((strconv_Itoa_40.f a0_3).bind fun t146 => ((strconv_Itoa_40.f a0_4).bind fun t147 => ((label_Print.f k a0_0).bind fun t148 => ((strings_Join.f (([t144, t145, t146, t147, t148] : List ByteArray)) (⟨#[32]⟩ : ByteArray)).bind fun t152 => (some (t152, 0)))))))) else (some ((⟨#[]⟩ : ByteArray), 2)))) = some (r1, r2) := h
 clear h
 replace H := Option.bind_eq_some_iff.mp H
 obtain ⟨t143, A20, H⟩ := H
 replace H : (if t143 = true then ((audit_word.f a0_1).bind fun t144 => ((strconv_Itoa_40.f a0_2).bind fun t145 => ((strconv_Itoa_40.f a0_3).bind fun t146 => ((strconv_Itoa_40.f a0_4).bind fun t147 => ((label_Print.f k a0_0).bind fun t148 => ((strings_Join.f (([t144, t145, t146, t147, t148] : List ByteArray)) (⟨#[32]⟩ : ByteArray)).bind fun t152 => (some (t152, 0)))))))) else (some ((⟨#[]⟩ : ByteArray), 2))) = some (r1, r2) := H
 have A2 := aM A20
 clear A20
 by_cases c3 : t143 = true
 ·subst c3
  have H1 : ((audit_word.f a0_1).bind fun t144 => ((strconv_Itoa_40.f a0_2).bind fun t145 => ((strconv_Itoa_40.f a0_3).bind fun t146 => ((strconv_Itoa_40.f a0_4).bind fun t147 => ((label_Print.f k a0_0).bind fun t148 => ((strings_Join.f (([t144, t145, t146, t147, t148] : List ByteArray)) (⟨#[32]⟩ : ByteArray)).bind fun t152 => (some (t152, 0)))))))) = some (r1, r2) := by rw [if_pos rfl] at H; exact H
  clear H
  have H := H1
  clear H1
  replace H := Option.bind_eq_some_iff.mp H
  obtain ⟨t144, A40, H⟩ := H
  replace H : ((strconv_Itoa_40.f a0_2).bind fun t145 => ((strconv_Itoa_40.f a0_3).bind fun t146 => ((strconv_Itoa_40.f a0_4).bind fun t147 => ((label_Print.f k a0_0).bind fun t148 => ((strings_Join.f (([t144, t145, t146, t147, t148] : List ByteArray)) (⟨#[32]⟩ : ByteArray)).bind fun t152 => (some (t152, 0))))))) = some (r1, r2) := H
  have A4 := aM A40
  clear A40
  replace H := Option.bind_eq_some_iff.mp H
  obtain ⟨t145, A50, H⟩ := H
  replace H : ((strconv_Itoa_40.f a0_3).bind fun t146 => ((strconv_Itoa_40.f a0_4).bind fun t147 => ((label_Print.f k a0_0).bind fun t148 => ((strings_Join.f (([t144, t145, t146, t147, t148] : List ByteArray)) (⟨#[32]⟩ : ByteArray)).bind fun t152 => (some (t152, 0)))))) = some (r1, r2) := H
  have A5 := aM A50
  clear A50
  replace H := Option.bind_eq_some_iff.mp H
  obtain ⟨t146, A60, H⟩ := H
  replace H : ((strconv_Itoa_40.f a0_4).bind fun t147 => ((label_Print.f k a0_0).bind fun t148 => ((strings_Join.f (([t144, t145, t146, t147, t148] : List ByteArray)) (⟨#[32]⟩ : ByteArray)).bind fun t152 => (some (t152, 0))))) = some (r1, r2) := H
  have A6 := aM A60
  clear A60
  replace H := Option.bind_eq_some_iff.mp H
  obtain ⟨t147, A70, H⟩ := H
  replace H : ((label_Print.f k a0_0).bind fun t148 => ((strings_Join.f (([t144, t145, t146, t147, t148] : List ByteArray)) (⟨#[32]⟩ : ByteArray)).bind fun t152 => (some (t152, 0)))) = some (r1, r2) := H
  have A7 := aM A70
  clear A70
  replace H := Option.bind_eq_some_iff.mp H
  obtain ⟨t148, A80, H⟩ := H
  replace H : ((strings_Join.f (([t144, t145, t146, t147, t148] : List ByteArray)) (⟨#[32]⟩ : ByteArray)).bind fun t152 => (some (t152, 0))) = some (r1, r2) := H
  have A8 := aM A80
  clear A80
  obtain ⟨y149, hy149⟩ : ∃ y_ : List ByteArray, y_ = (([t144, t145, t146, t147, t148] : List ByteArray)) := ⟨_, rfl⟩
  replace H : ((strings_Join.f y149 (⟨#[32]⟩ : ByteArray)).bind fun t152 => (some (t152, 0))) = some (r1, r2) := by first | (rw [hy149]; with_reducible exact H) | (have H2_ := (Option.bind_some _ _).symm.trans H; rw [hy149]; with_reducible exact H2_) | (have H2_ := (Option.bind_some _ _).symm.trans H; with_reducible exact H2_) | with_reducible exact H | (rw [hy149]; exact H) | exact H
  have Ny149 := aM hy149
  clear hy149
  replace H := Option.bind_eq_some_iff.mp H
  obtain ⟨t152, A90, H⟩ := H
  replace H : (some (t152, 0)) = some (r1, r2) := H
  have A9 := aM A90
  clear A90
  simp only [Option.some.injEq, Prod.mk.injEq] at H
  obtain ⟨rfl, rfl⟩ := H
  go_enter Tryd.func26, Tryd.ntmps26
  try go_wp2_with (first | ((with_reducible refine gate_dst (N := 1) rfl ?_); refine box_event ?hg (N := 1) ?hd (cs := #[.int .u64 a0_0, .int .i64 a0_1, .int .i64 a0_2, .int .i64 a0_3, .int .i64 a0_4]) (t := 36) ?hr ?_; (case hd | hg => rfl); (case hr => first | (go_simp; done) | (go_simp; rfl)); intro gb142 hg w10 hbox hb; have n0_ := aM (bP (ey HB.out) hb); have n1_ := aM (hbox); have n2_ := aM ((by rw [hg]; exact (bZ (ey HB.out)) : w.heap.size ≤ gb142)); have n3_ := n2_; clear HB; have HB := n0_; have BK142 := n1_; have GW142 := n2_; have GE142 := n3_; clear n0_ n1_ n2_ n3_; clear hb hbox hg; have hcz11_0 := zC BK142.out 0 (.int .u64 a0_0); have hcz11_1 := zC BK142.out 1 (.int .i64 a0_1); have hcz11_2 := zC BK142.out 2 (.int .i64 a0_2); have hcz11_3 := zC BK142.out 3 (.int .i64 a0_3); have hcz11_4 := zC BK142.out 4 (.int .i64 a0_4); have hfz11_0 := bF BK142.out 0; have hfz11_1 := bF BK142.out 1; have hfz11_2 := bF BK142.out 2; have hfz11_3 := bF BK142.out 3; have hfz11_4 := bF BK142.out 4) | ((with_reducible refine gate_callee (f := 33) rfl ?_); refine goesL_ (some 5) rfl rfl Tryd.func33 (by kernel_rfl) rfl #[.agg #[.int .u64 a0_0, .int .i64 a0_1, .int .i64 a0_2, .int .i64 a0_3, .int .i64 a0_4]] rfl (by (try simp only [mT, mC, mN]); first | done | rfl | (simp only [lD, lT]; rfl)) ?_; (with_reducible refine (audit_Record_may.calls k a0_0 a0_1 a0_2 a0_3 a0_4 true _ A2.out).mono ?_); rintro e w12 ⟨rfl, hb⟩; refine ⟨_, rfl, ?_⟩; have n0_ := aM (bB (g := gb142) (qy BK142.out) hb); have n1_ := aM (bP (by repeat (first | (with_reducible first | exact HB.out | apply ea | apply en | apply ed | refine es ?_ GE142.out) | exact HB.out)) hb); clear BK142 HB; have BK142 := n0_; have HB := n1_; clear n0_ n1_; (try clear hb); (try clear hb2); (try clear hk); (try clear hi)))
  have n0_ := aM (blk_drew BK142.out)
  have n1_ := aM (below_drew1 HB.out)
  clear BK142
  clear HB
  have BK142 := n0_
  have HB := n1_
  clear n0_ n1_
  refine start_ (n := 19) (S := fun w' => w'.cell? ⟨gb142, 0, none⟩ = some (.int .u64 a0_0) ∧ w'.cell? ⟨gb142, 1, none⟩ = some (.int .i64 a0_1) ∧ w'.cell? ⟨gb142, 2, none⟩ = some (.int .i64 a0_2) ∧ w'.cell? ⟨gb142, 3, none⟩ = some (.int .i64 a0_3) ∧ w'.cell? ⟨gb142, 4, none⟩ = some (.int .i64 a0_4)) (ds := []) b0_ (by kernel_rfl) rfl rfl ⟨(bC BK142.out 0).trans rfl, (bC BK142.out 1).trans rfl, (bC BK142.out 2).trans rfl, (bC BK142.out 3).trans rfl, (bC BK142.out 4).trans rfl⟩ (fun hHeld => ?_); refine with_tabW audit_Print.tab3 audit_Print.bits3 (fun HT_ HW_ => ?_)
  generalize w12.drew = w13 at BK142 HB hHeld ⊢
  refine pure_ (i := 0) (N := some 7) (v := ?_) (a' := ?_) b1_ rfl rfl (any_of HT_.out (by kernel_rfl)) (fun _ _ _ h => h) (Or.inl ⟨by rfl, ?_⟩) ?_ ?_
  rotate_left
  ·intro w'
   go_simp
   with_reducible rfl
  rotate_left
  ·simp only [Act.put, sA, sZ, sS, i64_w, i32_w]
   rfl
  refine pure_ (i := 3) (N := some 10) (v := ?_) (a' := ?_) b2_ rfl rfl (any_of HT_.out (by kernel_rfl)) (fun _ _ _ h => h) (Or.inl ⟨by rfl, ?_⟩) ?_ ?_
  rotate_left
  ·intro w'
   go_simp
   with_reducible rfl
  rotate_left
  ·simp only [Act.put, sA, sZ, sS, i64_w, i32_w]
   rfl
  refine pure_ (i := 6) (N := some 13) (v := ?_) (a' := ?_) b3_ rfl rfl (any_of HT_.out (by kernel_rfl)) (fun _ _ _ h => h) (Or.inl ⟨by rfl, ?_⟩) ?_ ?_
  rotate_left
  ·intro w'
   go_simp
   with_reducible rfl
  rotate_left
  ·simp only [Act.put, sA, sZ, sS, i64_w, i32_w]
   rfl
  refine pure_ (i := 9) (N := some 16) (v := ?_) (a' := ?_) b4_ rfl rfl (any_of HT_.out (by kernel_rfl)) (fun _ _ _ h => h) (Or.inl ⟨by rfl, ?_⟩) ?_ ?_
  rotate_left
  ·intro w'
   go_simp
   with_reducible rfl
  rotate_left
  ·simp only [Act.put, sA, sZ, sS, i64_w, i32_w]
   rfl
  refine pure_ (i := 12) (N := some 19) (v := ?_) (a' := ?_) b5_ rfl rfl (any_of HT_.out (by kernel_rfl)) (fun _ _ _ h => h) (Or.inl ⟨by rfl, ?_⟩) ?_ ?_
  rotate_left
  ·intro w'
   go_simp
   with_reducible rfl
  rotate_left
  ·simp only [Act.put, sA, sZ, sS, i64_w, i32_w]
   rfl
  refine take_ (i := 1) (N := some 8) (v := ?_) (a' := ?_) b6_ rfl rfl (take_ofW HT_.out HW_.out (by kernel_rfl)) (fun _ _ _ h => h) (Or.inl ⟨by rfl, ?_⟩) hHeld ?_ ?_
  rotate_left
  ·rintro w' ⟨s0, s1, s2, s3, s4⟩
   go_simp
   with_reducible rfl
  rotate_left
  ·simp only [Act.put, sA, sZ, sS, i64_w, i32_w]
   rfl
  refine take_ (i := 4) (N := some 11) (v := ?_) (a' := ?_) b7_ rfl rfl (take_ofW HT_.out HW_.out (by kernel_rfl)) (fun _ _ _ h => h) (Or.inl ⟨by rfl, ?_⟩) hHeld ?_ ?_
  rotate_left
  ·rintro w' ⟨s0, s1, s2, s3, s4⟩
   go_simp
   with_reducible rfl
  rotate_left
  ·simp only [Act.put, sA, sZ, sS, i64_w, i32_w]
   rfl
  refine take_ (i := 7) (N := some 14) (v := ?_) (a' := ?_) b8_ rfl rfl (take_ofW HT_.out HW_.out (by kernel_rfl)) (fun _ _ _ h => h) (Or.inl ⟨by rfl, ?_⟩) hHeld ?_ ?_
  rotate_left
  ·rintro w' ⟨s0, s1, s2, s3, s4⟩
   go_simp
   with_reducible rfl
  rotate_left
  ·simp only [Act.put, sA, sZ, sS, i64_w, i32_w]
   rfl
  refine take_ (i := 10) (N := some 17) (v := ?_) (a' := ?_) b9_ rfl rfl (take_ofW HT_.out HW_.out (by kernel_rfl)) (fun _ _ _ h => h) (Or.inl ⟨by rfl, ?_⟩) hHeld ?_ ?_
  rotate_left
  ·rintro w' ⟨s0, s1, s2, s3, s4⟩
   go_simp
   with_reducible rfl
  rotate_left
  ·simp only [Act.put, sA, sZ, sS, i64_w, i32_w]
   rfl
  refine take_ (i := 13) (N := some 20) (v := ?_) (a' := ?_) b10_ rfl rfl (take_ofW HT_.out HW_.out (by kernel_rfl)) (fun _ _ _ h => h) (Or.inl ⟨by rfl, ?_⟩) hHeld ?_ ?_
  rotate_left
  ·rintro w' ⟨s0, s1, s2, s3, s4⟩
   go_simp
   with_reducible rfl
  rotate_left
  ·simp only [Act.put, sA, sZ, sS, i64_w, i32_w]
   rfl
  refine one_ (i := 2) (N := some 9) b11_ rfl rfl (one_of HT_.out (by kernel_rfl)) (by decide) (fun K hK => ?_)
  refine goes_ Tryd.func39 (by kernel_rfl) rfl #[.int .i64 a0_1] (by rfl) rfl rfl (by (try simp only [mT, mC, mN]); first | done | rfl | (simp only [lD, lT]; rfl)) ?_
  with_reducible refine (audit_word.calls a0_1 t144 _ A4.out).mono ?_
  rintro e w' ⟨rfl, ⟨nd, rfl⟩⟩
  refine ⟨_, rfl, ?_⟩
  refine hK.out _ _ ⟨(bC BK142.out 0).trans rfl, (bC BK142.out 1).trans rfl, (bC BK142.out 2).trans rfl, (bC BK142.out 3).trans rfl, (bC BK142.out 4).trans rfl⟩ (fun hHeld => ?_)
  clear hK K
  refine norm_ (a' := ?_) ?_ ?_
  rotate_left
  ·show Act.put _ (some 9) _ = _
   simp only [Act.put, sA, sZ, sS, i64_w, i32_w]
   rfl
  refine one_ (i := 5) (N := some 12) b12_ rfl rfl (one_of HT_.out (by kernel_rfl)) (by decide) (fun K hK => ?_)
  refine goes_ Tryd.func40 (by kernel_rfl) rfl #[.int .i64 a0_2] (by rfl) rfl rfl (by (try simp only [mT, mC, mN]); first | done | rfl | (simp only [lD, lT]; rfl)) ?_
  with_reducible refine (strconv_Itoa_40.calls a0_2 t145 _ A5.out).mono ?_
  rintro e w14 ⟨rfl, hb⟩
  refine ⟨_, rfl, ?_⟩
  have n0_ := aM (bB (g := gb142) (qy BK142.out) hb)
  have n1_ := aM (bP (by repeat (first | (with_reducible first | exact HB.out | apply ea | apply en | apply ed | refine es ?_ GE142.out) | exact HB.out)) hb)
  clear BK142
  clear HB
  have BK142 := n0_
  have HB := n1_
  clear n0_ n1_
  (try clear hb)
  (try clear hb2)
  (try clear hk)
  (try clear hi)
  refine hK.out _ _ ⟨(bC BK142.out 0).trans rfl, (bC BK142.out 1).trans rfl, (bC BK142.out 2).trans rfl, (bC BK142.out 3).trans rfl, (bC BK142.out 4).trans rfl⟩ (fun hHeld => ?_)
  clear hK K
  refine norm_ (a' := ?_) ?_ ?_
  rotate_left
  ·show Act.put _ (some 12) _ = _
   simp only [Act.put, sA, sZ, sS, i64_w, i32_w]
   rfl
  refine one_ (i := 8) (N := some 15) b13_ rfl rfl (one_of HT_.out (by kernel_rfl)) (by decide) (fun K hK => ?_)
  refine goes_ Tryd.func40 (by kernel_rfl) rfl #[.int .i64 a0_3] (by rfl) rfl rfl (by (try simp only [mT, mC, mN]); first | done | rfl | (simp only [lD, lT]; rfl)) ?_
  with_reducible refine (strconv_Itoa_40.calls a0_3 t146 _ A6.out).mono ?_
  rintro e w15 ⟨rfl, hb⟩
  refine ⟨_, rfl, ?_⟩
  have n0_ := aM (bB (g := gb142) (qy BK142.out) hb)
  have n1_ := aM (bP (by repeat (first | (with_reducible first | exact HB.out | apply ea | apply en | apply ed | refine es ?_ GE142.out) | exact HB.out)) hb)
  clear BK142
  clear HB
  have BK142 := n0_
  have HB := n1_
  clear n0_ n1_
  (try clear hb)
  (try clear hb2)
  (try clear hk)
  (try clear hi)
  refine hK.out _ _ ⟨(bC BK142.out 0).trans rfl, (bC BK142.out 1).trans rfl, (bC BK142.out 2).trans rfl, (bC BK142.out 3).trans rfl, (bC BK142.out 4).trans rfl⟩ (fun hHeld => ?_)
  clear hK K
  refine norm_ (a' := ?_) ?_ ?_
  rotate_left
  ·show Act.put _ (some 15) _ = _
   simp only [Act.put, sA, sZ, sS, i64_w, i32_w]
   rfl
  refine one_ (i := 11) (N := some 18) b14_ rfl rfl (one_of HT_.out (by kernel_rfl)) (by decide) (fun K hK => ?_)
  refine goes_ Tryd.func40 (by kernel_rfl) rfl #[.int .i64 a0_4] (by rfl) rfl rfl (by (try simp only [mT, mC, mN]); first | done | rfl | (simp only [lD, lT]; rfl)) ?_
  with_reducible refine (strconv_Itoa_40.calls a0_4 t147 _ A7.out).mono ?_
  rintro e w16 ⟨rfl, hb⟩
  refine ⟨_, rfl, ?_⟩
  have n0_ := aM (bB (g := gb142) (qy BK142.out) hb)
  have n1_ := aM (bP (by repeat (first | (with_reducible first | exact HB.out | apply ea | apply en | apply ed | refine es ?_ GE142.out) | exact HB.out)) hb)
  clear BK142
  clear HB
  have BK142 := n0_
  have HB := n1_
  clear n0_ n1_
  (try clear hb)
  (try clear hb2)
  (try clear hk)
  (try clear hi)
  refine hK.out _ _ ⟨(bC BK142.out 0).trans rfl, (bC BK142.out 1).trans rfl, (bC BK142.out 2).trans rfl, (bC BK142.out 3).trans rfl, (bC BK142.out 4).trans rfl⟩ (fun hHeld => ?_)
  clear hK K
  refine norm_ (a' := ?_) ?_ ?_
  rotate_left
  ·show Act.put _ (some 18) _ = _
   simp only [Act.put, sA, sZ, sS, i64_w, i32_w]
   rfl
  refine one_ (i := 14) (N := some 21) b15_ rfl rfl (one_of HT_.out (by kernel_rfl)) (by decide) (fun K hK => ?_)
  refine goes_ Tryd.func41 (by kernel_rfl) rfl #[.int .u64 a0_0] (by rfl) rfl rfl (by (try simp only [mT, mC, mN]); first | done | rfl | (simp only [lD, lT]; rfl)) ?_
  with_reducible refine (label_Print.calls k a0_0 t148 _ A8.out).mono ?_
  rintro e w17 ⟨rfl, hb⟩
  refine ⟨_, rfl, ?_⟩
  have n0_ := aM (bB (g := gb142) (qy BK142.out) hb)
  have n1_ := aM (bP (by repeat (first | (with_reducible first | exact HB.out | apply ea | apply en | apply ed | refine es ?_ GE142.out) | exact HB.out)) hb)
  clear BK142
  clear HB
  have BK142 := n0_
  have HB := n1_
  clear n0_ n1_
  (try clear hb)
  (try clear hb2)
  (try clear hk)
  (try clear hi)
  refine hK.out _ _ ⟨(bC BK142.out 0).trans rfl, (bC BK142.out 1).trans rfl, (bC BK142.out 2).trans rfl, (bC BK142.out 3).trans rfl, (bC BK142.out 4).trans rfl⟩ (fun hHeld => ?_)
  clear hK K
  refine norm_ (a' := ?_) ?_ ?_
  rotate_left
  ·show Act.put _ (some 21) _ = _
   simp only [Act.put, sA, sZ, sS, i64_w, i32_w]
   rfl
  refine one_ (i := 15) (N := some 22) b16_ rfl rfl (one_of HT_.out (by kernel_rfl)) (by decide) (fun K hK => ?_)
  refine Kd.R_lit_step Kd.string _ 9 ?hg (N := 22) ?hd (xs := ([t144, t145, t146, t147, t148] : List ByteArray)) (inner := [.string t144, .string t145, .string t146, .string t147, .string t148]) (ok := fun _ => True) (okp := fun _ => True) ?hr ?hp (fun _ hk => hk) trivial (Below.refl _ _) (Nat.le_refl _) (by simp) ?_; (case hd | hg => rfl); (case hr => first | (go_simp; done) | (go_simp; rfl)); (case hp => exact (Reps.one (show Kd.M Kd.string _ _ _ t144 [.string t144] from rfl) (Reps.one (show Kd.M Kd.string _ _ _ t145 [.string t145] from rfl) (Reps.one (show Kd.M Kd.string _ _ _ t146 [.string t146] from rfl) (Reps.one (show Kd.M Kd.string _ _ _ t147 [.string t147] from rfl) (Reps.one (show Kd.M Kd.string _ _ _ t148 [.string t148] from rfl) (Reps.none _ _)))))))
  intro v150 w18 ho19 hb hg_ hnew_
  clear hg_ hnew_
  (first | rw [← Ny149.out] at ho19 | (simp only [Int.reduceToNat] at ho19; rw [← Ny149.out] at ho19))
  have n0_ := aM (rL ho19 (bZ (by repeat (first | (with_reducible first | exact HB.out | apply ea | apply en | apply ed | refine es ?_ GE142.out) | exact HB.out))))
  have n1_ := aM (bB (g := gb142) (qy BK142.out) hb)
  have n2_ := aM (bP (by repeat (first | (with_reducible first | exact HB.out | apply ea | apply en | apply ed | refine es ?_ GE142.out) | exact HB.out)) hb)
  clear BK142
  clear HB
  have HO151 := n0_
  have BK142 := n1_
  have HB := n2_
  clear n0_ n1_ n2_
  clear hb ho19
  obtain ⟨Ao20, co20, eo20⟩ := Kd.R_slice HO151.out
  (first | subst eo20 | (injection eo20 with f1_ f2_ f3_; have f4_ := f1_.symm; have f5_ := f3_.symm; clear f1_ f2_ f3_; subst f4_; subst f5_))
  refine hK.out _ _ ⟨(bC BK142.out 0).trans rfl, (bC BK142.out 1).trans rfl, (bC BK142.out 2).trans rfl, (bC BK142.out 3).trans rfl, (bC BK142.out 4).trans rfl⟩ (fun hHeld => ?_)
  clear hK K
  refine norm_ (a' := ?_) ?_ ?_
  rotate_left
  ·show Act.put _ (some 22) _ = _
   simp only [Act.put, sA, sZ, sS, i64_w, i32_w]
   rfl
  refine one_ (i := 16) (N := some 23) b17_ rfl rfl (one_of HT_.out (by kernel_rfl)) (by decide) (fun K hK => ?_)
  refine goes_ Tryd.func38 (by kernel_rfl) rfl #[.slice Ao20 y149.length co20, .string (⟨#[32]⟩ : ByteArray)] (by rfl) rfl rfl (by (try simp only [mT, mC, mN]); first | done | rfl | (simp only [lD, lT]; rfl)) ?_
  with_reducible refine (strings_Join.calls _ _ y149 (⟨#[32]⟩ : ByteArray) t152 _ ?side1 ?side2 A9.out).mono ?_
  (case side1 => repeat (first | exact (rR HO151.out).2.2 | (with_reducible refine Kd.C_alloc ?_ _) | (with_reducible refine Kd.C_drewN ?_ _) | (with_reducible refine Kd.C_drew ?_)))
  (case side2 => exact (rR HO151.out).2.1)
  rintro e w21 ⟨rfl, hb⟩
  refine ⟨_, rfl, ?_⟩
  have n0_ := aM (Kd.R_below (ry HO151.out) hb)
  have n1_ := aM (bB (g := gb142) (qy BK142.out) hb)
  have n2_ := aM (bP (by repeat (first | (with_reducible first | exact HB.out | apply ea | apply en | apply ed | refine es ?_ GE142.out) | exact HB.out)) hb)
  clear HO151
  clear BK142
  clear HB
  have HO151 := n0_
  have BK142 := n1_
  have HB := n2_
  clear n0_ n1_ n2_
  (try clear hb)
  (try clear hb2)
  (try clear hk)
  (try clear hi)
  refine hK.out _ _ ⟨(bC BK142.out 0).trans rfl, (bC BK142.out 1).trans rfl, (bC BK142.out 2).trans rfl, (bC BK142.out 3).trans rfl, (bC BK142.out 4).trans rfl⟩ (fun hHeld => ?_)
  clear hK K
  refine norm_ (a' := ?_) ?_ ?_
  rotate_left
  ·show Act.put _ (some 23) _ = _
   simp only [Act.put, sA, sZ, sS, i64_w, i32_w]
   rfl
  refine pure_ (i := 17) (N := some 2) (v := ?_) (a' := ?_) b18_ rfl rfl (any_of HT_.out (by kernel_rfl)) (fun _ _ _ h => h) (Or.inl ⟨by rfl, ?_⟩) ?_ ?_
  rotate_left
  ·intro w'
   go_simp
   with_reducible rfl
  rotate_left
  ·simp only [Act.put, sA, sZ, sS, i64_w, i32_w]
   rfl
  refine pure_ (i := 18) (N := some 3) (v := ?_) (a' := ?_) b19_ rfl rfl (any_of HT_.out (by kernel_rfl)) (fun _ _ _ h => h) (Or.inl ⟨by rfl, ?_⟩) ?_ ?_
  rotate_left
  ·intro w'
   go_simp
   with_reducible rfl
  rotate_left
  ·simp only [Act.put, sA, sZ, sS, i64_w, i32_w]
   rfl
  refine done_ (done_of HT_.out (by kernel_rfl)) ?_
  try go_wp2
  go_ret2
  exact ⟨by first | rfl | (simp [errW_none, errW_some] <;> rfl) | (simp [*, errW_none, errW_some] <;> rfl), by repeat (first | (with_reducible first | exact HB.out | apply ea | apply en | apply ed | refine es ?_ GE142.out) | exact HB.out)⟩
 ·replace c3 := Bool.eq_false_iff.mpr c3
  subst c3
  have H1 : (some ((⟨#[]⟩ : ByteArray), 2)) = some (r1, r2) := by rw [if_neg (show ¬ (false = true) by decide)] at H; exact H
  clear H
  have H := H1
  clear H1
  simp only [Option.some.injEq, Prod.mk.injEq] at H
  obtain ⟨rfl, rfl⟩ := H
  go_enter Tryd.func26, Tryd.ntmps26
  go_wp2_with (first | ((with_reducible refine gate_dst (N := 1) rfl ?_); refine box_event ?hg (N := 1) ?hd (cs := #[.int .u64 a0_0, .int .i64 a0_1, .int .i64 a0_2, .int .i64 a0_3, .int .i64 a0_4]) (t := 36) ?hr ?_; (case hd | hg => rfl); (case hr => first | (go_simp; done) | (go_simp; rfl)); intro gb142 hg w22 hbox hb; have n0_ := aM (bP (ey HB.out) hb); have n1_ := aM (hbox); have n2_ := aM ((by rw [hg]; exact (bZ (ey HB.out)) : w.heap.size ≤ gb142)); have n3_ := n2_; clear HB; have HB := n0_; have BK142 := n1_; have GW142 := n2_; have GE142 := n3_; clear n0_ n1_ n2_ n3_; clear hb hbox hg; have hcz23_0 := zC BK142.out 0 (.int .u64 a0_0); have hcz23_1 := zC BK142.out 1 (.int .i64 a0_1); have hcz23_2 := zC BK142.out 2 (.int .i64 a0_2); have hcz23_3 := zC BK142.out 3 (.int .i64 a0_3); have hcz23_4 := zC BK142.out 4 (.int .i64 a0_4); have hfz23_0 := bF BK142.out 0; have hfz23_1 := bF BK142.out 1; have hfz23_2 := bF BK142.out 2; have hfz23_3 := bF BK142.out 3; have hfz23_4 := bF BK142.out 4) | ((with_reducible refine gate_callee (f := 33) rfl ?_); refine goesL_ (some 5) rfl rfl Tryd.func33 (by kernel_rfl) rfl #[.agg #[.int .u64 a0_0, .int .i64 a0_1, .int .i64 a0_2, .int .i64 a0_3, .int .i64 a0_4]] rfl (by (try simp only [mT, mC, mN]); first | done | rfl | (simp only [lD, lT]; rfl)) ?_; (with_reducible refine (audit_Record_may.calls k a0_0 a0_1 a0_2 a0_3 a0_4 false _ A2.out).mono ?_); rintro e w24 ⟨rfl, hb⟩; refine ⟨_, rfl, ?_⟩; have n0_ := aM (bB (g := gb142) (qy BK142.out) hb); have n1_ := aM (bP (by repeat (first | (with_reducible first | exact HB.out | apply ea | apply en | apply ed | refine es ?_ GE142.out) | exact HB.out)) hb); clear BK142 HB; have BK142 := n0_; have HB := n1_; clear n0_ n1_; (try clear hb); (try clear hb2); (try clear hk); (try clear hi)))
  go_ret2
  exact ⟨by first | rfl | (simp [errW_none, errW_some] <;> rfl) | (simp [*, errW_none, errW_some] <;> rfl), by repeat (first | (with_reducible first | exact HB.out | apply ea | apply en | apply ed | refine es ?_ GE142.out) | exact HB.out)⟩
end Go.Proofs.YtcbiilbmldinhaaDoor.PB
end
