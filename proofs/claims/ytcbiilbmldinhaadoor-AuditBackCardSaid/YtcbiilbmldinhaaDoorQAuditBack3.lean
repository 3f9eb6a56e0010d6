/- The row of a law out of its contract and its pure theorem. No condition. -/
import Derived.Lib.JoinLaws
import Derived.Lib.SplitLaws
import Derived.OpenShut
import Derived.ChangeArms
import Derived.Deep.Slices
import Derived.SizedLaws
import Derived.Test.YtcbiilbmldinhaaDoorRows
import Derived.Stop.LaidErr
import Derived.Lib.LaidTab
import Derived.MakeChecks
import Derived.Test.YtcbiilbmldinhaaDoorRows
import Derived.Test.YtcbiilbmldinhaaDoorTie
import Derived.Test.YtcbiilbmldinhaaDoorCards
import Derived.LaidMore
import Derived.Lay
import Derived.Stop.Joined
import Derived.SevenTiedAt
import Derived.ProofKit
import Derived.OpenShut
import Derived.ShutString
import Derived.ChangeOld
import Derived.SizedLaws
import Derived.Carry
import Derived.Test.YtcbiilbmldinhaaDoorQAuditBack2
section
namespace Go.Proofs.YtcbiilbmldinhaaDoor.PB
open Go.RowKit Go.Maps Go.Proofs.YtcbiilbmldinhaaDoorW.PrintWords Go.Proofs.YtcbiilbmldinhaaDoorW.PrintLast Go.Proofs.YtcbiilbmldinhaaDoorW.PrintMore
set_option maxRecDepth 100000
set_option linter.unusedVariables false
set_option linter.unusedSimpArgs false
def bureaulaw18_alive.f : Option Bool := some true
theorem print_alive : audit_Print.f 100 5 4 2 5 8 = some (⟨#[100, 101, 110, 121, 32, 50, 32, 53, 32, 56, 32, 48, 46, 50]⟩, 0) := by decide +kernel
theorem may_a1 : audit_Record_may.f 100 3 1 0 0 0 = some true := by decide +kernel
theorem may_a2 : audit_Record_may.f 100 1 4 2 5 8 = some true := by decide +kernel
abbrev Da0 : DataW Unit := newD [1, 3] 1
abbrev Da1 : DataW Unit := Da0.put (kL 3) (iL (wrap64 (1 - 1)))
abbrev Da2 : DataW Unit := Da1.put (kL 1) (iL (wrap64 (1 - 1)))
theorem da1 : Maps.size Da0 = 2 := by rfl
theorem da2 : Maps.has Da0 (kL 3) = true := by rfl
theorem da3 : Da0.atKey (kL 3) (iL 0) = iL 1 := by rfl
theorem da4 : Maps.has Da1 (kL 1) = true := by rfl
theorem da5 : Da1.atKey (kL 1) (iL 0) = iL 1 := by rfl
theorem da6 : Da2.atKey (kL 3) (iL 0) = iL 0 := by kernel_rfl
abbrev xsA : List S36 := [⟨3, 1, 0, 0, 0⟩, ⟨1, 4, 2, 5, 8⟩]
theorem seen_a : (seenL xsA 1).length = 1 := by decide +kernel
theorem all_a : xsA.length = 2 := rfl
theorem ext_alive : audit_Extends.f 100 xsA [] = some true := by decide +kernel
theorem extA {A : Option Addr} {c : Nat} {w : World} (hc : 2 ≤ c) (hC : Kd.C k36 w A xsA.length xsA) :
    Calls Tryd.prog 23 #[.slice A 2 c, .slice none 0 0] w fun e w' => e = .returned (.bool true) ∧ Drawn0 w w' :=
  audit_Extends.calls 100 A c xsA none 0 [] true w hC hc (Kd.C_nil _ w) (Nat.le_refl _) ext_alive
theorem iL_inj {a b : Int} (h : (iL a : DataW Unit) = iL b) : a = b := by
  injection h with h
  injection h with _ h
theorem newA {A : Option Addr} {c : Nat} {w : World} (hc : 2 ≤ c) (hC : Kd.C (Kd.int .u64) w A ([1, 3] : List Int).length [1, 3]) :
    Calls Tryd.prog 11 #[.slice A 2 c, .int .i64 1] w fun e w' => ∃ g bm, e = .returned (.pointer (some ⟨g, 0, none⟩)) ∧ LogAt w.heap.size g bm (.slice none 0 0) w' Da0 [] ∧ Below w.heap.size w w' :=
  new_ok (l0 := [1, 3]) (q := 1) hC hc (by decide) (by decide) (by decide) (by decide) (by decide) true ⟨fun _ => rfl, fun _ => da1⟩
set_option maxHeartbeats 8000000 in
theorem bureaulaw18_alive.calls (r : Bool) (w : World) (h : bureaulaw18_alive.f = some r) :
    Calls Tryd.prog 10 #[] w fun e w' => e = .returned (.bool r) ∧ Below w.heap.size w w' := by
  obtain rfl : true = r := Option.some.inj h
  clear h
  have hu36 := Tryd.underlying36
  go_enter Tryd.func10, Tryd.ntmps10
  go_wp2_with (first
    | ((with_reducible refine gate_dst (N := 8) rfl ?_); refine Kd.R_lit (Kd.int .u64) _ 34 ?hg (N := 8) ?hd (xs := ([1, 3] : List Int)) (inner := [.int .u64 1, .int .u64 3]) (ok := fun _ => True) (okp := fun _ => True) ?hr ?hp (fun _ hk => hk) trivial (Below.refl _ _) (Nat.le_refl _) (by simp) ?_; (case hd => rfl); (case hg => rfl); (case hr => first | (go_simp; done) | (go_simp; rfl)); (case hp => exact (Reps.one (show Kd.M (Kd.int .u64) _ _ _ 1 [.int .u64 1] from rfl) (Reps.one (show Kd.M (Kd.int .u64) _ _ _ 3 [.int .u64 3] from rfl) (Reps.none _ _)))); intro v1 w1 ho hb hg_ hnew_; clear hg_ hnew_; obtain ⟨A, c, e⟩ := Kd.R_slice ho; rw [show ([1, 3] : List Int).length = 2 from rfl] at e; subst e; have HO := aM ho; have HB := aM hb; clear ho hb)
    | ((with_reducible refine gate_callee (f := 11) rfl ?_); (try (refine gate_guard (by rfl) ?_; dsimp only)); refine goesL_ (some 9) rfl rfl Tryd.func11 (by kernel_rfl) rfl #[.slice A 2 c, .int .i64 1] rfl (by (try simp only [List.map_toArray, List.map_cons, List.map_nil]); first | done | rfl) ?_; (with_reducible refine Calls.mono (newA (rR HO.out).2.1 (rR HO.out).2.2) ?_); rintro e w2 ⟨g, bm, rfl, hl, hb⟩; refine ⟨_, rfl, ?_⟩; have HA0 := aM hl; have HS0 := aM hb.size; have HBB := aM (bZ HB.out); have HB0 := aM (bP HB.out hb); clear hl hb HB HO)
    | ((with_reducible refine gate_callee (f := 13) rfl ?_); (try (refine gate_guard (by rfl) ?_; dsimp only)); refine goesL_ (some 15) rfl rfl Tryd.func13 (by kernel_rfl) rfl #[.pointer (some ⟨g, 0, none⟩), .agg #[.int .u64 3, .int .i64 1, .int .i64 0, .int .i64 0, .int .i64 0]] rfl (by (try simp only [List.map_toArray, List.map_cons, List.map_nil]); first | done | rfl) ?_; (with_reducible refine Calls.mono (add_ok 100 HA0.out HS0.out 3 1 0 0 0 (by decide) may_a1 da2 1 da3 (by decide) (by decide)) ?_); rintro e w3 ⟨rfl, v3, hl, hb, hk⟩; refine ⟨_, rfl, ?_⟩; have HA1 := aM hl; have HS1 := aM (Nat.le_trans HS0.out hb.size); have HB1 := aM (HB0.out.trans (hb.mono HBB.out)); clear hl hb hk HA0 HS0 HB0)
    | ((with_reducible refine gate_callee (f := 13) rfl ?_); (try (refine gate_guard (by rfl) ?_; dsimp only)); refine goesL_ (some 21) rfl rfl Tryd.func13 (by kernel_rfl) rfl #[.pointer (some ⟨g, 0, none⟩), .agg #[.int .u64 1, .int .i64 4, .int .i64 2, .int .i64 5, .int .i64 8]] rfl (by (try simp only [List.map_toArray, List.map_cons, List.map_nil]); first | done | rfl) ?_; (with_reducible refine Calls.mono (add_ok 100 HA1.out HS1.out 1 4 2 5 8 (by decide) may_a2 da4 1 da5 (by decide) (by decide)) ?_); rintro e w4 ⟨rfl, v4, hl, hb, hk⟩; refine ⟨_, rfl, ?_⟩; have HA2 := aM (show LogAt _ _ _ _ _ Da2 xsA from hl); have HB2 := aM (HB1.out.trans (hb.mono HBB.out)); clear hl hb hk HA1 HS1 HB1)
    | ((with_reducible refine gate_callee (f := 26) rfl ?_); (try (refine gate_guard (by rfl) ?_; dsimp only)); refine goesL_ (some 26) rfl rfl Tryd.func26 (by kernel_rfl) rfl #[.agg #[.int .u64 5, .int .i64 4, .int .i64 2, .int .i64 5, .int .i64 8]] rfl (by (try simp only [List.map_toArray, List.map_cons, List.map_nil]); first | done | rfl) ?_; (with_reducible refine Calls.mono (audit_Print.calls 100 5 4 2 5 8 _ _ _ print_alive) ?_); rintro e w5 ⟨rfl, hb⟩; refine ⟨_, rfl, ?_⟩; have HA3 := aM (HA2.out.below hb); have HB3 := aM (bP HB2.out hb); clear hb HA2 HB2)
    | ((with_reducible refine gate_callee (f := 19) rfl ?_); (try (refine gate_guard (by rfl) ?_; dsimp only)); refine goesL_ (some 45) rfl rfl Tryd.func19 (by kernel_rfl) rfl #[.pointer (some ⟨g, 0, none⟩), .int .u64 1] rfl (by (try simp only [List.map_toArray, List.map_cons, List.map_nil]); first | done | rfl) ?_; (with_reducible refine Calls.mono (seen_ok HA3.out (by decide) 1) ?_); rintro e w6 ⟨v6, rfl, ho, hb⟩; refine ⟨_, rfl, ?_⟩; obtain ⟨A6, c6, e6⟩ := Kd.R_slice ho; rw [seen_a] at e6; subst e6; have HA4 := aM (HA3.out.below hb); have HB4 := aM (bP HB3.out hb); clear ho hb HA3 HB3)
    | ((with_reducible refine gate_callee (f := 21) rfl ?_); (try (refine gate_guard (by rfl) ?_; dsimp only)); refine goesL_ (some 51) rfl rfl Tryd.func21 (by kernel_rfl) rfl #[.pointer (some ⟨g, 0, none⟩), .int .u64 3] rfl (by (try simp only [List.map_toArray, List.map_cons, List.map_nil]); first | done | rfl) ?_; (with_reducible refine Calls.mono (room_ok HA4.out 3 (by decide)) ?_); rintro e w7 ⟨c7, rfl, h7, hw⟩; refine ⟨_, rfl, ?_⟩; subst w7; obtain rfl : c7 = 0 := iL_inj (h7.symm.trans da6))
    | ((with_reducible refine gate_callee (f := 18) rfl ?_); (try (refine gate_guard (by rfl) ?_; dsimp only)); refine goesL_ (some 64) rfl rfl Tryd.func18 (by kernel_rfl) rfl #[.pointer (some ⟨g, 0, none⟩)] rfl (by (try simp only [List.map_toArray, List.map_cons, List.map_nil]); first | done | rfl) ?_; (with_reducible refine Calls.mono (all_ok HA4.out (by decide)) ?_); rintro e w8 ⟨v8, rfl, ho, hb⟩; refine ⟨_, rfl, ?_⟩; obtain ⟨A8, c8, e8⟩ := Kd.R_slice ho; rw [all_a] at e8; subst e8; have HO8 := aM ho; have HB5 := aM (bP HB4.out hb); clear ho hb HB4 HA4)
    | ((with_reducible refine gate_callee (f := 23) rfl ?_); (try (refine gate_guard (by rfl) ?_; dsimp only)); refine goesL_ (some 65) rfl rfl Tryd.func23 (by kernel_rfl) rfl #[.slice A8 2 c8, .slice none 0 0] rfl (by (try simp only [List.map_toArray, List.map_cons, List.map_nil]); first | done | rfl) ?_; (with_reducible refine Calls.mono (extA (rR HO8.out).2.1 (rR HO8.out).2.2) ?_); rintro e w9 ⟨rfl, nd, rfl⟩; refine ⟨_, rfl, ?_⟩; have HB6 := aM (pw_below_drewN HB5.out nd); clear HB5)
    )
  go_ret
  exact ⟨rfl, HB6.out⟩
end Go.Proofs.YtcbiilbmldinhaaDoor.PB
end

section
namespace Go.Proofs.YtcbiilbmldinhaaDoor.PB
open Go.RowKit Go.Proofs.YtcbiilbmldinhaaDoorW.PrintWords Go.Proofs.YtcbiilbmldinhaaDoorW.PrintLast Go.Proofs.YtcbiilbmldinhaaDoorW.PrintMore
attribute [local go_sem] max2_int min2_int max_two min_two max_three min_three max_four min_four   
set_option linter.unusedVariables false
set_option linter.unusedSimpArgs false
attribute [local go_sem high] eqA36 eqA38
def bureaulaw18_AuditBack.j0 : Nat → ByteArray → ByteArray → Bool → Int → Int → Int → Int → Int → Int → Int → Int → Int → Int → Option (Bool)
 | 0, _, _, _, _, _, _, _, _, _, _, _, _, _ => none
 | k + 1, x5, x7, x30, x325000, x325001, x325002, x325003, x325004, x326000, x326001, x326002, x326003, x326004 => if x30 = true then ((bureauref18_May.f x325000 x325001 x325002 x325003 x325004).bind fun t341 => (if t341 = true then ((bureauref18_May.f x326000 x326001 x326002 x326003 x326004).bind fun t342 => (some (!t342))) else (some true))) else ((audit_Parse.f k x5).bind fun bt343 => (if bt343.2.2.2.2.2 = 0 then ((bureaulaw18_theirs.f x325000 x325001 x325002 x325003 x325004).bind fun bt350 => (if (bt343.1 == bt350.1 && (bt343.2.1 == bt350.2.1 && (bt343.2.2.1 == bt350.2.2.1 && (bt343.2.2.2.1 == bt350.2.2.2.1 && (bt343.2.2.2.2.1 == bt350.2.2.2.2))))) = true then (some ((x5.toList == x7.toList) == (x325000 == x326000 && (x325001 == x326001 && (x325002 == x326002 && (x325003 == x326003 && (x325004 == x326004))))))) else (some false))) else (some false)))
def bureaulaw18_AuditBack.f (k : Nat) (a0_0 : Int) (a0_1 : Int) (a0_2 : Int) (a0_3 : Int) (a0_4 : Int) (a1_0 : Int) (a1_1 : Int) (a1_2 : Int) (a1_3 : Int) (a1_4 : Int) : Option (Bool) := (bureaulaw18_alive.f).bind fun t326 => (if t326 = true then ((bureaulaw18_theirs.f a0_0 a0_1 a0_2 a0_3 a0_4).bind fun bt327 => ((audit_Print2.f k bt327.1 bt327.2.1 bt327.2.2.1 bt327.2.2.2.1 bt327.2.2.2.2).bind fun bt332 => ((bureaulaw18_theirs.f a1_0 a1_1 a1_2 a1_3 a1_4).bind fun bt334 => ((audit_Print2.f k bt334.1 bt334.2.1 bt334.2.2.1 bt334.2.2.2.1 bt334.2.2.2.2).bind fun bt339 => (if bt332.2 = 0 then (bureaulaw18_AuditBack.j0 k bt332.1 bt339.1 (bt339.2 != 0) a0_0 a0_1 a0_2 a0_3 a0_4 a1_0 a1_1 a1_2 a1_3 a1_4) else (bureaulaw18_AuditBack.j0 k bt332.1 bt339.1 true a0_0 a0_1 a0_2 a0_3 a0_4 a1_0 a1_1 a1_2 a1_3 a1_4)))))) else (some false))
def bureaulaw18_AuditBack.T8 : Bool × List (List Nat × List Nat) := (true, [([], []), ([0], [0]), ([1], [1]), ([2], [2]), ([2], [2]), ([4, 2, 2], [2, 4]), ([3, 5, 2], [2, 3, 5]), ([2, 6], [2, 6]), ([7, 5], [7]), ([8], [8]), ([8], [8]), ([9, 10, 8], [8, 9, 10]), ([8], [8]), ([8], [8]), ([12, 13, 8], [8, 12, 13]), ([11, 14, 8], [8, 11, 14]), ([8, 15], [8, 15]), ([16, 8, 0, 1, 2, 3, 4, 5, 6, 7, 8, 9, 10, 11, 12, 13, 14, 15, 16], [16])])
def bureaulaw18_AuditBack.B8 : List Nat := [0, 1, 3, 7, 7, 23, 63, 127, 255, 511, 511, 2047, 511, 511, 12799, 32767, 65535, 131071]
theorem bureaulaw18_AuditBack.tab8 : rtab .any (opsOf Tryd.f9 8) = bureaulaw18_AuditBack.T8 := by kernel_rfl
theorem bureaulaw18_AuditBack.bits8 : waitsOk bureaulaw18_AuditBack.T8.2 bureaulaw18_AuditBack.B8 = true := by kernel_rfl
set_option maxHeartbeats 8000000 in
set_option maxRecDepth 100000 in
theorem bureaulaw18_AuditBack.calls (k : Nat) (a0_0 : Int) (a0_1 : Int) (a0_2 : Int) (a0_3 : Int) (a0_4 : Int) (a1_0 : Int) (a1_1 : Int) (a1_2 : Int) (a1_3 : Int) (a1_4 : Int) (r : Bool) (w : World) (hMX : NumOk w) (h : bureaulaw18_AuditBack.f k a0_0 a0_1 a0_2 a0_3 a0_4 a1_0 a1_1 a1_2 a1_3 a1_4 = some r) (hrt : r = true := by rfl) :
  Calls Tryd.prog 9 #[.agg #[.int .u64 a0_0, .int .i64 a0_1, .int .i64 a0_2, .int .i64 a0_3, .int .i64 a0_4], .agg #[.int .u64 a1_0, .int .i64 a1_1, .int .i64 a1_2, .int .i64 a1_3, .int .i64 a1_4]] w fun e w' => e = .returned (.bool r) ∧ Below w.heap.size w w' := by
 have HMX := aM hMX
 clear hMX
 have hu38 := Tryd.underlying38
 have hu36 := Tryd.underlying36
 have HB := aM (Below.refl w.heap.size w)
 have H : ((bureaulaw18_alive.f).bind fun t326 => (if t326 = true then ((bureaulaw18_theirs.f a0_0 a0_1 a0_2 a0_3 a0_4).bind fun bt327 => ((audit_Print2.f k bt327.1 bt327.2.1 bt327.2.2.1 bt327.2.2.2.1 bt327.2.2.2.2).bind fun bt332 => ((bureaulaw18_theirs.f a1_0 a1_1 a1_2 a1_3 a1_4).bind fun bt334 => ((audit_Print2.f k bt334.1 bt334.2.1 bt334.2.2.1 bt334.2.2.2.1 bt334.2.2.2.2).bind fun bt339 => (if bt332.2 = 0 then (bureaulaw18_AuditBack.j0 k bt332.1 bt339.1 (bt339.2 != 0) a0_0 a0_1 a0_2 a0_3 a0_4 a1_0 a1_1 a1_2 a1_3 a1_4) else (bureaulaw18_AuditBack.j0 k bt332.1 bt339.1 true a0_0 a0_1 a0_2 a0_3 a0_4 a1_0 a1_1 a1_2 a1_3 a1_4)))))) else (some false))) = some r := h
 clear h
 replace H := Option.bind_eq_some_iff.mp H
 obtain ⟨t326, A30, H⟩ := H
 replace H : (if t326 = true then ((bureaulaw18_theirs.f a0_0 a0_1 a0_2 a0_3 a0_4).bind fun bt327 => ((audit_Print2.f k bt327.1 bt327.2.1 bt327.2.2.1 bt327.2.2.2.1 bt327.2.2.2.2).bind fun bt332 => ((bureaulaw18_theirs.f a1_0 a1_1 a1_2 a1_3 a1_4).bind fun bt334 => ((audit_Print2.f k bt334.1 bt334.2.1 bt334.2.2.1 bt334.2.2.2.1 bt334.2.2.2.2).bind fun bt339 => (if bt332.2 = 0 then (bureaulaw18_AuditBack.j0 k bt332.1 bt339.1 (bt339.2 != 0) a0_0 a0_1 a0_2 a0_3 a0_4 a1_0 a1_1 a1_2 a1_3 a1_4) else (bureaulaw18_AuditBack.j0 k bt332.1 bt339.1 true a0_0 a0_1 a0_2 a0_3 a0_4 a1_0 a1_1 a1_2 a1_3 a1_4)))))) else (some false)) = some r := H
 have A3 := aM A30
 clear A30
 by_cases c4 : t326 = true
 ·subst c4
  have H1 : ((bureaulaw18_theirs.f a0_0 a0_1 a0_2 a0_3 a0_4).bind fun bt327 => ((audit_Print2.f k bt327.1 bt327.2.1 bt327.2.2.1 bt327.2.2.2.1 bt327.2.2.2.2).bind fun bt332 => ((bureaulaw18_theirs.f a1_0 a1_1 a1_2 a1_3 a1_4).bind fun bt334 => ((audit_Print2.f k bt334.1 bt334.2.1 bt334.2.2.1 bt334.2.2.2.1 bt334.2.2.2.2).bind fun bt339 => (if bt332.2 = 0 then (bureaulaw18_AuditBack.j0 k bt332.1 bt339.1 (bt339.2 != 0) a0_0 a0_1 a0_2 a0_3 a0_4 a1_0 a1_1 a1_2 a1_3 a1_4) else (bureaulaw18_AuditBack.j0 k bt332.1 bt339.1 true a0_0 a0_1 a0_2 a0_3 a0_4 a1_0 a1_1 a1_2 a1_3 a1_4)))))) = some r := by rw [if_pos rfl] at H; exact H
  clear H
  have H := H1
  clear H1
  replace H := Option.bind_eq_some_iff.mp H
  obtain ⟨⟨t327, t328, t329, t330, t331⟩, A50, H⟩ := H
  replace H : ((audit_Print2.f k t327 t328 t329 t330 t331).bind fun bt332 => ((bureaulaw18_theirs.f a1_0 a1_1 a1_2 a1_3 a1_4).bind fun bt334 => ((audit_Print2.f k bt334.1 bt334.2.1 bt334.2.2.1 bt334.2.2.2.1 bt334.2.2.2.2).bind fun bt339 => (if bt332.2 = 0 then (bureaulaw18_AuditBack.j0 k bt332.1 bt339.1 (bt339.2 != 0) a0_0 a0_1 a0_2 a0_3 a0_4 a1_0 a1_1 a1_2 a1_3 a1_4) else (bureaulaw18_AuditBack.j0 k bt332.1 bt339.1 true a0_0 a0_1 a0_2 a0_3 a0_4 a1_0 a1_1 a1_2 a1_3 a1_4))))) = some r := H
  have A5 := aM A50
  clear A50
  replace H := Option.bind_eq_some_iff.mp H
  obtain ⟨⟨t332, t333⟩, A60, H⟩ := H
  replace H : ((bureaulaw18_theirs.f a1_0 a1_1 a1_2 a1_3 a1_4).bind fun bt334 => ((audit_Print2.f k bt334.1 bt334.2.1 bt334.2.2.1 bt334.2.2.2.1 bt334.2.2.2.2).bind fun bt339 => (if t333 = 0 then (bureaulaw18_AuditBack.j0 k t332 bt339.1 (bt339.2 != 0) a0_0 a0_1 a0_2 a0_3 a0_4 a1_0 a1_1 a1_2 a1_3 a1_4) else (bureaulaw18_AuditBack.j0 k t332 bt339.1 true a0_0 a0_1 a0_2 a0_3 a0_4 a1_0 a1_1 a1_2 a1_3 a1_4)))) = some r := H
  have A6 := aM A60
  clear A60
  replace H := Option.bind_eq_some_iff.mp H
  obtain ⟨⟨t334, t335, t336, t337, t338⟩, A70, H⟩ := H
  replace H : ((audit_Print2.f k t334 t335 t336 t337 t338).bind fun bt339 => (if t333 = 0 then (bureaulaw18_AuditBack.j0 k t332 bt339.1 (bt339.2 != 0) a0_0 a0_1 a0_2 a0_3 a0_4 a1_0 a1_1 a1_2 a1_3 a1_4) else (bureaulaw18_AuditBack.j0 k t332 bt339.1 true a0_0 a0_1 a0_2 a0_3 a0_4 a1_0 a1_1 a1_2 a1_3 a1_4))) = some r := H
  have A7 := aM A70
  clear A70
  replace H := Option.bind_eq_some_iff.mp H
  obtain ⟨⟨t339, t340⟩, A80, H⟩ := H
  replace H : (if t333 = 0 then (bureaulaw18_AuditBack.j0 k t332 t339 (t340 != 0) a0_0 a0_1 a0_2 a0_3 a0_4 a1_0 a1_1 a1_2 a1_3 a1_4) else (bureaulaw18_AuditBack.j0 k t332 t339 true a0_0 a0_1 a0_2 a0_3 a0_4 a1_0 a1_1 a1_2 a1_3 a1_4)) = some r := H
  have A8 := aM A80
  clear A80
  have HC9 := aM H
  clear H
  go_enter Tryd.func9, Tryd.ntmps9
  go_upto_region 5 with (first | ((with_reducible refine gate_dst (N := 2) rfl ?_); refine box_event ?hg (N := 2) ?hd (cs := #[.int .u64 a0_0, .int .i64 a0_1, .int .i64 a0_2, .int .i64 a0_3, .int .i64 a0_4]) (t := 38) ?hr ?_; (case hd | hg => rfl); (case hr => first | (go_simp; done) | (go_simp; rfl)); intro gb324 hg w10 hbox hb; have n0_ := aM (bP (ey HB.out) hb); have n1_ := aM (hbox); have n2_ := aM ((by rw [hg]; exact (bZ (ey HB.out)) : w.heap.size ≤ gb324)); have n3_ := n2_; clear HB; have HB := n0_; have BK324 := n1_; have GW324 := n2_; have GE324 := n3_; clear n0_ n1_ n2_ n3_; clear hb hbox hg) | ((with_reducible refine gate_dst (N := 3) rfl ?_); refine box_event ?hg (N := 3) ?hd (cs := #[.int .u64 a1_0, .int .i64 a1_1, .int .i64 a1_2, .int .i64 a1_3, .int .i64 a1_4]) (t := 38) ?hr ?_; (case hd | hg => rfl); (case hr => first | (go_simp; done) | (go_simp; rfl)); intro gb325 hg w11 hbox hb; have n0_ := aM (bB (g := gb324) (qy BK324.out) hb); have n1_ := aM (bP (by repeat (first | (with_reducible first | exact HB.out | apply ea | apply en | apply ed | refine es ?_ GE324.out) | exact HB.out)) hb); have n2_ := aM (hbox); have n3_ := aM ((by rw [hg]; exact (bZ (by repeat (first | (with_reducible first | exact HB.out | apply ea | apply en | apply ed | refine es ?_ GE324.out) | exact HB.out))) : w.heap.size ≤ gb325)); have n4_ := n3_; have n5_ := aM ((by rw [hg]; exact Nat.ne_of_lt (blk_lt (g := gb324) (qy BK324.out)) : gb324 ≠ gb325)); have n6_ := aM ((by rw [hg]; exact Nat.ne_of_gt (blk_lt (g := gb324) (qy BK324.out)) : gb325 ≠ gb324)); clear BK324 HB; have BK324 := n0_; have HB := n1_; have BK325 := n2_; have GW325 := n3_; have GE325 := n4_; have NB324_325 := n5_; have NB325_324 := n6_; clear n0_ n1_ n2_ n3_ n4_ n5_ n6_; clear hb hbox hg) | ((with_reducible refine gate_callee (f := 10) rfl ?_); refine goesL_ (some 11) rfl rfl Tryd.func10 (by kernel_rfl) rfl #[] rfl (by (try simp only [mT, mC, mN]); first | done | rfl | (simp only [lD, lT]; rfl)) ?_; (with_reducible refine (bureaulaw18_alive.calls  true _ A3.out).mono ?_); rintro e w12 ⟨rfl, hb⟩; refine ⟨_, rfl, ?_⟩; have n0_ := aM (bB (g := gb324) (qy BK324.out) hb); have n1_ := aM (bB (g := gb325) (qy BK325.out) hb); have n2_ := aM (bP (by repeat (first | (with_reducible first | exact HB.out | apply ea | apply en | apply ed | refine es ?_ GE324.out | refine es ?_ GE325.out) | exact HB.out)) hb); clear BK324 BK325 HB; have BK324 := n0_; have BK325 := n1_; have HB := n2_; clear n0_ n1_ n2_; (try clear hb); (try clear hb2); (try clear hk); (try clear hi); have hnb13 := NB324_325.out; have hnc13 := NB325_324.out; have hcz14_0 := zC BK324.out 0 (.int .u64 a0_0); have hcz14_1 := zC BK324.out 1 (.int .i64 a0_1); have hcz14_2 := zC BK324.out 2 (.int .i64 a0_2); have hcz14_3 := zC BK324.out 3 (.int .i64 a0_3); have hcz14_4 := zC BK324.out 4 (.int .i64 a0_4); have hfz14_0 := bF BK324.out 0; have hfz14_1 := bF BK324.out 1; have hfz14_2 := bF BK324.out 2; have hfz14_3 := bF BK324.out 3; have hfz14_4 := bF BK324.out 4) | ((with_reducible refine gate_callee (f := 14) rfl ?_); refine goesL_ (some 15) rfl rfl Tryd.func14 (by kernel_rfl) rfl #[.agg #[.int .u64 a0_0, .int .i64 a0_1, .int .i64 a0_2, .int .i64 a0_3, .int .i64 a0_4]] rfl (by (try simp only [mT, mC, mN]); first | done | rfl | (simp only [lD, lT]; rfl)) ?_; (with_reducible refine (bureaulaw18_theirs.calls a0_0 a0_1 a0_2 a0_3 a0_4 t327 t328 t329 t330 t331 _ A5.out).mono ?_); rintro e w15 ⟨rfl, hb⟩; refine ⟨_, rfl, ?_⟩; have n0_ := aM (bB (g := gb324) (qy BK324.out) hb); have n1_ := aM (bB (g := gb325) (qy BK325.out) hb); have n2_ := aM (bP (by repeat (first | (with_reducible first | exact HB.out | apply ea | apply en | apply ed | refine es ?_ GE324.out | refine es ?_ GE325.out) | exact HB.out)) hb); clear BK324 BK325 HB; have BK324 := n0_; have BK325 := n1_; have HB := n2_; clear n0_ n1_ n2_; (try clear hb); (try clear hb2); (try clear hk); (try clear hi)) | ((with_reducible refine gate_callee (f := 26) rfl ?_); refine goesL_ (some 16) rfl rfl Tryd.func26 (by kernel_rfl) rfl #[.agg #[.int .u64 t327, .int .i64 t328, .int .i64 t329, .int .i64 t330, .int .i64 t331]] rfl (by (try simp only [mT, mC, mN]); first | done | rfl | (simp only [lD, lT]; rfl)) ?_; (with_reducible refine (audit_Print2.calls k t327 t328 t329 t330 t331 t332 t333 _ ?mx3 A6.out).mono ?_); (case mx3 => exact NumOk.below HMX.out (by repeat (first | (with_reducible first | exact HB.out | apply ea | apply en | apply ed | refine es ?_ GE324.out | refine es ?_ GE325.out) | exact HB.out))); rintro e w16 ⟨rfl, hb⟩; refine ⟨_, rfl, ?_⟩; have n0_ := aM (bB (g := gb324) (qy BK324.out) hb); have n1_ := aM (bB (g := gb325) (qy BK325.out) hb); have n2_ := aM (bP (by repeat (first | (with_reducible first | exact HB.out | apply ea | apply en | apply ed | refine es ?_ GE324.out | refine es ?_ GE325.out) | exact HB.out)) hb); clear BK324 BK325 HB; have BK324 := n0_; have BK325 := n1_; have HB := n2_; clear n0_ n1_ n2_; (try clear hb); (try clear hb2); (try clear hk); (try clear hi); have hcz17_0 := zC BK325.out 0 (.int .u64 a1_0); have hcz17_1 := zC BK325.out 1 (.int .i64 a1_1); have hcz17_2 := zC BK325.out 2 (.int .i64 a1_2); have hcz17_3 := zC BK325.out 3 (.int .i64 a1_3); have hcz17_4 := zC BK325.out 4 (.int .i64 a1_4); have hfz17_0 := bF BK325.out 0; have hfz17_1 := bF BK325.out 1; have hfz17_2 := bF BK325.out 2; have hfz17_3 := bF BK325.out 3; have hfz17_4 := bF BK325.out 4) | ((with_reducible refine gate_callee (f := 14) rfl ?_); refine goesL_ (some 21) rfl rfl Tryd.func14 (by kernel_rfl) rfl #[.agg #[.int .u64 a1_0, .int .i64 a1_1, .int .i64 a1_2, .int .i64 a1_3, .int .i64 a1_4]] rfl (by (try simp only [mT, mC, mN]); first | done | rfl | (simp only [lD, lT]; rfl)) ?_; (with_reducible refine (bureaulaw18_theirs.calls a1_0 a1_1 a1_2 a1_3 a1_4 t334 t335 t336 t337 t338 _ A7.out).mono ?_); rintro e w18 ⟨rfl, hb⟩; refine ⟨_, rfl, ?_⟩; have n0_ := aM (bB (g := gb324) (qy BK324.out) hb); have n1_ := aM (bB (g := gb325) (qy BK325.out) hb); have n2_ := aM (bP (by repeat (first | (with_reducible first | exact HB.out | apply ea | apply en | apply ed | refine es ?_ GE324.out | refine es ?_ GE325.out) | exact HB.out)) hb); clear BK324 BK325 HB; have BK324 := n0_; have BK325 := n1_; have HB := n2_; clear n0_ n1_ n2_; (try clear hb); (try clear hb2); (try clear hk); (try clear hi)) | ((with_reducible refine gate_callee (f := 26) rfl ?_); refine goesL_ (some 22) rfl rfl Tryd.func26 (by kernel_rfl) rfl #[.agg #[.int .u64 t334, .int .i64 t335, .int .i64 t336, .int .i64 t337, .int .i64 t338]] rfl (by (try simp only [mT, mC, mN]); first | done | rfl | (simp only [lD, lT]; rfl)) ?_; (with_reducible refine (audit_Print2.calls k t334 t335 t336 t337 t338 t339 t340 _ ?mx4 A8.out).mono ?_); (case mx4 => exact NumOk.below HMX.out (by repeat (first | (with_reducible first | exact HB.out | apply ea | apply en | apply ed | refine es ?_ GE324.out | refine es ?_ GE325.out) | exact HB.out))); rintro e w19 ⟨rfl, hb⟩; refine ⟨_, rfl, ?_⟩; have n0_ := aM (bB (g := gb324) (qy BK324.out) hb); have n1_ := aM (bB (g := gb325) (qy BK325.out) hb); have n2_ := aM (bP (by repeat (first | (with_reducible first | exact HB.out | apply ea | apply en | apply ed | refine es ?_ GE324.out | refine es ?_ GE325.out) | exact HB.out)) hb); clear BK324 BK325 HB; have BK324 := n0_; have BK325 := n1_; have HB := n2_; clear n0_ n1_ n2_; (try clear hb); (try clear hb2); (try clear hk); (try clear hi)))
  (try simp only [Act.put, sA, sZ, sS])
  go_cut [30] (fun v30 wc => ∃ (kq : Nat) (x30_8 : Bool), v30 = .bool x30_8 ∧ Aside0 (bureaulaw18_AuditBack.j0 kq t332 t339 x30_8 a0_0 a0_1 a0_2 a0_3 a0_4 a1_0 a1_1 a1_2 a1_3 a1_4 = some r) ∧ Aside0 (kq ≤ k) ∧ Aside0 (wc.heap[gb324]? = some (.cells #[.int .u64 a0_0, .int .i64 a0_1, .int .i64 a0_2, .int .i64 a0_3, .int .i64 a0_4] 38 (0, 0))) ∧ Aside0 (wc.heap[gb325]? = some (.cells #[.int .u64 a1_0, .int .i64 a1_1, .int .i64 a1_2, .int .i64 a1_3, .int .i64 a1_4] 38 (0, 0))) ∧ Aside0 (Below w.heap.size w wc))
  case first =>
   have H := HC9.out
   clear HC9
   by_cases c20 : t333 = 0
   ·rw [if_pos c20] at H
    have c20b0 : (t333 == 0) = true := beq_iff_eq.mpr c20
    have c20b1 : (t333 != 0) = false := bne_eq_false_iff_eq.mpr c20
    clear c20
    (first | rw [c20b0] | (simp only [i64_w, i32_w]; rw [c20b0]) | skip)
    have H' := aM H
    clear H
    go_wp2
    go_meet
    case rel => exact ⟨_, ((t340 != 0)), (by first | rfl | (simp; done) | (simp [*]; done)), H', ⟨by first | omega | exact Nat.le_refl _⟩, ⟨by exact qy BK324.out⟩, ⟨by exact qy BK325.out⟩, ⟨by repeat (first | (with_reducible first | exact HB.out | apply ea | apply en | apply ed | refine es ?_ GE324.out | refine es ?_ GE325.out) | exact HB.out)⟩⟩
   ·rw [if_neg c20] at H
    have c20b0 : (t333 == 0) = false := beq_eq_false_iff_ne.mpr c20
    have c20b1 : (t333 != 0) = true := bne_iff_ne.mpr c20
    (first | rw [c20b0] | (simp only [i64_w, i32_w]; rw [c20b0]) | skip)
    have H' := aM H
    clear H
    go_wp2
    go_meet
    case rel => exact ⟨_, (true), (by first | rfl | (simp; done) | (simp [*]; done)), H', ⟨by first | omega | exact Nat.le_refl _⟩, ⟨by exact qy BK324.out⟩, ⟨by exact qy BK325.out⟩, ⟨by repeat (first | (with_reducible first | exact HB.out | apply ea | apply en | apply ed | refine es ?_ GE324.out | refine es ?_ GE325.out) | exact HB.out)⟩⟩
  case rest =>
   clear HC9
   try clear c1
   try clear c2
   try clear p2
   try clear c4
   try clear c9
   try clear c10
   try clear c13
   try clear c14
   try clear c20
   try clear c20b0
   try clear c20b1
   try clear hcz14_0
   try clear hcz14_1
   try clear hcz14_2
   try clear hcz14_3
   try clear hcz14_4
   try clear hcz17_0
   try clear hcz17_1
   try clear hcz17_2
   try clear hcz17_3
   try clear hcz17_4
   try clear hfz14_0
   try clear hfz14_1
   try clear hfz14_2
   try clear hfz14_3
   try clear hfz14_4
   try clear hfz17_0
   try clear hfz17_1
   try clear hfz17_2
   try clear hfz17_3
   try clear hfz17_4
   obtain ⟨kq, x30_8, rfl, HA, HJ8, BK324, BK325, HB⟩ := hcut
   cases kq with
   | zero => exact absurd HA.out (by simp [bureaulaw18_AuditBack.j0])
   | succ kj8 =>
    have H := HA.out
    clear HA
    simp only [bureaulaw18_AuditBack.j0] at H
    by_cases c21 : x30_8 = true
    ·subst c21
     have H1 : ((bureauref18_May.f a0_0 a0_1 a0_2 a0_3 a0_4).bind fun t341 => (if t341 = true then ((bureauref18_May.f a1_0 a1_1 a1_2 a1_3 a1_4).bind fun t342 => (some (!t342))) else (some true))) = some r := by rw [if_pos rfl] at H; exact H
     clear H
     have H := H1
     clear H1
     replace H := Option.bind_eq_some_iff.mp H
     obtain ⟨t341, A220, H⟩ := H
     replace H : (if t341 = true then ((bureauref18_May.f a1_0 a1_1 a1_2 a1_3 a1_4).bind fun t342 => (some (!t342))) else (some true)) = some r := H
     have A22 := aM A220
     clear A220
     by_cases c23 : t341 = true
     ·subst c23
      have H1 : ((bureauref18_May.f a1_0 a1_1 a1_2 a1_3 a1_4).bind fun t342 => (some (!t342))) = some r := by rw [if_pos rfl] at H; exact H
      clear H
      have H := H1
      clear H1
      replace H := Option.bind_eq_some_iff.mp H
      obtain ⟨t342, A240, H⟩ := H
      replace H : (some (!t342)) = some r := H
      have A24 := aM A240
      clear A240
      obtain rfl := Option.some.inj H
      have hnb25 := NB324_325.out
      have hnc25 := NB325_324.out
      have hcz26_0 := zC BK324.out 0 (.int .u64 a0_0)
      have hcz26_1 := zC BK324.out 1 (.int .i64 a0_1)
      have hcz26_2 := zC BK324.out 2 (.int .i64 a0_2)
      have hcz26_3 := zC BK324.out 3 (.int .i64 a0_3)
      have hcz26_4 := zC BK324.out 4 (.int .i64 a0_4)
      have hfz26_0 := bF BK324.out 0
      have hfz26_1 := bF BK324.out 1
      have hfz26_2 := bF BK324.out 2
      have hfz26_3 := bF BK324.out 3
      have hfz26_4 := bF BK324.out 4
      go_wp2_with (first | ((with_reducible refine gate_callee (f := 30) rfl ?_); refine goesL_ (some 32) rfl rfl Tryd.func30 (by kernel_rfl) rfl #[.agg #[.int .u64 a0_0, .int .i64 a0_1, .int .i64 a0_2, .int .i64 a0_3, .int .i64 a0_4]] rfl (by (try simp only [mT, mC, mN]); first | done | rfl | (simp only [lD, lT]; rfl)) ?_; (with_reducible refine (bureauref18_May.calls a0_0 a0_1 a0_2 a0_3 a0_4 true _ A22.out).mono ?_); rintro e w27 ⟨rfl, hb⟩; refine ⟨_, rfl, ?_⟩; have n0_ := aM (bB (g := gb324) (qy BK324.out) hb); have n1_ := aM (bB (g := gb325) (qy BK325.out) hb); have n2_ := aM (bP (by repeat (first | (with_reducible first | exact HB.out | apply ea | apply en | apply ed | refine es ?_ GE324.out | refine es ?_ GE325.out) | exact HB.out)) hb); clear BK324 BK325 HB; have BK324 := n0_; have BK325 := n1_; have HB := n2_; clear n0_ n1_ n2_; (try clear hb); (try clear hb2); (try clear hk); (try clear hi); have hcz28_0 := zC BK325.out 0 (.int .u64 a1_0); have hcz28_1 := zC BK325.out 1 (.int .i64 a1_1); have hcz28_2 := zC BK325.out 2 (.int .i64 a1_2); have hcz28_3 := zC BK325.out 3 (.int .i64 a1_3); have hcz28_4 := zC BK325.out 4 (.int .i64 a1_4); have hfz28_0 := bF BK325.out 0; have hfz28_1 := bF BK325.out 1; have hfz28_2 := bF BK325.out 2; have hfz28_3 := bF BK325.out 3; have hfz28_4 := bF BK325.out 4) | (go_at_call 30; (with_reducible refine (bureauref18_May.calls a1_0 a1_1 a1_2 a1_3 a1_4 t342 _ A24.out).mono ?_); rintro e w29 ⟨rfl, hb⟩; have n0_ := aM (bB (g := gb324) (qy BK324.out) hb); have n1_ := aM (bB (g := gb325) (qy BK325.out) hb); have n2_ := aM (bP (by repeat (first | (with_reducible first | exact HB.out | apply ea | apply en | apply ed | refine es ?_ GE324.out | refine es ?_ GE325.out) | exact HB.out)) hb); clear BK324 BK325 HB; have BK324 := n0_; have BK325 := n1_; have HB := n2_; clear n0_ n1_ n2_; (try clear hb); (try clear hb2); (try clear hk); (try clear hi)))
      go_ret
      exact ⟨by first | rfl | (simp [errW_none, errW_some] <;> rfl) | (simp [*, errW_none, errW_some] <;> rfl), by repeat (first | (with_reducible first | exact HB.out | apply ea | apply en | apply ed | refine es ?_ GE324.out | refine es ?_ GE325.out) | exact HB.out)⟩
     ·replace c23 := Bool.eq_false_iff.mpr c23
      subst c23
      have H1 : (some true) = some r := by rw [if_neg (show ¬ (false = true) by decide)] at H; exact H
      clear H
      have H := H1
      clear H1
      obtain rfl := Option.some.inj H
      have hnb30 := NB324_325.out
      have hnc30 := NB325_324.out
      have hcz31_0 := zC BK324.out 0 (.int .u64 a0_0)
      have hcz31_1 := zC BK324.out 1 (.int .i64 a0_1)
      have hcz31_2 := zC BK324.out 2 (.int .i64 a0_2)
      have hcz31_3 := zC BK324.out 3 (.int .i64 a0_3)
      have hcz31_4 := zC BK324.out 4 (.int .i64 a0_4)
      have hfz31_0 := bF BK324.out 0
      have hfz31_1 := bF BK324.out 1
      have hfz31_2 := bF BK324.out 2
      have hfz31_3 := bF BK324.out 3
      have hfz31_4 := bF BK324.out 4
      go_wp2_with (first | ((with_reducible refine gate_callee (f := 30) rfl ?_); refine goesL_ (some 32) rfl rfl Tryd.func30 (by kernel_rfl) rfl #[.agg #[.int .u64 a0_0, .int .i64 a0_1, .int .i64 a0_2, .int .i64 a0_3, .int .i64 a0_4]] rfl (by (try simp only [mT, mC, mN]); first | done | rfl | (simp only [lD, lT]; rfl)) ?_; (with_reducible refine (bureauref18_May.calls a0_0 a0_1 a0_2 a0_3 a0_4 false _ A22.out).mono ?_); rintro e w32 ⟨rfl, hb⟩; refine ⟨_, rfl, ?_⟩; have n0_ := aM (bB (g := gb324) (qy BK324.out) hb); have n1_ := aM (bB (g := gb325) (qy BK325.out) hb); have n2_ := aM (bP (by repeat (first | (with_reducible first | exact HB.out | apply ea | apply en | apply ed | refine es ?_ GE324.out | refine es ?_ GE325.out) | exact HB.out)) hb); clear BK324 BK325 HB; have BK324 := n0_; have BK325 := n1_; have HB := n2_; clear n0_ n1_ n2_; (try clear hb); (try clear hb2); (try clear hk); (try clear hi)))
      go_ret
      exact ⟨by first | rfl | (simp [errW_none, errW_some] <;> rfl) | (simp [*, errW_none, errW_some] <;> rfl), by repeat (first | (with_reducible first | exact HB.out | apply ea | apply en | apply ed | refine es ?_ GE324.out | refine es ?_ GE325.out) | exact HB.out)⟩
    ·replace c21 := Bool.eq_false_iff.mpr c21
     subst c21
     have H1 : ((audit_Parse.f kj8 t332).bind fun bt343 => (if bt343.2.2.2.2.2 = 0 then ((bureaulaw18_theirs.f a0_0 a0_1 a0_2 a0_3 a0_4).bind fun bt350 => (if (bt343.1 == bt350.1 && (bt343.2.1 == bt350.2.1 && (bt343.2.2.1 == bt350.2.2.1 && (bt343.2.2.2.1 == bt350.2.2.2.1 && (bt343.2.2.2.2.1 == bt350.2.2.2.2))))) = true then (some ((t332.toList == t339.toList) == (a0_0 == a1_0 && (a0_1 == a1_1 && (a0_2 == a1_2 && (a0_3 == a1_3 && (a0_4 == a1_4))))))) else (some false))) else (some false))) = some r := by rw [if_neg (show ¬ (false = true) by decide)] at H; exact H
     clear H
     have H := H1
     clear H1
     replace H := Option.bind_eq_some_iff.mp H
     obtain ⟨⟨t343, t344, t345, t346, t347, t348⟩, A330, H⟩ := H
     replace H : (if t348 = 0 then ((bureaulaw18_theirs.f a0_0 a0_1 a0_2 a0_3 a0_4).bind fun bt350 => (if (t343 == bt350.1 && (t344 == bt350.2.1 && (t345 == bt350.2.2.1 && (t346 == bt350.2.2.2.1 && (t347 == bt350.2.2.2.2))))) = true then (some ((t332.toList == t339.toList) == (a0_0 == a1_0 && (a0_1 == a1_1 && (a0_2 == a1_2 && (a0_3 == a1_3 && (a0_4 == a1_4))))))) else (some false))) else (some false)) = some r := H
     have A33 := aM A330
     clear A330
     by_cases c34 : t348 = 0
     ·rw [if_pos c34] at H
      have c34b0 : (t348 == 0) = true := beq_iff_eq.mpr c34
      have c34b1 : (t348 != 0) = false := bne_eq_false_iff_eq.mpr c34
      clear c34
      replace H := Option.bind_eq_some_iff.mp H
      obtain ⟨⟨t350, t351, t352, t353, t354⟩, A350, H⟩ := H
      replace H : (if (t343 == t350 && (t344 == t351 && (t345 == t352 && (t346 == t353 && (t347 == t354))))) = true then (some ((t332.toList == t339.toList) == (a0_0 == a1_0 && (a0_1 == a1_1 && (a0_2 == a1_2 && (a0_3 == a1_3 && (a0_4 == a1_4))))))) else (some false)) = some r := H
      have A35 := aM A350
      clear A350
      by_cases c36 : (t343 == t350 && (t344 == t351 && (t345 == t352 && (t346 == t353 && (t347 == t354))))) = true
      ·rw [if_pos c36] at H
       have c36b0 : (t343 == t350 && (t344 == t351 && (t345 == t352 && (t346 == t353 && (t347 == t354))))) = true := c36
       (try (have c36b1 : decide (t343 = t350 && (t344 == t351 && (t345 == t352 && (t346 == t353 && (t347 == t354))))) = true := by simpa using c36))
       (try (have c36b2 : (t343 == t350 && (t344 == t351 && (t345 == t352 && (t346 == t353 && (t347 == t354))))) = true := by simpa using c36))
       clear c36
       obtain rfl := Option.some.inj H
       try go_wp2_with (first | ((with_reducible refine gate_callee (f := 28) rfl ?_); refine goesL_ (some 41) rfl rfl Tryd.func28 (by kernel_rfl) rfl #[.string t332] rfl (by (try simp only [mT, mC, mN]); first | done | rfl | (simp only [lD, lT]; rfl)) ?_; (with_reducible refine (audit_Parse.calls kj8 t332 t343 t344 t345 t346 t347 t348 _ ?mx5 A33.out).mono ?_); (case mx5 => exact NumOk.below HMX.out (by repeat (first | (with_reducible first | exact HB.out | apply ea | apply en | apply ed | refine es ?_ GE324.out | refine es ?_ GE325.out) | exact HB.out))); rintro e w37 ⟨rfl, hb⟩; refine ⟨_, rfl, ?_⟩; have n0_ := aM (bB (g := gb324) (qy BK324.out) hb); have n1_ := aM (bB (g := gb325) (qy BK325.out) hb); have n2_ := aM (bP (by repeat (first | (with_reducible first | exact HB.out | apply ea | apply en | apply ed | refine es ?_ GE324.out | refine es ?_ GE325.out) | exact HB.out)) hb); clear BK324 BK325 HB; have BK324 := n0_; have BK325 := n1_; have HB := n2_; clear n0_ n1_ n2_; (try clear hb); (try clear hb2); (try clear hk); (try clear hi)) | ((with_reducible refine gate_dst (N := 9) rfl ?_); refine box_event ?hg (N := 9) ?hd (cs := #[.int .u64 0, .int .i64 0, .int .i64 0, .int .i64 0, .int .i64 0]) (t := 36) ?hr ?_; (case hd | hg => rfl); (case hr => first | (go_simp; done) | (go_simp; rfl)); intro gb349 hg w38 hbox hb; have n0_ := aM (bB (g := gb324) (qy BK324.out) hb); have n1_ := aM (bB (g := gb325) (qy BK325.out) hb); have n2_ := aM (bP (by repeat (first | (with_reducible first | exact HB.out | apply ea | apply en | apply ed | refine es ?_ GE324.out | refine es ?_ GE325.out) | exact HB.out)) hb); have n3_ := aM (hbox); have n4_ := aM ((by rw [hg]; exact (bZ (by repeat (first | (with_reducible first | exact HB.out | apply ea | apply en | apply ed | refine es ?_ GE324.out | refine es ?_ GE325.out) | exact HB.out))) : w.heap.size ≤ gb349)); have n5_ := n4_; have n6_ := aM ((by rw [hg]; exact Nat.ne_of_lt (blk_lt (g := gb324) (qy BK324.out)) : gb324 ≠ gb349)); have n7_ := aM ((by rw [hg]; exact Nat.ne_of_gt (blk_lt (g := gb324) (qy BK324.out)) : gb349 ≠ gb324)); have n8_ := aM ((by rw [hg]; exact Nat.ne_of_lt (blk_lt (g := gb325) (qy BK325.out)) : gb325 ≠ gb349)); have n9_ := aM ((by rw [hg]; exact Nat.ne_of_gt (blk_lt (g := gb325) (qy BK325.out)) : gb349 ≠ gb325)); clear BK324 BK325 HB; have BK324 := n0_; have BK325 := n1_; have HB := n2_; have BK349 := n3_; have GW349 := n4_; have GE349 := n5_; have NB324_349 := n6_; have NB349_324 := n7_; have NB325_349 := n8_; have NB349_325 := n9_; clear n0_ n1_ n2_ n3_ n4_ n5_ n6_ n7_ n8_ n9_; clear hb hbox hg; have hnb39 := NB349_324.out; have hnc39 := NB324_349.out; have hnb40 := NB349_325.out; have hnc40 := NB325_349.out; have hcz41_0 := zC BK349.out 0 (.int .u64 0); have hcz41_1 := zC BK349.out 1 (.int .i64 0); have hcz41_2 := zC BK349.out 2 (.int .i64 0); have hcz41_3 := zC BK349.out 3 (.int .i64 0); have hcz41_4 := zC BK349.out 4 (.int .i64 0); have hfz41_0 := bF BK349.out 0; have hfz41_1 := bF BK349.out 1; have hfz41_2 := bF BK349.out 2; have hfz41_3 := bF BK349.out 3; have hfz41_4 := bF BK349.out 4))
       have n0_ : Aside0 ((((((w38.setCell ⟨gb349, 0, none⟩ (.int .u64 t343)).setCell ⟨gb349, 1, none⟩ (.int .i64 t344)).setCell ⟨gb349, 2, none⟩ (.int .i64 t345)).setCell ⟨gb349, 3, none⟩ (.int .i64 t346)).setCell ⟨gb349, 4, none⟩ (.int .i64 t347)).heap[gb324]? = some (.cells #[.int .u64 a0_0, .int .i64 a0_1, .int .i64 a0_2, .int .i64 a0_3, .int .i64 a0_4] 38 (0, 0))) := ⟨by (with_reducible repeat (first | apply qn | apply qd | apply qa)); refine bR ?_ NB324_349.out _; (with_reducible repeat (first | apply qn | apply qd | apply qa)); refine bR ?_ NB324_349.out _; (with_reducible repeat (first | apply qn | apply qd | apply qa)); refine bR ?_ NB324_349.out _; (with_reducible repeat (first | apply qn | apply qd | apply qa)); refine bR ?_ NB324_349.out _; (with_reducible repeat (first | apply qn | apply qd | apply qa)); refine bR ?_ NB324_349.out _; exact qy BK324.out⟩
       have n1_ : Aside0 ((((((w38.setCell ⟨gb349, 0, none⟩ (.int .u64 t343)).setCell ⟨gb349, 1, none⟩ (.int .i64 t344)).setCell ⟨gb349, 2, none⟩ (.int .i64 t345)).setCell ⟨gb349, 3, none⟩ (.int .i64 t346)).setCell ⟨gb349, 4, none⟩ (.int .i64 t347)).heap[gb325]? = some (.cells #[.int .u64 a1_0, .int .i64 a1_1, .int .i64 a1_2, .int .i64 a1_3, .int .i64 a1_4] 38 (0, 0))) := ⟨by (with_reducible repeat (first | apply qn | apply qd | apply qa)); refine bR ?_ NB325_349.out _; (with_reducible repeat (first | apply qn | apply qd | apply qa)); refine bR ?_ NB325_349.out _; (with_reducible repeat (first | apply qn | apply qd | apply qa)); refine bR ?_ NB325_349.out _; (with_reducible repeat (first | apply qn | apply qd | apply qa)); refine bR ?_ NB325_349.out _; (with_reducible repeat (first | apply qn | apply qd | apply qa)); refine bR ?_ NB325_349.out _; exact qy BK325.out⟩
       have n2_ : Aside0 ((((((w38.setCell ⟨gb349, 0, none⟩ (.int .u64 t343)).setCell ⟨gb349, 1, none⟩ (.int .i64 t344)).setCell ⟨gb349, 2, none⟩ (.int .i64 t345)).setCell ⟨gb349, 3, none⟩ (.int .i64 t346)).setCell ⟨gb349, 4, none⟩ (.int .i64 t347)).heap[gb349]? = some (.cells #[.int .u64 t343, .int .i64 t344, .int .i64 t345, .int .i64 t346, .int .i64 t347] 36 (0, 0))) := ⟨by (with_reducible repeat (first | apply qn | apply qd | apply qa)); refine bU (cs := #[.int .u64 t343, .int .i64 t344, .int .i64 t345, .int .i64 t346, .int .i64 0]) ?_ 4 _ rfl; (with_reducible repeat (first | apply qn | apply qd | apply qa)); refine bU (cs := #[.int .u64 t343, .int .i64 t344, .int .i64 t345, .int .i64 0, .int .i64 0]) ?_ 3 _ rfl; (with_reducible repeat (first | apply qn | apply qd | apply qa)); refine bU (cs := #[.int .u64 t343, .int .i64 t344, .int .i64 0, .int .i64 0, .int .i64 0]) ?_ 2 _ rfl; (with_reducible repeat (first | apply qn | apply qd | apply qa)); refine bU (cs := #[.int .u64 t343, .int .i64 0, .int .i64 0, .int .i64 0, .int .i64 0]) ?_ 1 _ rfl; (with_reducible repeat (first | apply qn | apply qd | apply qa)); refine bU (cs := #[.int .u64 0, .int .i64 0, .int .i64 0, .int .i64 0, .int .i64 0]) ?_ 0 _ rfl; exact qy BK349.out⟩
       have n3_ : Aside0 (Below w.heap.size w (((((w38.setCell ⟨gb349, 0, none⟩ (.int .u64 t343)).setCell ⟨gb349, 1, none⟩ (.int .i64 t344)).setCell ⟨gb349, 2, none⟩ (.int .i64 t345)).setCell ⟨gb349, 3, none⟩ (.int .i64 t346)).setCell ⟨gb349, 4, none⟩ (.int .i64 t347))) := ⟨by repeat (first | (with_reducible first | exact HB.out | apply ea | apply en | apply ed | refine es ?_ GE324.out | refine es ?_ GE325.out | refine es ?_ GE349.out) | exact HB.out)⟩
       (try clear BK324)
       (try clear BK325)
       (try clear BK349)
       (try clear HB)
       generalize (((((w38.setCell ⟨gb349, 0, none⟩ (.int .u64 t343)).setCell ⟨gb349, 1, none⟩ (.int .i64 t344)).setCell ⟨gb349, 2, none⟩ (.int .i64 t345)).setCell ⟨gb349, 3, none⟩ (.int .i64 t346)).setCell ⟨gb349, 4, none⟩ (.int .i64 t347)) = w42 at n0_ n1_ n2_ n3_ ⊢
       have BK324 := n0_
       have BK325 := n1_
       have BK349 := n2_
       have HB := n3_
       clear n0_ n1_ n2_ n3_
       have n0_ := aM (blk_drew BK324.out)
       have n1_ := aM (blk_drew BK325.out)
       have n2_ := aM (blk_drew BK349.out)
       have n3_ := aM (below_drew1 HB.out)
       clear BK324
       clear BK325
       clear BK349
       clear HB
       have BK324 := n0_
       have BK325 := n1_
       have BK349 := n2_
       have HB := n3_
       clear n0_ n1_ n2_ n3_
       refine start_ (n := 18) (S := fun w' => w'.cell? ⟨gb349, 0, none⟩ = some (.int .u64 t343) ∧ w'.cell? ⟨gb349, 1, none⟩ = some (.int .i64 t344) ∧ w'.cell? ⟨gb349, 2, none⟩ = some (.int .i64 t345) ∧ w'.cell? ⟨gb349, 3, none⟩ = some (.int .i64 t346) ∧ w'.cell? ⟨gb349, 4, none⟩ = some (.int .i64 t347) ∧ w'.cell? ⟨gb324, 0, none⟩ = some (.int .u64 a0_0) ∧ w'.cell? ⟨gb324, 1, none⟩ = some (.int .i64 a0_1) ∧ w'.cell? ⟨gb324, 2, none⟩ = some (.int .i64 a0_2) ∧ w'.cell? ⟨gb324, 3, none⟩ = some (.int .i64 a0_3) ∧ w'.cell? ⟨gb324, 4, none⟩ = some (.int .i64 a0_4) ∧ w'.cell? ⟨gb325, 0, none⟩ = some (.int .u64 a1_0) ∧ w'.cell? ⟨gb325, 1, none⟩ = some (.int .i64 a1_1) ∧ w'.cell? ⟨gb325, 2, none⟩ = some (.int .i64 a1_2) ∧ w'.cell? ⟨gb325, 3, none⟩ = some (.int .i64 a1_3) ∧ w'.cell? ⟨gb325, 4, none⟩ = some (.int .i64 a1_4)) (ds := []) b20_ (by kernel_rfl) rfl rfl ⟨(bC BK349.out 0).trans rfl, (bC BK349.out 1).trans rfl, (bC BK349.out 2).trans rfl, (bC BK349.out 3).trans rfl, (bC BK349.out 4).trans rfl, (bC BK324.out 0).trans rfl, (bC BK324.out 1).trans rfl, (bC BK324.out 2).trans rfl, (bC BK324.out 3).trans rfl, (bC BK324.out 4).trans rfl, (bC BK325.out 0).trans rfl, (bC BK325.out 1).trans rfl, (bC BK325.out 2).trans rfl, (bC BK325.out 3).trans rfl, (bC BK325.out 4).trans rfl⟩ (fun hHeld => ?_); refine with_tabW bureaulaw18_AuditBack.tab8 bureaulaw18_AuditBack.bits8 (fun HT_ HW_ => ?_)
       generalize w42.drew = w43 at BK324 BK325 BK349 HB hHeld ⊢
       refine pure_ (i := 0) (N := some 44) (v := ?_) (a' := ?_) b21_ rfl rfl (any_of HT_.out (by kernel_rfl)) (fun _ _ _ h => h) (Or.inl ⟨by rfl, ?_⟩) ?_ ?_
       rotate_left
       ·intro w'
        go_simp
        with_reducible rfl
       rotate_left
       ·simp only [Act.put, sA, sZ, sS, i64_w, i32_w]
        rfl
       refine pure_ (i := 1) (N := some 45) (v := ?_) (a' := ?_) b22_ rfl rfl (any_of HT_.out (by kernel_rfl)) (fun _ _ _ h => h) (Or.inl ⟨by rfl, ?_⟩) ?_ ?_
       rotate_left
       ·intro w'
        go_simp
        with_reducible rfl
       rotate_left
       ·simp only [Act.put, sA, sZ, sS, i64_w, i32_w]
        rfl
       refine pure_ (i := 2) (N := some 46) (v := ?_) (a' := ?_) b23_ rfl rfl (any_of HT_.out (by kernel_rfl)) (fun _ _ _ h => h) (Or.inl ⟨by rfl, ?_⟩) ?_ ?_
       rotate_left
       ·intro w'
        go_simp
        with_reducible rfl
       rotate_left
       ·simp only [Act.put, sA, sZ, sS, i64_w, i32_w]
        rfl
       refine take_ (i := 3) (N := some 47) (v := ?_) (a' := ?_) b24_ rfl rfl (take_ofW HT_.out HW_.out (by kernel_rfl)) (fun _ _ _ h => h) (Or.inl ⟨by rfl, ?_⟩) hHeld ?_ ?_
       rotate_left
       ·rintro w' ⟨s0, s1, s2, s3, s4, s5, s6, s7, s8, s9, s10, s11, s12, s13, s14⟩
        go_simp
        with_reducible rfl
       rotate_left
       ·simp only [Act.put, sA, sZ, sS, i64_w, i32_w]
        rfl
       refine take_ (i := 4) (N := some 48) (v := ?_) (a' := ?_) b25_ rfl rfl (take_ofW HT_.out HW_.out (by kernel_rfl)) (fun _ _ _ h => h) (Or.inl ⟨by rfl, ?_⟩) hHeld ?_ ?_
       rotate_left
       ·rintro w' ⟨s0, s1, s2, s3, s4, s5, s6, s7, s8, s9, s10, s11, s12, s13, s14⟩
        go_simp
        with_reducible rfl
       rotate_left
       ·simp only [Act.put, sA, sZ, sS, i64_w, i32_w]
        rfl
       refine one_ (i := 5) (N := some 49) b26_ rfl rfl (one_of HT_.out (by kernel_rfl)) (by decide) (fun K hK => ?_)
       refine goes_ Tryd.func14 (by kernel_rfl) rfl #[.agg #[.int .u64 a0_0, .int .i64 a0_1, .int .i64 a0_2, .int .i64 a0_3, .int .i64 a0_4]] (by rfl) rfl rfl (by (try simp only [mT, mC, mN]); first | done | rfl | (simp only [lD, lT]; rfl)) ?_
       with_reducible refine (bureaulaw18_theirs.calls a0_0 a0_1 a0_2 a0_3 a0_4 t350 t351 t352 t353 t354 _ A35.out).mono ?_
       rintro e w44 ⟨rfl, hb⟩
       refine ⟨_, rfl, ?_⟩
       have n0_ := aM (bB (g := gb324) (qy BK324.out) hb)
       have n1_ := aM (bB (g := gb325) (qy BK325.out) hb)
       have n2_ := aM (bB (g := gb349) (qy BK349.out) hb)
       have n3_ := aM (bP (by repeat (first | (with_reducible first | exact HB.out | apply ea | apply en | apply ed | refine es ?_ GE324.out | refine es ?_ GE325.out | refine es ?_ GE349.out) | exact HB.out)) hb)
       clear BK324
       clear BK325
       clear BK349
       clear HB
       have BK324 := n0_
       have BK325 := n1_
       have BK349 := n2_
       have HB := n3_
       clear n0_ n1_ n2_ n3_
       (try clear hb)
       (try clear hb2)
       (try clear hk)
       (try clear hi)
       refine hK.out _ _ ⟨(bC BK349.out 0).trans rfl, (bC BK349.out 1).trans rfl, (bC BK349.out 2).trans rfl, (bC BK349.out 3).trans rfl, (bC BK349.out 4).trans rfl, (bC BK324.out 0).trans rfl, (bC BK324.out 1).trans rfl, (bC BK324.out 2).trans rfl, (bC BK324.out 3).trans rfl, (bC BK324.out 4).trans rfl, (bC BK325.out 0).trans rfl, (bC BK325.out 1).trans rfl, (bC BK325.out 2).trans rfl, (bC BK325.out 3).trans rfl, (bC BK325.out 4).trans rfl⟩ (fun hHeld => ?_)
       clear hK K
       refine norm_ (a' := ?_) ?_ ?_
       rotate_left
       ·show Act.put _ (some 49) _ = _
        simp only [Act.put, sA, sZ, sS, i64_w, i32_w]
        rfl
       refine pure_ (i := 6) (N := some 50) (v := ?_) (a' := ?_) b27_ rfl rfl (any_of HT_.out (by kernel_rfl)) (fun _ _ _ h => h) (Or.inl ⟨by rfl, ?_⟩) ?_ ?_
       rotate_left
       ·intro w'
        go_simp
        with_reducible rfl
       rotate_left
       ·simp only [Act.put, sA, sZ, sS, i64_w, i32_w]
        rfl
       refine pure_ (i := 7) (N := some 51) (v := ?_) (a' := ?_) b28_ rfl rfl (any_of HT_.out (by kernel_rfl)) (fun _ _ _ h => h) (Or.inl ⟨by rfl, ?_⟩) ?_ ?_
       rotate_left
       ·intro w'
        go_simp
        with_reducible rfl
       rotate_left
       ·simp only [Act.put, sA, sZ, sS, i64_w, i32_w]
        rfl
       refine pure_ (i := 8) (N := some 52) (v := ?_) (a' := ?_) b29_ rfl rfl (any_of HT_.out (by kernel_rfl)) (fun _ _ _ h => h) (Or.inl ⟨by rfl, ?_⟩) ?_ ?_
       rotate_left
       ·intro w'
        go_simp
        with_reducible rfl
       rotate_left
       ·simp only [Act.put, sA, sZ, sS, i64_w, i32_w]
        rfl
       refine pure_ (i := 9) (N := some 53) (v := ?_) (a' := ?_) b30_ rfl rfl (any_of HT_.out (by kernel_rfl)) (fun _ _ _ h => h) (Or.inl ⟨by rfl, ?_⟩) ?_ ?_
       rotate_left
       ·intro w'
        go_simp
        with_reducible rfl
       rotate_left
       ·simp only [Act.put, sA, sZ, sS, i64_w, i32_w]
        rfl
       refine pure_ (i := 10) (N := some 54) (v := ?_) (a' := ?_) b31_ rfl rfl (any_of HT_.out (by kernel_rfl)) (fun _ _ _ h => h) (Or.inl ⟨by rfl, ?_⟩) ?_ ?_
       rotate_left
       ·intro w'
        go_simp
        with_reducible rfl
       rotate_left
       ·simp only [Act.put, sA, sZ, sS, i64_w, i32_w]
        rfl
       refine pure_ (i := 11) (N := some 55) (v := ?_) (a' := ?_) b32_ rfl rfl (any_of HT_.out (by kernel_rfl)) (fun _ _ _ h => h) (Or.inl ⟨by rfl, ?_⟩) ?_ ?_
       rotate_left
       ·intro w'
        go_simp
        with_reducible rfl
       rotate_left
       ·simp only [Act.put, sA, sZ, sS, i64_w, i32_w]
        rfl
       refine take_ (i := 12) (N := some 56) (v := ?_) (a' := ?_) b33_ rfl rfl (take_ofW HT_.out HW_.out (by kernel_rfl)) (fun _ _ _ h => h) (Or.inl ⟨by rfl, ?_⟩) hHeld ?_ ?_
       rotate_left
       ·rintro w' ⟨s0, s1, s2, s3, s4, s5, s6, s7, s8, s9, s10, s11, s12, s13, s14⟩
        go_simp
        with_reducible rfl
       rotate_left
       ·simp only [Act.put, sA, sZ, sS, i64_w, i32_w]
        rfl
       refine take_ (i := 13) (N := some 57) (v := ?_) (a' := ?_) b34_ rfl rfl (take_ofW HT_.out HW_.out (by kernel_rfl)) (fun _ _ _ h => h) (Or.inl ⟨by rfl, ?_⟩) hHeld ?_ ?_
       rotate_left
       ·rintro w' ⟨s0, s1, s2, s3, s4, s5, s6, s7, s8, s9, s10, s11, s12, s13, s14⟩
        go_simp
        with_reducible rfl
       rotate_left
       ·simp only [Act.put, sA, sZ, sS, i64_w, i32_w]
        rfl
       refine pure_ (i := 14) (N := some 58) (v := ?_) (a' := ?_) b35_ rfl rfl (any_of HT_.out (by kernel_rfl)) (fun _ _ _ h => h) (Or.inl ⟨by rfl, ?_⟩) ?_ ?_
       rotate_left
       ·intro w'
        go_simp
        with_reducible rfl
       rotate_left
       ·simp only [Act.put, sA, sZ, sS, i64_w, i32_w]
        rfl
       refine pure_ (i := 15) (N := some 59) (v := ?_) (a' := ?_) b36_ rfl rfl (any_of HT_.out (by kernel_rfl)) (fun _ _ _ h => h) (Or.inl ⟨by rfl, ?_⟩) ?_ ?_
       rotate_left
       ·intro w'
        go_simp
        with_reducible rfl
       rotate_left
       ·simp only [Act.put, sA, sZ, sS, i64_w, i32_w]
        rfl
       refine pure_ (i := 16) (N := some 60) (v := ?_) (a' := ?_) b37_ rfl rfl (any_of HT_.out (by kernel_rfl)) (fun _ _ _ h => h) (Or.inl ⟨by rfl, ?_⟩) ?_ ?_
       rotate_left
       ·intro w'
        go_simp
        with_reducible rfl
       rotate_left
       ·simp only [Act.put, sA, sZ, sS, i64_w, i32_w]
        rfl
       refine pure_ (i := 17) (N := some 4) (v := ?_) (a' := ?_) b38_ rfl rfl (any_of HT_.out (by kernel_rfl)) (fun _ _ _ h => h) (Or.inl ⟨by rfl, ?_⟩) ?_ ?_
       rotate_left
       ·intro w'
        go_simp
        with_reducible rfl
       rotate_left
       ·simp only [Act.put, sA, sZ, sS, i64_w, i32_w]
        rfl
       refine done_ (done_of HT_.out (by kernel_rfl)) ?_
       try go_wp2
       go_ret
       exact ⟨by first | rfl | (simp [errW_none, errW_some] <;> rfl) | (simp [*, errW_none, errW_some] <;> rfl), by repeat (first | (with_reducible first | exact HB.out | apply ea | apply en | apply ed | refine es ?_ GE324.out | refine es ?_ GE325.out | refine es ?_ GE349.out) | exact HB.out)⟩
      ·rw [if_neg c36] at H
       have c36b0 : (t343 == t350 && (t344 == t351 && (t345 == t352 && (t346 == t353 && (t347 == t354))))) = false := by simpa using c36
       (try (have c36b1 : decide (t343 = t350 && (t344 == t351 && (t345 == t352 && (t346 == t353 && (t347 == t354))))) = false := by simpa using c36))
       (try (have c36b2 : (t343 == t350 && (t344 == t351 && (t345 == t352 && (t346 == t353 && (t347 == t354))))) = false := by simpa using c36))
       (try (have c36b3 : ¬ (t343 = t350 && (t344 == t351 && (t345 == t352 && (t346 == t353 && (t347 == t354))))) := by simpa using c36))
       clear c36
       exact absurd (Option.some.inj H) (by rw [hrt]; decide)
     ·rw [if_neg c34] at H
      have c34b0 : (t348 == 0) = false := beq_eq_false_iff_ne.mpr c34
      have c34b1 : (t348 != 0) = true := bne_iff_ne.mpr c34
      exact absurd (Option.some.inj H) (by rw [hrt]; decide)
 ·replace c4 := Bool.eq_false_iff.mpr c4
  subst c4
  have H1 : (some false) = some r := by rw [if_neg (show ¬ (false = true) by decide)] at H; exact H
  clear H
  have H := H1
  clear H1
  exact absurd (Option.some.inj H) (by rw [hrt]; decide)
end Go.Proofs.YtcbiilbmldinhaaDoor.PB
end

section
namespace Go.Proofs.YtcbiilbmldinhaaDoor.PB
open Go.Proofs.YtcbiilbmldinhaaDoorW.PrintWords
theorem Ev.pos {α : Type} {c : Prop} [Decidable c] {A B : Nat → Option α} {r : α} (h : c) (k : Ev A r) : Ev (fun n => if c then A n else B n) r := by
  obtain ⟨K, hK⟩ := k
  exact ⟨K, fun n hn => by show (if c then A n else B n) = _; rw [if_pos h]; exact hK n hn⟩
theorem Ev.neg {α : Type} {c : Prop} [Decidable c] {A B : Nat → Option α} {r : α} (h : ¬ c) (k : Ev B r) : Ev (fun n => if c then A n else B n) r := by
  obtain ⟨K, hK⟩ := k
  exact ⟨K, fun n hn => by show (if c then A n else B n) = _; rw [if_neg h]; exact hK n hn⟩
theorem Ev.ite' {α : Type} {c : Prop} [Decidable c] {A B : Nat → Option α} {r : α} (h1 : c → Ev A r) (h2 : ¬ c → Ev B r) : Ev (fun n => if c then A n else B n) r := by
  by_cases h : c
  · exact Ev.pos h (h1 h)
  · exact Ev.neg h (h2 h)
theorem ev_val {α : Type} {g : Nat → Option α} {a b : α} (h : Ev g a) (e : a = b) : Ev g b := e ▸ h
end Go.Proofs.YtcbiilbmldinhaaDoor.PB
end

section
namespace Go.Proofs.YtcbiilbmldinhaaDoor.PB
open Go.RowKit Go.Proofs.YtcbiilbmldinhaaDoorW.PrintWords Go.Proofs.YtcbiilbmldinhaaDoorW.PrintLast Go.Proofs.YtcbiilbmldinhaaDoorW.PrintMore
attribute [local go_sem] max2_int min2_int max_two min_two max_three min_three max_four min_four
set_option linter.unusedVariables false
set_option linter.unusedSimpArgs false
def okCats (l : List Int) : Bool := l.all (fun x => decide (0 ≤ x) && decide (x < 64))
theorem okCats_of {l : List Int} (h : ∀ x ∈ l, 0 ≤ x ∧ x < 64) : okCats l = true := by
  unfold okCats; rw [List.all_eq_true]; intro x hx; simp [h x hx]
def ofI (l : List Int) : Int × Int := if okCats l = true then (((ofBits (catsOf l) : Nat) : Int), 0) else (0, 2)
theorem ofI_yes {l : List Int} (h : ∀ x ∈ l, 0 ≤ x ∧ x < 64) : ofI l = (((ofBits (catsOf l) : Nat) : Int), 0) := by unfold ofI; rw [if_pos (okCats_of h)]
def bureauref01_Cats.f (a0 : Int) : Option (List Int) := if 0 ≤ a0 ∧ a0 < 18446744073709551616 then some (catsTo a0.toNat 64) else none
end Go.Proofs.YtcbiilbmldinhaaDoor.PB
end

section
namespace Go.Proofs.YtcbiilbmldinhaaDoor.PB
open Go.RowKit Go.Proofs.YtcbiilbmldinhaaDoorW.PrintWords
set_option linter.unusedVariables false
theorem w1' {i n : Nat} (h : i < n) (hn : n ≤ 1000000000000000) : wrap64 ((i : Int) + 1) = ((i + 1 : Nat) : Int) := by unfold wrap64; omega
theorem wf_u64 {n : Int} (h : (Lit.int .u64 n).wf = true) : 0 ≤ n ∧ n < 18446744073709551616 := by
  have hmin : IntKind.u64.min = 0 := rfl
  have hmax : IntKind.u64.max = 18446744073709551615 := rfl
  simp only [Lit.wf, Bool.and_eq_true, decide_eq_true_eq, hmin, hmax] at h
  omega
theorem nat_of {a : Int} (h : 0 ≤ a ∧ a < 18446744073709551616) : ∃ n : Nat, a = (n : Int) ∧ n < 18446744073709551616 := by
  obtain ⟨n, rfl⟩ := Int.eq_ofNat_of_zero_le h.1
  exact ⟨n, rfl, by omega⟩
theorem rdN (l : List Int) (i : Nat) : rd l (i : Int) = l.getD i 0 := by unfold rd; rw [Int.toNat_natCast]
theorem ofBits_snoc (l : List Int) (m : Nat) (hm : m < 64) : ofBits (catsOf (l ++ [(m : Int)])) = ofBits (catsOf l) ||| 2 ^ m := by
  apply Nat.eq_of_testBit_eq
  intro i
  rw [ofBits_testBit, Nat.testBit_or, ofBits_testBit, Nat.testBit_two_pow]
  by_cases hi : i < 64
  · rw [catsOf_getD _ _ hi, catsOf_getD _ _ hi]
    have : decide (m = i) = decide ((i : Int) = (m : Int)) := by rw [decide_eq_decide]; omega
    rw [this]
    simp
  · have h1 : ∀ q : List Int, (catsOf q).getD i false = false := fun q => by
      rw [List.getD_eq_getElem?_getD, List.getElem?_eq_none (by rw [catsOf_len]; omega)]; rfl
    rw [h1, h1]
    simp; omega
theorem shl_one (m : Nat) (hm : m < 64) : shl .u64 1 (m : Int) = ((2 ^ m : Nat) : Int) := by
  unfold shl
  rw [Int.toNat_natCast, Nat.min_eq_left (by show m ≤ 64; omega), Int.one_mul, IntKind.wrap_u64, show (2 : Int) ^ m = ((2 ^ m : Nat) : Int) by rw [Int.natCast_pow]; rfl]
  have h : (2 : Nat) ^ m < 2 ^ 64 := Nat.pow_lt_pow_right (by decide) hm
  generalize (2 : Nat) ^ m = q at *
  omega
theorem ofBits_u64 (l : List Bool) (h : l.length = 64) : ofBits l < 18446744073709551616 := by
  have := ofBits_lt l
  rw [h] at this
  exact this
theorem or_shl (l : List Int) (m : Nat) (hm : m < 64) : Go.bits .or .u64 ((ofBits (catsOf l) : Nat) : Int) (shl .u64 1 (m : Int)) = ((ofBits (catsOf (l ++ [(m : Int)])) : Nat) : Int) := by
  have h : (2 : Nat) ^ m < 2 ^ 64 := Nat.pow_lt_pow_right (by decide) hm
  rw [shl_one m hm, u64_or_nat _ _ (ofBits_u64 _ (catsOf_len l)) h, ofBits_snoc l m hm]
theorem ofBits_none : ofBits (catsOf []) = 0 := by rw [catsOf_nil]; decide
theorem cats_contains (n i : Nat) (hi : i < 64) : (catsTo n 64).contains (i : Int) = n.testBit i := by
  unfold catsTo
  rw [Bool.eq_iff_iff, List.contains_iff_mem, List.mem_map]
  constructor
  · rintro ⟨j, hj, he⟩
    obtain rfl : j = i := by omega
    exact (List.mem_filter.1 hj).2
  · intro h
    exact ⟨i, List.mem_filter.2 ⟨List.mem_range.2 hi, h⟩, rfl⟩
theorem cats_mem (n : Nat) : ∀ x ∈ catsTo n 64, 0 ≤ x ∧ x < 64 := by
  intro x hx
  obtain ⟨j, hj, rfl⟩ := List.mem_map.1 hx
  have := List.mem_range.1 (List.mem_filter.1 hj).1
  omega
theorem of_cats (n : Nat) (hn : n < 18446744073709551616) : ofI (catsTo n 64) = ((n : Int), 0) := by
  rw [ofI_yes (cats_mem n)]
  have : ofBits (catsOf (catsTo n 64)) = n := ofBits_eq _ _ (catsOf_len _) hn (fun i hi => by rw [catsOf_getD _ _ hi, cats_contains n i hi])
  rw [this]
end Go.Proofs.YtcbiilbmldinhaaDoor.PB
end

section
namespace Go.Proofs.YtcbiilbmldinhaaDoor.PB
open Go.RowKit Go.Proofs.YtcbiilbmldinhaaDoorW.PrintWords Go.Proofs.YtcbiilbmldinhaaDoorW.PrintLast Go.Proofs.YtcbiilbmldinhaaDoorW.PrintMore
attribute [local go_sem] max2_int min2_int max_two min_two max_three min_three max_four min_four   
set_option linter.unusedVariables false
set_option linter.unusedSimpArgs false
def bureauref01_digits.f (a0 : Int) : Option (ByteArray) := if a0 < 10 then (some (strOfNums (([(wrap64 (48 + a0)) % 256] : List Int)))) else (some (strOfNums (([(wrap64 (48 + (wrap64 (Int.tdiv a0 10)))) % 256, (wrap64 (48 + (Int.tmod a0 10))) % 256] : List Int))))
end Go.Proofs.YtcbiilbmldinhaaDoor.PB
end

section
namespace Go.Proofs.YtcbiilbmldinhaaDoor.PB
open Go.RowKit Go.Proofs.YtcbiilbmldinhaaDoorW.PrintWords Go.Proofs.YtcbiilbmldinhaaDoorW.PrintLast Go.Proofs.YtcbiilbmldinhaaDoorW.PrintMore
attribute [local go_sem] max2_int min2_int max_two min_two max_three min_three max_four min_four   
set_option linter.unusedVariables false
set_option linter.unusedSimpArgs false
def bureauref01_Print.l0 : Nat → List Int → ByteArray → Int → Option (ByteArray)
 | 0, _, _, _ => none
 | k + 1, x3, x4, x5 => if x5 < (x3.length : Int) then (if x4.size + 1 ≤ 9223372036854775807 then (if 0 ≤ x5 then ((bureauref01_digits.f (rd x3 x5)).bind fun t241 => (if (x4 ++ (⟨#[46]⟩ : ByteArray)).size + t241.size ≤ 9223372036854775807 then (bureauref01_Print.l0 k x3 ((x4 ++ (⟨#[46]⟩ : ByteArray)) ++ t241) (wrap64 (x5 + 1))) else (none))) else (none)) else (none)) else (some x4)
def bureauref01_Print.f (k : Nat) (a0 : Int) : Option (ByteArray) := (bureauref01_Cats.f a0).bind fun t235 => (if (t235.length : Int) = 0 then (some (⟨#[45]⟩ : ByteArray)) else (if 0 < (t235.length : Int) then ((bureauref01_digits.f (rd t235 0)).bind fun t239 => (bureauref01_Print.l0 k t235 t239 1)) else (none)))
end Go.Proofs.YtcbiilbmldinhaaDoor.PB
end

section
namespace Go.Proofs.YtcbiilbmldinhaaDoor.PB
open Go.RowKit Go.Proofs.YtcbiilbmldinhaaDoorW.PrintWords Go.Proofs.YtcbiilbmldinhaaDoorW.PrintLast Go.Proofs.YtcbiilbmldinhaaDoorW.PrintMore
attribute [local go_sem] max2_int min2_int max_two min_two max_three min_three max_four min_four
set_option linter.unusedVariables false
set_option linter.unusedSimpArgs false
def putMark (dash : Bool) (n : Nat) (m : List Bool) : List Bool := if n < 64 ∧ dash = false then m.set n true else m
def scanMarks (dash : Bool) : List UInt8 → Nat → List Bool → List Bool
  | [], n, m => putMark dash n m
  | c :: r, n, m => if 48 ≤ c.toNat ∧ c.toNat ≤ 57 ∧ n < 1000 then scanMarks dash r (n * 10 + (c.toNat - 48)) m else scanMarks dash r 0 (putMark dash n m)
def scanAll (s : ByteArray) : List Bool := scanMarks (s.toList == ([45] : List UInt8)) s.data.toList 0 (List.replicate 64 false)
theorem putMark_yes (n : Nat) (m : List Bool) (h : n < 64) : putMark false n m = m.set n true := by unfold putMark; rw [if_pos ⟨h, rfl⟩]
def labelScan (s : ByteArray) : Int := ((ofBits (scanAll s) : Nat) : Int)
end Go.Proofs.YtcbiilbmldinhaaDoor.PB
end

section
namespace Go.Proofs.YtcbiilbmldinhaaDoor.PB
open Go.RowKit Go.Proofs.YtcbiilbmldinhaaDoorW.PrintWords
set_option linter.unusedVariables false
def bs (l : List UInt8) : ByteArray := ⟨l.toArray⟩
theorem bs_data (l : List UInt8) : (bs l).data.toList = l := rfl
theorem bs_size (l : List UInt8) : (bs l).size = l.length := by unfold bs ByteArray.size; simp
theorem bs_of (s : ByteArray) : bs s.data.toList = s := by unfold bs; simp
theorem bs_inj {a b : List UInt8} (h : bs a = bs b) : a = b := by have := congrArg (·.data.toList) h; exact this
theorem bs_append (a b : List UInt8) : bs a ++ bs b = bs (a ++ b) := by
  have : (bs a ++ bs b).data = (bs (a ++ b)).data := by simp [bs]
  exact ByteArray.ext this
theorem bs_toList (l : List UInt8) : (bs l).toList = l := (ByteArray.toList_eq _).trans (bs_data l)
theorem toList_inj {a b : ByteArray} (h : a.toList = b.toList) : a = b := by
  rw [ByteArray.toList_eq, ByteArray.toList_eq] at h
  rw [← bs_of a, ← bs_of b, h]
def dig2 (n : Nat) : List UInt8 := if n < 10 then [UInt8.ofNat (48 + n)] else [UInt8.ofNat (48 + n / 10), UInt8.ofNat (48 + n % 10)]
theorem dig2_is (n : Nat) (h : n < 64) : Lib.decDigits n = dig2 n := by
  unfold dig2
  rw [Lib.decDigits]
  split
  · rfl
  · rw [Lib.decDigits, dif_pos (by omega)]
    rfl
theorem dig2_len (n : Nat) : (dig2 n).length ≤ 2 := by unfold dig2; split <;> simp
theorem digits_ev : ∀ n : Nat, n < 64 → bureauref01_digits.f (n : Int) = some (bs (dig2 n)) := by
  have : ∀ n : Fin 64, bureauref01_digits.f ((n.val : Nat) : Int) = some (bs (dig2 n.val)) := by decide +kernel
  exact fun n h => this ⟨n, h⟩
theorem itoa_ev (n : Nat) (h : n < 64) : strconv_Itoa_40.f (n : Int) = some (bs (dig2 n)) := by
  unfold strconv_Itoa_40.f
  rw [if_pos (by omega), Int.toNat_natCast, dig2_is n h]; rfl
def tailD (cs : List Nat) : List UInt8 := cs.flatMap (fun c => 46 :: dig2 c)
def textOf : List Nat → List UInt8
  | [] => [45]
  | c :: r => dig2 c ++ tailD r
theorem tailD_len (cs : List Nat) : (tailD cs).length ≤ 3 * cs.length := by
  induction cs with
  | nil => simp [tailD]
  | cons c r ih =>
    have := dig2_len c
    unfold tailD at ih ⊢
    simp only [List.flatMap_cons, List.length_append, List.length_cons]
    omega
theorem textOf_len (cs : List Nat) : (textOf cs).length ≤ 3 * cs.length + 1 := by
  cases cs with
  | nil => simp [textOf]
  | cons c r =>
    have := dig2_len c
    have := tailD_len r
    simp only [textOf, List.length_append, List.length_cons]
    omega
theorem join_is (c : Nat) (r : List Nat) : Lib.join ((c :: r).map dig2) [46] = textOf (c :: r) := by
  have h : ∀ (r : List Nat) (c : Nat), [(46 : UInt8)].intercalate ((c :: r).map dig2) = dig2 c ++ tailD r := by
    intro r
    induction r with
    | nil => intro c; simp [List.intercalate, tailD]
    | cons d r ih =>
      intro c
      have := ih d
      simp only [List.map_cons, List.intercalate, tailD] at this ⊢
      simp [List.intersperse, this]
  exact h r c
def cats (n : Nat) : List Nat := (List.range 64).filter (fun i => n.testBit i)
theorem cats_is (n : Nat) : catsTo n 64 = (cats n).map (fun i : Nat => (i : Int)) := rfl
theorem cats_lt (n : Nat) : ∀ c ∈ cats n, c < 64 := fun c hc => List.mem_range.1 (List.mem_filter.1 hc).1
theorem cats_len (n : Nat) : (cats n).length ≤ 64 := Nat.le_trans (List.length_filter_le _ _) (by simp)
theorem cats_zero : cats 0 = [] := by unfold cats; simp
theorem cats_none {n : Nat} (hn : n < 18446744073709551616) (h : cats n = []) : n = 0 := by
  have h2 := of_cats n hn
  rw [cats_is, h] at h2
  have h3 : ofI ([] : List Int) = (0, 0) := by
    rw [ofI_yes (fun x hx => absurd hx (by simp)), ofBits_none]; rfl
  rw [List.map_nil, h3] at h2
  have := congrArg Prod.fst h2
  simp only at this
  omega
theorem takeS {α : Type} (l : List α) (i : Nat) (h : i < l.length) : l.take (i + 1) = l.take i ++ [l[i]] := by
  rw [List.take_add_one, List.getElem?_eq_getElem h]; rfl
theorem print_ev (n : Nat) (hn : n < 18446744073709551616) : Ev (fun k => label_Print.f k (n : Int)) (bs (textOf (cats n))) := by
  unfold label_Print.f
  by_cases h0 : (n : Int) = 0
  · refine Ev.pos h0 ?_
    obtain rfl : n = 0 := by omega
    rw [cats_zero]
    exact Ev.now _
  · refine Ev.neg h0 ?_
    have hcl := cats_len n
    have hclt := cats_lt n
    have hne : cats n ≠ [] := fun e => h0 (by rw [cats_none hn e]; rfl)
    refine Ev.bind (a := (cats n).map (fun i : Nat => (i : Int))) (by unfold label_Cats.f; rw [if_pos (by omega), Int.toNat_natCast, cats_is]; exact Ev.now _) ?_
    generalize cats n = cs at *
    have loop : ∀ (d i : Nat), i + d = cs.length → Ev (fun k => label_Print.l0 k ((cs.take i).map (fun c => bs (dig2 c))) (cs.map (fun i : Nat => (i : Int))) ((cs.map (fun i : Nat => (i : Int))).length : Int) (i : Int)) (bs (textOf cs)) := by
      intro d
      induction d with
      | zero =>
        intro i hi
        refine Ev.step (fun k => by simp only [label_Print.l0]; rfl) ?_
        refine Ev.neg (by rw [List.length_map]; omega) ?_
        rw [List.take_of_length_le (by omega)]
        refine Ev.bind (a := bs (textOf cs)) ?_ (Ev.now _)
        unfold strings_Join.f
        obtain ⟨c, r, rfl⟩ : ∃ c r, cs = c :: r := by cases cs with | nil => exact absurd rfl hne | cons c r => exact ⟨c, r, rfl⟩
        have e : ((c :: r).map (fun c => bs (dig2 c))).map (fun x : ByteArray => x.data.toList) = (c :: r).map dig2 := by rw [List.map_map]; rfl
        rw [e, show (⟨#[46]⟩ : ByteArray).data.toList = [46] from rfl, join_is]
        have := textOf_len (c :: r)
        rw [if_pos ⟨by rw [List.length_map]; omega, by omega⟩]
        exact Ev.now _
      | succ d ih =>
        intro i hi
        have hlt : i < cs.length := by omega
        refine Ev.step (fun k => by simp only [label_Print.l0]; rfl) ?_
        refine Ev.pos (by rw [List.length_map]; omega) (Ev.pos (by omega) (Ev.pos (by rw [List.length_map]; omega) ?_))
        have hr : rd (cs.map (fun i : Nat => (i : Int))) (i : Int) = ((cs[i] : Nat) : Int) := by
          rw [rdN, List.getD_eq_getElem?_getD, List.getElem?_map, List.getElem?_eq_getElem hlt]; rfl
        rw [hr, itoa_ev _ (hclt _ (List.getElem_mem hlt))]
        refine Ev.bind (Ev.now _) (Ev.pos (by rw [List.length_map, List.length_take]; omega) ?_)
        rw [w1' hlt (by omega)]
        have := ih (i + 1) (by omega)
        rw [takeS cs i hlt, List.map_append] at this
        exact this
    exact loop cs.length 0 (by omega)
theorem tailD_snoc (l : List Nat) (c : Nat) : tailD (l ++ [c]) = tailD l ++ 46 :: dig2 c := by unfold tailD; rw [List.flatMap_append]; simp
theorem rprint_ev (n : Nat) (hn : n < 18446744073709551616) : Ev (fun k => bureauref01_Print.f k (n : Int)) (bs (textOf (cats n))) := by
  unfold bureauref01_Print.f
  have hcl := cats_len n
  have hclt := cats_lt n
  refine Ev.bind (a := (cats n).map (fun i : Nat => (i : Int))) (by unfold bureauref01_Cats.f; rw [if_pos (by omega), Int.toNat_natCast, cats_is]; exact Ev.now _) ?_
  generalize cats n = cs at *
  cases cs with
  | nil => exact Ev.pos rfl (Ev.now _)
  | cons c r =>
    refine Ev.neg (by simp; omega) (Ev.pos (by simp) ?_)
    have hr0 : rd ((c :: r).map (fun i : Nat => (i : Int))) 0 = (c : Int) := rfl
    rw [hr0, digits_ev c (hclt c List.mem_cons_self)]
    refine Ev.bind (Ev.now _) ?_
    have loop : ∀ (d i : Nat), i + d = r.length → Ev (fun k => bureauref01_Print.l0 k ((c :: r).map (fun i : Nat => (i : Int))) (bs (dig2 c ++ tailD (r.take i))) ((i : Int) + 1)) (bs (textOf (c :: r))) := by
      intro d
      induction d with
      | zero =>
        intro i hi
        refine Ev.step (fun k => by simp only [bureauref01_Print.l0]; rfl) ?_
        refine Ev.neg (by rw [List.length_map, List.length_cons]; omega) ?_
        rw [List.take_of_length_le (by omega)]
        exact Ev.now _
      | succ d ih =>
        intro i hi
        have hlt : i < r.length := by omega
        have hlc : r.length ≤ 63 := by simp at hcl; omega
        have hd := dig2_len c
        have ht := tailD_len (r.take i)
        rw [List.length_take] at ht
        refine Ev.step (fun k => by simp only [bureauref01_Print.l0]; rfl) ?_
        refine Ev.pos (by rw [List.length_map, List.length_cons]; omega) (Ev.pos (by rw [bs_size, List.length_append]; omega) (Ev.pos (by omega) ?_))
        have hr : rd ((c :: r).map (fun i : Nat => (i : Int))) ((i : Int) + 1) = ((r[i] : Nat) : Int) := by
          rw [show ((i : Int) + 1) = ((i + 1 : Nat) : Int) by omega, rdN, List.getD_eq_getElem?_getD, List.getElem?_map, List.getElem?_cons_succ, List.getElem?_eq_getElem hlt]; rfl
        rw [hr, digits_ev _ (hclt _ (List.mem_cons_of_mem _ (List.getElem_mem hlt)))]
        have hd2 := dig2_len r[i]
        have e1 : (bs (dig2 c ++ tailD (r.take i)) ++ (⟨#[46]⟩ : ByteArray)) ++ bs (dig2 r[i]) = bs (dig2 c ++ tailD (r.take (i + 1))) := by
          rw [show (⟨#[46]⟩ : ByteArray) = bs [46] from rfl, bs_append, bs_append, takeS r i hlt, tailD_snoc]
          simp
        refine Ev.bind (Ev.now _) (Ev.pos ?_ ?_)
        · rw [show (⟨#[46]⟩ : ByteArray) = bs [46] from rfl, bs_append, bs_size, bs_size]
          simp only [List.length_append, List.length_cons, List.length_nil]; omega
        · rw [e1, show wrap64 ((i : Int) + 1 + 1) = ((i + 1 : Nat) : Int) + 1 by unfold wrap64; omega]
          exact ih (i + 1) (by omega)
    have := loop r.length 0 (by omega)
    rw [List.take_zero, show tailD [] = [] from rfl, List.append_nil] at this
    exact this
end Go.Proofs.YtcbiilbmldinhaaDoor.PB
end

section
namespace Go.Proofs.YtcbiilbmldinhaaDoor.PB
open Go.RowKit Go.Proofs.YtcbiilbmldinhaaDoorW.PrintWords
set_option linter.unusedVariables false
theorem ofNat_toNat (k : Nat) (h : k < 256) : (UInt8.ofNat k).toNat = k := by simp [UInt8.toNat_ofNat']; omega
theorem scan_digit (d : Bool) (c n : Nat) (r : List UInt8) (m : List Bool) (hc : c < 10) (hn : n < 1000) : scanMarks d (UInt8.ofNat (48 + c) :: r) n m = scanMarks d r (n * 10 + c) m := by
  rw [scanMarks, ofNat_toNat _ (by omega), if_pos ⟨by omega, by omega, hn⟩]
  congr 1; omega
theorem scan_dig (d : Bool) (c : Nat) (r : List UInt8) (m : List Bool) (hc : c < 64) : scanMarks d (dig2 c ++ r) 0 m = scanMarks d r c m := by
  unfold dig2
  split
  · rw [List.cons_append, List.nil_append, scan_digit d c 0 r m (by omega) (by omega)]; congr 1; omega
  · rw [List.cons_append, List.cons_append, List.nil_append, scan_digit d (c / 10) 0 _ m (by omega) (by omega), scan_digit d (c % 10) _ r m (by omega) (by omega)]
    congr 1; omega
theorem scan_dot (c : Nat) (r : List UInt8) (m : List Bool) (hc : c < 64) : scanMarks false (46 :: r) c m = scanMarks false r 0 (m.set c true) := by
  rw [scanMarks, if_neg (by decide +revert), putMark_yes _ _ hc]
theorem scan_tail : ∀ (cs : List Nat) (c : Nat) (l : List Int), c < 64 → (∀ x ∈ cs, x < 64) → scanMarks false (tailD cs) c (catsOf l) = catsOf (l ++ ((c :: cs).map (fun i : Nat => (i : Int))))
  | [], c, l, hc, _ => by
    show scanMarks false [] c (catsOf l) = _
    rw [scanMarks, putMark_yes _ _ hc, catsOf_snoc _ _ hc]; rfl
  | x :: cs, c, l, hc, h => by
    have hx := h x List.mem_cons_self
    have e : tailD (x :: cs) = 46 :: (dig2 x ++ tailD cs) := by unfold tailD; rw [List.flatMap_cons]; rfl
    rw [e, scan_dot c _ _ hc, scan_dig _ _ _ _ hx, catsOf_snoc _ _ hc, scan_tail cs x _ hx (fun y hy => h y (List.mem_cons_of_mem _ hy))]
    simp
theorem dig2_head (c : Nat) (r : List UInt8) : ∃ a q, dig2 c ++ r = a :: q ∧ (c < 64 → 48 ≤ a.toNat) := by
  unfold dig2
  split
  · exact ⟨_, _, rfl, fun h => by rw [ofNat_toNat _ (by omega)]; omega⟩
  · exact ⟨_, _, rfl, fun h => by rw [ofNat_toNat _ (by omega)]; omega⟩
theorem not_dash (c : Nat) (r : List UInt8) (hc : c < 64) : ((bs (dig2 c ++ r)).toList == ([45] : List UInt8)) = false := by
  rw [bs_toList]
  obtain ⟨a, q, e, ha⟩ := dig2_head c r
  rw [e, beq_eq_false_iff_ne]
  intro he
  injection he with h1 _
  have := ha hc
  rw [h1] at this
  exact absurd this (by decide)
theorem scan_text (c : Nat) (cs : List Nat) (h : ∀ x ∈ c :: cs, x < 64) : labelScan (bs (textOf (c :: cs))) = ((ofBits (catsOf ((c :: cs).map (fun i : Nat => (i : Int)))) : Nat) : Int) := by
  have hc := h c List.mem_cons_self
  unfold labelScan scanAll
  rw [show textOf (c :: cs) = dig2 c ++ tailD cs from rfl, not_dash c _ hc, bs_data, scan_dig _ _ _ _ hc, ← catsOf_nil, scan_tail cs c [] hc (fun y hy => h y (List.mem_cons_of_mem _ hy)), List.nil_append]
theorem scan_zero : labelScan (bs (textOf [])) = 0 := by decide +kernel
theorem bits_cats (n : Nat) (hn : n < 18446744073709551616) : ofBits (catsOf ((cats n).map (fun i : Nat => (i : Int)))) = n := by
  rw [← cats_is]
  exact ofBits_eq _ _ (catsOf_len _) hn (fun i hi => by rw [catsOf_getD _ _ hi, cats_contains n i hi])
theorem scan_print (n : Nat) (hn : n < 18446744073709551616) : labelScan (bs (textOf (cats n))) = (n : Int) := by
  cases h : cats n with
  | nil => rw [scan_zero, cats_none hn h]; rfl
  | cons c r => rw [scan_text c r (fun x hx => cats_lt n x (by rw [h]; exact hx)), ← h, bits_cats n hn]
theorem text_inj {a b : Nat} (ha : a < 18446744073709551616) (hb : b < 18446744073709551616) (h : textOf (cats a) = textOf (cats b)) : a = b := by
  have h1 := scan_print a ha
  rw [h, scan_print b hb] at h1
  omega
def IsText (s : ByteArray) (n : Nat) : Prop := n < 18446744073709551616 ∧ s = bs (textOf (cats n))
def sp : List UInt8 → List (List UInt8)
  | [] => [[]]
  | x :: r => if x = 46 then [] :: sp r else match sp r with | [] => [[x]] | p :: ps => (x :: p) :: ps
theorem sp_ne (l : List UInt8) : sp l ≠ [] := by
  cases l with
  | nil => simp [sp]
  | cons x r => unfold sp; split; simp; split <;> simp
theorem sp_cut : ∀ (x y : List UInt8), (∀ c ∈ x, c ≠ 46) → sp (x ++ 46 :: y) = x :: sp y
  | [], y, _ => by simp [sp]
  | a :: x, y, h => by
    rw [List.cons_append, sp, if_neg (h a List.mem_cons_self), sp_cut x y (fun c hc => h c (List.mem_cons_of_mem _ hc))]
theorem sp_one : ∀ (x : List UInt8), (∀ c ∈ x, c ≠ 46) → sp x = [x]
  | [], _ => rfl
  | a :: x, h => by
    rw [sp, if_neg (h a List.mem_cons_self), sp_one x (fun c hc => h c (List.mem_cons_of_mem _ hc))]
def un : List (List UInt8) → List UInt8
  | [] => []
  | [x] => x
  | x :: y :: r => x ++ 46 :: un (y :: r)
theorem un_sp : ∀ l, un (sp l) = l
  | [] => rfl
  | x :: r => by
    have ih := un_sp r
    unfold sp
    split
    · rename_i h
      cases hs : sp r with
      | nil => exact absurd hs (sp_ne r)
      | cons p ps => rw [hs] at ih; rw [un, ih, h]; rfl
    · cases hs : sp r with
      | nil => exact absurd hs (sp_ne r)
      | cons p ps =>
        rw [hs] at ih
        cases ps with
        | nil => show un [x :: p] = _; rw [un] at ih ⊢; rw [ih]
        | cons q qs => show un ((x :: p) :: q :: qs) = _; rw [un] at ih ⊢; rw [List.cons_append, ih]
theorem split_is : ∀ (n : Nat) (l : List UInt8), l.length ≤ n → Lib.splitK [46] 0 (Lib.count l [46]) l = sp l := by
  intro n
  induction n with
  | zero =>
    intro l hl
    obtain rfl : l = [] := List.length_eq_zero_iff.1 (by omega)
    rfl
  | succ n ih =>
    intro l hl
    rcases (show Lib.index l [46] = -1 ∨ ∃ i : Nat, Lib.index l [46] = i by
      have := Lib.indexByte_ge l 46
      rw [← Lib.index_one] at this
      rcases Int.lt_or_le (Lib.index l [46]) 0 with h | h
      · left; omega
      · right; exact ⟨(Lib.index l [46]).toNat, by omega⟩) with h | ⟨i, h⟩
    · rw [Lib.count_miss h]
      show [l] = sp l
      rw [Lib.index_one] at h
      refine (sp_one l (fun c hc e => ?_)).symm
      obtain ⟨k, hk⟩ := List.getElem?_of_mem hc
      exact Lib.indexByte_none h k (by rw [hk, e])
    · rw [Lib.count_hit (by simp) h, Nat.add_comm]
      have hne : ¬ (Lib.index l [46] == -1) = true := fun e => by have := beq_iff_eq.1 e; omega
      rw [Lib.splitK, if_neg hne, h, Int.toNat_natCast]
      rw [Lib.index_one] at h
      obtain ⟨h1, h2⟩ := Lib.indexByte_some h
      have hlt := (List.getElem?_eq_some_iff.1 h1).1
      have e : l = l.take i ++ 46 :: l.drop (i + 1) := by
        have hd : l.drop i = 46 :: l.drop (i + 1) := by
          rw [List.drop_eq_getElem_cons hlt]
          congr 1
          have := List.getElem?_eq_getElem hlt
          rw [h1] at this
          exact (Option.some.inj this).symm
        rw [← hd, List.take_append_drop]
      conv => rhs; rw [e]
      rw [sp_cut _ _ (fun c hc e => ?_)]
      · show (l.take (i + 0)) :: Lib.splitK [46] 0 (Lib.count (l.drop (i + 1)) [46]) (l.drop (i + 1)) = _
        rw [ih (l.drop (i + 1)) (by rw [List.length_drop]; omega), Nat.add_zero]
      · obtain ⟨k, hk⟩ := List.getElem?_of_mem hc
        have hk2 := (List.getElem?_eq_some_iff.1 hk).1
        rw [List.length_take] at hk2
        rw [List.getElem?_take_of_lt (by omega), e] at hk
        exact h2 k (by omega) hk
theorem split_ev (s : ByteArray) (hs : s.size ≤ 4096) : strings_Split.f s (⟨#[46]⟩ : ByteArray) = some ((sp s.data.toList).map bs) := by
  unfold strings_Split.f
  rw [if_pos ⟨rfl, by omega⟩]
  congr 1
  have h := Lib.splitB_data ⟨#[46]⟩ 0 (Lib.countB s ⟨#[46]⟩) s
  rw [show (⟨#[46]⟩ : ByteArray).data.toList = [46] from rfl] at h
  rw [show Lib.countB s ⟨#[46]⟩ = Lib.count s.data.toList [46] from rfl] at h ⊢
  rw [split_is _ _ (Nat.le_refl _)] at h
  rw [← h, List.map_map]
  conv => lhs; rw [← List.map_id (Lib.splitB ⟨#[46]⟩ 0 (Lib.count s.data.toList [46]) s)]
  apply List.map_congr_left
  intro x _
  exact (bs_of x).symm
theorem dig2_nodot (c : Nat) (h : c < 64) : ∀ x ∈ dig2 c, x ≠ 46 := by
  intro x hx e
  subst e
  unfold dig2 at hx
  have : ∀ k, k < 10 → (46 : UInt8) ≠ UInt8.ofNat (48 + k) := by decide
  split at hx
  · exact this c (by omega) (List.mem_singleton.1 hx)
  · rcases List.mem_cons.1 hx with hx | hx
    · exact this (c / 10) (by omega) hx
    · exact this (c % 10) (by omega) (List.mem_singleton.1 hx)
theorem sp_text : ∀ (cs : List Nat) (c : Nat), (∀ x ∈ c :: cs, x < 64) → sp (dig2 c ++ tailD cs) = (c :: cs).map dig2
  | [], c, h => by
    rw [show tailD [] = [] from rfl, List.append_nil]
    exact sp_one _ (dig2_nodot c (h c List.mem_cons_self))
  | x :: cs, c, h => by
    have e : tailD (x :: cs) = 46 :: (dig2 x ++ tailD cs) := by unfold tailD; rw [List.flatMap_cons]; rfl
    rw [e, sp_cut _ _ (dig2_nodot c (h c List.mem_cons_self)), sp_text cs x (fun y hy => h y (List.mem_cons_of_mem _ hy))]
    rfl
theorem un_text : ∀ (cs : List Nat) (c : Nat), un ((c :: cs).map dig2) = dig2 c ++ tailD cs
  | [], c => by simp [un, tailD]
  | x :: cs, c => by
    have e : tailD (x :: cs) = 46 :: (dig2 x ++ tailD cs) := by unfold tailD; rw [List.flatMap_cons]; rfl
    show un (dig2 c :: dig2 x :: cs.map dig2) = _
    rw [un, e]
    have := un_text cs x
    rw [List.map_cons] at this
    rw [this]
end Go.Proofs.YtcbiilbmldinhaaDoor.PB
end

section
namespace Go.Proofs.YtcbiilbmldinhaaDoor.PB
open Go.RowKit Go.Proofs.YtcbiilbmldinhaaDoorW.PrintWords
set_option linter.unusedVariables false
theorem dig2_one {a : UInt8} {c : Nat} (hc : c < 64) (h : [a] = dig2 c) : c < 10 ∧ a.toNat = 48 + c := by
  unfold dig2 at h
  split at h
  · injection h with h _
    exact ⟨by assumption, by rw [h, ofNat_toNat _ (by omega)]⟩
  · injection h with _ h
    cases h
theorem dig2_two {a b : UInt8} {c : Nat} (hc : c < 64) (h : [a, b] = dig2 c) : 10 ≤ c ∧ a.toNat = 48 + c / 10 ∧ b.toNat = 48 + c % 10 := by
  unfold dig2 at h
  split at h
  · injection h with _ h
    cases h
  · injection h with h h2
    injection h2 with h2 _
    exact ⟨by omega, by rw [h, ofNat_toNat _ (by omega)], by rw [h2, ofNat_toNat _ (by omega)]⟩
theorem ofNat_is {a : UInt8} {k : Nat} (h : a.toNat = k) : a = UInt8.ofNat k := by
  have hk : k < 256 := by rw [← h]; exact a.toNat_lt
  exact UInt8.toNat_inj.1 (by rw [ofNat_toNat k hk, h])
theorem bt_bs (l : List UInt8) (i : Nat) (h : i < l.length) : bt (bs l) (i : Int) = ((l.getD i 0).toNat : Int) := by
  unfold bt
  rw [dif_pos (by rw [bs_size, Int.toNat_natCast]; exact h)]
  congr 2
  show (l.toArray)[i] = _
  rw [List.getElem_toArray, List.getD_eq_getElem?_getD, List.getElem?_eq_getElem h]; rfl
theorem cat_bad (k0 : Nat → Option (Int × Bool)) (p : ByteArray) (h : ∀ k, k0 k = label_category.j0 k p true) : Ev k0 (0, false) := by
  refine Ev.congr h (Ev.step (fun k => by simp only [label_category.j0]; rfl) ?_)
  exact Ev.pos (by simp) (Ev.now _)
theorem cat_ev (l : List UInt8) : (∃ c, c < 64 ∧ l = dig2 c ∧ Ev (fun k => label_category.f k (bs l)) ((c : Int), true)) ∨ ((∀ c, c < 64 → l ≠ dig2 c) ∧ ∃ x, Ev (fun k => label_category.f k (bs l)) (x, false)) := by
  have bad : ∀ {p : ByteArray}, Ev (fun k => label_category.j0 k p true) (0, false) := fun {p} => cat_bad _ p (fun _ => rfl)
  unfold label_category.f
  match l with
  | [] =>
    refine .inr ⟨fun c hc h => ?_, 0, ?_⟩
    · unfold dig2 at h; split at h <;> cases h
    · exact Ev.pos (by rw [bs_size]; simp) bad
  | [a] =>
    have hb : bt (bs [a]) 0 = (a.toNat : Int) := bt_bs [a] 0 (by simp)
    have ha : a.toNat < 256 := a.toNat_lt
    have go : ∀ r, Ev (fun k => label_category.l0 k (bs [a]) 0 ((bs [a]).size : Int) 0) r → Ev (fun k => if ((bs [a]).size : Int) < 1 then label_category.j0 k (bs [a]) true else if ((bs [a]).size : Int) > 2 then label_category.j0 k (bs [a]) true else if ((bs [a]).size : Int) = 2 then (if 0 < ((bs [a]).size : Int) then label_category.j0 k (bs [a]) (bt (bs [a]) 0 == 48) else none) else label_category.j0 k (bs [a]) false) r := fun r hr => by
      refine Ev.neg (by rw [bs_size]; simp) (Ev.neg (by rw [bs_size]; simp) (Ev.neg (by rw [bs_size]; simp) ?_))
      refine Ev.step (fun k => by simp only [label_category.j0]; rfl) ?_
      exact Ev.neg (by simp) hr
    by_cases h1 : (a.toNat : Int) < 48
    · refine .inr ⟨fun c hc h => by have := dig2_one hc h; omega, 0, go _ ?_⟩
      refine Ev.step (fun k => by simp only [label_category.l0]; rfl) ?_
      refine Ev.pos (by rw [bs_size]; simp) (Ev.pos (by omega) (Ev.pos (by rw [bs_size]; simp) ?_))
      rw [hb]
      exact Ev.pos h1 (Ev.now _)
    · by_cases h2 : (a.toNat : Int) > 57
      · refine .inr ⟨fun c hc h => by have := dig2_one hc h; omega, 0, go _ ?_⟩
        refine Ev.step (fun k => by simp only [label_category.l0]; rfl) ?_
        refine Ev.pos (by rw [bs_size]; simp) (Ev.pos (by omega) (Ev.pos (by rw [bs_size]; simp) ?_))
        rw [hb]
        exact Ev.neg h1 (Ev.pos h2 (Ev.now _))
      · refine .inl ⟨a.toNat - 48, by omega, ?_, go _ ?_⟩
        · unfold dig2
          rw [if_pos (by omega)]
          congr 1
          exact ofNat_is (by omega)
        · refine Ev.step (fun k => by simp only [label_category.l0]; rfl) ?_
          refine Ev.pos (by rw [bs_size]; simp) (Ev.pos (by omega) (Ev.pos (by rw [bs_size]; simp) ?_))
          rw [hb]
          refine Ev.neg h1 (Ev.neg h2 ?_)
          refine Ev.step (fun k => by simp only [label_category.l0]; rfl) ?_
          refine Ev.neg (by rw [bs_size]; show ¬ wrap64 (0 + 1) < ((1 : Nat) : Int); unfold wrap64; omega) ?_
          exact ev_val (Ev.now _) (by
            have e : wrap64 (wrap64 (0 * 10) + ((a.toNat : Int) - 48) % 256) = ((a.toNat - 48 : Nat) : Int) := by unfold wrap64; omega
            rw [e, decide_eq_true (by omega)])
  | [a, b] =>
    have hb0 : bt (bs [a, b]) 0 = (a.toNat : Int) := bt_bs [a, b] 0 (by simp)
    have hb1 : bt (bs [a, b]) 1 = (b.toNat : Int) := bt_bs [a, b] 1 (by simp)
    have ha : a.toNat < 256 := a.toNat_lt
    have hbb : b.toNat < 256 := b.toNat_lt
    have go : ∀ r, (bt (bs [a, b]) 0 == 48) = false → Ev (fun k => label_category.l0 k (bs [a, b]) 0 ((bs [a, b]).size : Int) 0) r → Ev (fun k => if ((bs [a, b]).size : Int) < 1 then label_category.j0 k (bs [a, b]) true else if ((bs [a, b]).size : Int) > 2 then label_category.j0 k (bs [a, b]) true else if ((bs [a, b]).size : Int) = 2 then (if 0 < ((bs [a, b]).size : Int) then label_category.j0 k (bs [a, b]) (bt (bs [a, b]) 0 == 48) else none) else label_category.j0 k (bs [a, b]) false) r := fun r h0 hr => by
      refine Ev.neg (by rw [bs_size]; simp) (Ev.neg (by rw [bs_size]; simp) (Ev.pos (by rw [bs_size]; simp) (Ev.pos (by rw [bs_size]; simp) ?_)))
      rw [h0]
      refine Ev.step (fun k => by simp only [label_category.j0]; rfl) ?_
      exact Ev.neg (by simp) hr
    by_cases h0 : a.toNat = 48
    · refine .inr ⟨fun c hc h => by have := dig2_two hc h; omega, 0, ?_⟩
      refine Ev.neg (by rw [bs_size]; simp) (Ev.neg (by rw [bs_size]; simp) (Ev.pos (by rw [bs_size]; simp) (Ev.pos (by rw [bs_size]; simp) ?_)))
      rw [hb0, h0]
      exact bad
    · have h0' : (bt (bs [a, b]) 0 == 48) = false := by rw [hb0, beq_eq_false_iff_ne]; omega
      by_cases h1 : (a.toNat : Int) < 48
      · refine .inr ⟨fun c hc h => by have := dig2_two hc h; omega, 0, go _ h0' ?_⟩
        refine Ev.step (fun k => by simp only [label_category.l0]; rfl) ?_
        refine Ev.pos (by rw [bs_size]; simp) (Ev.pos (by omega) (Ev.pos (by rw [bs_size]; simp) ?_))
        rw [hb0]
        exact Ev.pos h1 (Ev.now _)
      · by_cases h2 : (a.toNat : Int) > 57
        · refine .inr ⟨fun c hc h => by have := dig2_two hc h; omega, 0, go _ h0' ?_⟩
          refine Ev.step (fun k => by simp only [label_category.l0]; rfl) ?_
          refine Ev.pos (by rw [bs_size]; simp) (Ev.pos (by omega) (Ev.pos (by rw [bs_size]; simp) ?_))
          rw [hb0]
          exact Ev.neg h1 (Ev.pos h2 (Ev.now _))
        · have e1 : wrap64 (wrap64 (0 * 10) + ((a.toNat : Int) - 48) % 256) = (a.toNat : Int) - 48 := by unfold wrap64; omega
          have first : ∀ r, Ev (fun k => label_category.l0 k (bs [a, b]) ((a.toNat : Int) - 48) ((bs [a, b]).size : Int) 1) r → Ev (fun k => label_category.l0 k (bs [a, b]) 0 ((bs [a, b]).size : Int) 0) r := fun r hr => by
            refine Ev.step (fun k => by simp only [label_category.l0]; rfl) ?_
            refine Ev.pos (by rw [bs_size]; simp) (Ev.pos (by omega) (Ev.pos (by rw [bs_size]; simp) ?_))
            rw [hb0]
            refine Ev.neg h1 (Ev.neg h2 ?_)
            rw [e1, show wrap64 (0 + 1) = 1 by unfold wrap64; omega]
            exact hr
          by_cases h3 : (b.toNat : Int) < 48
          · refine .inr ⟨fun c hc h => by have := dig2_two hc h; omega, 0, go _ h0' (first _ ?_)⟩
            refine Ev.step (fun k => by simp only [label_category.l0]; rfl) ?_
            refine Ev.pos (by rw [bs_size]; simp) (Ev.pos (by omega) (Ev.pos (by rw [bs_size]; simp) ?_))
            rw [hb1]
            exact Ev.pos h3 (Ev.now _)
          · by_cases h4 : (b.toNat : Int) > 57
            · refine .inr ⟨fun c hc h => by have := dig2_two hc h; omega, 0, go _ h0' (first _ ?_)⟩
              refine Ev.step (fun k => by simp only [label_category.l0]; rfl) ?_
              refine Ev.pos (by rw [bs_size]; simp) (Ev.pos (by omega) (Ev.pos (by rw [bs_size]; simp) ?_))
              rw [hb1]
              exact Ev.neg h3 (Ev.pos h4 (Ev.now _))
            · have e2 : wrap64 (wrap64 (((a.toNat : Int) - 48) * 10) + ((b.toNat : Int) - 48) % 256) = ((10 * (a.toNat - 48) + (b.toNat - 48) : Nat) : Int) := by unfold wrap64; omega
              have last : Ev (fun k => label_category.f k (bs [a, b])) (((10 * (a.toNat - 48) + (b.toNat - 48) : Nat) : Int), decide (((10 * (a.toNat - 48) + (b.toNat - 48) : Nat) : Int) < 64)) := by
                refine go _ h0' (first _ ?_)
                refine Ev.step (fun k => by simp only [label_category.l0]; rfl) ?_
                refine Ev.pos (by rw [bs_size]; simp) (Ev.pos (by omega) (Ev.pos (by rw [bs_size]; simp) ?_))
                rw [hb1]
                refine Ev.neg h3 (Ev.neg h4 ?_)
                rw [e2]
                refine Ev.step (fun k => by simp only [label_category.l0]; rfl) ?_
                refine Ev.neg (by rw [bs_size]; show ¬ wrap64 (1 + 1) < ((2 : Nat) : Int); unfold wrap64; omega) ?_
                exact Ev.now _
              by_cases h5 : 10 * (a.toNat - 48) + (b.toNat - 48) < 64
              · refine .inl ⟨10 * (a.toNat - 48) + (b.toNat - 48), h5, ?_, ?_⟩
                · unfold dig2
                  rw [if_neg (by omega)]
                  congr 1
                  · exact ofNat_is (by omega)
                  · congr 1
                    exact ofNat_is (by omega)
                · exact ev_val last (by rw [decide_eq_true (by omega)])
              · refine .inr ⟨fun c hc h => by have := dig2_two hc h; omega, ((10 * (a.toNat - 48) + (b.toNat - 48) : Nat) : Int), ?_⟩
                exact ev_val last (by rw [decide_eq_false (by omega)])
  | a :: b :: c :: r =>
    refine .inr ⟨fun q hq h => ?_, 0, ?_⟩
    · have := dig2_len q
      rw [← h] at this
      simp at this
    · exact Ev.neg (by rw [bs_size]; simp; omega) (Ev.pos (by rw [bs_size]; simp; omega) bad)
def rising : Int → List Nat → Prop
  | _, [] => True
  | lo, c :: r => lo < (c : Int) ∧ c < 64 ∧ rising (c : Int) r
theorem rising_lt : ∀ {cs : List Nat} {lo : Int}, rising lo cs → ∀ x ∈ cs, lo < (x : Int) ∧ x < 64
  | [], _, _, x, hx => absurd hx (by simp)
  | c :: r, lo, h, x, hx => by
    rcases List.mem_cons.1 hx with rfl | hx
    · exact ⟨h.1, h.2.1⟩
    · have := rising_lt h.2.2 x hx
      have := h.1
      omega
theorem rising_filter (p : Nat → Bool) : ∀ (d a : Nat) (lo : Int), lo < (a : Int) → a + d ≤ 64 → rising lo ((List.range' a d).filter p)
  | 0, a, lo, _, _ => by simp [rising]
  | d + 1, a, lo, h, hd => by
    rw [List.range'_succ, List.filter_cons]
    split
    · exact ⟨h, by omega, rising_filter p d (a + 1) _ (by omega) (by omega)⟩
    · exact rising_filter p d (a + 1) lo (by omega) (by omega)
theorem filter_rising : ∀ (d a : Nat) (cs : List Nat) (lo : Int), lo + 1 = (a : Int) → a + d = 64 → rising lo cs → (List.range' a d).filter (fun i => cs.contains i) = cs
  | 0, a, cs, lo, h1, h2, hr => by
    cases cs with
    | nil => rfl
    | cons c r => have := rising_lt hr c List.mem_cons_self; omega
  | d + 1, a, cs, lo, h1, h2, hr => by
    rw [List.range'_succ, List.filter_cons]
    cases cs with
    | nil => simp
    | cons c r =>
      have hc := hr.1
      by_cases e : c = a
      · subst e
        rw [if_pos (by simp)]
        congr 1
        have ih := filter_rising d (c + 1) r (c : Int) (by omega) (by omega) hr.2.2
        refine (List.filter_congr (fun x hx => ?_)).trans ih
        have := List.mem_range'_1.1 hx
        have hne : ¬ x = c := by omega
        simp [hne]
      · have hna : ¬ (c :: r).contains a = true := by
          rw [List.contains_iff_mem]
          intro hm
          rcases List.mem_cons.1 hm with rfl | hm
          · exact e rfl
          · have := rising_lt hr.2.2 a hm; omega
        rw [if_neg hna]
        refine filter_rising d (a + 1) (c :: r) (a : Int) (by omega) (by omega) ⟨by omega, hr.2.1, hr.2.2⟩
theorem cats_rising (n : Nat) : rising (-1) (cats n) := by
  unfold cats
  rw [List.range_eq_range']
  exact rising_filter _ 64 0 (-1) (by omega) (by omega)
theorem contains_map (cs : List Nat) (i : Nat) : (cs.map (fun i : Nat => (i : Int))).contains (i : Int) = cs.contains i := by
  rw [Bool.eq_iff_iff, List.contains_iff_mem, List.contains_iff_mem, List.mem_map]
  constructor
  · rintro ⟨j, hj, he⟩
    obtain rfl : j = i := by omega
    exact hj
  · intro h; exact ⟨i, h, rfl⟩
theorem cats_of {cs : List Nat} (h : rising (-1) cs) : cats (ofBits (catsOf (cs.map (fun i : Nat => (i : Int))))) = cs := by
  unfold cats
  rw [List.range_eq_range']
  refine (List.filter_congr (fun i hi => ?_)).trans (filter_rising 64 0 cs (-1) (by omega) (by omega) h)
  have := List.mem_range'_1.1 hi
  rw [ofBits_testBit, catsOf_getD _ _ (by omega), contains_map]
theorem rdS (l : List ByteArray) (i : Nat) (h : i < l.length) : rdOf ByteArray.empty l (i : Int) = l[i] := by
  unfold rdOf; rw [Int.toNat_natCast, List.getD_eq_getElem?_getD, List.getElem?_eq_getElem h]; rfl
theorem parse_loop (ps : List (List UInt8)) (hl : ps.length ≤ 100000) : ∀ (d i : Nat) (done : List Nat) (lo : Int), i + d = ps.length →
    (∃ cs, rising lo cs ∧ ps.drop i = cs.map dig2 ∧ Ev (fun k => label_Parse.l0 k ((ofBits (catsOf (done.map (fun i : Nat => (i : Int)))) : Nat) : Int) lo (ps.map bs) ((ps.map bs).length : Int) (i : Int)) (((ofBits (catsOf ((done ++ cs).map (fun i : Nat => (i : Int)))) : Nat) : Int), 0)) ∨
    ((∀ cs, rising lo cs → ps.drop i ≠ cs.map dig2) ∧ Ev (fun k => label_Parse.l0 k ((ofBits (catsOf (done.map (fun i : Nat => (i : Int)))) : Nat) : Int) lo (ps.map bs) ((ps.map bs).length : Int) (i : Int)) (0, 5)) := by
  intro d
  induction d with
  | zero =>
    intro i done lo hi
    refine .inl ⟨[], trivial, by rw [List.drop_eq_nil_of_le (by omega)]; rfl, ?_⟩
    refine Ev.step (fun k => by simp only [label_Parse.l0]; rfl) ?_
    refine Ev.neg (by rw [List.length_map]; omega) ?_
    rw [List.append_nil]
    exact Ev.now _
  | succ d ih =>
    intro i done lo hi
    have hlt : i < ps.length := by omega
    have hrd : rdOf ByteArray.empty (ps.map bs) (i : Int) = bs ps[i] := by rw [rdS _ _ (by rw [List.length_map]; exact hlt), List.getElem_map]
    have hdrop : ps.drop i = ps[i] :: ps.drop (i + 1) := List.drop_eq_getElem_cons hlt
    have step : ∀ {x : Int} {b : Bool} {r : Int × Int}, Ev (fun k => label_category.f k (bs ps[i])) (x, b) →
        Ev (fun k => if b = true then (if x ≤ lo then some (0, 5) else (if 0 ≤ x then label_Parse.l0 k (Go.bits .or .u64 ((ofBits (catsOf (done.map (fun i : Nat => (i : Int)))) : Nat) : Int) (shl .u64 1 x)) x (ps.map bs) ((ps.map bs).length : Int) ((i + 1 : Nat) : Int) else none)) else some (0, 5)) r →
        Ev (fun k => label_Parse.l0 k ((ofBits (catsOf (done.map (fun i : Nat => (i : Int)))) : Nat) : Int) lo (ps.map bs) ((ps.map bs).length : Int) (i : Int)) r := by
      intro x b r hc hr
      refine Ev.step (fun k => by simp only [label_Parse.l0]; rfl) ?_
      refine Ev.pos (by rw [List.length_map]; omega) (Ev.pos (by omega) (Ev.pos (by rw [List.length_map]; omega) ?_))
      rw [hrd, w1' hlt (by omega)]
      exact Ev.bind hc hr
    rcases cat_ev ps[i] with ⟨c, hc, he, hev⟩ | ⟨hno, x, hev⟩
    · by_cases hle : (c : Int) ≤ lo
      · refine .inr ⟨fun cs hr h => ?_, step hev (Ev.pos rfl (Ev.pos hle (Ev.now _)))⟩
        rw [hdrop, he] at h
        cases cs with
        | nil => cases h
        | cons q r =>
          rw [List.map_cons] at h
          injection h with h _
          have hq := hr.2.1
          have : c = q := by
            by_cases h10 : c < 10
            · have e : dig2 c = [UInt8.ofNat (48 + c)] := by unfold dig2; rw [if_pos h10]
              rw [e] at h
              have := dig2_one hq h
              rw [ofNat_toNat _ (by omega)] at this
              omega
            · have e : dig2 c = [UInt8.ofNat (48 + c / 10), UInt8.ofNat (48 + c % 10)] := by unfold dig2; rw [if_neg h10]
              rw [e] at h
              have := dig2_two hq h
              rw [ofNat_toNat _ (by omega), ofNat_toNat _ (by omega)] at this
              omega
          have := hr.1
          omega
      · have hacc : Go.bits .or .u64 ((ofBits (catsOf (done.map (fun i : Nat => (i : Int)))) : Nat) : Int) (shl .u64 1 (c : Int)) = ((ofBits (catsOf ((done ++ [c]).map (fun i : Nat => (i : Int)))) : Nat) : Int) := by
          rw [or_shl _ c hc, List.map_append]; rfl
        rcases ih (i + 1) (done ++ [c]) (c : Int) (by omega) with ⟨cs, hr, hd, hev2⟩ | ⟨hno, hev2⟩
        · refine .inl ⟨c :: cs, ⟨by omega, hc, hr⟩, by rw [hdrop, he, hd]; rfl, step hev (Ev.pos rfl (Ev.neg hle (Ev.pos (by omega) ?_)))⟩
          rw [hacc, show done ++ c :: cs = (done ++ [c]) ++ cs by simp]
          exact hev2
        · refine .inr ⟨fun cs hr h => ?_, step hev (Ev.pos rfl (Ev.neg hle (Ev.pos (by omega) ?_)))⟩
          · rw [hdrop, he] at h
            cases cs with
            | nil => cases h
            | cons q r =>
              rw [List.map_cons] at h
              injection h with h h2
              have hq := hr.2.1
              have : c = q := by
                by_cases h10 : c < 10
                · have e : dig2 c = [UInt8.ofNat (48 + c)] := by unfold dig2; rw [if_pos h10]
                  rw [e] at h
                  have := dig2_one hq h
                  rw [ofNat_toNat _ (by omega)] at this
                  omega
                · have e : dig2 c = [UInt8.ofNat (48 + c / 10), UInt8.ofNat (48 + c % 10)] := by unfold dig2; rw [if_neg h10]
                  rw [e] at h
                  have := dig2_two hq h
                  rw [ofNat_toNat _ (by omega), ofNat_toNat _ (by omega)] at this
                  omega
              subst this
              exact hno r hr.2.2 h2
          · rw [hacc]
            exact hev2
    · refine .inr ⟨fun cs hr h => ?_, step hev (Ev.neg (by simp) (Ev.now _))⟩
      rw [hdrop] at h
      cases cs with
      | nil => cases h
      | cons q r =>
        rw [List.map_cons] at h
        injection h with h _
        exact hno q hr.2.1 h
theorem sp_len (l : List UInt8) : (sp l).length ≤ l.length + 1 := by
  induction l with
  | nil => simp [sp]
  | cons x r ih =>
    unfold sp
    split
    · simp only [List.length_cons]; omega
    · split <;> (rename_i h; rw [h] at ih; simp only [List.length_cons] at ih ⊢; omega)
theorem parse_ev (s : ByteArray) (hs : s.size ≤ 4096) : (∃ n, IsText s n ∧ Ev (fun k => label_Parse.f k s) ((n : Int), 0)) ∨ ((∀ n, ¬ IsText s n) ∧ Ev (fun k => label_Parse.f k s) (0, 5)) := by
  unfold label_Parse.f
  by_cases h45 : s.toList = ([45] : List UInt8)
  · refine .inl ⟨0, ⟨by decide, ?_⟩, Ev.pos h45 (Ev.now _)⟩
    rw [cats_zero]
    exact toList_inj (by rw [h45]; exact (bs_toList _).symm)
  · have hsl : s.data.toList.length = s.size := (Lib.size_eq s).symm
    have hln := sp_len s.data.toList
    rcases parse_loop (sp s.data.toList) (by omega) (sp s.data.toList).length 0 [] (-1) (by omega) with ⟨cs, hr, hd, hev⟩ | ⟨hno, hev⟩
    · rw [List.drop_zero] at hd
      refine .inl ⟨ofBits (catsOf (cs.map (fun i : Nat => (i : Int)))), ⟨ofBits_u64 _ (catsOf_len _), ?_⟩, Ev.neg h45 ?_⟩
      · rw [cats_of hr]
        cases cs with
        | nil => exact absurd hd (sp_ne _)
        | cons c r =>
          have := un_sp s.data.toList
          rw [hd, un_text] at this
          rw [show textOf (c :: r) = dig2 c ++ tailD r from rfl, this, bs_of]
      · rw [split_ev s hs]
        refine Ev.bind (Ev.now _) ?_
        rw [List.nil_append, List.map_nil, ofBits_none] at hev
        exact hev
    · refine .inr ⟨fun n ⟨hn, hst⟩ => ?_, Ev.neg h45 ?_⟩
      · cases hc : cats n with
        | nil =>
          rw [hc] at hst
          exact h45 (by rw [hst]; exact bs_toList _)
        | cons c r =>
          have hlt : ∀ x ∈ c :: r, x < 64 := fun x hx => cats_lt n x (by rw [hc]; exact hx)
          refine hno (cats n) (cats_rising n) ?_
          rw [List.drop_zero, hst, hc, bs_data]
          exact sp_text r c hlt
      · rw [split_ev s hs]
        refine Ev.bind (Ev.now _) ?_
        rw [List.map_nil, ofBits_none] at hev
        exact hev
end Go.Proofs.YtcbiilbmldinhaaDoor.PB
end

section
namespace Go.Proofs.YtcbiilbmldinhaaDoor.PB
open Go.RowKit Go.Maps Go.Proofs.YtcbiilbmldinhaaDoorW.PrintWords Go.Proofs.YtcbiilbmldinhaaDoorW.PrintLast Go.Proofs.YtcbiilbmldinhaaDoorW.PrintMore
set_option maxRecDepth 100000
set_option linter.unusedVariables false
set_option linter.unusedSimpArgs false
def NoLog (w : World) (p : Value) : Prop := p = .pointer none ∨ ∃ g, p = .pointer (some ⟨g, 0, none⟩) ∧ w.heap[g]? = some (.cells #[.map none, .slice none 0 0] 55 (0, 0))
theorem NoLog.below {w W : World} {p : Value} (h : NoLog w p) (hb : Below w.heap.size w W) : NoLog W p := by
  rcases h with h | ⟨g, h1, h2⟩
  · exact .inl h
  · exact .inr ⟨g, h1, bB h2 hb⟩
end Go.Proofs.YtcbiilbmldinhaaDoor.PB
end

section
namespace Go.Proofs.YtcbiilbmldinhaaDoor.PB
open Go.RowKit Go.Maps Go.Proofs.YtcbiilbmldinhaaDoorW.PrintWords Go.Proofs.YtcbiilbmldinhaaDoorW.PrintLast Go.Proofs.YtcbiilbmldinhaaDoorW.PrintMore
set_option maxRecDepth 100000
set_option linter.unusedVariables false
set_option linter.unusedSimpArgs false
def withinB (n : Int) : Bool := decide (0 ≤ n) && decide (n ≤ 65535)
def mayB (a1 a2 a3 a4 : Int) : Bool := (decide (1 ≤ a1) && decide (a1 ≤ 4)) && (withinB a2 && (withinB a3 && withinB a4))
theorem word_ev (a1 : Int) : ∃ s, audit_word.f a1 = some s ∧ (s.toList != ([] : List UInt8)) = (decide (1 ≤ a1) && decide (a1 ≤ 4)) := by
  unfold audit_word.f
  by_cases h1 : a1 = 1
  · subst h1; exact ⟨_, rfl, by decide +kernel⟩
  by_cases h2 : a1 = 2
  · subst h2; exact ⟨_, rfl, by decide +kernel⟩
  by_cases h3 : a1 = 3
  · subst h3; exact ⟨_, rfl, by decide +kernel⟩
  by_cases h4 : a1 = 4
  · subst h4; exact ⟨_, rfl, by decide +kernel⟩
  refine ⟨⟨#[]⟩, by simp [h1, h2, h3, h4], ?_⟩
  have : ¬ (1 ≤ a1 ∧ a1 ≤ 4) := by omega
  have e : (decide (1 ≤ a1) && decide (a1 ≤ 4)) = false := by
    rw [Bool.and_eq_false_iff, decide_eq_false_iff_not, decide_eq_false_iff_not]
    omega
  rw [e]; decide +kernel
theorem may_ev (a0 a1 a2 a3 a4 : Int) : Ev (fun k => audit_Record_may.f k a0 a1 a2 a3 a4) (mayB a1 a2 a3 a4) := by
  obtain ⟨s, hs, hw⟩ := word_ev a1
  unfold audit_Record_may.f
  refine Ev.bind (Ev.now _) ?_
  have loop : ∀ (d i : Nat), i + d = 3 → Ev (fun k => audit_Record_may.l0 k [a2, a3, a4] (([a2, a3, a4] : List Int).length : Int) (i : Int) a0 a1 a2 a3 a4) ((([a2, a3, a4] : List Int).drop i).all withinB && (decide (1 ≤ a1) && decide (a1 ≤ 4))) := by
    intro d
    induction d with
    | zero =>
      intro i hi
      obtain rfl : i = 3 := by omega
      refine Ev.step (fun k => by simp only [audit_Record_may.l0]; rfl) ?_
      refine Ev.neg (by simp) ?_
      rw [hs]
      refine Ev.bind (Ev.now s) (ev_val (Ev.now _) ?_)
      rw [hw]; simp
    | succ d ih =>
      intro i hi
      have hlt : i < ([a2, a3, a4] : List Int).length := by simp; omega
      refine Ev.step (fun k => by simp only [audit_Record_may.l0]; rfl) ?_
      refine Ev.pos (by omega) (Ev.pos (by omega) (Ev.pos (by omega) ?_))
      have hr : rd ([a2, a3, a4] : List Int) (i : Int) = ([a2, a3, a4] : List Int).getD i 0 := by unfold rd; rw [Int.toNat_natCast]
      have hd : ([a2, a3, a4] : List Int).drop i = ([a2, a3, a4] : List Int).getD i 0 :: ([a2, a3, a4] : List Int).drop (i + 1) := by
        rw [List.drop_eq_getElem_cons hlt, List.getD_eq_getElem?_getD, List.getElem?_eq_getElem hlt]; rfl
      rw [hr, hd, List.all_cons, w1n hlt (by simp)]
      generalize ([a2, a3, a4] : List Int).getD i 0 = x
      refine Ev.ite' (fun h => ev_val (Ev.now _) ?_) (fun h => Ev.ite' (fun h2 => ev_val (Ev.now _) ?_) (fun h2 => ev_val (ih (i + 1) (by omega)) ?_))
      · rw [show withinB x = false by unfold withinB; rw [decide_eq_false (by omega)]; rfl]; rfl
      · rw [show withinB x = false by unfold withinB; rw [decide_eq_false (show ¬ x ≤ 65535 by omega)]; simp]; rfl
      · rw [show withinB x = true by unfold withinB; rw [decide_eq_true (show 0 ≤ x by omega), decide_eq_true (show x ≤ 65535 by omega)]; rfl]; rfl
  refine ev_val (loop 3 0 rfl) ?_
  unfold mayB
  simp only [List.drop_zero, List.all_cons, List.all_nil, Bool.and_true]
  exact Bool.and_comm _ _
end Go.Proofs.YtcbiilbmldinhaaDoor.PB
end

section
namespace Go.Proofs.YtcbiilbmldinhaaDoor.PB
open Go.RowKit Go.Proofs.YtcbiilbmldinhaaDoorW.PrintWords Go.Proofs.YtcbiilbmldinhaaDoorW.PrintLast Go.Proofs.YtcbiilbmldinhaaDoorW.PrintMore
attribute [local go_sem] max2_int min2_int max_two min_two max_three min_three max_four min_four   
set_option linter.unusedVariables false
set_option linter.unusedSimpArgs false
def bureauref18_word.f (a0 : Int) : Option (ByteArray) := if a0 = 1 then (some (⟨#[103, 114, 97, 110, 116]⟩ : ByteArray)) else (if a0 = 2 then (some (⟨#[114, 101, 118, 111, 107, 101]⟩ : ByteArray)) else (if a0 = 3 then (some (⟨#[114, 101, 108, 101, 97, 115, 101]⟩ : ByteArray)) else (some (⟨#[100, 101, 110, 121]⟩ : ByteArray))))
end Go.Proofs.YtcbiilbmldinhaaDoor.PB
end

section
namespace Go.Proofs.YtcbiilbmldinhaaDoor.PB
open Go.RowKit Go.Proofs.YtcbiilbmldinhaaDoorW.PrintWords Go.Proofs.YtcbiilbmldinhaaDoorW.PrintLast Go.Proofs.YtcbiilbmldinhaaDoorW.PrintMore
attribute [local go_sem] max2_int min2_int max_two min_two max_three min_three max_four min_four   
set_option linter.unusedVariables false
set_option linter.unusedSimpArgs false
def bureauref18_digits.l0 : Nat → Int → ByteArray → Option (ByteArray)
 | 0, _, _ => none
 | k + 1, x0, x3 => if x0 > 9 then ((some (([(wrap64 (48 + (Int.tmod x0 10))) % 256] : List Int) : List Int)).bind fun y223 => (if (strOfNums y223).size + x3.size ≤ 9223372036854775807 then (bureauref18_digits.l0 k (wrap64 (Int.tdiv x0 10)) ((strOfNums y223) ++ x3)) else (none))) else ((some (([(wrap64 (48 + x0)) % 256] : List Int) : List Int)).bind fun y226 => (if (strOfNums y226).size + x3.size ≤ 9223372036854775807 then (some ((strOfNums y226) ++ x3)) else (none)))
def bureauref18_digits.f (k : Nat) (a0 : Int) : Option (ByteArray) := bureauref18_digits.l0 k a0 (⟨#[]⟩ : ByteArray)
end Go.Proofs.YtcbiilbmldinhaaDoor.PB
end

section
namespace Go.Proofs.YtcbiilbmldinhaaDoor.PB
open Go.RowKit Go.Proofs.YtcbiilbmldinhaaDoorW.PrintWords Go.Proofs.YtcbiilbmldinhaaDoorW.PrintLast Go.Proofs.YtcbiilbmldinhaaDoorW.PrintMore
attribute [local go_sem] max2_int min2_int max_two min_two max_three min_three max_four min_four   
set_option linter.unusedVariables false
set_option linter.unusedSimpArgs false
def bureauref18_Print.f (k : Nat) (a0_0 : Int) (a0_1 : Int) (a0_2 : Int) (a0_3 : Int) (a0_4 : Int) : Option (ByteArray × Int) := (bureauref18_May.f a0_0 a0_1 a0_2 a0_3 a0_4).bind fun t243 => (if t243 = true then ((bureauref18_word.f a0_1).bind fun t244 => (if t244.size + 1 ≤ 9223372036854775807 then ((bureauref18_digits.f k a0_2).bind fun t245 => (if (t244 ++ (⟨#[32]⟩ : ByteArray)).size + t245.size ≤ 9223372036854775807 then (if ((t244 ++ (⟨#[32]⟩ : ByteArray)) ++ t245).size + 1 ≤ 9223372036854775807 then ((bureauref18_digits.f k a0_3).bind fun t246 => (if (((t244 ++ (⟨#[32]⟩ : ByteArray)) ++ t245) ++ (⟨#[32]⟩ : ByteArray)).size + t246.size ≤ 9223372036854775807 then (if ((((t244 ++ (⟨#[32]⟩ : ByteArray)) ++ t245) ++ (⟨#[32]⟩ : ByteArray)) ++ t246).size + 1 ≤ 9223372036854775807 then ((bureauref18_digits.f k a0_4).bind fun t247 => (if (((((t244 ++ (⟨#[32]⟩ : ByteArray)) ++ t245) ++ (⟨#[32]⟩ : ByteArray)) ++ t246) ++ (⟨#[32]⟩ : ByteArray)).size + t247.size ≤ 9223372036854775807 then (if ((((((t244 ++ (⟨#[32]⟩ : ByteArray)) ++ t245) ++ (⟨#[32]⟩ : ByteArray)) ++ t246) ++ (⟨#[32]⟩ : ByteArray)) ++ t247).size + 1 ≤ 9223372036854775807 then ((bureauref01_Print.f k a0_0).bind fun t248 => (if (((((((t244 ++ (⟨#[32]⟩ : ByteArray)) ++ t245) ++ (⟨#[32]⟩ : ByteArray)) ++ t246) ++ (⟨#[32]⟩ : ByteArray)) ++ t247) ++ (⟨#[32]⟩ : ByteArray)).size + t248.size ≤ 9223372036854775807 then (some ((((((((t244 ++ (⟨#[32]⟩ : ByteArray)) ++ t245) ++ (⟨#[32]⟩ : ByteArray)) ++ t246) ++ (⟨#[32]⟩ : ByteArray)) ++ t247) ++ (⟨#[32]⟩ : ByteArray)) ++ t248, 0)) else (none))) else (none)) else (none))) else (none)) else (none))) else (none)) else (none))) else (none))) else (some ((⟨#[]⟩ : ByteArray), 2)))
end Go.Proofs.YtcbiilbmldinhaaDoor.PB
end

section
namespace Go.Proofs.YtcbiilbmldinhaaDoor.PB
open Go.RowKit Go.Proofs.YtcbiilbmldinhaaDoorW.PrintWords Go.Proofs.YtcbiilbmldinhaaDoorW.PrintLast Go.Proofs.YtcbiilbmldinhaaDoorW.PrintMore
set_option maxRecDepth 100000
set_option linter.unusedVariables false
set_option linter.unusedSimpArgs false
abbrev D10 (n : Nat) : List UInt8 := Lib.decDigits n
theorem d10_lt {n : Nat} (h : n < 10) : D10 n = [UInt8.ofNat (48 + n)] := by unfold D10; rw [Lib.decDigits, dif_pos h]
theorem d10_ge {n : Nat} (h : ¬ n < 10) : D10 n = D10 (n / 10) ++ [UInt8.ofNat (48 + n % 10)] := by unfold D10; rw [Lib.decDigits, dif_neg h]
theorem d10_all : ∀ n : Nat, ∀ c ∈ D10 n, 48 ≤ c.toNat ∧ c.toNat ≤ 57 := by
  intro n
  induction n using Nat.strongRecOn with
  | _ n ih =>
    intro c hc
    by_cases h : n < 10
    · rw [d10_lt h, List.mem_singleton] at hc
      subst hc
      rw [ofNat_toNat _ (by omega)]
      omega
    · rw [d10_ge h, List.mem_append, List.mem_singleton] at hc
      rcases hc with hc | rfl
      · exact ih (n / 10) (by omega) c hc
      · rw [ofNat_toNat _ (by omega)]
        omega
theorem d10_len : ∀ n : Nat, n ≤ 65535 → (D10 n).length ≤ 5 := by
  intro n hn
  have h := Lib.decDigits_length n
  have h0 := Lib.nDigits_pos n
  unfold D10
  rw [h]
  by_cases h1 : n < 10
  · rw [Lib.nDigits_small h1]; omega
  rw [Lib.nDigits_big h1]
  by_cases h2 : n / 10 < 10
  · rw [Lib.nDigits_small h2]; omega
  rw [Lib.nDigits_big h2]
  by_cases h3 : n / 10 / 10 < 10
  · rw [Lib.nDigits_small h3]; omega
  rw [Lib.nDigits_big h3]
  by_cases h4 : n / 10 / 10 / 10 < 10
  · rw [Lib.nDigits_small h4]; omega
  rw [Lib.nDigits_big h4, Lib.nDigits_small (by omega)]
  omega
theorem d10_head (n : Nat) : ∃ c r, D10 n = c :: r ∧ c.toNat ≠ 43 ∧ c.toNat ≠ 45 := by
  have hne : D10 n ≠ [] := by
    intro e
    have h := Lib.decDigits_length n
    have h0 := Lib.nDigits_pos n
    rw [show Lib.decDigits n = [] from e] at h
    simp at h; omega
  cases hd : D10 n with
  | nil => exact absurd hd hne
  | cons c r =>
    have := d10_all n c (by rw [hd]; exact List.mem_cons_self)
    exact ⟨c, r, rfl, by omega, by omega⟩
theorem parse10 : ∀ (n : Nat) (r : List UInt8), n < 1000000 → Lib.parseUint10 0 (D10 n ++ r) = Lib.parseUint10 n r := by
  intro n
  induction n using Nat.strongRecOn with
  | _ n ih =>
    intro r hn
    by_cases h : n < 10
    · rw [d10_lt h, List.singleton_append, Lib.parseUint10, if_pos (by rw [ofNat_toNat _ (by omega)]; omega), if_neg (by omega), ofNat_toNat _ (by omega), if_neg (by omega)]
      congr 1
      omega
    · rw [d10_ge h, List.append_assoc, ih (n / 10) (by omega) _ (by omega), List.singleton_append, Lib.parseUint10, if_pos (by rw [ofNat_toNat _ (by omega)]; omega), if_neg (by omega), ofNat_toNat _ (by omega), if_neg (by omega)]
      congr 1
      omega
theorem atoi_d10 (n : Nat) (hn : n < 1000000) : atoiV (bs (D10 n)) = (n : Int) := by
  obtain ⟨c, r, hd, h43, h45⟩ := d10_head n
  have hp := parse10 n [] hn
  rw [List.append_nil] at hp
  have : Lib.atoiAll (D10 n) = .ok (n : Int) := by
    rw [hd, Lib.atoiAll_plain c r h43 h45, ← hd, Lib.parseMag, if_neg (by rw [hd]; simp), hp, Lib.parseUint10]
    unfold Lib.signless
    simp only
    rw [if_neg (by omega)]
  unfold atoiV
  rw [bs_data, this]
theorem itoa_d10 (n : Nat) (hn : n < 1000000) : Itoa2.f (n : Int) = some (bs (D10 n)) := by
  unfold Itoa2.f
  rw [if_pos ⟨by omega, by omega⟩, Lib.itoa_nonneg]
  rfl
theorem one_dig (n : Nat) (h : n < 10) : strOfNums [wrap64 (48 + (n : Int)) % 256] = bs [UInt8.ofNat (48 + n)] := by
  have : ∀ m : Fin 10, strOfNums [wrap64 (48 + ((m.val : Nat) : Int)) % 256] = bs [UInt8.ofNat (48 + m.val)] := by decide +kernel
  exact this ⟨n, h⟩
theorem rdigits_ev (n : Nat) (hn : n < 1000000) : Ev (fun k => bureauref18_digits.f k (n : Int)) (bs (D10 n)) := by
  unfold bureauref18_digits.f
  have loop : ∀ (n : Nat) (t : List UInt8), n < 1000000 → n + t.length ≤ 1100000 → Ev (fun k => bureauref18_digits.l0 k (n : Int) (bs t)) (bs (D10 n ++ t)) := by
    intro n
    induction n using Nat.strongRecOn with
    | _ n ih =>
      intro t hn ht
      refine Ev.step (fun k => by simp only [bureauref18_digits.l0]; rfl) ?_
      by_cases h : n < 10
      · refine Ev.neg (by omega) (Ev.bind (Ev.now _) (Ev.pos ?_ ?_))
        · rw [one_dig n h, bs_size, bs_size]; simp; omega
        · rw [one_dig n h, bs_append, d10_lt h]; exact Ev.now _
      · have e1 : Int.tmod (n : Int) 10 = ((n % 10 : Nat) : Int) := by rw [Int.tmod_eq_emod_of_nonneg (by omega)]; rfl
        have e2 : wrap64 (Int.tdiv (n : Int) 10) = ((n / 10 : Nat) : Int) := by rw [Int.tdiv_eq_ediv_of_nonneg (by omega)]; unfold wrap64; omega
        rw [e1, e2]
        refine Ev.pos (by omega) (Ev.bind (Ev.now _) (Ev.pos ?_ ?_))
        · rw [one_dig _ (by omega), bs_size, bs_size]; simp; omega
        · rw [one_dig _ (by omega), bs_append]
          refine ev_val (ih (n / 10) (by omega) _ (by omega) ?_) ?_
          · simp; omega
          · rw [d10_ge h, List.append_assoc]
  have := loop n [] hn (by simp; omega)
  rw [List.append_nil] at this
  exact this
def sq : List UInt8 → List (List UInt8)
  | [] => [[]]
  | x :: r => if x = 32 then [] :: sq r else match sq r with | [] => [[x]] | p :: ps => (x :: p) :: ps
theorem sq_cut : ∀ (x y : List UInt8), (∀ c ∈ x, c ≠ 32) → sq (x ++ 32 :: y) = x :: sq y
  | [], y, _ => by simp [sq]
  | a :: x, y, h => by
    rw [List.cons_append, sq, if_neg (h a List.mem_cons_self), sq_cut x y (fun c hc => h c (List.mem_cons_of_mem _ hc))]
theorem sq_one : ∀ (x : List UInt8), (∀ c ∈ x, c ≠ 32) → sq x = [x]
  | [], _ => rfl
  | a :: x, h => by
    rw [sq, if_neg (h a List.mem_cons_self), sq_one x (fun c hc => h c (List.mem_cons_of_mem _ hc))]
theorem split32_is : ∀ (n : Nat) (l : List UInt8), l.length ≤ n → Lib.splitK [32] 0 (Lib.count l [32]) l = sq l := by
  intro n
  induction n with
  | zero =>
    intro l hl
    obtain rfl : l = [] := List.length_eq_zero_iff.1 (by omega)
    rfl
  | succ n ih =>
    intro l hl
    rcases (show Lib.index l [32] = -1 ∨ ∃ i : Nat, Lib.index l [32] = i by
      have := Lib.indexByte_ge l 32
      rw [← Lib.index_one] at this
      rcases Int.lt_or_le (Lib.index l [32]) 0 with h | h
      · left; omega
      · right; exact ⟨(Lib.index l [32]).toNat, by omega⟩) with h | ⟨i, h⟩
    · rw [Lib.count_miss h]
      show [l] = sq l
      rw [Lib.index_one] at h
      refine (sq_one l (fun c hc e => ?_)).symm
      obtain ⟨k, hk⟩ := List.getElem?_of_mem hc
      exact Lib.indexByte_none h k (by rw [hk, e])
    · rw [Lib.count_hit (by simp) h, Nat.add_comm]
      have hne : ¬ (Lib.index l [32] == -1) = true := fun e => by have := beq_iff_eq.1 e; omega
      rw [Lib.splitK, if_neg hne, h, Int.toNat_natCast]
      rw [Lib.index_one] at h
      obtain ⟨h1, h2⟩ := Lib.indexByte_some h
      have hlt := (List.getElem?_eq_some_iff.1 h1).1
      have e : l = l.take i ++ 32 :: l.drop (i + 1) := by
        have hd : l.drop i = 32 :: l.drop (i + 1) := by
          rw [List.drop_eq_getElem_cons hlt]
          congr 1
          have := List.getElem?_eq_getElem hlt
          rw [h1] at this
          exact (Option.some.inj this).symm
        rw [← hd, List.take_append_drop]
      conv => rhs; rw [e]
      rw [sq_cut _ _ (fun c hc e => ?_)]
      · show (l.take (i + 0)) :: Lib.splitK [32] 0 (Lib.count (l.drop (i + 1)) [32]) (l.drop (i + 1)) = _
        rw [ih (l.drop (i + 1)) (by rw [List.length_drop]; omega), Nat.add_zero]
      · obtain ⟨k, hk⟩ := List.getElem?_of_mem hc
        have hk2 := (List.getElem?_eq_some_iff.1 hk).1
        rw [List.length_take] at hk2
        rw [List.getElem?_take_of_lt (by omega), e] at hk
        exact h2 k (by omega) hk
theorem split32_ev (s : ByteArray) (hs : s.size ≤ 4096) : strings_Split.f s (⟨#[32]⟩ : ByteArray) = some ((sq s.data.toList).map bs) := by
  unfold strings_Split.f
  rw [if_pos ⟨rfl, by omega⟩]
  congr 1
  have h := Lib.splitB_data ⟨#[32]⟩ 0 (Lib.countB s ⟨#[32]⟩) s
  rw [show (⟨#[32]⟩ : ByteArray).data.toList = [32] from rfl] at h
  rw [show Lib.countB s ⟨#[32]⟩ = Lib.count s.data.toList [32] from rfl] at h ⊢
  rw [split32_is _ _ (Nat.le_refl _)] at h
  rw [← h, List.map_map]
  conv => lhs; rw [← List.map_id (Lib.splitB ⟨#[32]⟩ 0 (Lib.count s.data.toList [32]) s)]
  apply List.map_congr_left
  intro x _
  exact (bs_of x).symm
end Go.Proofs.YtcbiilbmldinhaaDoor.PB
end

section
namespace Go.Proofs.YtcbiilbmldinhaaDoor.PB
open Go.RowKit Go.Proofs.YtcbiilbmldinhaaDoorW.PrintWords Go.Proofs.YtcbiilbmldinhaaDoorW.PrintLast Go.Proofs.YtcbiilbmldinhaaDoorW.PrintMore
set_option maxRecDepth 100000
set_option linter.unusedVariables false
set_option linter.unusedSimpArgs false
abbrev wordL (kd : Int) : List UInt8 := (wordB kd).data.toList
def recT (L : Nat) (kd : Int) (w o e : Nat) : List UInt8 := wordL kd ++ 32 :: (D10 w ++ 32 :: (D10 o ++ 32 :: (D10 e ++ 32 :: textOf (cats L))))
theorem mayB_iff {kd w o e : Int} : mayB kd w o e = true ↔ (1 ≤ kd ∧ kd ≤ 4) ∧ (0 ≤ w ∧ w ≤ 65535) ∧ (0 ≤ o ∧ o ≤ 65535) ∧ 0 ≤ e ∧ e ≤ 65535 := by
  unfold mayB withinB
  simp [and_assoc]
theorem kd_cases {kd : Int} (h : 1 ≤ kd ∧ kd ≤ 4) : kd = 1 ∨ kd = 2 ∨ kd = 3 ∨ kd = 4 := by omega
theorem word_no32 {kd : Int} (h : 1 ≤ kd ∧ kd ≤ 4) : ∀ c ∈ wordL kd, c ≠ 32 := by
  rcases kd_cases h with rfl | rfl | rfl | rfl <;> decide +kernel
theorem word_len {kd : Int} (h : 1 ≤ kd ∧ kd ≤ 4) : (wordL kd).length ≤ 7 := by
  rcases kd_cases h with rfl | rfl | rfl | rfl <;> decide +kernel
theorem kind_word {kd : Int} (h : 1 ≤ kd ∧ kd ≤ 4) : kindUpto (wordB kd) 4 = kd := by
  rcases kd_cases h with rfl | rfl | rfl | rfl <;> decide +kernel
theorem d10_no32 (n : Nat) : ∀ c ∈ D10 n, c ≠ 32 := fun c hc e => by
  have := d10_all n c hc
  subst e
  have : (32 : UInt8).toNat = 32 := rfl
  omega
theorem dig2_no32 (n : Nat) (h : n < 64) : ∀ c ∈ dig2 n, c ≠ 32 := by
  rw [← dig2_is n h]; exact d10_no32 n
theorem text_no32 : ∀ (cs : List Nat), (∀ x ∈ cs, x < 64) → ∀ c ∈ textOf cs, c ≠ 32
  | [], _ => by decide
  | x :: r, h => by
    intro c hc
    simp only [textOf, List.mem_append] at hc
    rcases hc with hc | hc
    · exact dig2_no32 x (h x List.mem_cons_self) c hc
    · unfold tailD at hc
      obtain ⟨y, hy, hc⟩ := List.mem_flatMap.1 hc
      rcases List.mem_cons.1 hc with rfl | hc
      · decide
      · exact dig2_no32 y (h y (List.mem_cons_of_mem _ hy)) c hc
theorem sq_rec {L : Nat} {kd : Int} {w o e : Nat} (h : 1 ≤ kd ∧ kd ≤ 4) : sq (recT L kd w o e) = [wordL kd, D10 w, D10 o, D10 e, textOf (cats L)] := by
  unfold recT
  rw [sq_cut _ _ (word_no32 h), sq_cut _ _ (d10_no32 w), sq_cut _ _ (d10_no32 o), sq_cut _ _ (d10_no32 e), sq_one _ (text_no32 _ (cats_lt L))]
theorem rec_len {L : Nat} {kd : Int} {w o e : Nat} (h : 1 ≤ kd ∧ kd ≤ 4) (hw : w ≤ 65535) (ho : o ≤ 65535) (he : e ≤ 65535) : (recT L kd w o e).length ≤ 300 := by
  have := word_len h
  have := d10_len w hw
  have := d10_len o ho
  have := d10_len e he
  have := textOf_len (cats L)
  have := cats_len L
  unfold recT
  simp only [List.length_append, List.length_cons]
  omega
theorem aprint_yes (L : Nat) (hL : L < 18446744073709551616) (kd : Int) (w o e : Nat) (h : mayB kd w o e = true) : Ev (fun k => audit_Print2.f k (L : Int) kd w o e) (bs (recT L kd w o e), 0) := by
  obtain ⟨hk, hw, ho, he⟩ := mayB_iff.1 h
  have h1 := word_len hk
  have h2 := d10_len w (by omega)
  have h3 := d10_len o (by omega)
  have h4 := d10_len e (by omega)
  have h5 := textOf_len (cats L)
  have h6 := cats_len L
  unfold audit_Print2.f
  refine Ev.bind (ev_val (may_ev _ _ _ _ _) h) (Ev.pos rfl ?_)
  rw [wordB_eq]
  refine Ev.bind (Ev.now _) ?_
  rw [itoa_d10 w (by omega), itoa_d10 o (by omega), itoa_d10 e (by omega)]
  refine Ev.bind (Ev.now _) (Ev.bind (Ev.now _) (Ev.bind (Ev.now _) (Ev.bind (print_ev L hL) ?_)))
  have ej : Lib.join ([wordB kd, bs (D10 w), bs (D10 o), bs (D10 e), bs (textOf (cats L))].map (fun x : ByteArray => x.data.toList)) (⟨#[32]⟩ : ByteArray).data.toList = recT L kd w o e := by
    simp [Lib.join, recT, bs_data, List.append_assoc]
  refine Ev.bind (a := bs (recT L kd w o e)) ?_ (Ev.now _)
  unfold strings_Join.f
  rw [ej, if_pos ⟨by simp, Nat.le_trans (rec_len hk (by omega) (by omega) (by omega)) (by omega)⟩]
  exact Ev.now _
theorem aprint_no (a0 kd w o e : Int) (h : mayB kd w o e = false) : Ev (fun k => audit_Print2.f k a0 kd w o e) (⟨#[]⟩, 2) := by
  unfold audit_Print2.f
  exact Ev.bind (ev_val (may_ev _ _ _ _ _) h) (Ev.neg (by decide) (Ev.now _))
theorem rmay18 (a0 a1 a2 a3 a4 : Int) : bureauref18_May.f a0 a1 a2 a3 a4 = some (mayB a1 a2 a3 a4) := by
  have hw : ∀ n : Int, bureauref18_within.f n = some (withinB n) := by
    intro n
    unfold bureauref18_within.f withinB
    by_cases h : n ≥ 0
    · rw [if_pos h, decide_eq_true (show 0 ≤ n by omega), Bool.true_and]
    · rw [if_neg h, decide_eq_false (show ¬ 0 ≤ n by omega), Bool.false_and]
  unfold bureauref18_May.f mayB
  rw [hw, hw, hw]
  by_cases h1 : a1 ≥ 1
  · rw [if_pos h1, decide_eq_true (show 1 ≤ a1 by omega)]
    by_cases h2 : a1 ≤ 4
    · rw [if_pos h2, decide_eq_true h2]
      cases withinB a2 <;> cases withinB a3 <;> cases withinB a4 <;> rfl
    · rw [if_neg h2, decide_eq_false h2]; rfl
  · rw [if_neg h1, decide_eq_false (show ¬ 1 ≤ a1 by omega)]; rfl
theorem rword18 {kd : Int} (h : 1 ≤ kd ∧ kd ≤ 4) : bureauref18_word.f kd = some (bs (wordL kd)) := by
  rw [bs_of]
  rcases kd_cases h with rfl | rfl | rfl | rfl <;> rfl
theorem rprint18_yes (L : Nat) (hL : L < 18446744073709551616) (kd : Int) (w o e : Nat) (h : mayB kd w o e = true) : Ev (fun k => bureauref18_Print.f k (L : Int) kd w o e) (bs (recT L kd w o e), 0) := by
  obtain ⟨hk, hw, ho, he⟩ := mayB_iff.1 h
  have h1 := word_len hk
  have h2 := d10_len w (by omega)
  have h3 := d10_len o (by omega)
  have h4 := d10_len e (by omega)
  have h5 := textOf_len (cats L)
  have h6 := cats_len L
  unfold bureauref18_Print.f
  rw [rmay18, h]
  refine Ev.bind (Ev.now _) (Ev.pos rfl ?_)
  rw [rword18 hk, show (⟨#[32]⟩ : ByteArray) = bs [32] from rfl]
  refine Ev.bind (Ev.now _) (Ev.pos ?_ (Ev.bind (rdigits_ev w (by omega)) ?_))
  · rw [bs_size]; omega
  rw [bs_append, bs_append, bs_append]
  refine Ev.pos ?_ (Ev.pos ?_ (Ev.bind (rdigits_ev o (by omega)) ?_))
  · simp only [bs_size, List.length_append, List.length_cons, List.length_nil]; omega
  · simp only [bs_size, List.length_append, List.length_cons, List.length_nil]; omega
  rw [bs_append, bs_append]
  refine Ev.pos ?_ (Ev.pos ?_ (Ev.bind (rdigits_ev e (by omega)) ?_))
  · simp only [bs_size, List.length_append, List.length_cons, List.length_nil]; omega
  · simp only [bs_size, List.length_append, List.length_cons, List.length_nil]; omega
  rw [bs_append, bs_append]
  refine Ev.pos ?_ (Ev.pos ?_ (Ev.bind (rprint_ev L hL) ?_))
  · simp only [bs_size, List.length_append, List.length_cons, List.length_nil]; omega
  · simp only [bs_size, List.length_append, List.length_cons, List.length_nil]; omega
  rw [bs_append]
  refine Ev.pos ?_ (ev_val (Ev.now _) ?_)
  · simp only [bs_size, List.length_append, List.length_cons, List.length_nil]; omega
  · unfold recT
    simp [List.append_assoc]
theorem rprint18_no (a0 kd w o e : Int) (h : mayB kd w o e = false) : Ev (fun k => bureauref18_Print.f k a0 kd w o e) (⟨#[]⟩, 2) := by
  unfold bureauref18_Print.f
  rw [rmay18, h]
  exact Ev.bind (Ev.now _) (Ev.neg (by decide) (Ev.now _))
end Go.Proofs.YtcbiilbmldinhaaDoor.PB
end

section
namespace Go.Proofs.YtcbiilbmldinhaaDoor.PB
open Go.RowKit Go.Proofs.YtcbiilbmldinhaaDoorW.PrintWords Go.Proofs.YtcbiilbmldinhaaDoorW.PrintLast Go.Proofs.YtcbiilbmldinhaaDoorW.PrintMore
set_option maxRecDepth 100000
set_option linter.unusedVariables false
set_option linter.unusedSimpArgs false
def okR (L : Nat) (kd : Int) (w o e : Nat) : Prop := L < 18446744073709551616 ∧ mayB kd w o e = true
theorem split_rec {L : Nat} {kd : Int} {w o e : Nat} (h : okR L kd w o e) : strings_Split.f (bs (recT L kd w o e)) (⟨#[32]⟩ : ByteArray) = some [wordB kd, bs (D10 w), bs (D10 o), bs (D10 e), bs (textOf (cats L))] := by
  obtain ⟨hk, hw, ho, he⟩ := mayB_iff.1 h.2
  have hl := rec_len (L := L) hk (w := w) (o := o) (e := e) (by omega) (by omega) (by omega)
  rw [split32_ev _ (by rw [bs_size]; omega), bs_data, sq_rec hk]
  simp [bs_of]
theorem aparse_yes {L : Nat} {kd : Int} {w o e : Nat} (h : okR L kd w o e) : Ev (fun k => audit_Parse.f k (bs (recT L kd w o e))) ((L : Int), kd, (w : Int), (o : Int), (e : Int), 0) := by
  obtain ⟨hk, hw, ho, he⟩ := mayB_iff.1 h.2
  have hl := rec_len (L := L) hk (w := w) (o := o) (e := e) (by omega) (by omega) (by omega)
  have l1 := word_len hk
  have l2 := d10_len w (by omega)
  have l3 := d10_len o (by omega)
  have l4 := d10_len e (by omega)
  have l5 := textOf_len (cats L)
  have l6 := cats_len L
  have hws : (wordB kd).size ≤ 7 := by rw [Lib.size_eq]; exact l1
  unfold audit_Parse.f
  refine Ev.pos (by rw [bs_size]; omega) ?_
  rw [split_rec h]
  refine Ev.bind (Ev.now _) (Ev.pos rfl (Ev.pos ?_ ?_))
  · simp only [List.all_cons, List.all_nil, Bool.and_true, Bool.and_eq_true, decide_eq_true_eq, bs_size]
    omega
  · have hp : Ev (fun k => label_Parse.f k (bs (textOf (cats L)))) ((L : Int), 0) := by
      rcases parse_ev (bs (textOf (cats L))) (by rw [bs_size]; omega) with ⟨n, hn, hev⟩ | ⟨hno, _⟩
      · obtain rfl : n = L := text_inj hn.1 h.1 (bs_inj hn.2.symm)
        exact hev
      · exact absurd ⟨h.1, rfl⟩ (hno L)
    refine Ev.bind hp ?_
    have e1 : kindUpto ([wordB kd, bs (D10 w), bs (D10 o), bs (D10 e), bs (textOf (cats L))].getD 0 ⟨#[]⟩) 4 = kd := kind_word hk
    have e2 : atoiV ([wordB kd, bs (D10 w), bs (D10 o), bs (D10 e), bs (textOf (cats L))].getD 1 ⟨#[]⟩) = w := atoi_d10 w (by omega)
    have e3 : atoiV ([wordB kd, bs (D10 w), bs (D10 o), bs (D10 e), bs (textOf (cats L))].getD 2 ⟨#[]⟩) = o := atoi_d10 o (by omega)
    have e4 : atoiV ([wordB kd, bs (D10 w), bs (D10 o), bs (D10 e), bs (textOf (cats L))].getD 3 ⟨#[]⟩) = e := atoi_d10 e (by omega)
    rw [e1, e2, e3, e4]
    refine Ev.bind (aprint_yes L h.1 kd w o e h.2) ?_
    rw [if_pos ⟨rfl, rfl⟩]
    exact Ev.now _
theorem ev_det {α : Type} {g : Nat → Option α} {a b : α} (h : Ev g a) (k : Ev g b) : a = b := by
  obtain ⟨K, hK⟩ := h
  obtain ⟨K', hK'⟩ := k
  have h1 := hK (max K K') (Nat.le_max_left _ _)
  have h2 := hK' (max K K') (Nat.le_max_right _ _)
  rw [h1] at h2
  exact Option.some.inj h2
theorem rec_inj {L : Nat} {kd : Int} {w o e : Nat} {L' : Nat} {kd' : Int} {w' o' e' : Nat} (h : okR L kd w o e) (h' : okR L' kd' w' o' e') (he : recT L kd w o e = recT L' kd' w' o' e') : L = L' ∧ kd = kd' ∧ w = w' ∧ o = o' ∧ e = e' := by
  have h1 := aparse_yes h
  rw [he] at h1
  have := ev_det h1 (aparse_yes h')
  simp only [Prod.mk.injEq, and_true] at this
  obtain ⟨a, b, c, d, e⟩ := this
  exact ⟨by omega, b, by omega, by omega, by omega⟩
theorem nat64 {a : Int} (h : (Lit.int .u64 a).wf = true) : ∃ n : Nat, a = (n : Int) ∧ n < 18446744073709551616 := nat_of (wf_u64 h)
theorem prints_ev (L : Nat) (hL : L < 18446744073709551616) (kd w o e : Int) : ∃ t c, Ev (fun k => audit_Print2.f k (L : Int) kd w o e) (t, c) ∧ Ev (fun k => bureauref18_Print.f k (L : Int) kd w o e) (t, c) := by
  cases h : mayB kd w o e
  · exact ⟨_, _, aprint_no _ _ _ _ _ h, rprint18_no _ _ _ _ _ h⟩
  · obtain ⟨hk, hw, ho, he⟩ := mayB_iff.1 h
    obtain ⟨w, rfl⟩ := Int.eq_ofNat_of_zero_le hw.1
    obtain ⟨o, rfl⟩ := Int.eq_ofNat_of_zero_le ho.1
    obtain ⟨e, rfl⟩ := Int.eq_ofNat_of_zero_le he.1
    exact ⟨_, _, aprint_yes L hL kd w o e h, rprint18_yes L hL kd w o e h⟩
theorem ev_get {g : Nat → Option Bool} {r : Bool} (h : Ev g r) : ∃ k, g k = some r := ⟨h.choose, h.choose_spec _ (Nat.le_refl _)⟩
theorem back_ev (a0 a1 a2 a3 a4 b0 b1 b2 b3 b4 : Int) (w0 : (Lit.int .u64 a0).wf = true) (w1 : (Lit.int .u64 b0).wf = true) : Ev (fun k => bureaulaw18_AuditBack.f k a0 a1 a2 a3 a4 b0 b1 b2 b3 b4) true := by
  obtain ⟨L, rfl, hL⟩ := nat64 w0
  obtain ⟨M, rfl, hM⟩ := nat64 w1
  unfold bureaulaw18_AuditBack.f
  refine Ev.bind (Ev.now true) (Ev.pos rfl (Ev.bind (Ev.now _) ?_))
  have hj : ∀ t u : ByteArray, mayB a1 a2 a3 a4 = false ∨ mayB b1 b2 b3 b4 = false → Ev (fun k => bureaulaw18_AuditBack.j0 k t u true (L : Int) a1 a2 a3 a4 (M : Int) b1 b2 b3 b4) true := by
    intro t u h
    refine Ev.step (fun k => by simp only [bureaulaw18_AuditBack.j0]; rfl) ?_
    rw [rmay18, rmay18]
    refine Ev.pos (by first | trivial | rfl) (Ev.bind (Ev.now _) (Ev.ite' (fun h1 => Ev.bind (Ev.now _) (ev_val (Ev.now _) ?_)) (fun _ => Ev.now _)))
    rcases h with h | h
    · rw [h] at h1; cases h1
    · rw [h]; rfl
  cases ha : mayB a1 a2 a3 a4
  · refine Ev.bind (aprint_no _ _ _ _ _ ha) (Ev.bind (Ev.now _) ?_)
    obtain ⟨t, c, h1, _⟩ := prints_ev M hM b1 b2 b3 b4
    exact Ev.bind h1 (Ev.neg (by decide) (hj _ _ (.inl ha)))
  · obtain ⟨hk, hw, ho, he⟩ := mayB_iff.1 ha
    obtain ⟨w, rfl⟩ := Int.eq_ofNat_of_zero_le hw.1
    obtain ⟨o, rfl⟩ := Int.eq_ofNat_of_zero_le ho.1
    obtain ⟨e, rfl⟩ := Int.eq_ofNat_of_zero_le he.1
    refine Ev.bind (aprint_yes L hL a1 w o e ha) (Ev.bind (Ev.now _) ?_)
    cases hb : mayB b1 b2 b3 b4
    · exact Ev.bind (aprint_no _ _ _ _ _ hb) (Ev.pos rfl (hj _ _ (.inr hb)))
    · obtain ⟨hk', hw', ho', he'⟩ := mayB_iff.1 hb
      obtain ⟨w', rfl⟩ := Int.eq_ofNat_of_zero_le hw'.1
      obtain ⟨o', rfl⟩ := Int.eq_ofNat_of_zero_le ho'.1
      obtain ⟨e', rfl⟩ := Int.eq_ofNat_of_zero_le he'.1
      refine Ev.bind (aprint_yes M hM b1 w' o' e' hb) (Ev.pos rfl ?_)
      refine Ev.step (fun k => by simp only [bureaulaw18_AuditBack.j0]; rfl) ?_
      refine Ev.neg (by decide) (Ev.bind (aparse_yes ⟨hL, ha⟩) (Ev.pos rfl (Ev.bind (Ev.now _) (Ev.pos ?_ (ev_val (Ev.now _) ?_)))))
      · simp
      · rw [beq_iff_eq, Bool.eq_iff_iff]
        constructor
        · intro h
          obtain ⟨rfl, rfl, rfl, rfl, rfl⟩ := rec_inj ⟨hL, ha⟩ ⟨hM, hb⟩ (bs_inj (toList_inj (beq_iff_eq.1 h)))
          simp
        · intro h
          simp only [Bool.and_eq_true, beq_iff_eq] at h
          obtain ⟨h0, rfl, h2, h3, h4⟩ := h
          obtain rfl : L = M := by omega
          obtain rfl : w = w' := by omega
          obtain rfl : o = o' := by omega
          obtain rfl : e = e' := by omega
          exact beq_iff_eq.2 rfl
end Go.Proofs.YtcbiilbmldinhaaDoor.PB
end

section
namespace Go.Proofs.YtcbiilbmldinhaaDoor.Opn
open Go.ChangeShapes Go.WideShapes Go.Deep Go.Proofs.YtcbiilbmldinhaaDoorW.PrintWords
set_option linter.unusedVariables false
def Opn {α : Type} (P : Program) (w : World) (t : TypeId) (d : Kd α) (wf : α → Prop) : Prop :=
  ∀ (H : Type) (enc : TypeId × Value → H) (base : Nat) (spare : Nat → Bool) (held : Bool) (fuel : Nat) (cs : List Value) (x : DataW H × List MemPlace),
    DataW.trod enc P w base spare held fuel t cs = some x → (∀ n ∈ x.1.weights P t, n ≤ reachBytes) → ∃ a : α, d.K w a cs ∧ wf a
section
variable {P : Program} {w : World}
theorem int {t : TypeId} {k : IntKind} (hu : P.underlying t = some (.int k)) : Opn P w t (Kd.int k) (fun n => (Lit.int k n).wf = true) := by
  intro H enc base spare held fuel cs x h _
  obtain ⟨n, rfl, _, hw⟩ := DataW.trod_int hu h
  exact ⟨n, rfl, hw⟩
theorem bool {t : TypeId} (hu : P.underlying t = some .bool) : Opn P w t Kd.bool (fun _ => True) := by
  intro H enc base spare held fuel cs x h _
  obtain ⟨b, rfl, _⟩ := DataW.trod_bool hu h
  exact ⟨b, rfl, trivial⟩
theorem string {t : TypeId} (hu : P.underlying t = some .string) : Opn P w t Kd.string (fun s => s.size ≤ 140737488351232) := by
  intro H enc base spare held fuel cs x h hz
  obtain ⟨s, rfl, rfl, _⟩ := DataW.trod_string hu h
  refine ⟨s, rfl, ?_⟩
  have := hz s.data.toList.length (by simp [DataW.weights])
  rw [data_length] at this
  exact this
theorem weightsAll_mem {H : Type} {e : TypeId} : ∀ {ds : List (DataW H)} {d : DataW H}, d ∈ ds → ∀ n ∈ d.weights P e, n ∈ DataW.weightsAll P e ds
  | d0 :: ds, d, hd, n, hn => by
    simp only [DataW.weightsAll, List.mem_append]
    rcases List.mem_cons.1 hd with rfl | hd
    · exact .inl hn
    · exact .inr (weightsAll_mem hd n hn)
theorem slice {α : Type} {t e : TypeId} {d : Kd α} {wf : α → Prop} (hu : P.underlying t = some (.slice e)) (hc : P.cellsOf e = d.sz) {B : Nat} (hB : P.bytesOf e = B) (ho : Opn P w e d wf) :
    Opn P w t (Kd.slice e d) (fun xs => xs.length * B ≤ 140737488351232 ∧ ∀ x ∈ xs, wf x) := by
  intro H enc base spare held fuel cs x h hz
  rcases open_slice hu h with ⟨rfl, rfl⟩ | ⟨a, len, cap, m, n, D, Pl, rfl, hb, hl, hm, hmm, rfl, hel⟩
  · exact ⟨[], ⟨none, 0, rfl, Nat.le_refl _, Kd.C_nil _ _⟩, by simp, by intro x hx; cases hx⟩
  · simp only [DataW.weights, hu, List.mem_cons, List.mem_append] at hz
    have hlm : len ≤ m := by rw [hmm]; split <;> omega
    have hall : ∀ i, i < len → ∃ a' : α, (∃ cs', w.cells? base (a.add (i * P.cellsOf e)) (P.cellsOf e) = some cs' ∧ d.K w a' cs') ∧ wf a' := fun i hi => by
      obtain ⟨cs', h1, h2⟩ := hel i (by omega)
      obtain ⟨a', h3, h4⟩ := ho H enc base spare held n cs' _ h2 (fun q hq => hz q (.inr (.inl (weightsAll_mem (List.mem_map.2 ⟨i, List.mem_range.2 hi, rfl⟩) q hq))))
      exact ⟨a', ⟨cs', h1, h3⟩, h4⟩
    obtain ⟨xs, hxs, hx⟩ : ∃ xs : List α, xs.length = len ∧ ∀ i, ∀ h : i < xs.length, (∃ cs', w.cells? base (a.add (i * P.cellsOf e)) (P.cellsOf e) = some cs' ∧ d.K w xs[i] cs') ∧ wf xs[i] := by
      clear hz hel hlm hmm hm hl h
      induction len with
      | zero => exact ⟨[], rfl, fun i h => absurd h (by simp)⟩
      | succ q ih =>
        obtain ⟨xs, h1, h2⟩ := ih (fun i hi => hall i (by omega))
        obtain ⟨a', h3⟩ := hall q (by omega)
        refine ⟨xs ++ [a'], by simp [h1], fun i h => ?_⟩
        by_cases hi : i < xs.length
        · rw [List.getElem_append_left hi]; exact h2 i hi
        · have : i = q := by simp at h; omega
          subst this
          rw [List.getElem_append_right (by omega)]
          simpa using h3
    refine ⟨xs, ⟨some a, cap, by rw [hxs], by omega, rfl, by have : cap ≤ 9223372036854775807 := hm; omega, fun hp => ⟨a, rfl, fun i p hp => ?_⟩⟩, ?_, ?_⟩
    · have hi : i < xs.length := (List.getElem?_eq_some_iff.1 hp).1
      have hpe : p = xs[i] := by rw [List.getElem?_eq_getElem hi] at hp; exact (Option.some.inj hp).symm
      obtain ⟨⟨cs', h1, h2⟩, _⟩ := hx i hi
      rw [hc] at h1
      obtain ⟨_, hcl, hat⟩ := World.cells?_some h1
      refine ⟨cs', by rw [hcl], by rw [hpe]; exact h2, fun j u hu => ?_⟩
      have hj : j < d.sz := by have := (List.getElem?_eq_some_iff.1 hu).1; omega
      have := hat j hj
      rw [← Go.Deep.add_add, this, hu]
    · have := hz _ (.inl rfl)
      rw [hB] at this
      simp only [List.length_map, List.length_range] at this
      rw [hxs]
      exact Nat.le_trans (Nat.mul_le_mul_right _ (by omega)) this
    · intro x hxm
      obtain ⟨i, hi, rfl⟩ := List.mem_iff_getElem.1 hxm
      exact (hx i hi).2
end
end Go.Proofs.YtcbiilbmldinhaaDoor.Opn
end

section
namespace Go.Proofs.YtcbiilbmldinhaaDoor.PB
open Go.ChangeShapes Go.WideShapes Go.Proofs.YtcbiilbmldinhaaDoor Go.Proofs.YtcbiilbmldinhaaDoorW.PrintWords
set_option linter.unusedVariables false
def wf38 (x : S38) : Prop := ((Lit.int .u64 x.f0).wf = true) ∧ ((Lit.int .i64 x.f1).wf = true) ∧ ((Lit.int .i64 x.f2).wf = true) ∧ ((Lit.int .i64 x.f3).wf = true) ∧ ((Lit.int .i64 x.f4).wf = true)
theorem opn38 {w : World} : Opn.Opn Tryd.prog w 38 k38 wf38 := by
  intro H enc base spare held fuel cs x h hz
  obtain ⟨xs, n, _, rfl, hlen, hyl, hf⟩ := DataW.trod_struct Tryd.underlying38 h
  have hcl : cs.length = 5 := hlen.trans (by kernel_rfl)
  obtain ⟨y0, y1, y2, y3, y4, rfl⟩ : ∃ y0 y1 y2 y3 y4, xs = [y0, y1, y2, y3, y4] := by
    clear h hz hf hlen hcl; have hyl' : xs.length = 5 := hyl; clear hyl
    match xs, hyl' with | [y0, y1, y2, y3, y4], _ => exact ⟨y0, y1, y2, y3, y4, rfl⟩
  obtain ⟨c0, c1, c2, c3, c4, rfl⟩ : ∃ c0 c1 c2 c3 c4, cs = [c0, c1, c2, c3, c4] := by
    clear h hz hf hlen hyl
    match cs, hcl with | [c0, c1, c2, c3, c4], _ => exact ⟨c0, c1, c2, c3, c4, rfl⟩
  simp only [DataW.weights, Tryd.underlying38] at hz
  have h0 : DataW.trod enc Tryd.prog w base spare held n 34 [c0] = some y0 := by have z := hf 0 _ rfl; rwa [show Tryd.prog.cellsOf _ = 1 from by kernel_rfl] at z
  obtain ⟨a0, k0_, w0⟩ := (Opn.int Tryd.underlying34) H enc base spare held n _ _ h0 (fun q hq => hz q (by simp [DataW.weightsEach, hq]))
  have h1 : DataW.trod enc Tryd.prog w base spare held n 3 [c1] = some y1 := by have z := hf 1 _ rfl; rwa [show Tryd.prog.cellsOf _ = 1 from by kernel_rfl] at z
  obtain ⟨a1, k1_, w1⟩ := (Opn.int Tryd.underlying3) H enc base spare held n _ _ h1 (fun q hq => hz q (by simp [DataW.weightsEach, hq]))
  have h2 : DataW.trod enc Tryd.prog w base spare held n 3 [c2] = some y2 := by have z := hf 2 _ rfl; rwa [show Tryd.prog.cellsOf _ = 1 from by kernel_rfl] at z
  obtain ⟨a2, k2_, w2⟩ := (Opn.int Tryd.underlying3) H enc base spare held n _ _ h2 (fun q hq => hz q (by simp [DataW.weightsEach, hq]))
  have h3 : DataW.trod enc Tryd.prog w base spare held n 3 [c3] = some y3 := by have z := hf 3 _ rfl; rwa [show Tryd.prog.cellsOf _ = 1 from by kernel_rfl] at z
  obtain ⟨a3, k3_, w3⟩ := (Opn.int Tryd.underlying3) H enc base spare held n _ _ h3 (fun q hq => hz q (by simp [DataW.weightsEach, hq]))
  have h4 : DataW.trod enc Tryd.prog w base spare held n 3 [c4] = some y4 := by have z := hf 4 _ rfl; rwa [show Tryd.prog.cellsOf _ = 1 from by kernel_rfl] at z
  obtain ⟨a4, k4_, w4⟩ := (Opn.int Tryd.underlying3) H enc base spare held n _ _ h4 (fun q hq => hz q (by simp [DataW.weightsEach, hq]))
  exact ⟨⟨a0, a1, a2, a3, a4⟩, ⟨_, _, rfl, k0_, ⟨_, _, rfl, k1_, ⟨_, _, rfl, k2_, ⟨_, _, rfl, k3_, k4_⟩⟩⟩⟩, w0, w1, w2, w3, w4⟩
end Go.Proofs.YtcbiilbmldinhaaDoor.PB
end

section
namespace Go.Proofs.YtcbiilbmldinhaaDoor.PB
open Go.RowKit
set_option maxRecDepth 100000
theorem numOk_of (W : World) (h : laidMetH Tryd.prog Rows.auditTextsRow.laid W) : NumOk W := by
  rw [MakeChecks.laidMetH_plain _ _ _ (by kernel_rfl)] at h
  have h0 : laidMet Tryd.prog [("math/bits.deBruijn32tab", Rows.laid_math_bits_deBruijn32tab), ("math/bits.deBruijn64tab", Rows.laid_math_bits_deBruijn64tab), ("internal/strconv.uint64pow10", Lib.tabData .u64 Lib.pow10Tab), ("unicode/utf8.acceptRanges", Rows.laid_unicode_utf8_acceptRanges), ("strconv.ErrRange", Rows.laid_strconv_ErrRange), ("strconv.ErrSyntax", Rows.laid_strconv_ErrSyntax), ("unicode/utf8.first", Rows.laid_unicode_utf8_first)] W := h
  have hrow : ∀ u, Tryd.prog.typeName? 3 u = some "*errors.errorString" → u = 140 := fun u hu =>
    typeName_ptr_named (nm := "errors.errorString") (by rw [show "*" ++ "errors.errorString" = "*errors.errorString" by decide]; kernel_rfl) (by kernel_rfl) (by decide) u (by rw [show "*" ++ "errors.errorString" = "*errors.errorString" by decide]; exact hu)
  refine ⟨Lib.tabIs_of_head (g := 3) (t := 134) (e := 33) (n := 20) (by kernel_rfl) (by kernel_rfl) (by kernel_rfl) (by kernel_rfl) (by kernel_rfl) (by kernel_rfl) h0.tail.tail, ?_, ?_⟩
  · obtain ⟨a, s, hv, _⟩ := laid_sentinel (g := 0) (tp := 140) (te := 142) (ts := 9) h0.tail.tail.tail.tail.tail (by kernel_rfl) (by kernel_rfl) Tryd.underlying82 hrow Tryd.underlying140 Tryd.underlying142 rfl rfl Tryd.underlying9 (by kernel_rfl) (by kernel_rfl)
    exact ⟨_, _, hv⟩
  · obtain ⟨a, s, hv, _⟩ := laid_sentinel (g := 1) (tp := 140) (te := 142) (ts := 9) h0.tail.tail.tail.tail (by kernel_rfl) (by kernel_rfl) Tryd.underlying82 hrow Tryd.underlying140 Tryd.underlying142 rfl rfl Tryd.underlying9 (by kernel_rfl) (by kernel_rfl)
    exact ⟨_, _, hv⟩
end Go.Proofs.YtcbiilbmldinhaaDoor.PB
end

section
namespace Go.Proofs.YtcbiilbmldinhaaDoor.PB
open Go.RowKit Go.Proofs.YtcbiilbmldinhaaDoorW.PrintWords
set_option linter.unusedVariables false
theorem AuditBack_pure (x y : S38) (w0 : wf38 x) (w1 : wf38 y) : ∃ k, bureaulaw18_AuditBack.f k x.f0 x.f1 x.f2 x.f3 x.f4 y.f0 y.f1 y.f2 y.f3 y.f4 = some true :=
  ev_get (back_ev _ _ _ _ _ _ _ _ _ _ w0.1 w1.1)
end Go.Proofs.YtcbiilbmldinhaaDoor.PB
end

section
namespace Go.Proofs.YtcbiilbmldinhaaDoor.PB
open Go.ChangeShapes Go.WideShapes Go.ChangeAt Go.RowKit Go.Proofs.YtcbiilbmldinhaaDoorW.PrintWords
open Go.ChangeMaps (open_string shut_string)
set_option linter.unusedVariables false
namespace auditBack
open Go.Proofs.YtcbiilbmldinhaaDoor
theorem own : ownKnob Tryd.prog.godebug = none := by kernel_rfl
theorem laidOut : laidOutB Tryd.prog = true := by kernel_rfl
set_option maxRecDepth 100000 in
theorem lifted (os : Os) (started : os.Started) (H : Type) (enc : TypeId × Value → H) :
    ReturnsInHanded {} Tryd.checked os 9 .any (fun w args => (Rows.auditBackSpec.pre enc Tryd.prog Tryd.f9 [] false w args ∧ laidMetH Tryd.prog Rows.auditBackRow.laid w) ∧ sizedMet enc Tryd.prog Tryd.f9 (OpenSpec.ofChange Rows.auditBackSpec) false w args) (Rows.auditBackSpec.post enc Tryd.prog Tryd.f9 false true false false) := by
  refine returnsInHanded_of_change_and (C := Tryd.checked) (X := fun w _ => laidMetH Tryd.prog Rows.auditBackRow.laid w) (fun _ _ _ hh h => h.of_heap hh) own started (by kernel_rfl) Tryd.func9
    (ChangeSpec.witness_shaped (enc := enc) (C := Tryd.checked) (os := os) (X := fun w _ => laidMetH Tryd.prog Rows.auditBackRow.laid w) false (World.laidAll Tryd.prog os Rows.auditBackRow.laid) #[.agg #[.int .u64 0, .int .i64 0, .int .i64 0, .int .i64 0, .int .i64 0], .agg #[.int .u64 0, .int .i64 0, .int .i64 0, .int .i64 0, .int .i64 0]] 8 (World.laidAll_os _ _ _) (World.shaped_of_ZipB (by kernel_rfl) (by kernel_rfl)) (by kernel_rfl) (by kernel_rfl) (by kernel_rfl) (by rw [MakeChecks.laidMetH_plain _ _ _ (by kernel_rfl)]; exact laidMet_laidAll _ (by kernel_rfl) (by kernel_rfl))) ?_
  intro W base args ds gs before hval0 hW hcnd hsz0 hXL _
  have hsz : (DataW.weightsEach Tryd.prog (Tryd.f9.params.toList ++ Rows.auditBackSpec.plain.varTypes Tryd.prog) (ds ++ gs)).all (· ≤ reachBytes) = true := hsz0
  have hval : ∀ (j : Nat) t v, Tryd.f9.params[j]? = some t → args[j]? = some v → Value.okWide Tryd.prog W .any base t v := hval0
  have hW' := hW
  obtain ⟨p, q, hA0, hV, rfl, hfz, hnd⟩ := hW
  have hA : DataW.TrodAll enc Tryd.prog W 0 (fun _ => true) true Tryd.f9.params.toList args.toList ds p := hA0
  rw [Tryd.params9] at hA hval hsz
  obtain ⟨v0, vs0, d0, ds0, p0, q0, hargs, rfl, rfl, h0, r0⟩ := trodAll_cons hA
  obtain ⟨v1, vs1, d1, ds1, p1, q1, rfl, rfl, rfl, h1, r1⟩ := trodAll_cons r0
  obtain ⟨rfl, rfl, rfl⟩ := trodAll_nil r1
  obtain rfl : args = #[v0, v1] := by cases args; simp_all
  obtain ⟨rfl, rfl⟩ := trodVars_none hV
  have hz0 : ∀ n ∈ d0.weights Tryd.prog 38, n ≤ reachBytes := fun n hn => by have z := List.all_eq_true.1 hsz n (DataW.weights_mem_each (j := 0) rfl rfl n hn); simpa using z
  have kk0 := h0
  have lt0 : ∀ x ∈ p0, x.block < W.heap.size := by obtain ⟨m, hm⟩ := kk0; exact DataW.trod_lt m _ _ _ hm
  obtain ⟨cs0, rfl, cz0⟩ := okWide_struct Tryd.underlying38 (hval 0 38 v0 rfl rfl)
  obtain ⟨x0, hK0, w0⟩ : ∃ x : S38, k38.K W x cs0.toList ∧ wf38 x := by
    obtain ⟨fuel, hf⟩ := h0
    exact opn38 H enc _ _ _ fuel _ _ hf hz0
  obtain hcs0 := k38_open hK0
  obtain rfl : cs0 = #[.int .u64 x0.f0, .int .i64 x0.f1, .int .i64 x0.f2, .int .i64 x0.f3, .int .i64 x0.f4] := Array.toList_inj.1 hcs0
  have hz1 : ∀ n ∈ d1.weights Tryd.prog 38, n ≤ reachBytes := fun n hn => by have z := List.all_eq_true.1 hsz n (DataW.weights_mem_each (j := 1) rfl rfl n hn); simpa using z
  have kk1 := h1
  have lt1 : ∀ x ∈ p1, x.block < W.heap.size := by obtain ⟨m, hm⟩ := kk1; exact DataW.trod_lt m _ _ _ hm
  obtain ⟨cs1, rfl, cz1⟩ := okWide_struct Tryd.underlying38 (hval 1 38 v1 rfl rfl)
  obtain ⟨x1, hK1, w1⟩ : ∃ x : S38, k38.K W x cs1.toList ∧ wf38 x := by
    obtain ⟨fuel, hf⟩ := h1
    exact opn38 H enc _ _ _ fuel _ _ hf hz1
  obtain hcs1 := k38_open hK1
  obtain rfl : cs1 = #[.int .u64 x1.f0, .int .i64 x1.f1, .int .i64 x1.f2, .int .i64 x1.f3, .int .i64 x1.f4] := Array.toList_inj.1 hcs1
  clear hA0 hval0 hsz0 hsz
  obtain ⟨k, hk⟩ := AuditBack_pure x0 x1 w0 w1
  refine (bureaulaw18_AuditBack.calls k x0.f0 x0.f1 x0.f2 x0.f3 x0.f4 x1.f0 x1.f1 x1.f2 x1.f3 x1.f4 true W (PB.numOk_of W hXL)  hk).mono fun e W' ⟨he, bel⟩ => ?_
  subst he
  exact ⟨_, rfl, _, _, _, [], _, [], hW', trodAll_mk1 (shut_bool Tryd.underlying4 _), (trodAll_cons_mk (Below.trod laidOut (by kernel_rfl) (of_decide_eq_true (by kernel_rfl)) kk0 bel lt0) (trodAll_cons_mk (Below.trod laidOut (by kernel_rfl) (of_decide_eq_true (by kernel_rfl)) kk1 bel lt1) trodAll_mk0)), rfl, bel.frame _, fun h => by cases h⟩
theorem over : Rows.auditBackRow.holds Tryd.pinned (OpenSpec.ofChange Rows.auditBackSpec) :=
  OpenClaim.holds_of_wide 9 Tryd.f9 rfl rfl rfl rfl rfl rfl rfl ⟨rfl, rfl, rfl, rfl, rfl⟩ rfl rfl rfl rfl rfl (by kernel_rfl) Tryd.func9 (by kernel_rfl)
    (of_decide_eq_true (by kernel_rfl)) (by unfold Func.isWrapper; first | (rw [if_pos (by decide +kernel)]; kernel_rfl) | (rw [if_neg (by decide +kernel)]; exact ⟨rfl, rfl⟩))
    (fun os started H enc _ => lifted os started H enc)
theorem proved : Rows.AuditBackSaid := over
end auditBack
end Go.Proofs.YtcbiilbmldinhaaDoor.PB
namespace Go.Proofs.YtcbiilbmldinhaaDoor
theorem auditBack_holds : Rows.AuditBackSaid := PB.auditBack.proved
theorem auditBack_card : Rows.AuditBackCardSaid :=
  Claim7.holds_tied_plain_at .later [] [.data, .data, .data, .data, .sentinel, .sentinel, .pinned] true (true, "8468b460f20b78c7c63af62b12d0e325294c5ee833165461167e575c1ad1b535") true
    auditBack_holds (fun _ h => by cases h) (by kernel_rfl) (fun _ h => by cases h) auditBack_row_tie rfl ⟨rfl, rfl⟩ (by kernel_rfl) rfl
    (fun f fn hf hfn => by
      obtain rfl : f = 9 := Option.some.inj ((show Tryd.prog.funcNamed Rows.auditBackRow.func = some 9 by kernel_rfl).symm.trans hf) |>.symm
      obtain rfl : fn = Tryd.f9 := (Option.some.inj (Tryd.func9.symm.trans hfn)).symm
      exact ⟨by kernel_rfl, fun j t ht => by
        rw [Tryd.params9] at ht
        have hm : t ∈ [38, 38] := by simpa using Array.mem_of_getElem? ht
        have hall : ([38, 38].all fun u => !Tryd.prog.wantsStandIn u) = true := by kernel_rfl
        exact (show Tryd.prog.wantsStandIn t = false by simpa using List.all_eq_true.1 hall t hm)⟩)
    (by kernel_rfl)
#print axioms auditBack_card
end Go.Proofs.YtcbiilbmldinhaaDoor
end
