/- What the row hangs on, part 6. -/
import Derived.Test.YthpjagblnddjaaaQEditHides5
section
namespace Go.Proofs.Ythpjagblnddjaaa.PB
open Go.RowKit Go.Proofs.YthpjagblnddjaaaW.PrintWords Go.Proofs.YthpjagblnddjaaaW.PrintLast Go.Proofs.YthpjagblnddjaaaW.PrintMore
attribute [local go_sem] max2_int min2_int max_two min_two max_three min_three max_four min_four   
set_option linter.unusedVariables false
set_option linter.unusedSimpArgs false
theorem bn {w : World} {g : Nat} {o : Obj} (h : w.heap[g]? = some o) (n : Nat) : (w.drewN n).heap[g]? = some o := blk_drewN h n
theorem bd {w : World} {g : Nat} {o : Obj} (h : w.heap[g]? = some o) : w.drew.heap[g]? = some o := blk_drew h
theorem ba {w : World} {g : Nat} {o : Obj} (h : w.heap[g]? = some o) (o' : Obj) : (w.alloc o').heap[g]? = some o := blk_alloc h o'
theorem bs {w W : World} {g j : Nat} {v : Value} (h : Below w.heap.size w W) (hg : w.heap.size ≤ g) : Below w.heap.size w (W.setCell ⟨g, j, none⟩ v) := below_set h hg
def ehA : Code → Code
  | .seq a _ => a
  | c => c
def ehB : Code → Code
  | .seq _ b => b
  | c => c
noncomputable def ehRest : Code := ehB (ehB (ehB (Try.f16.body.getD .skip)))
set_option maxHeartbeats 8000000 in
set_option maxRecDepth 100000 in
theorem bureaulaw07_EditHides.rest (k kj4 : Nat) (HJ4 : Aside0 (kj4 + 1 ≤ k)) (a0_0 : ByteArray) (A0_1 : Option Addr) (c0_1 : Nat) (l0_1 : List (S100)) (a0_2 : ByteArray) (A0_3 : Option Addr) (c0_3 : Nat) (l0_3 : List (S100)) (a0_4 : ByteArray) (a0_5 a0_6 a0_7 a1 : Int) (r : Bool) (w wc : World) (gb775 : Nat)
    (HR0_1 : Aside0 (Kd.C k100 w A0_1 l0_1.length l0_1)) (HC0_1 : Aside0 (l0_1.length ≤ c0_1)) (HR0_3 : Aside0 (Kd.C k100 w A0_3 l0_3.length l0_3)) (HC0_3 : Aside0 (l0_3.length ≤ c0_3)) (GW775 GE775 : Aside0 (w.heap.size ≤ gb775))
    (BK775 : Aside0 (wc.heap[gb775]? = some (.cells #[.string a0_0, .slice A0_1 l0_1.length c0_1, .string a0_2, .slice A0_3 l0_3.length c0_3, .string a0_4, .int .i64 a0_5, .int .i64 a0_6, .int .u64 a0_7] 77 (0, 0)))) (HB : Aside0 (Below w.heap.size w wc))
    (H : ((bureauref04_Other.f kj4 a0_0 l0_1 a1 a0_4).bind fun bt779 => ((bureauref04_Other.f kj4 a0_2 l0_3 a1 a0_4).bind fun bt783 => ((edit_Of.f kj4 a0_0 l0_1 a0_5 a0_6 a0_2 l0_3).bind fun bt789 => ((edit_Of.f kj4 bt779.1 bt779.2 a0_5 a0_6 bt783.1 bt783.2).bind fun bt800 => (if bt789.2.2.2.2.2 = 0 then (bureaulaw07_EditHides.j1 kj4 a1 bt789.2.2.2.2.2 bt800.2.2.2.2.2 (bt800.2.2.2.2.2 != 0) a0_0 l0_1 a0_2 l0_3 a0_4 a0_5 a0_6 a0_7 bt779.1 bt779.2 bt789.1 bt789.2.1 bt789.2.2.1 bt789.2.2.2.1 bt789.2.2.2.2.1 bt800.1 bt800.2.1 bt800.2.2.1 bt800.2.2.2.1 bt800.2.2.2.2.1) else (bureaulaw07_EditHides.j1 kj4 a1 bt789.2.2.2.2.2 bt800.2.2.2.2.2 true a0_0 l0_1 a0_2 l0_3 a0_4 a0_5 a0_6 a0_7 bt779.1 bt779.2 bt789.1 bt789.2.1 bt789.2.2.1 bt789.2.2.2.1 bt789.2.2.2.2.1 bt800.1 bt800.2.1 bt800.2.2.1 bt800.2.2.2.1 bt800.2.2.2.2.1)))))) = some r)
    (K2 : Act → World → Prop) (hK2 : ∀ a w0, Code.wp Try.prog (ehB ehRest) (bodyPost Try.prog Try.f16 fun e w' => e = .returned (.bool r) ∧ Below w.heap.size w w') a w0 → K2 a w0) (u15 u16 u17 u18 u19 u20 u21 u22 u23 u24 u25 u26 u27 u28 u29 u30 u31 u33 u34 u35 u36 u37 u38 u39 u40 u41 u42 u43 u44 u45 u46 u47 u48 u49 u50 u51 u52 u53 u54 u55 u56 u57 u58 u59 u60 u61 u62 u63 u64 u65 u66 u67 u68 u69 u70 u71 u72 u73 u74 u75 u76 u77 u78 u79 u80 u81 u82 u83 u84 u85 u86 u87 u88 u89 u90 u91 u92 u93 u94 u95 u96 u97 u98 u99 u100 u101 u102 u103 u104 u105 u106 u107 u108 : Value) :
    Code.wp Try.prog (ehA ehRest) (Exit.then K2 (bodyPost Try.prog Try.f16 fun e w' => e = .returned (.bool r) ∧ Below w.heap.size w w')) ⟨#[.agg #[.string a0_0, .slice A0_1 l0_1.length c0_1, .string a0_2, .slice A0_3 l0_3.length c0_3, .string a0_4, .int .i64 a0_5, .int .i64 a0_6, .int .u64 a0_7], .int .u64 a1, .pointer (some ⟨gb775, 0, none⟩), undef, .bool false, undef, undef, undef, undef, undef, undef, undef, undef, undef, undef, u15, u16, u17, u18, u19, u20, u21, u22, u23, u24, u25, u26, u27, u28, u29, u30, u31, .bool false, u33, u34, u35, u36, u37, u38, u39, u40, u41, u42, u43, u44, u45, u46, u47, u48, u49, u50, u51, u52, u53, u54, u55, u56, u57, u58, u59, u60, u61, u62, u63, u64, u65, u66, u67, u68, u69, u70, u71, u72, u73, u74, u75, u76, u77, u78, u79, u80, u81, u82, u83, u84, u85, u86, u87, u88, u89, u90, u91, u92, u93, u94, u95, u96, u97, u98, u99, u100, u101, u102, u103, u104, u105, u106, u107, u108], []⟩ wc := by
  have hu77 := Try.underlying77
  have hu51 := Try.underlying51
  have hu64 := Try.underlying64
  conv at hK2 => enter [a, w0, 1, 2]; whnf
  conv => arg 2; whnf
  replace H := Option.bind_eq_some_iff.mp H
  obtain ⟨⟨t779, t780⟩, A240, H⟩ := H
  replace H : ((bureauref04_Other.f kj4 a0_2 l0_3 a1 a0_4).bind fun bt783 => ((edit_Of.f kj4 a0_0 l0_1 a0_5 a0_6 a0_2 l0_3).bind fun bt789 => ((edit_Of.f kj4 t779 t780 a0_5 a0_6 bt783.1 bt783.2).bind fun bt800 => (if bt789.2.2.2.2.2 = 0 then (bureaulaw07_EditHides.j1 kj4 a1 bt789.2.2.2.2.2 bt800.2.2.2.2.2 (bt800.2.2.2.2.2 != 0) a0_0 l0_1 a0_2 l0_3 a0_4 a0_5 a0_6 a0_7 t779 t780 bt789.1 bt789.2.1 bt789.2.2.1 bt789.2.2.2.1 bt789.2.2.2.2.1 bt800.1 bt800.2.1 bt800.2.2.1 bt800.2.2.2.1 bt800.2.2.2.2.1) else (bureaulaw07_EditHides.j1 kj4 a1 bt789.2.2.2.2.2 bt800.2.2.2.2.2 true a0_0 l0_1 a0_2 l0_3 a0_4 a0_5 a0_6 a0_7 t779 t780 bt789.1 bt789.2.1 bt789.2.2.1 bt789.2.2.2.1 bt789.2.2.2.2.1 bt800.1 bt800.2.1 bt800.2.2.1 bt800.2.2.2.1 bt800.2.2.2.2.1))))) = some r := H
  have A24 := aM A240
  clear A240
  replace H := Option.bind_eq_some_iff.mp H
  obtain ⟨⟨t783, t784⟩, A250, H⟩ := H
  replace H : ((edit_Of.f kj4 a0_0 l0_1 a0_5 a0_6 a0_2 l0_3).bind fun bt789 => ((edit_Of.f kj4 t779 t780 a0_5 a0_6 t783 t784).bind fun bt800 => (if bt789.2.2.2.2.2 = 0 then (bureaulaw07_EditHides.j1 kj4 a1 bt789.2.2.2.2.2 bt800.2.2.2.2.2 (bt800.2.2.2.2.2 != 0) a0_0 l0_1 a0_2 l0_3 a0_4 a0_5 a0_6 a0_7 t779 t780 bt789.1 bt789.2.1 bt789.2.2.1 bt789.2.2.2.1 bt789.2.2.2.2.1 bt800.1 bt800.2.1 bt800.2.2.1 bt800.2.2.2.1 bt800.2.2.2.2.1) else (bureaulaw07_EditHides.j1 kj4 a1 bt789.2.2.2.2.2 bt800.2.2.2.2.2 true a0_0 l0_1 a0_2 l0_3 a0_4 a0_5 a0_6 a0_7 t779 t780 bt789.1 bt789.2.1 bt789.2.2.1 bt789.2.2.2.1 bt789.2.2.2.2.1 bt800.1 bt800.2.1 bt800.2.2.1 bt800.2.2.2.1 bt800.2.2.2.2.1)))) = some r := H
  have A25 := aM A250
  clear A250
  replace H := Option.bind_eq_some_iff.mp H
  obtain ⟨⟨t789, t790, t791, t794, t795, t798⟩, A260, H⟩ := H
  replace H : ((edit_Of.f kj4 t779 t780 a0_5 a0_6 t783 t784).bind fun bt800 => (if t798 = 0 then (bureaulaw07_EditHides.j1 kj4 a1 t798 bt800.2.2.2.2.2 (bt800.2.2.2.2.2 != 0) a0_0 l0_1 a0_2 l0_3 a0_4 a0_5 a0_6 a0_7 t779 t780 t789 t790 t791 t794 t795 bt800.1 bt800.2.1 bt800.2.2.1 bt800.2.2.2.1 bt800.2.2.2.2.1) else (bureaulaw07_EditHides.j1 kj4 a1 t798 bt800.2.2.2.2.2 true a0_0 l0_1 a0_2 l0_3 a0_4 a0_5 a0_6 a0_7 t779 t780 t789 t790 t791 t794 t795 bt800.1 bt800.2.1 bt800.2.2.1 bt800.2.2.2.1 bt800.2.2.2.2.1))) = some r := H
  have A26 := aM A260
  clear A260
  replace H := Option.bind_eq_some_iff.mp H
  obtain ⟨⟨t800, t801, t802, t805, t806, t809⟩, A270, H⟩ := H
  replace H : (if t798 = 0 then (bureaulaw07_EditHides.j1 kj4 a1 t798 t809 (t809 != 0) a0_0 l0_1 a0_2 l0_3 a0_4 a0_5 a0_6 a0_7 t779 t780 t789 t790 t791 t794 t795 t800 t801 t802 t805 t806) else (bureaulaw07_EditHides.j1 kj4 a1 t798 t809 true a0_0 l0_1 a0_2 l0_3 a0_4 a0_5 a0_6 a0_7 t779 t780 t789 t790 t791 t794 t795 t800 t801 t802 t805 t806)) = some r := H
  have A27 := aM A270
  clear A270
  have HC28 := aM H
  clear H
  try go_wp2
  have n0_ := aM (blk_drew BK775.out)
  have n1_ := aM (below_drew1 HB.out)
  clear BK775
  clear HB
  have BK775 := n0_
  have HB := n1_
  clear n0_ n1_
  refine start_ (n := 16) (S := fun w' => w'.cell? ⟨gb775, 0, none⟩ = some (.string a0_0) ∧ w'.cell? ⟨gb775, 1, none⟩ = some (.slice A0_1 l0_1.length c0_1) ∧ w'.cell? ⟨gb775, 2, none⟩ = some (.string a0_2) ∧ w'.cell? ⟨gb775, 3, none⟩ = some (.slice A0_3 l0_3.length c0_3) ∧ w'.cell? ⟨gb775, 4, none⟩ = some (.string a0_4) ∧ w'.cell? ⟨gb775, 5, none⟩ = some (.int .i64 a0_5) ∧ w'.cell? ⟨gb775, 6, none⟩ = some (.int .i64 a0_6) ∧ w'.cell? ⟨gb775, 7, none⟩ = some (.int .u64 a0_7)) (ds := []) #[false, false, false, false, false, false, false, false, false, false, false, false, false, false, false, false] (by kernel_rfl) rfl rfl ⟨(bC BK775.out 0).trans rfl, (bC BK775.out 1).trans rfl, (bC BK775.out 2).trans rfl, (bC BK775.out 3).trans rfl, (bC BK775.out 4).trans rfl, (bC BK775.out 5).trans rfl, (bC BK775.out 6).trans rfl, (bC BK775.out 7).trans rfl⟩ (fun hHeld => ?_); refine with_tabW bureaulaw07_EditHides.tab5 bureaulaw07_EditHides.bits5 (fun HT_ HW_ => ?_)
  generalize wc.drew = w29 at BK775 HB hHeld ⊢
  refine pure_ (i := 0) (N := some 33) (v := ?_) (a' := ?_) #[true, false, false, false, false, false, false, false, false, false, false, false, false, false, false, false] rfl rfl (any_of HT_.out (by kernel_rfl)) (fun _ _ _ h => h) (Or.inl ⟨by rfl, ?_⟩) ?_ ?_
  rotate_left
  · intro w'
    go_simp
    with_reducible rfl
  rotate_left
  · simp only [Act.put, List.setIfInBounds_toArray, List.set_cons_zero, List.set_cons_succ, i64_w, i32_w]
    rfl
  refine pure_ (i := 2) (N := some 35) (v := ?_) (a' := ?_) #[true, false, true, false, false, false, false, false, false, false, false, false, false, false, false, false] rfl rfl (any_of HT_.out (by kernel_rfl)) (fun _ _ _ h => h) (Or.inl ⟨by rfl, ?_⟩) ?_ ?_
  rotate_left
  · intro w'
    go_simp
    with_reducible rfl
  rotate_left
  · simp only [Act.put, List.setIfInBounds_toArray, List.set_cons_zero, List.set_cons_succ, i64_w, i32_w]
    rfl
  refine pure_ (i := 3) (N := some 36) (v := ?_) (a' := ?_) #[true, false, true, true, false, false, false, false, false, false, false, false, false, false, false, false] rfl rfl (any_of HT_.out (by kernel_rfl)) (fun _ _ _ h => h) (Or.inl ⟨by rfl, ?_⟩) ?_ ?_
  rotate_left
  · intro w'
    go_simp
    with_reducible rfl
  rotate_left
  · simp only [Act.put, List.setIfInBounds_toArray, List.set_cons_zero, List.set_cons_succ, i64_w, i32_w]
    rfl
  refine pure_ (i := 6) (N := some 39) (v := ?_) (a' := ?_) #[true, false, true, true, false, false, true, false, false, false, false, false, false, false, false, false] rfl rfl (any_of HT_.out (by kernel_rfl)) (fun _ _ _ h => h) (Or.inl ⟨by rfl, ?_⟩) ?_ ?_
  rotate_left
  · intro w'
    go_simp
    with_reducible rfl
  rotate_left
  · simp only [Act.put, List.setIfInBounds_toArray, List.set_cons_zero, List.set_cons_succ, i64_w, i32_w]
    rfl
  refine pure_ (i := 8) (N := some 41) (v := ?_) (a' := ?_) #[true, false, true, true, false, false, true, false, true, false, false, false, false, false, false, false] rfl rfl (any_of HT_.out (by kernel_rfl)) (fun _ _ _ h => h) (Or.inl ⟨by rfl, ?_⟩) ?_ ?_
  rotate_left
  · intro w'
    go_simp
    with_reducible rfl
  rotate_left
  · simp only [Act.put, List.setIfInBounds_toArray, List.set_cons_zero, List.set_cons_succ, i64_w, i32_w]
    rfl
  refine pure_ (i := 9) (N := some 42) (v := ?_) (a' := ?_) #[true, false, true, true, false, false, true, false, true, true, false, false, false, false, false, false] rfl rfl (any_of HT_.out (by kernel_rfl)) (fun _ _ _ h => h) (Or.inl ⟨by rfl, ?_⟩) ?_ ?_
  rotate_left
  · intro w'
    go_simp
    with_reducible rfl
  rotate_left
  · simp only [Act.put, List.setIfInBounds_toArray, List.set_cons_zero, List.set_cons_succ, i64_w, i32_w]
    rfl
  refine take_ (i := 1) (N := some 34) (v := ?_) (a' := ?_) #[true, true, true, true, false, false, true, false, true, true, false, false, false, false, false, false] rfl rfl (take_ofW HT_.out HW_.out (by kernel_rfl)) (fun _ _ _ h => h) (Or.inl ⟨by rfl, ?_⟩) hHeld ?_ ?_
  rotate_left
  · rintro w' ⟨s0, s1, s2, s3, s4, s5, s6, s7⟩
    go_simp
    with_reducible rfl
  rotate_left
  · simp only [Act.put, List.setIfInBounds_toArray, List.set_cons_zero, List.set_cons_succ, i64_w, i32_w]
    rfl
  refine take_ (i := 4) (N := some 37) (v := ?_) (a' := ?_) #[true, true, true, true, true, false, true, false, true, true, false, false, false, false, false, false] rfl rfl (take_ofW HT_.out HW_.out (by kernel_rfl)) (fun _ _ _ h => h) (Or.inl ⟨by rfl, ?_⟩) hHeld ?_ ?_
  rotate_left
  · rintro w' ⟨s0, s1, s2, s3, s4, s5, s6, s7⟩
    go_simp
    with_reducible rfl
  rotate_left
  · simp only [Act.put, List.setIfInBounds_toArray, List.set_cons_zero, List.set_cons_succ, i64_w, i32_w]
    rfl
  refine take_ (i := 7) (N := some 40) (v := ?_) (a' := ?_) #[true, true, true, true, true, false, true, true, true, true, false, false, false, false, false, false] rfl rfl (take_ofW HT_.out HW_.out (by kernel_rfl)) (fun _ _ _ h => h) (Or.inl ⟨by rfl, ?_⟩) hHeld ?_ ?_
  rotate_left
  · rintro w' ⟨s0, s1, s2, s3, s4, s5, s6, s7⟩
    go_simp
    with_reducible rfl
  rotate_left
  · simp only [Act.put, List.setIfInBounds_toArray, List.set_cons_zero, List.set_cons_succ, i64_w, i32_w]
    rfl
  refine take_ (i := 10) (N := some 43) (v := ?_) (a' := ?_) #[true, true, true, true, true, false, true, true, true, true, true, false, false, false, false, false] rfl rfl (take_ofW HT_.out HW_.out (by kernel_rfl)) (fun _ _ _ h => h) (Or.inl ⟨by rfl, ?_⟩) hHeld ?_ ?_
  rotate_left
  · rintro w' ⟨s0, s1, s2, s3, s4, s5, s6, s7⟩
    go_simp
    with_reducible rfl
  rotate_left
  · simp only [Act.put, List.setIfInBounds_toArray, List.set_cons_zero, List.set_cons_succ, i64_w, i32_w]
    rfl
  refine join_ (σ := Value × Value × Nat × Nat) 2 #[true, true, true, true, true, true, true, true, true, true, true, true, true, true, false, false] (fun s_ => [(38, .agg #[.string t779, s_.1]), (44, .agg #[.string t783, s_.2.1]), (5, .pointer (some ⟨s_.2.2.1, 0, none⟩)), (6, .pointer (some ⟨s_.2.2.2, 0, none⟩))]) (fun s_ w' => (w'.cell? ⟨gb775, 0, none⟩ = some (.string a0_0) ∧ w'.cell? ⟨gb775, 1, none⟩ = some (.slice A0_1 l0_1.length c0_1) ∧ w'.cell? ⟨gb775, 2, none⟩ = some (.string a0_2) ∧ w'.cell? ⟨gb775, 3, none⟩ = some (.slice A0_3 l0_3.length c0_3) ∧ w'.cell? ⟨gb775, 4, none⟩ = some (.string a0_4) ∧ w'.cell? ⟨gb775, 5, none⟩ = some (.int .i64 a0_5) ∧ w'.cell? ⟨gb775, 6, none⟩ = some (.int .i64 a0_6) ∧ w'.cell? ⟨gb775, 7, none⟩ = some (.int .u64 a0_7)) ∧ (Kd.V k100 100 w' w.heap.size (fun k_ => k_ ≠ gb775 ∧ k_ ≠ s_.2.2.1 ∧ k_ ≠ s_.2.2.2) s_.1 t780) ∧ (Kd.V k100 100 w' w.heap.size (fun k_ => k_ ≠ gb775 ∧ k_ ≠ s_.2.2.1 ∧ k_ ≠ s_.2.2.2) s_.2.1 t784) ∧ (w'.heap[gb775]? = some (.cells #[.string a0_0, .slice A0_1 l0_1.length c0_1, .string a0_2, .slice A0_3 l0_3.length c0_3, .string a0_4, .int .i64 a0_5, .int .i64 a0_6, .int .u64 a0_7] 77 (0, 0))) ∧ (w'.heap[s_.2.2.1]? = some (.cells #[.string (⟨#[]⟩ : ByteArray), .slice none 0 0] 51 (0, 0))) ∧ (w'.heap[s_.2.2.2]? = some (.cells #[.string (⟨#[]⟩ : ByteArray), .slice none 0 0] 51 (0, 0))) ∧ (w.heap.size ≤ s_.2.2.1) ∧ (w.heap.size ≤ s_.2.2.1) ∧ (gb775 ≠ s_.2.2.1) ∧ (s_.2.2.1 ≠ gb775) ∧ (s_.2.2.2 ≠ s_.2.2.1) ∧ (s_.2.2.1 ≠ s_.2.2.2) ∧ (w.heap.size ≤ s_.2.2.2) ∧ (w.heap.size ≤ s_.2.2.2) ∧ (gb775 ≠ s_.2.2.2) ∧ (s_.2.2.2 ≠ gb775) ∧ (Below w.heap.size w w')) ?_ ?_
  rotate_left
  · intro hJ5_11_12_13
    refine join_ (σ := Value × Value × Nat) 3 #[true, true, true, true, true, true, true, true, true, true, true, true, true, false, false, false] (fun s_ => [(38, .agg #[.string t779, s_.1]), (44, .agg #[.string t783, s_.2.1]), (5, .pointer (some ⟨s_.2.2, 0, none⟩))]) (fun s_ w' => (w'.cell? ⟨gb775, 0, none⟩ = some (.string a0_0) ∧ w'.cell? ⟨gb775, 1, none⟩ = some (.slice A0_1 l0_1.length c0_1) ∧ w'.cell? ⟨gb775, 2, none⟩ = some (.string a0_2) ∧ w'.cell? ⟨gb775, 3, none⟩ = some (.slice A0_3 l0_3.length c0_3) ∧ w'.cell? ⟨gb775, 4, none⟩ = some (.string a0_4) ∧ w'.cell? ⟨gb775, 5, none⟩ = some (.int .i64 a0_5) ∧ w'.cell? ⟨gb775, 6, none⟩ = some (.int .i64 a0_6) ∧ w'.cell? ⟨gb775, 7, none⟩ = some (.int .u64 a0_7)) ∧ (Kd.V k100 100 w' w.heap.size (fun k_ => k_ ≠ gb775 ∧ k_ ≠ s_.2.2) s_.1 t780) ∧ (Kd.V k100 100 w' w.heap.size (fun k_ => k_ ≠ gb775 ∧ k_ ≠ s_.2.2) s_.2.1 t784) ∧ (w'.heap[gb775]? = some (.cells #[.string a0_0, .slice A0_1 l0_1.length c0_1, .string a0_2, .slice A0_3 l0_3.length c0_3, .string a0_4, .int .i64 a0_5, .int .i64 a0_6, .int .u64 a0_7] 77 (0, 0))) ∧ (w'.heap[s_.2.2]? = some (.cells #[.string (⟨#[]⟩ : ByteArray), .slice none 0 0] 51 (0, 0))) ∧ (w.heap.size ≤ s_.2.2) ∧ (w.heap.size ≤ s_.2.2) ∧ (gb775 ≠ s_.2.2) ∧ (s_.2.2 ≠ gb775) ∧ (Below w.heap.size w w')) ?_ ?_
    rotate_left
    · intro hJ5_11_12
      refine join_ (σ := Value × Value × Nat) 3 #[true, true, true, true, true, true, true, true, true, true, true, true, false, true, false, false] (fun s_ => [(38, .agg #[.string t779, s_.1]), (44, .agg #[.string t783, s_.2.1]), (6, .pointer (some ⟨s_.2.2, 0, none⟩))]) (fun s_ w' => (w'.cell? ⟨gb775, 0, none⟩ = some (.string a0_0) ∧ w'.cell? ⟨gb775, 1, none⟩ = some (.slice A0_1 l0_1.length c0_1) ∧ w'.cell? ⟨gb775, 2, none⟩ = some (.string a0_2) ∧ w'.cell? ⟨gb775, 3, none⟩ = some (.slice A0_3 l0_3.length c0_3) ∧ w'.cell? ⟨gb775, 4, none⟩ = some (.string a0_4) ∧ w'.cell? ⟨gb775, 5, none⟩ = some (.int .i64 a0_5) ∧ w'.cell? ⟨gb775, 6, none⟩ = some (.int .i64 a0_6) ∧ w'.cell? ⟨gb775, 7, none⟩ = some (.int .u64 a0_7)) ∧ (Kd.V k100 100 w' w.heap.size (fun k_ => k_ ≠ gb775 ∧ k_ ≠ s_.2.2) s_.1 t780) ∧ (Kd.V k100 100 w' w.heap.size (fun k_ => k_ ≠ gb775 ∧ k_ ≠ s_.2.2) s_.2.1 t784) ∧ (w'.heap[gb775]? = some (.cells #[.string a0_0, .slice A0_1 l0_1.length c0_1, .string a0_2, .slice A0_3 l0_3.length c0_3, .string a0_4, .int .i64 a0_5, .int .i64 a0_6, .int .u64 a0_7] 77 (0, 0))) ∧ (w'.heap[s_.2.2]? = some (.cells #[.string (⟨#[]⟩ : ByteArray), .slice none 0 0] 51 (0, 0))) ∧ (w.heap.size ≤ s_.2.2) ∧ (w.heap.size ≤ s_.2.2) ∧ (gb775 ≠ s_.2.2) ∧ (s_.2.2 ≠ gb775) ∧ (Below w.heap.size w w')) ?_ ?_
      rotate_left
      · intro hJ5_11_13
        refine join_ (σ := Value × Nat × Nat) 3 #[true, true, true, true, true, true, true, true, true, true, true, false, true, true, false, false] (fun s_ => [(38, .agg #[.string t779, s_.1]), (5, .pointer (some ⟨s_.2.1, 0, none⟩)), (6, .pointer (some ⟨s_.2.2, 0, none⟩))]) (fun s_ w' => (w'.cell? ⟨gb775, 0, none⟩ = some (.string a0_0) ∧ w'.cell? ⟨gb775, 1, none⟩ = some (.slice A0_1 l0_1.length c0_1) ∧ w'.cell? ⟨gb775, 2, none⟩ = some (.string a0_2) ∧ w'.cell? ⟨gb775, 3, none⟩ = some (.slice A0_3 l0_3.length c0_3) ∧ w'.cell? ⟨gb775, 4, none⟩ = some (.string a0_4) ∧ w'.cell? ⟨gb775, 5, none⟩ = some (.int .i64 a0_5) ∧ w'.cell? ⟨gb775, 6, none⟩ = some (.int .i64 a0_6) ∧ w'.cell? ⟨gb775, 7, none⟩ = some (.int .u64 a0_7)) ∧ (Kd.V k100 100 w' w.heap.size (fun k_ => k_ ≠ gb775 ∧ k_ ≠ s_.2.1 ∧ k_ ≠ s_.2.2) s_.1 t780) ∧ (w'.heap[gb775]? = some (.cells #[.string a0_0, .slice A0_1 l0_1.length c0_1, .string a0_2, .slice A0_3 l0_3.length c0_3, .string a0_4, .int .i64 a0_5, .int .i64 a0_6, .int .u64 a0_7] 77 (0, 0))) ∧ (w'.heap[s_.2.1]? = some (.cells #[.string (⟨#[]⟩ : ByteArray), .slice none 0 0] 51 (0, 0))) ∧ (w'.heap[s_.2.2]? = some (.cells #[.string (⟨#[]⟩ : ByteArray), .slice none 0 0] 51 (0, 0))) ∧ (w.heap.size ≤ s_.2.1) ∧ (w.heap.size ≤ s_.2.1) ∧ (gb775 ≠ s_.2.1) ∧ (s_.2.1 ≠ gb775) ∧ (s_.2.2 ≠ s_.2.1) ∧ (s_.2.1 ≠ s_.2.2) ∧ (w.heap.size ≤ s_.2.2) ∧ (w.heap.size ≤ s_.2.2) ∧ (gb775 ≠ s_.2.2) ∧ (s_.2.2 ≠ gb775) ∧ (Below w.heap.size w w')) ?_ ?_
        rotate_left
        · intro hJ5_12_13
          refine join_ (σ := Value × Value) 4 #[true, true, true, true, true, true, true, true, true, true, true, true, false, false, false, false] (fun s_ => [(38, .agg #[.string t779, s_.1]), (44, .agg #[.string t783, s_.2])]) (fun s_ w' => (w'.cell? ⟨gb775, 0, none⟩ = some (.string a0_0) ∧ w'.cell? ⟨gb775, 1, none⟩ = some (.slice A0_1 l0_1.length c0_1) ∧ w'.cell? ⟨gb775, 2, none⟩ = some (.string a0_2) ∧ w'.cell? ⟨gb775, 3, none⟩ = some (.slice A0_3 l0_3.length c0_3) ∧ w'.cell? ⟨gb775, 4, none⟩ = some (.string a0_4) ∧ w'.cell? ⟨gb775, 5, none⟩ = some (.int .i64 a0_5) ∧ w'.cell? ⟨gb775, 6, none⟩ = some (.int .i64 a0_6) ∧ w'.cell? ⟨gb775, 7, none⟩ = some (.int .u64 a0_7)) ∧ (Kd.V k100 100 w' w.heap.size (fun k_ => k_ ≠ gb775) s_.1 t780) ∧ (Kd.V k100 100 w' w.heap.size (fun k_ => k_ ≠ gb775) s_.2 t784) ∧ (w'.heap[gb775]? = some (.cells #[.string a0_0, .slice A0_1 l0_1.length c0_1, .string a0_2, .slice A0_3 l0_3.length c0_3, .string a0_4, .int .i64 a0_5, .int .i64 a0_6, .int .u64 a0_7] 77 (0, 0))) ∧ (Below w.heap.size w w')) ?_ ?_
          rotate_left
          · intro hJ5_11
            refine join_ (σ := Value × Nat) 4 #[true, true, true, true, true, true, true, true, true, true, true, false, true, false, false, false] (fun s_ => [(38, .agg #[.string t779, s_.1]), (5, .pointer (some ⟨s_.2, 0, none⟩))]) (fun s_ w' => (w'.cell? ⟨gb775, 0, none⟩ = some (.string a0_0) ∧ w'.cell? ⟨gb775, 1, none⟩ = some (.slice A0_1 l0_1.length c0_1) ∧ w'.cell? ⟨gb775, 2, none⟩ = some (.string a0_2) ∧ w'.cell? ⟨gb775, 3, none⟩ = some (.slice A0_3 l0_3.length c0_3) ∧ w'.cell? ⟨gb775, 4, none⟩ = some (.string a0_4) ∧ w'.cell? ⟨gb775, 5, none⟩ = some (.int .i64 a0_5) ∧ w'.cell? ⟨gb775, 6, none⟩ = some (.int .i64 a0_6) ∧ w'.cell? ⟨gb775, 7, none⟩ = some (.int .u64 a0_7)) ∧ (Kd.V k100 100 w' w.heap.size (fun k_ => k_ ≠ gb775 ∧ k_ ≠ s_.2) s_.1 t780) ∧ (w'.heap[gb775]? = some (.cells #[.string a0_0, .slice A0_1 l0_1.length c0_1, .string a0_2, .slice A0_3 l0_3.length c0_3, .string a0_4, .int .i64 a0_5, .int .i64 a0_6, .int .u64 a0_7] 77 (0, 0))) ∧ (w'.heap[s_.2]? = some (.cells #[.string (⟨#[]⟩ : ByteArray), .slice none 0 0] 51 (0, 0))) ∧ (w.heap.size ≤ s_.2) ∧ (w.heap.size ≤ s_.2) ∧ (gb775 ≠ s_.2) ∧ (s_.2 ≠ gb775) ∧ (Below w.heap.size w w')) ?_ ?_
            rotate_left
            · intro hJ5_12
              refine join_ (σ := Value × Nat) 4 #[true, true, true, true, true, true, true, true, true, true, true, false, false, true, false, false] (fun s_ => [(38, .agg #[.string t779, s_.1]), (6, .pointer (some ⟨s_.2, 0, none⟩))]) (fun s_ w' => (w'.cell? ⟨gb775, 0, none⟩ = some (.string a0_0) ∧ w'.cell? ⟨gb775, 1, none⟩ = some (.slice A0_1 l0_1.length c0_1) ∧ w'.cell? ⟨gb775, 2, none⟩ = some (.string a0_2) ∧ w'.cell? ⟨gb775, 3, none⟩ = some (.slice A0_3 l0_3.length c0_3) ∧ w'.cell? ⟨gb775, 4, none⟩ = some (.string a0_4) ∧ w'.cell? ⟨gb775, 5, none⟩ = some (.int .i64 a0_5) ∧ w'.cell? ⟨gb775, 6, none⟩ = some (.int .i64 a0_6) ∧ w'.cell? ⟨gb775, 7, none⟩ = some (.int .u64 a0_7)) ∧ (Kd.V k100 100 w' w.heap.size (fun k_ => k_ ≠ gb775 ∧ k_ ≠ s_.2) s_.1 t780) ∧ (w'.heap[gb775]? = some (.cells #[.string a0_0, .slice A0_1 l0_1.length c0_1, .string a0_2, .slice A0_3 l0_3.length c0_3, .string a0_4, .int .i64 a0_5, .int .i64 a0_6, .int .u64 a0_7] 77 (0, 0))) ∧ (w'.heap[s_.2]? = some (.cells #[.string (⟨#[]⟩ : ByteArray), .slice none 0 0] 51 (0, 0))) ∧ (w.heap.size ≤ s_.2) ∧ (w.heap.size ≤ s_.2) ∧ (gb775 ≠ s_.2) ∧ (s_.2 ≠ gb775) ∧ (Below w.heap.size w w')) ?_ ?_
              rotate_left
              · intro hJ5_13
                refine join_ (σ := Nat × Nat) 4 #[true, true, true, true, true, false, true, true, true, true, true, false, true, true, false, false] (fun s_ => [(5, .pointer (some ⟨s_.1, 0, none⟩)), (6, .pointer (some ⟨s_.2, 0, none⟩))]) (fun s_ w' => (w'.cell? ⟨gb775, 0, none⟩ = some (.string a0_0) ∧ w'.cell? ⟨gb775, 1, none⟩ = some (.slice A0_1 l0_1.length c0_1) ∧ w'.cell? ⟨gb775, 2, none⟩ = some (.string a0_2) ∧ w'.cell? ⟨gb775, 3, none⟩ = some (.slice A0_3 l0_3.length c0_3) ∧ w'.cell? ⟨gb775, 4, none⟩ = some (.string a0_4) ∧ w'.cell? ⟨gb775, 5, none⟩ = some (.int .i64 a0_5) ∧ w'.cell? ⟨gb775, 6, none⟩ = some (.int .i64 a0_6) ∧ w'.cell? ⟨gb775, 7, none⟩ = some (.int .u64 a0_7)) ∧ (w'.heap[gb775]? = some (.cells #[.string a0_0, .slice A0_1 l0_1.length c0_1, .string a0_2, .slice A0_3 l0_3.length c0_3, .string a0_4, .int .i64 a0_5, .int .i64 a0_6, .int .u64 a0_7] 77 (0, 0))) ∧ (w'.heap[s_.1]? = some (.cells #[.string (⟨#[]⟩ : ByteArray), .slice none 0 0] 51 (0, 0))) ∧ (w'.heap[s_.2]? = some (.cells #[.string (⟨#[]⟩ : ByteArray), .slice none 0 0] 51 (0, 0))) ∧ (w.heap.size ≤ s_.1) ∧ (w.heap.size ≤ s_.1) ∧ (gb775 ≠ s_.1) ∧ (s_.1 ≠ gb775) ∧ (s_.2 ≠ s_.1) ∧ (s_.1 ≠ s_.2) ∧ (w.heap.size ≤ s_.2) ∧ (w.heap.size ≤ s_.2) ∧ (gb775 ≠ s_.2) ∧ (s_.2 ≠ gb775) ∧ (Below w.heap.size w w')) ?_ ?_
                rotate_left
                · intro hJ12_13
                  refine join_ (σ := Value) 5 #[true, true, true, true, true, true, true, true, true, true, true, false, false, false, false, false] (fun s_ => [(38, .agg #[.string t779, s_])]) (fun s_ w' => (w'.cell? ⟨gb775, 0, none⟩ = some (.string a0_0) ∧ w'.cell? ⟨gb775, 1, none⟩ = some (.slice A0_1 l0_1.length c0_1) ∧ w'.cell? ⟨gb775, 2, none⟩ = some (.string a0_2) ∧ w'.cell? ⟨gb775, 3, none⟩ = some (.slice A0_3 l0_3.length c0_3) ∧ w'.cell? ⟨gb775, 4, none⟩ = some (.string a0_4) ∧ w'.cell? ⟨gb775, 5, none⟩ = some (.int .i64 a0_5) ∧ w'.cell? ⟨gb775, 6, none⟩ = some (.int .i64 a0_6) ∧ w'.cell? ⟨gb775, 7, none⟩ = some (.int .u64 a0_7)) ∧ (Kd.V k100 100 w' w.heap.size (fun k_ => k_ ≠ gb775) s_ t780) ∧ (w'.heap[gb775]? = some (.cells #[.string a0_0, .slice A0_1 l0_1.length c0_1, .string a0_2, .slice A0_3 l0_3.length c0_3, .string a0_4, .int .i64 a0_5, .int .i64 a0_6, .int .u64 a0_7] 77 (0, 0))) ∧ (Below w.heap.size w w')) ?_ ?_
                  rotate_left
                  · intro hJ5
                    refine join_ (σ := Nat) 5 #[true, true, true, true, true, false, true, true, true, true, true, false, true, false, false, false] (fun s_ => [(5, .pointer (some ⟨s_, 0, none⟩))]) (fun s_ w' => (w'.cell? ⟨gb775, 0, none⟩ = some (.string a0_0) ∧ w'.cell? ⟨gb775, 1, none⟩ = some (.slice A0_1 l0_1.length c0_1) ∧ w'.cell? ⟨gb775, 2, none⟩ = some (.string a0_2) ∧ w'.cell? ⟨gb775, 3, none⟩ = some (.slice A0_3 l0_3.length c0_3) ∧ w'.cell? ⟨gb775, 4, none⟩ = some (.string a0_4) ∧ w'.cell? ⟨gb775, 5, none⟩ = some (.int .i64 a0_5) ∧ w'.cell? ⟨gb775, 6, none⟩ = some (.int .i64 a0_6) ∧ w'.cell? ⟨gb775, 7, none⟩ = some (.int .u64 a0_7)) ∧ (w'.heap[gb775]? = some (.cells #[.string a0_0, .slice A0_1 l0_1.length c0_1, .string a0_2, .slice A0_3 l0_3.length c0_3, .string a0_4, .int .i64 a0_5, .int .i64 a0_6, .int .u64 a0_7] 77 (0, 0))) ∧ (w'.heap[s_]? = some (.cells #[.string (⟨#[]⟩ : ByteArray), .slice none 0 0] 51 (0, 0))) ∧ (w.heap.size ≤ s_) ∧ (w.heap.size ≤ s_) ∧ (gb775 ≠ s_) ∧ (s_ ≠ gb775) ∧ (Below w.heap.size w w')) ?_ ?_
                    rotate_left
                    · intro hJ12
                      refine join_ (σ := Nat) 5 #[true, true, true, true, true, false, true, true, true, true, true, false, false, true, false, false] (fun s_ => [(6, .pointer (some ⟨s_, 0, none⟩))]) (fun s_ w' => (w'.cell? ⟨gb775, 0, none⟩ = some (.string a0_0) ∧ w'.cell? ⟨gb775, 1, none⟩ = some (.slice A0_1 l0_1.length c0_1) ∧ w'.cell? ⟨gb775, 2, none⟩ = some (.string a0_2) ∧ w'.cell? ⟨gb775, 3, none⟩ = some (.slice A0_3 l0_3.length c0_3) ∧ w'.cell? ⟨gb775, 4, none⟩ = some (.string a0_4) ∧ w'.cell? ⟨gb775, 5, none⟩ = some (.int .i64 a0_5) ∧ w'.cell? ⟨gb775, 6, none⟩ = some (.int .i64 a0_6) ∧ w'.cell? ⟨gb775, 7, none⟩ = some (.int .u64 a0_7)) ∧ (w'.heap[gb775]? = some (.cells #[.string a0_0, .slice A0_1 l0_1.length c0_1, .string a0_2, .slice A0_3 l0_3.length c0_3, .string a0_4, .int .i64 a0_5, .int .i64 a0_6, .int .u64 a0_7] 77 (0, 0))) ∧ (w'.heap[s_]? = some (.cells #[.string (⟨#[]⟩ : ByteArray), .slice none 0 0] 51 (0, 0))) ∧ (w.heap.size ≤ s_) ∧ (w.heap.size ≤ s_) ∧ (gb775 ≠ s_) ∧ (s_ ≠ gb775) ∧ (Below w.heap.size w w')) ?_ ?_
                      rotate_left
                      · intro hJ13
                        refine three_ (i := 5) (j := 12) (k := 13) (Ni := some 38) (Nj := some 5) (Nk := some 6) #[true, true, true, true, true, true, true, true, true, true, true, false, false, false, false, false] #[true, true, true, true, true, false, true, true, true, true, true, false, true, false, false, false] #[true, true, true, true, true, false, true, true, true, true, true, false, false, true, false, false] rfl rfl rfl rfl rfl rfl (three_of HT_.out (by kernel_rfl)) (by decide) (by decide) (by decide) (fun K hK => ?_) (fun K hK => ?_) (fun K hK => ?_)
                        · skip
                          refine goes_ Try.func66 (by kernel_rfl) rfl #[.agg #[.string a0_0, .slice A0_1 l0_1.length c0_1], .int .u64 a1, .string a0_4] (by rfl) rfl rfl (by (try simp only [List.map_toArray, List.map_cons, List.map_nil]); first | done | rfl | (simp only [List.length_drop, List.length_take]; rfl)) ?_
                          with_reducible refine (bureauref04_Other.calls kj4 a0_0 (fun k_ => k_ < w.heap.size) _ _ l0_1 a1 a0_4 t779 t780 _ ?side1 A24.out).mono ?_
                          (case side1 => exact Kd.V_mk HC0_1.out (Kd.F_below (Kd.C_F k100_heap HR0_1.out) (by repeat (first | (with_reducible first | exact HB.out | apply ea | apply en | apply ed | refine bs ?_ GE775.out) | exact HB.out))))
                          rintro e w30 ⟨v781, rfl, ho0, hb⟩
                          refine ⟨_, rfl, ?_⟩
                          have n0_ := aM (Kd.V_lower (Kd.V_mono (ok' := fun k_ => k_ ≠ gb775) ho0 (fun k_ hk_ => Or.elim hk_ (fun hs_ => fun e_ => Nat.not_le.2 hs_ (by rw [e_]; exact GW775.out)) (fun hn_ => (Kd.freshB (g := gb775) (o := .cells #[.string a0_0, .slice A0_1 l0_1.length c0_1, .string a0_2, .slice A0_3 l0_3.length c0_3, .string a0_4, .int .i64 a0_5, .int .i64 a0_6, .int .u64 a0_7] 77 (0, 0)) (by (with_reducible repeat (first | refine bn ?_ _ | refine bd ?_ | refine ba ?_ _)); exact BK775.out) k_ hn_)))) (bZ (by repeat (first | (with_reducible first | exact HB.out | apply ea | apply en | apply ed | refine bs ?_ GE775.out) | exact HB.out))))
                          have n1_ := aM (bB (g := gb775) (o := .cells #[.string a0_0, .slice A0_1 l0_1.length c0_1, .string a0_2, .slice A0_3 l0_3.length c0_3, .string a0_4, .int .i64 a0_5, .int .i64 a0_6, .int .u64 a0_7] 77 (0, 0)) (by (with_reducible repeat (first | refine bn ?_ _ | refine bd ?_ | refine ba ?_ _)); exact BK775.out) hb)
                          have n2_ := aM (bP (by repeat (first | (with_reducible first | exact HB.out | apply ea | apply en | apply ed | refine bs ?_ GE775.out) | exact HB.out)) hb)
                          clear BK775
                          clear HB
                          have HO782 := n0_
                          have BK775 := n1_
                          have HB := n2_
                          clear n0_ n1_ n2_
                          (try clear hb)
                          (try clear hb2)
                          (try clear hk)
                          (try clear hi)
                          (try clear ho0)
                          refine hK.out _ _ ⟨(bC BK775.out 0).trans rfl, (bC BK775.out 1).trans rfl, (bC BK775.out 2).trans rfl, (bC BK775.out 3).trans rfl, (bC BK775.out 4).trans rfl, (bC BK775.out 5).trans rfl, (bC BK775.out 6).trans rfl, (bC BK775.out 7).trans rfl⟩ (fun hHeld => ?_)
                          clear hK K
                          refine norm_ (a' := ?_) ?_ ?_
                          rotate_left
                          · show Act.put _ (some 38) _ = _
                            simp only [Act.put, List.setIfInBounds_toArray, List.set_cons_zero, List.set_cons_succ, i64_w, i32_w]
                            rfl
                          exact norm_ (by first | (simp only [putAll, Act.put, List.setIfInBounds_toArray, List.set_cons_zero, List.set_cons_succ]; done) | (simp only [putAll, Act.put, List.setIfInBounds_toArray, List.set_cons_zero, List.set_cons_succ]; rfl)) (hJ5 (v781) _ ⟨hHeld, (by (with_reducible repeat (first | apply va | apply vn | apply vd)); exact HO782.out), (by (with_reducible repeat (first | refine bn ?_ _ | refine bd ?_ | refine ba ?_ _)); exact BK775.out), (by repeat (first | (with_reducible first | exact HB.out | apply ea | apply en | apply ed | refine bs ?_ GE775.out) | exact HB.out))⟩)
                        · skip
                          refine box_step ?hg (N := 5) ?hd (cs := #[.string (⟨#[]⟩ : ByteArray), .slice none 0 0]) (t := 51) ?hr ?_; (case hd => rfl); (case hg => rfl); (case hr => first | (go_simp; done) | (go_simp; rfl))
                          intro gb787 hg w30 hbox hb
                          have n0_ := aM (bB (g := gb775) (o := .cells #[.string a0_0, .slice A0_1 l0_1.length c0_1, .string a0_2, .slice A0_3 l0_3.length c0_3, .string a0_4, .int .i64 a0_5, .int .i64 a0_6, .int .u64 a0_7] 77 (0, 0)) (by (with_reducible repeat (first | refine bn ?_ _ | refine bd ?_ | refine ba ?_ _)); exact BK775.out) hb)
                          have n1_ := aM (bP (by repeat (first | (with_reducible first | exact HB.out | apply ea | apply en | apply ed | refine bs ?_ GE775.out) | exact HB.out)) hb)
                          have n2_ := aM (hbox)
                          have n3_ := aM ((by rw [hg]; exact (bZ (by repeat (first | (with_reducible first | exact HB.out | apply ea | apply en | apply ed | refine bs ?_ GE775.out) | exact HB.out))) : w.heap.size ≤ gb787))
                          have n4_ := aM ((by rw [hg]; exact (bZ (by repeat (first | (with_reducible first | exact HB.out | apply ea | apply en | apply ed | refine bs ?_ GE775.out) | exact HB.out))) : w.heap.size ≤ gb787))
                          have n5_ := aM ((by rw [hg]; exact Nat.ne_of_lt (blk_lt (g := gb775) (o := .cells #[.string a0_0, .slice A0_1 l0_1.length c0_1, .string a0_2, .slice A0_3 l0_3.length c0_3, .string a0_4, .int .i64 a0_5, .int .i64 a0_6, .int .u64 a0_7] 77 (0, 0)) (by (with_reducible repeat (first | refine bn ?_ _ | refine bd ?_ | refine ba ?_ _)); exact BK775.out)) : gb775 ≠ gb787))
                          have n6_ := aM ((by rw [hg]; exact Nat.ne_of_gt (blk_lt (g := gb775) (o := .cells #[.string a0_0, .slice A0_1 l0_1.length c0_1, .string a0_2, .slice A0_3 l0_3.length c0_3, .string a0_4, .int .i64 a0_5, .int .i64 a0_6, .int .u64 a0_7] 77 (0, 0)) (by (with_reducible repeat (first | refine bn ?_ _ | refine bd ?_ | refine ba ?_ _)); exact BK775.out)) : gb787 ≠ gb775))
                          clear BK775
                          clear HB
                          have BK775 := n0_
                          have HB := n1_
                          have BK787 := n2_
                          have GW787 := n3_
                          have GE787 := n4_
                          have NB775_787 := n5_
                          have NB787_775 := n6_
                          clear n0_ n1_ n2_ n3_ n4_ n5_ n6_
                          clear hb hbox hg
                          refine hK.out _ _ ⟨(bC BK775.out 0).trans rfl, (bC BK775.out 1).trans rfl, (bC BK775.out 2).trans rfl, (bC BK775.out 3).trans rfl, (bC BK775.out 4).trans rfl, (bC BK775.out 5).trans rfl, (bC BK775.out 6).trans rfl, (bC BK775.out 7).trans rfl⟩ (fun hHeld => ?_)
                          clear hK K
                          refine norm_ (a' := ?_) ?_ ?_
                          rotate_left
                          · show Act.put _ (some 5) _ = _
                            simp only [Act.put, List.setIfInBounds_toArray, List.set_cons_zero, List.set_cons_succ, i64_w, i32_w]
                            rfl
                          exact norm_ (by first | (simp only [putAll, Act.put, List.setIfInBounds_toArray, List.set_cons_zero, List.set_cons_succ]; done) | (simp only [putAll, Act.put, List.setIfInBounds_toArray, List.set_cons_zero, List.set_cons_succ]; rfl)) (hJ12 (gb787) _ ⟨hHeld, (by (with_reducible repeat (first | refine bn ?_ _ | refine bd ?_ | refine ba ?_ _)); exact BK775.out), (by (with_reducible repeat (first | refine bn ?_ _ | refine bd ?_ | refine ba ?_ _)); exact BK787.out), GW787.out, GE787.out, NB775_787.out, NB787_775.out, (by repeat (first | (with_reducible first | exact HB.out | apply ea | apply en | apply ed | refine bs ?_ GE775.out | refine bs ?_ GE787.out) | exact HB.out))⟩)
                        · skip
                          refine box_step ?hg (N := 6) ?hd (cs := #[.string (⟨#[]⟩ : ByteArray), .slice none 0 0]) (t := 51) ?hr ?_; (case hd => rfl); (case hg => rfl); (case hr => first | (go_simp; done) | (go_simp; rfl))
                          intro gb788 hg w30 hbox hb
                          have n0_ := aM (bB (g := gb775) (o := .cells #[.string a0_0, .slice A0_1 l0_1.length c0_1, .string a0_2, .slice A0_3 l0_3.length c0_3, .string a0_4, .int .i64 a0_5, .int .i64 a0_6, .int .u64 a0_7] 77 (0, 0)) (by (with_reducible repeat (first | refine bn ?_ _ | refine bd ?_ | refine ba ?_ _)); exact BK775.out) hb)
                          have n1_ := aM (bP (by repeat (first | (with_reducible first | exact HB.out | apply ea | apply en | apply ed | refine bs ?_ GE775.out) | exact HB.out)) hb)
                          have n2_ := aM (hbox)
                          have n3_ := aM ((by rw [hg]; exact (bZ (by repeat (first | (with_reducible first | exact HB.out | apply ea | apply en | apply ed | refine bs ?_ GE775.out) | exact HB.out))) : w.heap.size ≤ gb788))
                          have n4_ := aM ((by rw [hg]; exact (bZ (by repeat (first | (with_reducible first | exact HB.out | apply ea | apply en | apply ed | refine bs ?_ GE775.out) | exact HB.out))) : w.heap.size ≤ gb788))
                          have n5_ := aM ((by rw [hg]; exact Nat.ne_of_lt (blk_lt (g := gb775) (o := .cells #[.string a0_0, .slice A0_1 l0_1.length c0_1, .string a0_2, .slice A0_3 l0_3.length c0_3, .string a0_4, .int .i64 a0_5, .int .i64 a0_6, .int .u64 a0_7] 77 (0, 0)) (by (with_reducible repeat (first | refine bn ?_ _ | refine bd ?_ | refine ba ?_ _)); exact BK775.out)) : gb775 ≠ gb788))
                          have n6_ := aM ((by rw [hg]; exact Nat.ne_of_gt (blk_lt (g := gb775) (o := .cells #[.string a0_0, .slice A0_1 l0_1.length c0_1, .string a0_2, .slice A0_3 l0_3.length c0_3, .string a0_4, .int .i64 a0_5, .int .i64 a0_6, .int .u64 a0_7] 77 (0, 0)) (by (with_reducible repeat (first | refine bn ?_ _ | refine bd ?_ | refine ba ?_ _)); exact BK775.out)) : gb788 ≠ gb775))
                          clear BK775
                          clear HB
                          have BK775 := n0_
                          have HB := n1_
                          have BK788 := n2_
                          have GW788 := n3_
                          have GE788 := n4_
                          have NB775_788 := n5_
                          have NB788_775 := n6_
                          clear n0_ n1_ n2_ n3_ n4_ n5_ n6_
                          clear hb hbox hg
                          refine hK.out _ _ ⟨(bC BK775.out 0).trans rfl, (bC BK775.out 1).trans rfl, (bC BK775.out 2).trans rfl, (bC BK775.out 3).trans rfl, (bC BK775.out 4).trans rfl, (bC BK775.out 5).trans rfl, (bC BK775.out 6).trans rfl, (bC BK775.out 7).trans rfl⟩ (fun hHeld => ?_)
                          clear hK K
                          refine norm_ (a' := ?_) ?_ ?_
                          rotate_left
                          · show Act.put _ (some 6) _ = _
                            simp only [Act.put, List.setIfInBounds_toArray, List.set_cons_zero, List.set_cons_succ, i64_w, i32_w]
                            rfl
                          exact norm_ (by first | (simp only [putAll, Act.put, List.setIfInBounds_toArray, List.set_cons_zero, List.set_cons_succ]; done) | (simp only [putAll, Act.put, List.setIfInBounds_toArray, List.set_cons_zero, List.set_cons_succ]; rfl)) (hJ13 (gb788) _ ⟨hHeld, (by (with_reducible repeat (first | refine bn ?_ _ | refine bd ?_ | refine ba ?_ _)); exact BK775.out), (by (with_reducible repeat (first | refine bn ?_ _ | refine bd ?_ | refine ba ?_ _)); exact BK788.out), GW788.out, GE788.out, NB775_788.out, NB788_775.out, (by repeat (first | (with_reducible first | exact HB.out | apply ea | apply en | apply ed | refine bs ?_ GE775.out | refine bs ?_ GE788.out) | exact HB.out))⟩)
                      · skip
                        rintro gb788 w31 ⟨hS_, h0_, h1_, h2_, h3_, h4_, h5_, h6_⟩
                        have n0_ : Aside0 (w31.heap[gb775]? = some (.cells #[.string a0_0, .slice A0_1 l0_1.length c0_1, .string a0_2, .slice A0_3 l0_3.length c0_3, .string a0_4, .int .i64 a0_5, .int .i64 a0_6, .int .u64 a0_7] 77 (0, 0))) := ⟨h0_⟩
                        have n1_ : Aside0 (w31.heap[gb788]? = some (.cells #[.string (⟨#[]⟩ : ByteArray), .slice none 0 0] 51 (0, 0))) := ⟨h1_⟩
                        have n2_ : Aside0 (w.heap.size ≤ gb788) := ⟨h2_⟩
                        have n3_ : Aside0 (w.heap.size ≤ gb788) := ⟨h3_⟩
                        have n4_ : Aside0 (gb775 ≠ gb788) := ⟨h4_⟩
                        have n5_ : Aside0 (gb788 ≠ gb775) := ⟨h5_⟩
                        have n6_ : Aside0 (Below w.heap.size w w31) := ⟨h6_⟩
                        clear BK775
                        clear HB
                        clear h0_ h1_ h2_ h3_ h4_ h5_ h6_
                        have BK775 := n0_
                        have BK788 := n1_
                        have GW788 := n2_
                        have GE788 := n3_
                        have NB775_788 := n4_
                        have NB788_775 := n5_
                        have HB := n6_
                        clear n0_ n1_ n2_ n3_ n4_ n5_ n6_
                        have hHeld : w31.cell? ⟨gb775, 0, none⟩ = some (.string a0_0) ∧ w31.cell? ⟨gb775, 1, none⟩ = some (.slice A0_1 l0_1.length c0_1) ∧ w31.cell? ⟨gb775, 2, none⟩ = some (.string a0_2) ∧ w31.cell? ⟨gb775, 3, none⟩ = some (.slice A0_3 l0_3.length c0_3) ∧ w31.cell? ⟨gb775, 4, none⟩ = some (.string a0_4) ∧ w31.cell? ⟨gb775, 5, none⟩ = some (.int .i64 a0_5) ∧ w31.cell? ⟨gb775, 6, none⟩ = some (.int .i64 a0_6) ∧ w31.cell? ⟨gb775, 7, none⟩ = some (.int .u64 a0_7) := hS_
                        refine norm_ (a' := ?_) ?_ ?_
                        rotate_left
                        · simp only [putAll, Act.put, List.setIfInBounds_toArray, List.set_cons_zero, List.set_cons_succ]
                          rfl
                        refine two_ (i := 5) (j := 12) (Ni := some 38) (Nj := some 5) #[true, true, true, true, true, true, true, true, true, true, true, false, false, true, false, false] #[true, true, true, true, true, false, true, true, true, true, true, false, true, true, false, false] rfl rfl rfl rfl (two_of HT_.out (by kernel_rfl)) (by decide) (by decide) (fun K hK => ?_) (fun K hK => ?_)
                        · skip
                          refine goes_ Try.func66 (by kernel_rfl) rfl #[.agg #[.string a0_0, .slice A0_1 l0_1.length c0_1], .int .u64 a1, .string a0_4] (by rfl) rfl rfl (by (try simp only [List.map_toArray, List.map_cons, List.map_nil]); first | done | rfl | (simp only [List.length_drop, List.length_take]; rfl)) ?_
                          with_reducible refine (bureauref04_Other.calls kj4 a0_0 (fun k_ => k_ < w.heap.size) _ _ l0_1 a1 a0_4 t779 t780 _ ?side1 A24.out).mono ?_
                          (case side1 => exact Kd.V_mk HC0_1.out (Kd.F_below (Kd.C_F k100_heap HR0_1.out) (by repeat (first | (with_reducible first | exact HB.out | apply ea | apply en | apply ed | refine bs ?_ GE775.out | refine bs ?_ GE788.out) | exact HB.out))))
                          rintro e w32 ⟨v781, rfl, ho0, hb⟩
                          refine ⟨_, rfl, ?_⟩
                          have n0_ := aM (Kd.V_lower (Kd.V_mono (ok' := fun k_ => k_ ≠ gb775 ∧ k_ ≠ gb788) ho0 (fun k_ hk_ => ⟨Or.elim hk_ (fun hs_ => fun e_ => Nat.not_le.2 hs_ (by rw [e_]; exact GW775.out)) (fun hn_ => (Kd.freshB (g := gb775) (o := .cells #[.string a0_0, .slice A0_1 l0_1.length c0_1, .string a0_2, .slice A0_3 l0_3.length c0_3, .string a0_4, .int .i64 a0_5, .int .i64 a0_6, .int .u64 a0_7] 77 (0, 0)) (by (with_reducible repeat (first | refine bn ?_ _ | refine bd ?_ | refine ba ?_ _)); exact BK775.out) k_ hn_)), Or.elim hk_ (fun hs_ => fun e_ => Nat.not_le.2 hs_ (by rw [e_]; exact GW788.out)) (fun hn_ => (Kd.freshB (g := gb788) (o := .cells #[.string (⟨#[]⟩ : ByteArray), .slice none 0 0] 51 (0, 0)) (by (with_reducible repeat (first | refine bn ?_ _ | refine bd ?_ | refine ba ?_ _)); exact BK788.out) k_ hn_))⟩)) (bZ (by repeat (first | (with_reducible first | exact HB.out | apply ea | apply en | apply ed | refine bs ?_ GE775.out | refine bs ?_ GE788.out) | exact HB.out))))
                          have n1_ := aM (bB (g := gb775) (o := .cells #[.string a0_0, .slice A0_1 l0_1.length c0_1, .string a0_2, .slice A0_3 l0_3.length c0_3, .string a0_4, .int .i64 a0_5, .int .i64 a0_6, .int .u64 a0_7] 77 (0, 0)) (by (with_reducible repeat (first | refine bn ?_ _ | refine bd ?_ | refine ba ?_ _)); exact BK775.out) hb)
                          have n2_ := aM (bB (g := gb788) (o := .cells #[.string (⟨#[]⟩ : ByteArray), .slice none 0 0] 51 (0, 0)) (by (with_reducible repeat (first | refine bn ?_ _ | refine bd ?_ | refine ba ?_ _)); exact BK788.out) hb)
                          have n3_ := aM (bP (by repeat (first | (with_reducible first | exact HB.out | apply ea | apply en | apply ed | refine bs ?_ GE775.out | refine bs ?_ GE788.out) | exact HB.out)) hb)
                          clear BK775
                          clear BK788
                          clear HB
                          have HO782 := n0_
                          have BK775 := n1_
                          have BK788 := n2_
                          have HB := n3_
                          clear n0_ n1_ n2_ n3_
                          (try clear hb)
                          (try clear hb2)
                          (try clear hk)
                          (try clear hi)
                          (try clear ho0)
                          refine hK.out _ _ ⟨(bC BK775.out 0).trans rfl, (bC BK775.out 1).trans rfl, (bC BK775.out 2).trans rfl, (bC BK775.out 3).trans rfl, (bC BK775.out 4).trans rfl, (bC BK775.out 5).trans rfl, (bC BK775.out 6).trans rfl, (bC BK775.out 7).trans rfl⟩ (fun hHeld => ?_)
                          clear hK K
                          refine norm_ (a' := ?_) ?_ ?_
                          rotate_left
                          · show Act.put _ (some 38) _ = _
                            simp only [Act.put, List.setIfInBounds_toArray, List.set_cons_zero, List.set_cons_succ, i64_w, i32_w]
                            rfl
                          exact norm_ (by first | (simp only [putAll, Act.put, List.setIfInBounds_toArray, List.set_cons_zero, List.set_cons_succ]; done) | (simp only [putAll, Act.put, List.setIfInBounds_toArray, List.set_cons_zero, List.set_cons_succ]; rfl)) (hJ5_13 (v781, gb788) _ ⟨hHeld, (by (with_reducible repeat (first | apply va | apply vn | apply vd)); exact HO782.out), (by (with_reducible repeat (first | refine bn ?_ _ | refine bd ?_ | refine ba ?_ _)); exact BK775.out), (by (with_reducible repeat (first | refine bn ?_ _ | refine bd ?_ | refine ba ?_ _)); exact BK788.out), GW788.out, GE788.out, NB775_788.out, NB788_775.out, (by repeat (first | (with_reducible first | exact HB.out | apply ea | apply en | apply ed | refine bs ?_ GE775.out | refine bs ?_ GE788.out) | exact HB.out))⟩)
                        · skip
                          refine box_step ?hg (N := 5) ?hd (cs := #[.string (⟨#[]⟩ : ByteArray), .slice none 0 0]) (t := 51) ?hr ?_; (case hd => rfl); (case hg => rfl); (case hr => first | (go_simp; done) | (go_simp; rfl))
                          intro gb787 hg w32 hbox hb
                          have n0_ := aM (bB (g := gb775) (o := .cells #[.string a0_0, .slice A0_1 l0_1.length c0_1, .string a0_2, .slice A0_3 l0_3.length c0_3, .string a0_4, .int .i64 a0_5, .int .i64 a0_6, .int .u64 a0_7] 77 (0, 0)) (by (with_reducible repeat (first | refine bn ?_ _ | refine bd ?_ | refine ba ?_ _)); exact BK775.out) hb)
                          have n1_ := aM (bB (g := gb788) (o := .cells #[.string (⟨#[]⟩ : ByteArray), .slice none 0 0] 51 (0, 0)) (by (with_reducible repeat (first | refine bn ?_ _ | refine bd ?_ | refine ba ?_ _)); exact BK788.out) hb)
                          have n2_ := aM (bP (by repeat (first | (with_reducible first | exact HB.out | apply ea | apply en | apply ed | refine bs ?_ GE775.out | refine bs ?_ GE788.out) | exact HB.out)) hb)
                          have n3_ := aM (hbox)
                          have n4_ := aM ((by rw [hg]; exact (bZ (by repeat (first | (with_reducible first | exact HB.out | apply ea | apply en | apply ed | refine bs ?_ GE775.out | refine bs ?_ GE788.out) | exact HB.out))) : w.heap.size ≤ gb787))
                          have n5_ := aM ((by rw [hg]; exact (bZ (by repeat (first | (with_reducible first | exact HB.out | apply ea | apply en | apply ed | refine bs ?_ GE775.out | refine bs ?_ GE788.out) | exact HB.out))) : w.heap.size ≤ gb787))
                          have n6_ := aM ((by rw [hg]; exact Nat.ne_of_lt (blk_lt (g := gb775) (o := .cells #[.string a0_0, .slice A0_1 l0_1.length c0_1, .string a0_2, .slice A0_3 l0_3.length c0_3, .string a0_4, .int .i64 a0_5, .int .i64 a0_6, .int .u64 a0_7] 77 (0, 0)) (by (with_reducible repeat (first | refine bn ?_ _ | refine bd ?_ | refine ba ?_ _)); exact BK775.out)) : gb775 ≠ gb787))
                          have n7_ := aM ((by rw [hg]; exact Nat.ne_of_gt (blk_lt (g := gb775) (o := .cells #[.string a0_0, .slice A0_1 l0_1.length c0_1, .string a0_2, .slice A0_3 l0_3.length c0_3, .string a0_4, .int .i64 a0_5, .int .i64 a0_6, .int .u64 a0_7] 77 (0, 0)) (by (with_reducible repeat (first | refine bn ?_ _ | refine bd ?_ | refine ba ?_ _)); exact BK775.out)) : gb787 ≠ gb775))
                          have n8_ := aM ((by rw [hg]; exact Nat.ne_of_lt (blk_lt (g := gb788) (o := .cells #[.string (⟨#[]⟩ : ByteArray), .slice none 0 0] 51 (0, 0)) (by (with_reducible repeat (first | refine bn ?_ _ | refine bd ?_ | refine ba ?_ _)); exact BK788.out)) : gb788 ≠ gb787))
                          have n9_ := aM ((by rw [hg]; exact Nat.ne_of_gt (blk_lt (g := gb788) (o := .cells #[.string (⟨#[]⟩ : ByteArray), .slice none 0 0] 51 (0, 0)) (by (with_reducible repeat (first | refine bn ?_ _ | refine bd ?_ | refine ba ?_ _)); exact BK788.out)) : gb787 ≠ gb788))
                          clear BK775
                          clear BK788
                          clear HB
                          have BK775 := n0_
                          have BK788 := n1_
                          have HB := n2_
                          have BK787 := n3_
                          have GW787 := n4_
                          have GE787 := n5_
                          have NB775_787 := n6_
                          have NB787_775 := n7_
                          have NB788_787 := n8_
                          have NB787_788 := n9_
                          clear n0_ n1_ n2_ n3_ n4_ n5_ n6_ n7_ n8_ n9_
                          clear hb hbox hg
                          refine hK.out _ _ ⟨(bC BK775.out 0).trans rfl, (bC BK775.out 1).trans rfl, (bC BK775.out 2).trans rfl, (bC BK775.out 3).trans rfl, (bC BK775.out 4).trans rfl, (bC BK775.out 5).trans rfl, (bC BK775.out 6).trans rfl, (bC BK775.out 7).trans rfl⟩ (fun hHeld => ?_)
                          clear hK K
                          refine norm_ (a' := ?_) ?_ ?_
                          rotate_left
                          · show Act.put _ (some 5) _ = _
                            simp only [Act.put, List.setIfInBounds_toArray, List.set_cons_zero, List.set_cons_succ, i64_w, i32_w]
                            rfl
                          exact norm_ (by first | (simp only [putAll, Act.put, List.setIfInBounds_toArray, List.set_cons_zero, List.set_cons_succ]; done) | (simp only [putAll, Act.put, List.setIfInBounds_toArray, List.set_cons_zero, List.set_cons_succ]; rfl)) (hJ12_13 (gb787, gb788) _ ⟨hHeld, (by (with_reducible repeat (first | refine bn ?_ _ | refine bd ?_ | refine ba ?_ _)); exact BK775.out), (by (with_reducible repeat (first | refine bn ?_ _ | refine bd ?_ | refine ba ?_ _)); exact BK787.out), (by (with_reducible repeat (first | refine bn ?_ _ | refine bd ?_ | refine ba ?_ _)); exact BK788.out), GW787.out, GE787.out, NB775_787.out, NB787_775.out, NB788_787.out, NB787_788.out, GW788.out, GE788.out, NB775_788.out, NB788_775.out, (by repeat (first | (with_reducible first | exact HB.out | apply ea | apply en | apply ed | refine bs ?_ GE775.out | refine bs ?_ GE788.out | refine bs ?_ GE787.out) | exact HB.out))⟩)
                    · skip
                      rintro gb787 w31 ⟨hS_, h0_, h1_, h2_, h3_, h4_, h5_, h6_⟩
                      have n0_ : Aside0 (w31.heap[gb775]? = some (.cells #[.string a0_0, .slice A0_1 l0_1.length c0_1, .string a0_2, .slice A0_3 l0_3.length c0_3, .string a0_4, .int .i64 a0_5, .int .i64 a0_6, .int .u64 a0_7] 77 (0, 0))) := ⟨h0_⟩
                      have n1_ : Aside0 (w31.heap[gb787]? = some (.cells #[.string (⟨#[]⟩ : ByteArray), .slice none 0 0] 51 (0, 0))) := ⟨h1_⟩
                      have n2_ : Aside0 (w.heap.size ≤ gb787) := ⟨h2_⟩
                      have n3_ : Aside0 (w.heap.size ≤ gb787) := ⟨h3_⟩
                      have n4_ : Aside0 (gb775 ≠ gb787) := ⟨h4_⟩
                      have n5_ : Aside0 (gb787 ≠ gb775) := ⟨h5_⟩
                      have n6_ : Aside0 (Below w.heap.size w w31) := ⟨h6_⟩
                      clear BK775
                      clear HB
                      clear h0_ h1_ h2_ h3_ h4_ h5_ h6_
                      have BK775 := n0_
                      have BK787 := n1_
                      have GW787 := n2_
                      have GE787 := n3_
                      have NB775_787 := n4_
                      have NB787_775 := n5_
                      have HB := n6_
                      clear n0_ n1_ n2_ n3_ n4_ n5_ n6_
                      have hHeld : w31.cell? ⟨gb775, 0, none⟩ = some (.string a0_0) ∧ w31.cell? ⟨gb775, 1, none⟩ = some (.slice A0_1 l0_1.length c0_1) ∧ w31.cell? ⟨gb775, 2, none⟩ = some (.string a0_2) ∧ w31.cell? ⟨gb775, 3, none⟩ = some (.slice A0_3 l0_3.length c0_3) ∧ w31.cell? ⟨gb775, 4, none⟩ = some (.string a0_4) ∧ w31.cell? ⟨gb775, 5, none⟩ = some (.int .i64 a0_5) ∧ w31.cell? ⟨gb775, 6, none⟩ = some (.int .i64 a0_6) ∧ w31.cell? ⟨gb775, 7, none⟩ = some (.int .u64 a0_7) := hS_
                      refine norm_ (a' := ?_) ?_ ?_
                      rotate_left
                      · simp only [putAll, Act.put, List.setIfInBounds_toArray, List.set_cons_zero, List.set_cons_succ]
                        rfl
                      refine two_ (i := 5) (j := 13) (Ni := some 38) (Nj := some 6) #[true, true, true, true, true, true, true, true, true, true, true, false, true, false, false, false] #[true, true, true, true, true, false, true, true, true, true, true, false, true, true, false, false] rfl rfl rfl rfl (two_of HT_.out (by kernel_rfl)) (by decide) (by decide) (fun K hK => ?_) (fun K hK => ?_)
                      · skip
                        refine goes_ Try.func66 (by kernel_rfl) rfl #[.agg #[.string a0_0, .slice A0_1 l0_1.length c0_1], .int .u64 a1, .string a0_4] (by rfl) rfl rfl (by (try simp only [List.map_toArray, List.map_cons, List.map_nil]); first | done | rfl | (simp only [List.length_drop, List.length_take]; rfl)) ?_
                        with_reducible refine (bureauref04_Other.calls kj4 a0_0 (fun k_ => k_ < w.heap.size) _ _ l0_1 a1 a0_4 t779 t780 _ ?side1 A24.out).mono ?_
                        (case side1 => exact Kd.V_mk HC0_1.out (Kd.F_below (Kd.C_F k100_heap HR0_1.out) (by repeat (first | (with_reducible first | exact HB.out | apply ea | apply en | apply ed | refine bs ?_ GE775.out | refine bs ?_ GE787.out) | exact HB.out))))
                        rintro e w32 ⟨v781, rfl, ho0, hb⟩
                        refine ⟨_, rfl, ?_⟩
                        have n0_ := aM (Kd.V_lower (Kd.V_mono (ok' := fun k_ => k_ ≠ gb775 ∧ k_ ≠ gb787) ho0 (fun k_ hk_ => ⟨Or.elim hk_ (fun hs_ => fun e_ => Nat.not_le.2 hs_ (by rw [e_]; exact GW775.out)) (fun hn_ => (Kd.freshB (g := gb775) (o := .cells #[.string a0_0, .slice A0_1 l0_1.length c0_1, .string a0_2, .slice A0_3 l0_3.length c0_3, .string a0_4, .int .i64 a0_5, .int .i64 a0_6, .int .u64 a0_7] 77 (0, 0)) (by (with_reducible repeat (first | refine bn ?_ _ | refine bd ?_ | refine ba ?_ _)); exact BK775.out) k_ hn_)), Or.elim hk_ (fun hs_ => fun e_ => Nat.not_le.2 hs_ (by rw [e_]; exact GW787.out)) (fun hn_ => (Kd.freshB (g := gb787) (o := .cells #[.string (⟨#[]⟩ : ByteArray), .slice none 0 0] 51 (0, 0)) (by (with_reducible repeat (first | refine bn ?_ _ | refine bd ?_ | refine ba ?_ _)); exact BK787.out) k_ hn_))⟩)) (bZ (by repeat (first | (with_reducible first | exact HB.out | apply ea | apply en | apply ed | refine bs ?_ GE775.out | refine bs ?_ GE787.out) | exact HB.out))))
                        have n1_ := aM (bB (g := gb775) (o := .cells #[.string a0_0, .slice A0_1 l0_1.length c0_1, .string a0_2, .slice A0_3 l0_3.length c0_3, .string a0_4, .int .i64 a0_5, .int .i64 a0_6, .int .u64 a0_7] 77 (0, 0)) (by (with_reducible repeat (first | refine bn ?_ _ | refine bd ?_ | refine ba ?_ _)); exact BK775.out) hb)
                        have n2_ := aM (bB (g := gb787) (o := .cells #[.string (⟨#[]⟩ : ByteArray), .slice none 0 0] 51 (0, 0)) (by (with_reducible repeat (first | refine bn ?_ _ | refine bd ?_ | refine ba ?_ _)); exact BK787.out) hb)
                        have n3_ := aM (bP (by repeat (first | (with_reducible first | exact HB.out | apply ea | apply en | apply ed | refine bs ?_ GE775.out | refine bs ?_ GE787.out) | exact HB.out)) hb)
                        clear BK775
                        clear BK787
                        clear HB
                        have HO782 := n0_
                        have BK775 := n1_
                        have BK787 := n2_
                        have HB := n3_
                        clear n0_ n1_ n2_ n3_
                        (try clear hb)
                        (try clear hb2)
                        (try clear hk)
                        (try clear hi)
                        (try clear ho0)
                        refine hK.out _ _ ⟨(bC BK775.out 0).trans rfl, (bC BK775.out 1).trans rfl, (bC BK775.out 2).trans rfl, (bC BK775.out 3).trans rfl, (bC BK775.out 4).trans rfl, (bC BK775.out 5).trans rfl, (bC BK775.out 6).trans rfl, (bC BK775.out 7).trans rfl⟩ (fun hHeld => ?_)
                        clear hK K
                        refine norm_ (a' := ?_) ?_ ?_
                        rotate_left
                        · show Act.put _ (some 38) _ = _
                          simp only [Act.put, List.setIfInBounds_toArray, List.set_cons_zero, List.set_cons_succ, i64_w, i32_w]
                          rfl
                        exact norm_ (by first | (simp only [putAll, Act.put, List.setIfInBounds_toArray, List.set_cons_zero, List.set_cons_succ]; done) | (simp only [putAll, Act.put, List.setIfInBounds_toArray, List.set_cons_zero, List.set_cons_succ]; rfl)) (hJ5_12 (v781, gb787) _ ⟨hHeld, (by (with_reducible repeat (first | apply va | apply vn | apply vd)); exact HO782.out), (by (with_reducible repeat (first | refine bn ?_ _ | refine bd ?_ | refine ba ?_ _)); exact BK775.out), (by (with_reducible repeat (first | refine bn ?_ _ | refine bd ?_ | refine ba ?_ _)); exact BK787.out), GW787.out, GE787.out, NB775_787.out, NB787_775.out, (by repeat (first | (with_reducible first | exact HB.out | apply ea | apply en | apply ed | refine bs ?_ GE775.out | refine bs ?_ GE787.out) | exact HB.out))⟩)
                      · skip
                        refine box_step ?hg (N := 6) ?hd (cs := #[.string (⟨#[]⟩ : ByteArray), .slice none 0 0]) (t := 51) ?hr ?_; (case hd => rfl); (case hg => rfl); (case hr => first | (go_simp; done) | (go_simp; rfl))
                        intro gb788 hg w32 hbox hb
                        have n0_ := aM (bB (g := gb775) (o := .cells #[.string a0_0, .slice A0_1 l0_1.length c0_1, .string a0_2, .slice A0_3 l0_3.length c0_3, .string a0_4, .int .i64 a0_5, .int .i64 a0_6, .int .u64 a0_7] 77 (0, 0)) (by (with_reducible repeat (first | refine bn ?_ _ | refine bd ?_ | refine ba ?_ _)); exact BK775.out) hb)
                        have n1_ := aM (bB (g := gb787) (o := .cells #[.string (⟨#[]⟩ : ByteArray), .slice none 0 0] 51 (0, 0)) (by (with_reducible repeat (first | refine bn ?_ _ | refine bd ?_ | refine ba ?_ _)); exact BK787.out) hb)
                        have n2_ := aM (bP (by repeat (first | (with_reducible first | exact HB.out | apply ea | apply en | apply ed | refine bs ?_ GE775.out | refine bs ?_ GE787.out) | exact HB.out)) hb)
                        have n3_ := aM (hbox)
                        have n4_ := aM ((by rw [hg]; exact (bZ (by repeat (first | (with_reducible first | exact HB.out | apply ea | apply en | apply ed | refine bs ?_ GE775.out | refine bs ?_ GE787.out) | exact HB.out))) : w.heap.size ≤ gb788))
                        have n5_ := aM ((by rw [hg]; exact (bZ (by repeat (first | (with_reducible first | exact HB.out | apply ea | apply en | apply ed | refine bs ?_ GE775.out | refine bs ?_ GE787.out) | exact HB.out))) : w.heap.size ≤ gb788))
                        have n6_ := aM ((by rw [hg]; exact Nat.ne_of_lt (blk_lt (g := gb775) (o := .cells #[.string a0_0, .slice A0_1 l0_1.length c0_1, .string a0_2, .slice A0_3 l0_3.length c0_3, .string a0_4, .int .i64 a0_5, .int .i64 a0_6, .int .u64 a0_7] 77 (0, 0)) (by (with_reducible repeat (first | refine bn ?_ _ | refine bd ?_ | refine ba ?_ _)); exact BK775.out)) : gb775 ≠ gb788))
                        have n7_ := aM ((by rw [hg]; exact Nat.ne_of_gt (blk_lt (g := gb775) (o := .cells #[.string a0_0, .slice A0_1 l0_1.length c0_1, .string a0_2, .slice A0_3 l0_3.length c0_3, .string a0_4, .int .i64 a0_5, .int .i64 a0_6, .int .u64 a0_7] 77 (0, 0)) (by (with_reducible repeat (first | refine bn ?_ _ | refine bd ?_ | refine ba ?_ _)); exact BK775.out)) : gb788 ≠ gb775))
                        have n8_ := aM ((by rw [hg]; exact Nat.ne_of_lt (blk_lt (g := gb787) (o := .cells #[.string (⟨#[]⟩ : ByteArray), .slice none 0 0] 51 (0, 0)) (by (with_reducible repeat (first | refine bn ?_ _ | refine bd ?_ | refine ba ?_ _)); exact BK787.out)) : gb787 ≠ gb788))
                        have n9_ := aM ((by rw [hg]; exact Nat.ne_of_gt (blk_lt (g := gb787) (o := .cells #[.string (⟨#[]⟩ : ByteArray), .slice none 0 0] 51 (0, 0)) (by (with_reducible repeat (first | refine bn ?_ _ | refine bd ?_ | refine ba ?_ _)); exact BK787.out)) : gb788 ≠ gb787))
                        clear BK775
                        clear BK787
                        clear HB
                        have BK775 := n0_
                        have BK787 := n1_
                        have HB := n2_
                        have BK788 := n3_
                        have GW788 := n4_
                        have GE788 := n5_
                        have NB775_788 := n6_
                        have NB788_775 := n7_
                        have NB787_788 := n8_
                        have NB788_787 := n9_
                        clear n0_ n1_ n2_ n3_ n4_ n5_ n6_ n7_ n8_ n9_
                        clear hb hbox hg
                        refine hK.out _ _ ⟨(bC BK775.out 0).trans rfl, (bC BK775.out 1).trans rfl, (bC BK775.out 2).trans rfl, (bC BK775.out 3).trans rfl, (bC BK775.out 4).trans rfl, (bC BK775.out 5).trans rfl, (bC BK775.out 6).trans rfl, (bC BK775.out 7).trans rfl⟩ (fun hHeld => ?_)
                        clear hK K
                        refine norm_ (a' := ?_) ?_ ?_
                        rotate_left
                        · show Act.put _ (some 6) _ = _
                          simp only [Act.put, List.setIfInBounds_toArray, List.set_cons_zero, List.set_cons_succ, i64_w, i32_w]
                          rfl
                        exact norm_ (by first | (simp only [putAll, Act.put, List.setIfInBounds_toArray, List.set_cons_zero, List.set_cons_succ]; done) | (simp only [putAll, Act.put, List.setIfInBounds_toArray, List.set_cons_zero, List.set_cons_succ]; rfl)) (hJ12_13 (gb787, gb788) _ ⟨hHeld, (by (with_reducible repeat (first | refine bn ?_ _ | refine bd ?_ | refine ba ?_ _)); exact BK775.out), (by (with_reducible repeat (first | refine bn ?_ _ | refine bd ?_ | refine ba ?_ _)); exact BK787.out), (by (with_reducible repeat (first | refine bn ?_ _ | refine bd ?_ | refine ba ?_ _)); exact BK788.out), GW787.out, GE787.out, NB775_787.out, NB787_775.out, NB788_787.out, NB787_788.out, GW788.out, GE788.out, NB775_788.out, NB788_775.out, (by repeat (first | (with_reducible first | exact HB.out | apply ea | apply en | apply ed | refine bs ?_ GE775.out | refine bs ?_ GE787.out | refine bs ?_ GE788.out) | exact HB.out))⟩)
                  · skip
                    rintro v781 w31 ⟨hS_, h0_, h1_, h2_⟩
                    have n0_ : Aside0 (Kd.V k100 100 w31 w.heap.size (fun k_ => k_ ≠ gb775) v781 t780) := ⟨h0_⟩
                    have n1_ : Aside0 (w31.heap[gb775]? = some (.cells #[.string a0_0, .slice A0_1 l0_1.length c0_1, .string a0_2, .slice A0_3 l0_3.length c0_3, .string a0_4, .int .i64 a0_5, .int .i64 a0_6, .int .u64 a0_7] 77 (0, 0))) := ⟨h1_⟩
                    have n2_ : Aside0 (Below w.heap.size w w31) := ⟨h2_⟩
                    clear BK775
                    clear HB
                    clear h0_ h1_ h2_
                    have HO782 := n0_
                    have BK775 := n1_
                    have HB := n2_
                    clear n0_ n1_ n2_
                    have hHeld : w31.cell? ⟨gb775, 0, none⟩ = some (.string a0_0) ∧ w31.cell? ⟨gb775, 1, none⟩ = some (.slice A0_1 l0_1.length c0_1) ∧ w31.cell? ⟨gb775, 2, none⟩ = some (.string a0_2) ∧ w31.cell? ⟨gb775, 3, none⟩ = some (.slice A0_3 l0_3.length c0_3) ∧ w31.cell? ⟨gb775, 4, none⟩ = some (.string a0_4) ∧ w31.cell? ⟨gb775, 5, none⟩ = some (.int .i64 a0_5) ∧ w31.cell? ⟨gb775, 6, none⟩ = some (.int .i64 a0_6) ∧ w31.cell? ⟨gb775, 7, none⟩ = some (.int .u64 a0_7) := hS_
                    refine norm_ (a' := ?_) ?_ ?_
                    rotate_left
                    · simp only [putAll, Act.put, List.setIfInBounds_toArray, List.set_cons_zero, List.set_cons_succ]
                      rfl
                    refine three_ (i := 11) (j := 12) (k := 13) (Ni := some 44) (Nj := some 5) (Nk := some 6) #[true, true, true, true, true, true, true, true, true, true, true, true, false, false, false, false] #[true, true, true, true, true, true, true, true, true, true, true, false, true, false, false, false] #[true, true, true, true, true, true, true, true, true, true, true, false, false, true, false, false] rfl rfl rfl rfl rfl rfl (three_of HT_.out (by kernel_rfl)) (by decide) (by decide) (by decide) (fun K hK => ?_) (fun K hK => ?_) (fun K hK => ?_)
                    · skip
                      refine goes_ Try.func66 (by kernel_rfl) rfl #[.agg #[.string a0_2, .slice A0_3 l0_3.length c0_3], .int .u64 a1, .string a0_4] (by rfl) rfl rfl (by (try simp only [List.map_toArray, List.map_cons, List.map_nil]); first | done | rfl | (simp only [List.length_drop, List.length_take]; rfl)) ?_
                      with_reducible refine (bureauref04_Other.calls kj4 a0_2 (fun k_ => k_ < w.heap.size) _ _ l0_3 a1 a0_4 t783 t784 _ ?side1 A25.out).mono ?_
                      (case side1 => exact Kd.V_mk HC0_3.out (Kd.F_below (Kd.C_F k100_heap HR0_3.out) (by repeat (first | (with_reducible first | exact HB.out | apply ea | apply en | apply ed | refine bs ?_ GE775.out) | exact HB.out))))
                      rintro e w32 ⟨v785, rfl, ho0, hb⟩
                      refine ⟨_, rfl, ?_⟩
                      have n0_ := aM (Kd.V_below (by (with_reducible repeat (first | apply va | apply vn | apply vd)); exact HO782.out) hb)
                      have n1_ := aM (Kd.V_lower (Kd.V_mono (ok' := fun k_ => k_ ≠ gb775) ho0 (fun k_ hk_ => Or.elim hk_ (fun hs_ => fun e_ => Nat.not_le.2 hs_ (by rw [e_]; exact GW775.out)) (fun hn_ => (Kd.freshB (g := gb775) (o := .cells #[.string a0_0, .slice A0_1 l0_1.length c0_1, .string a0_2, .slice A0_3 l0_3.length c0_3, .string a0_4, .int .i64 a0_5, .int .i64 a0_6, .int .u64 a0_7] 77 (0, 0)) (by (with_reducible repeat (first | refine bn ?_ _ | refine bd ?_ | refine ba ?_ _)); exact BK775.out) k_ hn_)))) (bZ (by repeat (first | (with_reducible first | exact HB.out | apply ea | apply en | apply ed | refine bs ?_ GE775.out) | exact HB.out))))
                      have n2_ := aM (bB (g := gb775) (o := .cells #[.string a0_0, .slice A0_1 l0_1.length c0_1, .string a0_2, .slice A0_3 l0_3.length c0_3, .string a0_4, .int .i64 a0_5, .int .i64 a0_6, .int .u64 a0_7] 77 (0, 0)) (by (with_reducible repeat (first | refine bn ?_ _ | refine bd ?_ | refine ba ?_ _)); exact BK775.out) hb)
                      have n3_ := aM (bP (by repeat (first | (with_reducible first | exact HB.out | apply ea | apply en | apply ed | refine bs ?_ GE775.out) | exact HB.out)) hb)
                      clear HO782
                      clear BK775
                      clear HB
                      have HO782 := n0_
                      have HO786 := n1_
                      have BK775 := n2_
                      have HB := n3_
                      clear n0_ n1_ n2_ n3_
                      (try clear hb)
                      (try clear hb2)
                      (try clear hk)
                      (try clear hi)
                      (try clear ho0)
                      refine hK.out _ _ ⟨(bC BK775.out 0).trans rfl, (bC BK775.out 1).trans rfl, (bC BK775.out 2).trans rfl, (bC BK775.out 3).trans rfl, (bC BK775.out 4).trans rfl, (bC BK775.out 5).trans rfl, (bC BK775.out 6).trans rfl, (bC BK775.out 7).trans rfl⟩ (fun hHeld => ?_)
                      clear hK K
                      refine norm_ (a' := ?_) ?_ ?_
                      rotate_left
                      · show Act.put _ (some 44) _ = _
                        simp only [Act.put, List.setIfInBounds_toArray, List.set_cons_zero, List.set_cons_succ, i64_w, i32_w]
                        rfl
                      exact norm_ (by first | (simp only [putAll, Act.put, List.setIfInBounds_toArray, List.set_cons_zero, List.set_cons_succ]; done) | (simp only [putAll, Act.put, List.setIfInBounds_toArray, List.set_cons_zero, List.set_cons_succ]; rfl)) (hJ5_11 (v781, v785) _ ⟨hHeld, (by (with_reducible repeat (first | apply va | apply vn | apply vd)); exact HO782.out), (by (with_reducible repeat (first | apply va | apply vn | apply vd)); exact HO786.out), (by (with_reducible repeat (first | refine bn ?_ _ | refine bd ?_ | refine ba ?_ _)); exact BK775.out), (by repeat (first | (with_reducible first | exact HB.out | apply ea | apply en | apply ed | refine bs ?_ GE775.out) | exact HB.out))⟩)
                    · skip
                      refine box_step ?hg (N := 5) ?hd (cs := #[.string (⟨#[]⟩ : ByteArray), .slice none 0 0]) (t := 51) ?hr ?_; (case hd => rfl); (case hg => rfl); (case hr => first | (go_simp; done) | (go_simp; rfl))
                      intro gb787 hg w32 hbox hb
                      have n0_ := aM (Kd.V_below (Kd.V_elderB (by (with_reducible repeat (first | apply va | apply vn | apply vd)); exact HO782.out) gb787 (Nat.le_of_eq hg.symm)) hb)
                      have n1_ := aM (bB (g := gb775) (o := .cells #[.string a0_0, .slice A0_1 l0_1.length c0_1, .string a0_2, .slice A0_3 l0_3.length c0_3, .string a0_4, .int .i64 a0_5, .int .i64 a0_6, .int .u64 a0_7] 77 (0, 0)) (by (with_reducible repeat (first | refine bn ?_ _ | refine bd ?_ | refine ba ?_ _)); exact BK775.out) hb)
                      have n2_ := aM (bP (by repeat (first | (with_reducible first | exact HB.out | apply ea | apply en | apply ed | refine bs ?_ GE775.out) | exact HB.out)) hb)
                      have n3_ := aM (hbox)
                      have n4_ := aM ((by rw [hg]; exact (bZ (by repeat (first | (with_reducible first | exact HB.out | apply ea | apply en | apply ed | refine bs ?_ GE775.out) | exact HB.out))) : w.heap.size ≤ gb787))
                      have n5_ := aM ((by rw [hg]; exact (bZ (by repeat (first | (with_reducible first | exact HB.out | apply ea | apply en | apply ed | refine bs ?_ GE775.out) | exact HB.out))) : w.heap.size ≤ gb787))
                      have n6_ := aM ((by rw [hg]; exact Nat.ne_of_lt (blk_lt (g := gb775) (o := .cells #[.string a0_0, .slice A0_1 l0_1.length c0_1, .string a0_2, .slice A0_3 l0_3.length c0_3, .string a0_4, .int .i64 a0_5, .int .i64 a0_6, .int .u64 a0_7] 77 (0, 0)) (by (with_reducible repeat (first | refine bn ?_ _ | refine bd ?_ | refine ba ?_ _)); exact BK775.out)) : gb775 ≠ gb787))
                      have n7_ := aM ((by rw [hg]; exact Nat.ne_of_gt (blk_lt (g := gb775) (o := .cells #[.string a0_0, .slice A0_1 l0_1.length c0_1, .string a0_2, .slice A0_3 l0_3.length c0_3, .string a0_4, .int .i64 a0_5, .int .i64 a0_6, .int .u64 a0_7] 77 (0, 0)) (by (with_reducible repeat (first | refine bn ?_ _ | refine bd ?_ | refine ba ?_ _)); exact BK775.out)) : gb787 ≠ gb775))
                      clear HO782
                      clear BK775
                      clear HB
                      have HO782 := n0_
                      have BK775 := n1_
                      have HB := n2_
                      have BK787 := n3_
                      have GW787 := n4_
                      have GE787 := n5_
                      have NB775_787 := n6_
                      have NB787_775 := n7_
                      clear n0_ n1_ n2_ n3_ n4_ n5_ n6_ n7_
                      clear hb hbox hg
                      refine hK.out _ _ ⟨(bC BK775.out 0).trans rfl, (bC BK775.out 1).trans rfl, (bC BK775.out 2).trans rfl, (bC BK775.out 3).trans rfl, (bC BK775.out 4).trans rfl, (bC BK775.out 5).trans rfl, (bC BK775.out 6).trans rfl, (bC BK775.out 7).trans rfl⟩ (fun hHeld => ?_)
                      clear hK K
                      refine norm_ (a' := ?_) ?_ ?_
                      rotate_left
                      · show Act.put _ (some 5) _ = _
                        simp only [Act.put, List.setIfInBounds_toArray, List.set_cons_zero, List.set_cons_succ, i64_w, i32_w]
                        rfl
                      exact norm_ (by first | (simp only [putAll, Act.put, List.setIfInBounds_toArray, List.set_cons_zero, List.set_cons_succ]; done) | (simp only [putAll, Act.put, List.setIfInBounds_toArray, List.set_cons_zero, List.set_cons_succ]; rfl)) (hJ5_12 (v781, gb787) _ ⟨hHeld, (by (with_reducible repeat (first | apply va | apply vn | apply vd)); exact HO782.out), (by (with_reducible repeat (first | refine bn ?_ _ | refine bd ?_ | refine ba ?_ _)); exact BK775.out), (by (with_reducible repeat (first | refine bn ?_ _ | refine bd ?_ | refine ba ?_ _)); exact BK787.out), GW787.out, GE787.out, NB775_787.out, NB787_775.out, (by repeat (first | (with_reducible first | exact HB.out | apply ea | apply en | apply ed | refine bs ?_ GE775.out | refine bs ?_ GE787.out) | exact HB.out))⟩)
                    · skip
                      refine box_step ?hg (N := 6) ?hd (cs := #[.string (⟨#[]⟩ : ByteArray), .slice none 0 0]) (t := 51) ?hr ?_; (case hd => rfl); (case hg => rfl); (case hr => first | (go_simp; done) | (go_simp; rfl))
                      intro gb788 hg w32 hbox hb
                      have n0_ := aM (Kd.V_below (Kd.V_elderB (by (with_reducible repeat (first | apply va | apply vn | apply vd)); exact HO782.out) gb788 (Nat.le_of_eq hg.symm)) hb)
                      have n1_ := aM (bB (g := gb775) (o := .cells #[.string a0_0, .slice A0_1 l0_1.length c0_1, .string a0_2, .slice A0_3 l0_3.length c0_3, .string a0_4, .int .i64 a0_5, .int .i64 a0_6, .int .u64 a0_7] 77 (0, 0)) (by (with_reducible repeat (first | refine bn ?_ _ | refine bd ?_ | refine ba ?_ _)); exact BK775.out) hb)
                      have n2_ := aM (bP (by repeat (first | (with_reducible first | exact HB.out | apply ea | apply en | apply ed | refine bs ?_ GE775.out) | exact HB.out)) hb)
                      have n3_ := aM (hbox)
                      have n4_ := aM ((by rw [hg]; exact (bZ (by repeat (first | (with_reducible first | exact HB.out | apply ea | apply en | apply ed | refine bs ?_ GE775.out) | exact HB.out))) : w.heap.size ≤ gb788))
                      have n5_ := aM ((by rw [hg]; exact (bZ (by repeat (first | (with_reducible first | exact HB.out | apply ea | apply en | apply ed | refine bs ?_ GE775.out) | exact HB.out))) : w.heap.size ≤ gb788))
                      have n6_ := aM ((by rw [hg]; exact Nat.ne_of_lt (blk_lt (g := gb775) (o := .cells #[.string a0_0, .slice A0_1 l0_1.length c0_1, .string a0_2, .slice A0_3 l0_3.length c0_3, .string a0_4, .int .i64 a0_5, .int .i64 a0_6, .int .u64 a0_7] 77 (0, 0)) (by (with_reducible repeat (first | refine bn ?_ _ | refine bd ?_ | refine ba ?_ _)); exact BK775.out)) : gb775 ≠ gb788))
                      have n7_ := aM ((by rw [hg]; exact Nat.ne_of_gt (blk_lt (g := gb775) (o := .cells #[.string a0_0, .slice A0_1 l0_1.length c0_1, .string a0_2, .slice A0_3 l0_3.length c0_3, .string a0_4, .int .i64 a0_5, .int .i64 a0_6, .int .u64 a0_7] 77 (0, 0)) (by (with_reducible repeat (first | refine bn ?_ _ | refine bd ?_ | refine ba ?_ _)); exact BK775.out)) : gb788 ≠ gb775))
                      clear HO782
                      clear BK775
                      clear HB
                      have HO782 := n0_
                      have BK775 := n1_
                      have HB := n2_
                      have BK788 := n3_
                      have GW788 := n4_
                      have GE788 := n5_
                      have NB775_788 := n6_
                      have NB788_775 := n7_
                      clear n0_ n1_ n2_ n3_ n4_ n5_ n6_ n7_
                      clear hb hbox hg
                      refine hK.out _ _ ⟨(bC BK775.out 0).trans rfl, (bC BK775.out 1).trans rfl, (bC BK775.out 2).trans rfl, (bC BK775.out 3).trans rfl, (bC BK775.out 4).trans rfl, (bC BK775.out 5).trans rfl, (bC BK775.out 6).trans rfl, (bC BK775.out 7).trans rfl⟩ (fun hHeld => ?_)
                      clear hK K
                      refine norm_ (a' := ?_) ?_ ?_
                      rotate_left
                      · show Act.put _ (some 6) _ = _
                        simp only [Act.put, List.setIfInBounds_toArray, List.set_cons_zero, List.set_cons_succ, i64_w, i32_w]
                        rfl
                      exact norm_ (by first | (simp only [putAll, Act.put, List.setIfInBounds_toArray, List.set_cons_zero, List.set_cons_succ]; done) | (simp only [putAll, Act.put, List.setIfInBounds_toArray, List.set_cons_zero, List.set_cons_succ]; rfl)) (hJ5_13 (v781, gb788) _ ⟨hHeld, (by (with_reducible repeat (first | apply va | apply vn | apply vd)); exact HO782.out), (by (with_reducible repeat (first | refine bn ?_ _ | refine bd ?_ | refine ba ?_ _)); exact BK775.out), (by (with_reducible repeat (first | refine bn ?_ _ | refine bd ?_ | refine ba ?_ _)); exact BK788.out), GW788.out, GE788.out, NB775_788.out, NB788_775.out, (by repeat (first | (with_reducible first | exact HB.out | apply ea | apply en | apply ed | refine bs ?_ GE775.out | refine bs ?_ GE788.out) | exact HB.out))⟩)
                · skip
                  rintro ⟨gb787, gb788⟩ w32 ⟨hS_, h0_, h1_, h2_, h3_, h4_, h5_, h6_, h7_, h8_, h9_, h10_, h11_, h12_, h13_⟩
                  have n0_ : Aside0 (w32.heap[gb775]? = some (.cells #[.string a0_0, .slice A0_1 l0_1.length c0_1, .string a0_2, .slice A0_3 l0_3.length c0_3, .string a0_4, .int .i64 a0_5, .int .i64 a0_6, .int .u64 a0_7] 77 (0, 0))) := ⟨h0_⟩
                  have n1_ : Aside0 (w32.heap[gb787]? = some (.cells #[.string (⟨#[]⟩ : ByteArray), .slice none 0 0] 51 (0, 0))) := ⟨h1_⟩
                  have n2_ : Aside0 (w32.heap[gb788]? = some (.cells #[.string (⟨#[]⟩ : ByteArray), .slice none 0 0] 51 (0, 0))) := ⟨h2_⟩
                  have n3_ : Aside0 (w.heap.size ≤ gb787) := ⟨h3_⟩
                  have n4_ : Aside0 (w.heap.size ≤ gb787) := ⟨h4_⟩
                  have n5_ : Aside0 (gb775 ≠ gb787) := ⟨h5_⟩
                  have n6_ : Aside0 (gb787 ≠ gb775) := ⟨h6_⟩
                  have n7_ : Aside0 (gb788 ≠ gb787) := ⟨h7_⟩
                  have n8_ : Aside0 (gb787 ≠ gb788) := ⟨h8_⟩
                  have n9_ : Aside0 (w.heap.size ≤ gb788) := ⟨h9_⟩
                  have n10_ : Aside0 (w.heap.size ≤ gb788) := ⟨h10_⟩
                  have n11_ : Aside0 (gb775 ≠ gb788) := ⟨h11_⟩
                  have n12_ : Aside0 (gb788 ≠ gb775) := ⟨h12_⟩
                  have n13_ : Aside0 (Below w.heap.size w w32) := ⟨h13_⟩
                  clear BK775
                  clear HB
                  clear h0_ h1_ h2_ h3_ h4_ h5_ h6_ h7_ h8_ h9_ h10_ h11_ h12_ h13_
                  have BK775 := n0_
                  have BK787 := n1_
                  have BK788 := n2_
                  have GW787 := n3_
                  have GE787 := n4_
                  have NB775_787 := n5_
                  have NB787_775 := n6_
                  have NB788_787 := n7_
                  have NB787_788 := n8_
                  have GW788 := n9_
                  have GE788 := n10_
                  have NB775_788 := n11_
                  have NB788_775 := n12_
                  have HB := n13_
                  clear n0_ n1_ n2_ n3_ n4_ n5_ n6_ n7_ n8_ n9_ n10_ n11_ n12_ n13_
                  have hHeld : w32.cell? ⟨gb775, 0, none⟩ = some (.string a0_0) ∧ w32.cell? ⟨gb775, 1, none⟩ = some (.slice A0_1 l0_1.length c0_1) ∧ w32.cell? ⟨gb775, 2, none⟩ = some (.string a0_2) ∧ w32.cell? ⟨gb775, 3, none⟩ = some (.slice A0_3 l0_3.length c0_3) ∧ w32.cell? ⟨gb775, 4, none⟩ = some (.string a0_4) ∧ w32.cell? ⟨gb775, 5, none⟩ = some (.int .i64 a0_5) ∧ w32.cell? ⟨gb775, 6, none⟩ = some (.int .i64 a0_6) ∧ w32.cell? ⟨gb775, 7, none⟩ = some (.int .u64 a0_7) := hS_
                  refine norm_ (a' := ?_) ?_ ?_
                  rotate_left
                  · simp only [putAll, Act.put, List.setIfInBounds_toArray, List.set_cons_zero, List.set_cons_succ]
                    rfl
                  refine one_ (i := 5) (N := some 38) #[true, true, true, true, true, true, true, true, true, true, true, false, true, true, false, false] rfl rfl (one_of HT_.out (by kernel_rfl)) (by decide) (fun K hK => ?_)
                  refine goes_ Try.func66 (by kernel_rfl) rfl #[.agg #[.string a0_0, .slice A0_1 l0_1.length c0_1], .int .u64 a1, .string a0_4] (by rfl) rfl rfl (by (try simp only [List.map_toArray, List.map_cons, List.map_nil]); first | done | rfl | (simp only [List.length_drop, List.length_take]; rfl)) ?_
                  with_reducible refine (bureauref04_Other.calls kj4 a0_0 (fun k_ => k_ < w.heap.size) _ _ l0_1 a1 a0_4 t779 t780 _ ?side1 A24.out).mono ?_
                  (case side1 => exact Kd.V_mk HC0_1.out (Kd.F_below (Kd.C_F k100_heap HR0_1.out) (by repeat (first | (with_reducible first | exact HB.out | apply ea | apply en | apply ed | refine bs ?_ GE775.out | refine bs ?_ GE787.out | refine bs ?_ GE788.out) | exact HB.out))))
                  rintro e w33 ⟨v781, rfl, ho0, hb⟩
                  refine ⟨_, rfl, ?_⟩
                  have n0_ := aM (Kd.V_lower (Kd.V_mono (ok' := fun k_ => k_ ≠ gb775 ∧ k_ ≠ gb787 ∧ k_ ≠ gb788) ho0 (fun k_ hk_ => ⟨Or.elim hk_ (fun hs_ => fun e_ => Nat.not_le.2 hs_ (by rw [e_]; exact GW775.out)) (fun hn_ => (Kd.freshB (g := gb775) (o := .cells #[.string a0_0, .slice A0_1 l0_1.length c0_1, .string a0_2, .slice A0_3 l0_3.length c0_3, .string a0_4, .int .i64 a0_5, .int .i64 a0_6, .int .u64 a0_7] 77 (0, 0)) (by (with_reducible repeat (first | refine bn ?_ _ | refine bd ?_ | refine ba ?_ _)); exact BK775.out) k_ hn_)), Or.elim hk_ (fun hs_ => fun e_ => Nat.not_le.2 hs_ (by rw [e_]; exact GW787.out)) (fun hn_ => (Kd.freshB (g := gb787) (o := .cells #[.string (⟨#[]⟩ : ByteArray), .slice none 0 0] 51 (0, 0)) (by (with_reducible repeat (first | refine bn ?_ _ | refine bd ?_ | refine ba ?_ _)); exact BK787.out) k_ hn_)), Or.elim hk_ (fun hs_ => fun e_ => Nat.not_le.2 hs_ (by rw [e_]; exact GW788.out)) (fun hn_ => (Kd.freshB (g := gb788) (o := .cells #[.string (⟨#[]⟩ : ByteArray), .slice none 0 0] 51 (0, 0)) (by (with_reducible repeat (first | refine bn ?_ _ | refine bd ?_ | refine ba ?_ _)); exact BK788.out) k_ hn_))⟩)) (bZ (by repeat (first | (with_reducible first | exact HB.out | apply ea | apply en | apply ed | refine bs ?_ GE775.out | refine bs ?_ GE787.out | refine bs ?_ GE788.out) | exact HB.out))))
                  have n1_ := aM (bB (g := gb775) (o := .cells #[.string a0_0, .slice A0_1 l0_1.length c0_1, .string a0_2, .slice A0_3 l0_3.length c0_3, .string a0_4, .int .i64 a0_5, .int .i64 a0_6, .int .u64 a0_7] 77 (0, 0)) (by (with_reducible repeat (first | refine bn ?_ _ | refine bd ?_ | refine ba ?_ _)); exact BK775.out) hb)
                  have n2_ := aM (bB (g := gb787) (o := .cells #[.string (⟨#[]⟩ : ByteArray), .slice none 0 0] 51 (0, 0)) (by (with_reducible repeat (first | refine bn ?_ _ | refine bd ?_ | refine ba ?_ _)); exact BK787.out) hb)
                  have n3_ := aM (bB (g := gb788) (o := .cells #[.string (⟨#[]⟩ : ByteArray), .slice none 0 0] 51 (0, 0)) (by (with_reducible repeat (first | refine bn ?_ _ | refine bd ?_ | refine ba ?_ _)); exact BK788.out) hb)
                  have n4_ := aM (bP (by repeat (first | (with_reducible first | exact HB.out | apply ea | apply en | apply ed | refine bs ?_ GE775.out | refine bs ?_ GE787.out | refine bs ?_ GE788.out) | exact HB.out)) hb)
                  clear BK775
                  clear BK787
                  clear BK788
                  clear HB
                  have HO782 := n0_
                  have BK775 := n1_
                  have BK787 := n2_
                  have BK788 := n3_
                  have HB := n4_
                  clear n0_ n1_ n2_ n3_ n4_
                  (try clear hb)
                  (try clear hb2)
                  (try clear hk)
                  (try clear hi)
                  (try clear ho0)
                  refine hK.out _ _ ⟨(bC BK775.out 0).trans rfl, (bC BK775.out 1).trans rfl, (bC BK775.out 2).trans rfl, (bC BK775.out 3).trans rfl, (bC BK775.out 4).trans rfl, (bC BK775.out 5).trans rfl, (bC BK775.out 6).trans rfl, (bC BK775.out 7).trans rfl⟩ (fun hHeld => ?_)
                  clear hK K
                  refine norm_ (a' := ?_) ?_ ?_
                  rotate_left
                  · show Act.put _ (some 38) _ = _
                    simp only [Act.put, List.setIfInBounds_toArray, List.set_cons_zero, List.set_cons_succ, i64_w, i32_w]
                    rfl
                  exact norm_ (by first | (simp only [putAll, Act.put, List.setIfInBounds_toArray, List.set_cons_zero, List.set_cons_succ]; done) | (simp only [putAll, Act.put, List.setIfInBounds_toArray, List.set_cons_zero, List.set_cons_succ]; rfl)) (hJ5_12_13 (v781, gb787, gb788) _ ⟨hHeld, (by (with_reducible repeat (first | apply va | apply vn | apply vd)); exact HO782.out), (by (with_reducible repeat (first | refine bn ?_ _ | refine bd ?_ | refine ba ?_ _)); exact BK775.out), (by (with_reducible repeat (first | refine bn ?_ _ | refine bd ?_ | refine ba ?_ _)); exact BK787.out), (by (with_reducible repeat (first | refine bn ?_ _ | refine bd ?_ | refine ba ?_ _)); exact BK788.out), GW787.out, GE787.out, NB775_787.out, NB787_775.out, NB788_787.out, NB787_788.out, GW788.out, GE788.out, NB775_788.out, NB788_775.out, (by repeat (first | (with_reducible first | exact HB.out | apply ea | apply en | apply ed | refine bs ?_ GE775.out | refine bs ?_ GE787.out | refine bs ?_ GE788.out) | exact HB.out))⟩)
              · skip
                rintro ⟨v781, gb788⟩ w32 ⟨hS_, h0_, h1_, h2_, h3_, h4_, h5_, h6_, h7_⟩
                have n0_ : Aside0 (Kd.V k100 100 w32 w.heap.size (fun k_ => k_ ≠ gb775 ∧ k_ ≠ gb788) v781 t780) := ⟨h0_⟩
                have n1_ : Aside0 (w32.heap[gb775]? = some (.cells #[.string a0_0, .slice A0_1 l0_1.length c0_1, .string a0_2, .slice A0_3 l0_3.length c0_3, .string a0_4, .int .i64 a0_5, .int .i64 a0_6, .int .u64 a0_7] 77 (0, 0))) := ⟨h1_⟩
                have n2_ : Aside0 (w32.heap[gb788]? = some (.cells #[.string (⟨#[]⟩ : ByteArray), .slice none 0 0] 51 (0, 0))) := ⟨h2_⟩
                have n3_ : Aside0 (w.heap.size ≤ gb788) := ⟨h3_⟩
                have n4_ : Aside0 (w.heap.size ≤ gb788) := ⟨h4_⟩
                have n5_ : Aside0 (gb775 ≠ gb788) := ⟨h5_⟩
                have n6_ : Aside0 (gb788 ≠ gb775) := ⟨h6_⟩
                have n7_ : Aside0 (Below w.heap.size w w32) := ⟨h7_⟩
                clear BK775
                clear HB
                clear h0_ h1_ h2_ h3_ h4_ h5_ h6_ h7_
                have HO782 := n0_
                have BK775 := n1_
                have BK788 := n2_
                have GW788 := n3_
                have GE788 := n4_
                have NB775_788 := n5_
                have NB788_775 := n6_
                have HB := n7_
                clear n0_ n1_ n2_ n3_ n4_ n5_ n6_ n7_
                have hHeld : w32.cell? ⟨gb775, 0, none⟩ = some (.string a0_0) ∧ w32.cell? ⟨gb775, 1, none⟩ = some (.slice A0_1 l0_1.length c0_1) ∧ w32.cell? ⟨gb775, 2, none⟩ = some (.string a0_2) ∧ w32.cell? ⟨gb775, 3, none⟩ = some (.slice A0_3 l0_3.length c0_3) ∧ w32.cell? ⟨gb775, 4, none⟩ = some (.string a0_4) ∧ w32.cell? ⟨gb775, 5, none⟩ = some (.int .i64 a0_5) ∧ w32.cell? ⟨gb775, 6, none⟩ = some (.int .i64 a0_6) ∧ w32.cell? ⟨gb775, 7, none⟩ = some (.int .u64 a0_7) := hS_
                refine norm_ (a' := ?_) ?_ ?_
                rotate_left
                · simp only [putAll, Act.put, List.setIfInBounds_toArray, List.set_cons_zero, List.set_cons_succ]
                  rfl
                refine two_ (i := 11) (j := 12) (Ni := some 44) (Nj := some 5) #[true, true, true, true, true, true, true, true, true, true, true, true, false, true, false, false] #[true, true, true, true, true, true, true, true, true, true, true, false, true, true, false, false] rfl rfl rfl rfl (two_of HT_.out (by kernel_rfl)) (by decide) (by decide) (fun K hK => ?_) (fun K hK => ?_)
                · skip
                  refine goes_ Try.func66 (by kernel_rfl) rfl #[.agg #[.string a0_2, .slice A0_3 l0_3.length c0_3], .int .u64 a1, .string a0_4] (by rfl) rfl rfl (by (try simp only [List.map_toArray, List.map_cons, List.map_nil]); first | done | rfl | (simp only [List.length_drop, List.length_take]; rfl)) ?_
                  with_reducible refine (bureauref04_Other.calls kj4 a0_2 (fun k_ => k_ < w.heap.size) _ _ l0_3 a1 a0_4 t783 t784 _ ?side1 A25.out).mono ?_
                  (case side1 => exact Kd.V_mk HC0_3.out (Kd.F_below (Kd.C_F k100_heap HR0_3.out) (by repeat (first | (with_reducible first | exact HB.out | apply ea | apply en | apply ed | refine bs ?_ GE775.out | refine bs ?_ GE788.out) | exact HB.out))))
                  rintro e w33 ⟨v785, rfl, ho0, hb⟩
                  refine ⟨_, rfl, ?_⟩
                  have n0_ := aM (Kd.V_below (by (with_reducible repeat (first | apply va | apply vn | apply vd)); exact HO782.out) hb)
                  have n1_ := aM (Kd.V_lower (Kd.V_mono (ok' := fun k_ => k_ ≠ gb775 ∧ k_ ≠ gb788) ho0 (fun k_ hk_ => ⟨Or.elim hk_ (fun hs_ => fun e_ => Nat.not_le.2 hs_ (by rw [e_]; exact GW775.out)) (fun hn_ => (Kd.freshB (g := gb775) (o := .cells #[.string a0_0, .slice A0_1 l0_1.length c0_1, .string a0_2, .slice A0_3 l0_3.length c0_3, .string a0_4, .int .i64 a0_5, .int .i64 a0_6, .int .u64 a0_7] 77 (0, 0)) (by (with_reducible repeat (first | refine bn ?_ _ | refine bd ?_ | refine ba ?_ _)); exact BK775.out) k_ hn_)), Or.elim hk_ (fun hs_ => fun e_ => Nat.not_le.2 hs_ (by rw [e_]; exact GW788.out)) (fun hn_ => (Kd.freshB (g := gb788) (o := .cells #[.string (⟨#[]⟩ : ByteArray), .slice none 0 0] 51 (0, 0)) (by (with_reducible repeat (first | refine bn ?_ _ | refine bd ?_ | refine ba ?_ _)); exact BK788.out) k_ hn_))⟩)) (bZ (by repeat (first | (with_reducible first | exact HB.out | apply ea | apply en | apply ed | refine bs ?_ GE775.out | refine bs ?_ GE788.out) | exact HB.out))))
                  have n2_ := aM (bB (g := gb775) (o := .cells #[.string a0_0, .slice A0_1 l0_1.length c0_1, .string a0_2, .slice A0_3 l0_3.length c0_3, .string a0_4, .int .i64 a0_5, .int .i64 a0_6, .int .u64 a0_7] 77 (0, 0)) (by (with_reducible repeat (first | refine bn ?_ _ | refine bd ?_ | refine ba ?_ _)); exact BK775.out) hb)
                  have n3_ := aM (bB (g := gb788) (o := .cells #[.string (⟨#[]⟩ : ByteArray), .slice none 0 0] 51 (0, 0)) (by (with_reducible repeat (first | refine bn ?_ _ | refine bd ?_ | refine ba ?_ _)); exact BK788.out) hb)
                  have n4_ := aM (bP (by repeat (first | (with_reducible first | exact HB.out | apply ea | apply en | apply ed | refine bs ?_ GE775.out | refine bs ?_ GE788.out) | exact HB.out)) hb)
                  clear HO782
                  clear BK775
                  clear BK788
                  clear HB
                  have HO782 := n0_
                  have HO786 := n1_
                  have BK775 := n2_
                  have BK788 := n3_
                  have HB := n4_
                  clear n0_ n1_ n2_ n3_ n4_
                  (try clear hb)
                  (try clear hb2)
                  (try clear hk)
                  (try clear hi)
                  (try clear ho0)
                  refine hK.out _ _ ⟨(bC BK775.out 0).trans rfl, (bC BK775.out 1).trans rfl, (bC BK775.out 2).trans rfl, (bC BK775.out 3).trans rfl, (bC BK775.out 4).trans rfl, (bC BK775.out 5).trans rfl, (bC BK775.out 6).trans rfl, (bC BK775.out 7).trans rfl⟩ (fun hHeld => ?_)
                  clear hK K
                  refine norm_ (a' := ?_) ?_ ?_
                  rotate_left
                  · show Act.put _ (some 44) _ = _
                    simp only [Act.put, List.setIfInBounds_toArray, List.set_cons_zero, List.set_cons_succ, i64_w, i32_w]
                    rfl
                  exact norm_ (by first | (simp only [putAll, Act.put, List.setIfInBounds_toArray, List.set_cons_zero, List.set_cons_succ]; done) | (simp only [putAll, Act.put, List.setIfInBounds_toArray, List.set_cons_zero, List.set_cons_succ]; rfl)) (hJ5_11_13 (v781, v785, gb788) _ ⟨hHeld, (by (with_reducible repeat (first | apply va | apply vn | apply vd)); exact HO782.out), (by (with_reducible repeat (first | apply va | apply vn | apply vd)); exact HO786.out), (by (with_reducible repeat (first | refine bn ?_ _ | refine bd ?_ | refine ba ?_ _)); exact BK775.out), (by (with_reducible repeat (first | refine bn ?_ _ | refine bd ?_ | refine ba ?_ _)); exact BK788.out), GW788.out, GE788.out, NB775_788.out, NB788_775.out, (by repeat (first | (with_reducible first | exact HB.out | apply ea | apply en | apply ed | refine bs ?_ GE775.out | refine bs ?_ GE788.out) | exact HB.out))⟩)
                · skip
                  refine box_step ?hg (N := 5) ?hd (cs := #[.string (⟨#[]⟩ : ByteArray), .slice none 0 0]) (t := 51) ?hr ?_; (case hd => rfl); (case hg => rfl); (case hr => first | (go_simp; done) | (go_simp; rfl))
                  intro gb787 hg w33 hbox hb
                  have n0_ := aM (Kd.V_below (Kd.V_elderB (by (with_reducible repeat (first | apply va | apply vn | apply vd)); exact HO782.out) gb787 (Nat.le_of_eq hg.symm)) hb)
                  have n1_ := aM (bB (g := gb775) (o := .cells #[.string a0_0, .slice A0_1 l0_1.length c0_1, .string a0_2, .slice A0_3 l0_3.length c0_3, .string a0_4, .int .i64 a0_5, .int .i64 a0_6, .int .u64 a0_7] 77 (0, 0)) (by (with_reducible repeat (first | refine bn ?_ _ | refine bd ?_ | refine ba ?_ _)); exact BK775.out) hb)
                  have n2_ := aM (bB (g := gb788) (o := .cells #[.string (⟨#[]⟩ : ByteArray), .slice none 0 0] 51 (0, 0)) (by (with_reducible repeat (first | refine bn ?_ _ | refine bd ?_ | refine ba ?_ _)); exact BK788.out) hb)
                  have n3_ := aM (bP (by repeat (first | (with_reducible first | exact HB.out | apply ea | apply en | apply ed | refine bs ?_ GE775.out | refine bs ?_ GE788.out) | exact HB.out)) hb)
                  have n4_ := aM (hbox)
                  have n5_ := aM ((by rw [hg]; exact (bZ (by repeat (first | (with_reducible first | exact HB.out | apply ea | apply en | apply ed | refine bs ?_ GE775.out | refine bs ?_ GE788.out) | exact HB.out))) : w.heap.size ≤ gb787))
                  have n6_ := aM ((by rw [hg]; exact (bZ (by repeat (first | (with_reducible first | exact HB.out | apply ea | apply en | apply ed | refine bs ?_ GE775.out | refine bs ?_ GE788.out) | exact HB.out))) : w.heap.size ≤ gb787))
                  have n7_ := aM ((by rw [hg]; exact Nat.ne_of_lt (blk_lt (g := gb775) (o := .cells #[.string a0_0, .slice A0_1 l0_1.length c0_1, .string a0_2, .slice A0_3 l0_3.length c0_3, .string a0_4, .int .i64 a0_5, .int .i64 a0_6, .int .u64 a0_7] 77 (0, 0)) (by (with_reducible repeat (first | refine bn ?_ _ | refine bd ?_ | refine ba ?_ _)); exact BK775.out)) : gb775 ≠ gb787))
                  have n8_ := aM ((by rw [hg]; exact Nat.ne_of_gt (blk_lt (g := gb775) (o := .cells #[.string a0_0, .slice A0_1 l0_1.length c0_1, .string a0_2, .slice A0_3 l0_3.length c0_3, .string a0_4, .int .i64 a0_5, .int .i64 a0_6, .int .u64 a0_7] 77 (0, 0)) (by (with_reducible repeat (first | refine bn ?_ _ | refine bd ?_ | refine ba ?_ _)); exact BK775.out)) : gb787 ≠ gb775))
                  have n9_ := aM ((by rw [hg]; exact Nat.ne_of_lt (blk_lt (g := gb788) (o := .cells #[.string (⟨#[]⟩ : ByteArray), .slice none 0 0] 51 (0, 0)) (by (with_reducible repeat (first | refine bn ?_ _ | refine bd ?_ | refine ba ?_ _)); exact BK788.out)) : gb788 ≠ gb787))
                  have n10_ := aM ((by rw [hg]; exact Nat.ne_of_gt (blk_lt (g := gb788) (o := .cells #[.string (⟨#[]⟩ : ByteArray), .slice none 0 0] 51 (0, 0)) (by (with_reducible repeat (first | refine bn ?_ _ | refine bd ?_ | refine ba ?_ _)); exact BK788.out)) : gb787 ≠ gb788))
                  clear HO782
                  clear BK775
                  clear BK788
                  clear HB
                  have HO782 := n0_
                  have BK775 := n1_
                  have BK788 := n2_
                  have HB := n3_
                  have BK787 := n4_
                  have GW787 := n5_
                  have GE787 := n6_
                  have NB775_787 := n7_
                  have NB787_775 := n8_
                  have NB788_787 := n9_
                  have NB787_788 := n10_
                  clear n0_ n1_ n2_ n3_ n4_ n5_ n6_ n7_ n8_ n9_ n10_
                  clear hb hbox hg
                  refine hK.out _ _ ⟨(bC BK775.out 0).trans rfl, (bC BK775.out 1).trans rfl, (bC BK775.out 2).trans rfl, (bC BK775.out 3).trans rfl, (bC BK775.out 4).trans rfl, (bC BK775.out 5).trans rfl, (bC BK775.out 6).trans rfl, (bC BK775.out 7).trans rfl⟩ (fun hHeld => ?_)
                  clear hK K
                  refine norm_ (a' := ?_) ?_ ?_
                  rotate_left
                  · show Act.put _ (some 5) _ = _
                    simp only [Act.put, List.setIfInBounds_toArray, List.set_cons_zero, List.set_cons_succ, i64_w, i32_w]
                    rfl
                  exact norm_ (by first | (simp only [putAll, Act.put, List.setIfInBounds_toArray, List.set_cons_zero, List.set_cons_succ]; done) | (simp only [putAll, Act.put, List.setIfInBounds_toArray, List.set_cons_zero, List.set_cons_succ]; rfl)) (hJ5_12_13 (v781, gb787, gb788) _ ⟨hHeld, (by (with_reducible repeat (first | apply va | apply vn | apply vd)); exact Kd.V_mono HO782.out (fun _ hk => ⟨hk.1.1, ⟨hk.2, hk.1.2⟩⟩)), (by (with_reducible repeat (first | refine bn ?_ _ | refine bd ?_ | refine ba ?_ _)); exact BK775.out), (by (with_reducible repeat (first | refine bn ?_ _ | refine bd ?_ | refine ba ?_ _)); exact BK787.out), (by (with_reducible repeat (first | refine bn ?_ _ | refine bd ?_ | refine ba ?_ _)); exact BK788.out), GW787.out, GE787.out, NB775_787.out, NB787_775.out, NB788_787.out, NB787_788.out, GW788.out, GE788.out, NB775_788.out, NB788_775.out, (by repeat (first | (with_reducible first | exact HB.out | apply ea | apply en | apply ed | refine bs ?_ GE775.out | refine bs ?_ GE788.out | refine bs ?_ GE787.out) | exact HB.out))⟩)
            · skip
              rintro ⟨v781, gb787⟩ w32 ⟨hS_, h0_, h1_, h2_, h3_, h4_, h5_, h6_, h7_⟩
              have n0_ : Aside0 (Kd.V k100 100 w32 w.heap.size (fun k_ => k_ ≠ gb775 ∧ k_ ≠ gb787) v781 t780) := ⟨h0_⟩
              have n1_ : Aside0 (w32.heap[gb775]? = some (.cells #[.string a0_0, .slice A0_1 l0_1.length c0_1, .string a0_2, .slice A0_3 l0_3.length c0_3, .string a0_4, .int .i64 a0_5, .int .i64 a0_6, .int .u64 a0_7] 77 (0, 0))) := ⟨h1_⟩
              have n2_ : Aside0 (w32.heap[gb787]? = some (.cells #[.string (⟨#[]⟩ : ByteArray), .slice none 0 0] 51 (0, 0))) := ⟨h2_⟩
              have n3_ : Aside0 (w.heap.size ≤ gb787) := ⟨h3_⟩
              have n4_ : Aside0 (w.heap.size ≤ gb787) := ⟨h4_⟩
              have n5_ : Aside0 (gb775 ≠ gb787) := ⟨h5_⟩
              have n6_ : Aside0 (gb787 ≠ gb775) := ⟨h6_⟩
              have n7_ : Aside0 (Below w.heap.size w w32) := ⟨h7_⟩
              clear BK775
              clear HB
              clear h0_ h1_ h2_ h3_ h4_ h5_ h6_ h7_
              have HO782 := n0_
              have BK775 := n1_
              have BK787 := n2_
              have GW787 := n3_
              have GE787 := n4_
              have NB775_787 := n5_
              have NB787_775 := n6_
              have HB := n7_
              clear n0_ n1_ n2_ n3_ n4_ n5_ n6_ n7_
              have hHeld : w32.cell? ⟨gb775, 0, none⟩ = some (.string a0_0) ∧ w32.cell? ⟨gb775, 1, none⟩ = some (.slice A0_1 l0_1.length c0_1) ∧ w32.cell? ⟨gb775, 2, none⟩ = some (.string a0_2) ∧ w32.cell? ⟨gb775, 3, none⟩ = some (.slice A0_3 l0_3.length c0_3) ∧ w32.cell? ⟨gb775, 4, none⟩ = some (.string a0_4) ∧ w32.cell? ⟨gb775, 5, none⟩ = some (.int .i64 a0_5) ∧ w32.cell? ⟨gb775, 6, none⟩ = some (.int .i64 a0_6) ∧ w32.cell? ⟨gb775, 7, none⟩ = some (.int .u64 a0_7) := hS_
              refine norm_ (a' := ?_) ?_ ?_
              rotate_left
              · simp only [putAll, Act.put, List.setIfInBounds_toArray, List.set_cons_zero, List.set_cons_succ]
                rfl
              refine two_ (i := 11) (j := 13) (Ni := some 44) (Nj := some 6) #[true, true, true, true, true, true, true, true, true, true, true, true, true, false, false, false] #[true, true, true, true, true, true, true, true, true, true, true, false, true, true, false, false] rfl rfl rfl rfl (two_of HT_.out (by kernel_rfl)) (by decide) (by decide) (fun K hK => ?_) (fun K hK => ?_)
              · skip
                refine goes_ Try.func66 (by kernel_rfl) rfl #[.agg #[.string a0_2, .slice A0_3 l0_3.length c0_3], .int .u64 a1, .string a0_4] (by rfl) rfl rfl (by (try simp only [List.map_toArray, List.map_cons, List.map_nil]); first | done | rfl | (simp only [List.length_drop, List.length_take]; rfl)) ?_
                with_reducible refine (bureauref04_Other.calls kj4 a0_2 (fun k_ => k_ < w.heap.size) _ _ l0_3 a1 a0_4 t783 t784 _ ?side1 A25.out).mono ?_
                (case side1 => exact Kd.V_mk HC0_3.out (Kd.F_below (Kd.C_F k100_heap HR0_3.out) (by repeat (first | (with_reducible first | exact HB.out | apply ea | apply en | apply ed | refine bs ?_ GE775.out | refine bs ?_ GE787.out) | exact HB.out))))
                rintro e w33 ⟨v785, rfl, ho0, hb⟩
                refine ⟨_, rfl, ?_⟩
                have n0_ := aM (Kd.V_below (by (with_reducible repeat (first | apply va | apply vn | apply vd)); exact HO782.out) hb)
                have n1_ := aM (Kd.V_lower (Kd.V_mono (ok' := fun k_ => k_ ≠ gb775 ∧ k_ ≠ gb787) ho0 (fun k_ hk_ => ⟨Or.elim hk_ (fun hs_ => fun e_ => Nat.not_le.2 hs_ (by rw [e_]; exact GW775.out)) (fun hn_ => (Kd.freshB (g := gb775) (o := .cells #[.string a0_0, .slice A0_1 l0_1.length c0_1, .string a0_2, .slice A0_3 l0_3.length c0_3, .string a0_4, .int .i64 a0_5, .int .i64 a0_6, .int .u64 a0_7] 77 (0, 0)) (by (with_reducible repeat (first | refine bn ?_ _ | refine bd ?_ | refine ba ?_ _)); exact BK775.out) k_ hn_)), Or.elim hk_ (fun hs_ => fun e_ => Nat.not_le.2 hs_ (by rw [e_]; exact GW787.out)) (fun hn_ => (Kd.freshB (g := gb787) (o := .cells #[.string (⟨#[]⟩ : ByteArray), .slice none 0 0] 51 (0, 0)) (by (with_reducible repeat (first | refine bn ?_ _ | refine bd ?_ | refine ba ?_ _)); exact BK787.out) k_ hn_))⟩)) (bZ (by repeat (first | (with_reducible first | exact HB.out | apply ea | apply en | apply ed | refine bs ?_ GE775.out | refine bs ?_ GE787.out) | exact HB.out))))
                have n2_ := aM (bB (g := gb775) (o := .cells #[.string a0_0, .slice A0_1 l0_1.length c0_1, .string a0_2, .slice A0_3 l0_3.length c0_3, .string a0_4, .int .i64 a0_5, .int .i64 a0_6, .int .u64 a0_7] 77 (0, 0)) (by (with_reducible repeat (first | refine bn ?_ _ | refine bd ?_ | refine ba ?_ _)); exact BK775.out) hb)
                have n3_ := aM (bB (g := gb787) (o := .cells #[.string (⟨#[]⟩ : ByteArray), .slice none 0 0] 51 (0, 0)) (by (with_reducible repeat (first | refine bn ?_ _ | refine bd ?_ | refine ba ?_ _)); exact BK787.out) hb)
                have n4_ := aM (bP (by repeat (first | (with_reducible first | exact HB.out | apply ea | apply en | apply ed | refine bs ?_ GE775.out | refine bs ?_ GE787.out) | exact HB.out)) hb)
                clear HO782
                clear BK775
                clear BK787
                clear HB
                have HO782 := n0_
                have HO786 := n1_
                have BK775 := n2_
                have BK787 := n3_
                have HB := n4_
                clear n0_ n1_ n2_ n3_ n4_
                (try clear hb)
                (try clear hb2)
                (try clear hk)
                (try clear hi)
                (try clear ho0)
                refine hK.out _ _ ⟨(bC BK775.out 0).trans rfl, (bC BK775.out 1).trans rfl, (bC BK775.out 2).trans rfl, (bC BK775.out 3).trans rfl, (bC BK775.out 4).trans rfl, (bC BK775.out 5).trans rfl, (bC BK775.out 6).trans rfl, (bC BK775.out 7).trans rfl⟩ (fun hHeld => ?_)
                clear hK K
                refine norm_ (a' := ?_) ?_ ?_
                rotate_left
                · show Act.put _ (some 44) _ = _
                  simp only [Act.put, List.setIfInBounds_toArray, List.set_cons_zero, List.set_cons_succ, i64_w, i32_w]
                  rfl
                exact norm_ (by first | (simp only [putAll, Act.put, List.setIfInBounds_toArray, List.set_cons_zero, List.set_cons_succ]; done) | (simp only [putAll, Act.put, List.setIfInBounds_toArray, List.set_cons_zero, List.set_cons_succ]; rfl)) (hJ5_11_12 (v781, v785, gb787) _ ⟨hHeld, (by (with_reducible repeat (first | apply va | apply vn | apply vd)); exact HO782.out), (by (with_reducible repeat (first | apply va | apply vn | apply vd)); exact HO786.out), (by (with_reducible repeat (first | refine bn ?_ _ | refine bd ?_ | refine ba ?_ _)); exact BK775.out), (by (with_reducible repeat (first | refine bn ?_ _ | refine bd ?_ | refine ba ?_ _)); exact BK787.out), GW787.out, GE787.out, NB775_787.out, NB787_775.out, (by repeat (first | (with_reducible first | exact HB.out | apply ea | apply en | apply ed | refine bs ?_ GE775.out | refine bs ?_ GE787.out) | exact HB.out))⟩)
              · skip
                refine box_step ?hg (N := 6) ?hd (cs := #[.string (⟨#[]⟩ : ByteArray), .slice none 0 0]) (t := 51) ?hr ?_; (case hd => rfl); (case hg => rfl); (case hr => first | (go_simp; done) | (go_simp; rfl))
                intro gb788 hg w33 hbox hb
                have n0_ := aM (Kd.V_below (Kd.V_elderB (by (with_reducible repeat (first | apply va | apply vn | apply vd)); exact HO782.out) gb788 (Nat.le_of_eq hg.symm)) hb)
                have n1_ := aM (bB (g := gb775) (o := .cells #[.string a0_0, .slice A0_1 l0_1.length c0_1, .string a0_2, .slice A0_3 l0_3.length c0_3, .string a0_4, .int .i64 a0_5, .int .i64 a0_6, .int .u64 a0_7] 77 (0, 0)) (by (with_reducible repeat (first | refine bn ?_ _ | refine bd ?_ | refine ba ?_ _)); exact BK775.out) hb)
                have n2_ := aM (bB (g := gb787) (o := .cells #[.string (⟨#[]⟩ : ByteArray), .slice none 0 0] 51 (0, 0)) (by (with_reducible repeat (first | refine bn ?_ _ | refine bd ?_ | refine ba ?_ _)); exact BK787.out) hb)
                have n3_ := aM (bP (by repeat (first | (with_reducible first | exact HB.out | apply ea | apply en | apply ed | refine bs ?_ GE775.out | refine bs ?_ GE787.out) | exact HB.out)) hb)
                have n4_ := aM (hbox)
                have n5_ := aM ((by rw [hg]; exact (bZ (by repeat (first | (with_reducible first | exact HB.out | apply ea | apply en | apply ed | refine bs ?_ GE775.out | refine bs ?_ GE787.out) | exact HB.out))) : w.heap.size ≤ gb788))
                have n6_ := aM ((by rw [hg]; exact (bZ (by repeat (first | (with_reducible first | exact HB.out | apply ea | apply en | apply ed | refine bs ?_ GE775.out | refine bs ?_ GE787.out) | exact HB.out))) : w.heap.size ≤ gb788))
                have n7_ := aM ((by rw [hg]; exact Nat.ne_of_lt (blk_lt (g := gb775) (o := .cells #[.string a0_0, .slice A0_1 l0_1.length c0_1, .string a0_2, .slice A0_3 l0_3.length c0_3, .string a0_4, .int .i64 a0_5, .int .i64 a0_6, .int .u64 a0_7] 77 (0, 0)) (by (with_reducible repeat (first | refine bn ?_ _ | refine bd ?_ | refine ba ?_ _)); exact BK775.out)) : gb775 ≠ gb788))
                have n8_ := aM ((by rw [hg]; exact Nat.ne_of_gt (blk_lt (g := gb775) (o := .cells #[.string a0_0, .slice A0_1 l0_1.length c0_1, .string a0_2, .slice A0_3 l0_3.length c0_3, .string a0_4, .int .i64 a0_5, .int .i64 a0_6, .int .u64 a0_7] 77 (0, 0)) (by (with_reducible repeat (first | refine bn ?_ _ | refine bd ?_ | refine ba ?_ _)); exact BK775.out)) : gb788 ≠ gb775))
                have n9_ := aM ((by rw [hg]; exact Nat.ne_of_lt (blk_lt (g := gb787) (o := .cells #[.string (⟨#[]⟩ : ByteArray), .slice none 0 0] 51 (0, 0)) (by (with_reducible repeat (first | refine bn ?_ _ | refine bd ?_ | refine ba ?_ _)); exact BK787.out)) : gb787 ≠ gb788))
                have n10_ := aM ((by rw [hg]; exact Nat.ne_of_gt (blk_lt (g := gb787) (o := .cells #[.string (⟨#[]⟩ : ByteArray), .slice none 0 0] 51 (0, 0)) (by (with_reducible repeat (first | refine bn ?_ _ | refine bd ?_ | refine ba ?_ _)); exact BK787.out)) : gb788 ≠ gb787))
                clear HO782
                clear BK775
                clear BK787
                clear HB
                have HO782 := n0_
                have BK775 := n1_
                have BK787 := n2_
                have HB := n3_
                have BK788 := n4_
                have GW788 := n5_
                have GE788 := n6_
                have NB775_788 := n7_
                have NB788_775 := n8_
                have NB787_788 := n9_
                have NB788_787 := n10_
                clear n0_ n1_ n2_ n3_ n4_ n5_ n6_ n7_ n8_ n9_ n10_
                clear hb hbox hg
                refine hK.out _ _ ⟨(bC BK775.out 0).trans rfl, (bC BK775.out 1).trans rfl, (bC BK775.out 2).trans rfl, (bC BK775.out 3).trans rfl, (bC BK775.out 4).trans rfl, (bC BK775.out 5).trans rfl, (bC BK775.out 6).trans rfl, (bC BK775.out 7).trans rfl⟩ (fun hHeld => ?_)
                clear hK K
                refine norm_ (a' := ?_) ?_ ?_
                rotate_left
                · show Act.put _ (some 6) _ = _
                  simp only [Act.put, List.setIfInBounds_toArray, List.set_cons_zero, List.set_cons_succ, i64_w, i32_w]
                  rfl
                exact norm_ (by first | (simp only [putAll, Act.put, List.setIfInBounds_toArray, List.set_cons_zero, List.set_cons_succ]; done) | (simp only [putAll, Act.put, List.setIfInBounds_toArray, List.set_cons_zero, List.set_cons_succ]; rfl)) (hJ5_12_13 (v781, gb787, gb788) _ ⟨hHeld, (by (with_reducible repeat (first | apply va | apply vn | apply vd)); exact Kd.V_mono HO782.out (fun _ hk => ⟨hk.1.1, ⟨hk.1.2, hk.2⟩⟩)), (by (with_reducible repeat (first | refine bn ?_ _ | refine bd ?_ | refine ba ?_ _)); exact BK775.out), (by (with_reducible repeat (first | refine bn ?_ _ | refine bd ?_ | refine ba ?_ _)); exact BK787.out), (by (with_reducible repeat (first | refine bn ?_ _ | refine bd ?_ | refine ba ?_ _)); exact BK788.out), GW787.out, GE787.out, NB775_787.out, NB787_775.out, NB788_787.out, NB787_788.out, GW788.out, GE788.out, NB775_788.out, NB788_775.out, (by repeat (first | (with_reducible first | exact HB.out | apply ea | apply en | apply ed | refine bs ?_ GE775.out | refine bs ?_ GE787.out | refine bs ?_ GE788.out) | exact HB.out))⟩)
          · skip
            rintro ⟨v781, v785⟩ w32 ⟨hS_, h0_, h1_, h2_, h3_⟩
            have n0_ : Aside0 (Kd.V k100 100 w32 w.heap.size (fun k_ => k_ ≠ gb775) v781 t780) := ⟨h0_⟩
            have n1_ : Aside0 (Kd.V k100 100 w32 w.heap.size (fun k_ => k_ ≠ gb775) v785 t784) := ⟨h1_⟩
            have n2_ : Aside0 (w32.heap[gb775]? = some (.cells #[.string a0_0, .slice A0_1 l0_1.length c0_1, .string a0_2, .slice A0_3 l0_3.length c0_3, .string a0_4, .int .i64 a0_5, .int .i64 a0_6, .int .u64 a0_7] 77 (0, 0))) := ⟨h2_⟩
            have n3_ : Aside0 (Below w.heap.size w w32) := ⟨h3_⟩
            clear BK775
            clear HB
            clear h0_ h1_ h2_ h3_
            have HO782 := n0_
            have HO786 := n1_
            have BK775 := n2_
            have HB := n3_
            clear n0_ n1_ n2_ n3_
            have hHeld : w32.cell? ⟨gb775, 0, none⟩ = some (.string a0_0) ∧ w32.cell? ⟨gb775, 1, none⟩ = some (.slice A0_1 l0_1.length c0_1) ∧ w32.cell? ⟨gb775, 2, none⟩ = some (.string a0_2) ∧ w32.cell? ⟨gb775, 3, none⟩ = some (.slice A0_3 l0_3.length c0_3) ∧ w32.cell? ⟨gb775, 4, none⟩ = some (.string a0_4) ∧ w32.cell? ⟨gb775, 5, none⟩ = some (.int .i64 a0_5) ∧ w32.cell? ⟨gb775, 6, none⟩ = some (.int .i64 a0_6) ∧ w32.cell? ⟨gb775, 7, none⟩ = some (.int .u64 a0_7) := hS_
            refine norm_ (a' := ?_) ?_ ?_
            rotate_left
            · simp only [putAll, Act.put, List.setIfInBounds_toArray, List.set_cons_zero, List.set_cons_succ]
              rfl
            refine two_ (i := 12) (j := 13) (Ni := some 5) (Nj := some 6) #[true, true, true, true, true, true, true, true, true, true, true, true, true, false, false, false] #[true, true, true, true, true, true, true, true, true, true, true, true, false, true, false, false] rfl rfl rfl rfl (two_of HT_.out (by kernel_rfl)) (by decide) (by decide) (fun K hK => ?_) (fun K hK => ?_)
            · skip
              refine box_step ?hg (N := 5) ?hd (cs := #[.string (⟨#[]⟩ : ByteArray), .slice none 0 0]) (t := 51) ?hr ?_; (case hd => rfl); (case hg => rfl); (case hr => first | (go_simp; done) | (go_simp; rfl))
              intro gb787 hg w33 hbox hb
              have n0_ := aM (Kd.V_below (Kd.V_elderB (by (with_reducible repeat (first | apply va | apply vn | apply vd)); exact HO782.out) gb787 (Nat.le_of_eq hg.symm)) hb)
              have n1_ := aM (Kd.V_below (Kd.V_elderB (by (with_reducible repeat (first | apply va | apply vn | apply vd)); exact HO786.out) gb787 (Nat.le_of_eq hg.symm)) hb)
              have n2_ := aM (bB (g := gb775) (o := .cells #[.string a0_0, .slice A0_1 l0_1.length c0_1, .string a0_2, .slice A0_3 l0_3.length c0_3, .string a0_4, .int .i64 a0_5, .int .i64 a0_6, .int .u64 a0_7] 77 (0, 0)) (by (with_reducible repeat (first | refine bn ?_ _ | refine bd ?_ | refine ba ?_ _)); exact BK775.out) hb)
              have n3_ := aM (bP (by repeat (first | (with_reducible first | exact HB.out | apply ea | apply en | apply ed | refine bs ?_ GE775.out) | exact HB.out)) hb)
              have n4_ := aM (hbox)
              have n5_ := aM ((by rw [hg]; exact (bZ (by repeat (first | (with_reducible first | exact HB.out | apply ea | apply en | apply ed | refine bs ?_ GE775.out) | exact HB.out))) : w.heap.size ≤ gb787))
              have n6_ := aM ((by rw [hg]; exact (bZ (by repeat (first | (with_reducible first | exact HB.out | apply ea | apply en | apply ed | refine bs ?_ GE775.out) | exact HB.out))) : w.heap.size ≤ gb787))
              have n7_ := aM ((by rw [hg]; exact Nat.ne_of_lt (blk_lt (g := gb775) (o := .cells #[.string a0_0, .slice A0_1 l0_1.length c0_1, .string a0_2, .slice A0_3 l0_3.length c0_3, .string a0_4, .int .i64 a0_5, .int .i64 a0_6, .int .u64 a0_7] 77 (0, 0)) (by (with_reducible repeat (first | refine bn ?_ _ | refine bd ?_ | refine ba ?_ _)); exact BK775.out)) : gb775 ≠ gb787))
              have n8_ := aM ((by rw [hg]; exact Nat.ne_of_gt (blk_lt (g := gb775) (o := .cells #[.string a0_0, .slice A0_1 l0_1.length c0_1, .string a0_2, .slice A0_3 l0_3.length c0_3, .string a0_4, .int .i64 a0_5, .int .i64 a0_6, .int .u64 a0_7] 77 (0, 0)) (by (with_reducible repeat (first | refine bn ?_ _ | refine bd ?_ | refine ba ?_ _)); exact BK775.out)) : gb787 ≠ gb775))
              clear HO782
              clear HO786
              clear BK775
              clear HB
              have HO782 := n0_
              have HO786 := n1_
              have BK775 := n2_
              have HB := n3_
              have BK787 := n4_
              have GW787 := n5_
              have GE787 := n6_
              have NB775_787 := n7_
              have NB787_775 := n8_
              clear n0_ n1_ n2_ n3_ n4_ n5_ n6_ n7_ n8_
              clear hb hbox hg
              refine hK.out _ _ ⟨(bC BK775.out 0).trans rfl, (bC BK775.out 1).trans rfl, (bC BK775.out 2).trans rfl, (bC BK775.out 3).trans rfl, (bC BK775.out 4).trans rfl, (bC BK775.out 5).trans rfl, (bC BK775.out 6).trans rfl, (bC BK775.out 7).trans rfl⟩ (fun hHeld => ?_)
              clear hK K
              refine norm_ (a' := ?_) ?_ ?_
              rotate_left
              · show Act.put _ (some 5) _ = _
                simp only [Act.put, List.setIfInBounds_toArray, List.set_cons_zero, List.set_cons_succ, i64_w, i32_w]
                rfl
              exact norm_ (by first | (simp only [putAll, Act.put, List.setIfInBounds_toArray, List.set_cons_zero, List.set_cons_succ]; done) | (simp only [putAll, Act.put, List.setIfInBounds_toArray, List.set_cons_zero, List.set_cons_succ]; rfl)) (hJ5_11_12 (v781, v785, gb787) _ ⟨hHeld, (by (with_reducible repeat (first | apply va | apply vn | apply vd)); exact HO782.out), (by (with_reducible repeat (first | apply va | apply vn | apply vd)); exact HO786.out), (by (with_reducible repeat (first | refine bn ?_ _ | refine bd ?_ | refine ba ?_ _)); exact BK775.out), (by (with_reducible repeat (first | refine bn ?_ _ | refine bd ?_ | refine ba ?_ _)); exact BK787.out), GW787.out, GE787.out, NB775_787.out, NB787_775.out, (by repeat (first | (with_reducible first | exact HB.out | apply ea | apply en | apply ed | refine bs ?_ GE775.out | refine bs ?_ GE787.out) | exact HB.out))⟩)
            · skip
              refine box_step ?hg (N := 6) ?hd (cs := #[.string (⟨#[]⟩ : ByteArray), .slice none 0 0]) (t := 51) ?hr ?_; (case hd => rfl); (case hg => rfl); (case hr => first | (go_simp; done) | (go_simp; rfl))
              intro gb788 hg w33 hbox hb
              have n0_ := aM (Kd.V_below (Kd.V_elderB (by (with_reducible repeat (first | apply va | apply vn | apply vd)); exact HO782.out) gb788 (Nat.le_of_eq hg.symm)) hb)
              have n1_ := aM (Kd.V_below (Kd.V_elderB (by (with_reducible repeat (first | apply va | apply vn | apply vd)); exact HO786.out) gb788 (Nat.le_of_eq hg.symm)) hb)
              have n2_ := aM (bB (g := gb775) (o := .cells #[.string a0_0, .slice A0_1 l0_1.length c0_1, .string a0_2, .slice A0_3 l0_3.length c0_3, .string a0_4, .int .i64 a0_5, .int .i64 a0_6, .int .u64 a0_7] 77 (0, 0)) (by (with_reducible repeat (first | refine bn ?_ _ | refine bd ?_ | refine ba ?_ _)); exact BK775.out) hb)
              have n3_ := aM (bP (by repeat (first | (with_reducible first | exact HB.out | apply ea | apply en | apply ed | refine bs ?_ GE775.out) | exact HB.out)) hb)
              have n4_ := aM (hbox)
              have n5_ := aM ((by rw [hg]; exact (bZ (by repeat (first | (with_reducible first | exact HB.out | apply ea | apply en | apply ed | refine bs ?_ GE775.out) | exact HB.out))) : w.heap.size ≤ gb788))
              have n6_ := aM ((by rw [hg]; exact (bZ (by repeat (first | (with_reducible first | exact HB.out | apply ea | apply en | apply ed | refine bs ?_ GE775.out) | exact HB.out))) : w.heap.size ≤ gb788))
              have n7_ := aM ((by rw [hg]; exact Nat.ne_of_lt (blk_lt (g := gb775) (o := .cells #[.string a0_0, .slice A0_1 l0_1.length c0_1, .string a0_2, .slice A0_3 l0_3.length c0_3, .string a0_4, .int .i64 a0_5, .int .i64 a0_6, .int .u64 a0_7] 77 (0, 0)) (by (with_reducible repeat (first | refine bn ?_ _ | refine bd ?_ | refine ba ?_ _)); exact BK775.out)) : gb775 ≠ gb788))
              have n8_ := aM ((by rw [hg]; exact Nat.ne_of_gt (blk_lt (g := gb775) (o := .cells #[.string a0_0, .slice A0_1 l0_1.length c0_1, .string a0_2, .slice A0_3 l0_3.length c0_3, .string a0_4, .int .i64 a0_5, .int .i64 a0_6, .int .u64 a0_7] 77 (0, 0)) (by (with_reducible repeat (first | refine bn ?_ _ | refine bd ?_ | refine ba ?_ _)); exact BK775.out)) : gb788 ≠ gb775))
              clear HO782
              clear HO786
              clear BK775
              clear HB
              have HO782 := n0_
              have HO786 := n1_
              have BK775 := n2_
              have HB := n3_
              have BK788 := n4_
              have GW788 := n5_
              have GE788 := n6_
              have NB775_788 := n7_
              have NB788_775 := n8_
              clear n0_ n1_ n2_ n3_ n4_ n5_ n6_ n7_ n8_
              clear hb hbox hg
              refine hK.out _ _ ⟨(bC BK775.out 0).trans rfl, (bC BK775.out 1).trans rfl, (bC BK775.out 2).trans rfl, (bC BK775.out 3).trans rfl, (bC BK775.out 4).trans rfl, (bC BK775.out 5).trans rfl, (bC BK775.out 6).trans rfl, (bC BK775.out 7).trans rfl⟩ (fun hHeld => ?_)
              clear hK K
              refine norm_ (a' := ?_) ?_ ?_
              rotate_left
              · show Act.put _ (some 6) _ = _
                simp only [Act.put, List.setIfInBounds_toArray, List.set_cons_zero, List.set_cons_succ, i64_w, i32_w]
                rfl
              exact norm_ (by first | (simp only [putAll, Act.put, List.setIfInBounds_toArray, List.set_cons_zero, List.set_cons_succ]; done) | (simp only [putAll, Act.put, List.setIfInBounds_toArray, List.set_cons_zero, List.set_cons_succ]; rfl)) (hJ5_11_13 (v781, v785, gb788) _ ⟨hHeld, (by (with_reducible repeat (first | apply va | apply vn | apply vd)); exact HO782.out), (by (with_reducible repeat (first | apply va | apply vn | apply vd)); exact HO786.out), (by (with_reducible repeat (first | refine bn ?_ _ | refine bd ?_ | refine ba ?_ _)); exact BK775.out), (by (with_reducible repeat (first | refine bn ?_ _ | refine bd ?_ | refine ba ?_ _)); exact BK788.out), GW788.out, GE788.out, NB775_788.out, NB788_775.out, (by repeat (first | (with_reducible first | exact HB.out | apply ea | apply en | apply ed | refine bs ?_ GE775.out | refine bs ?_ GE788.out) | exact HB.out))⟩)
        · skip
          rintro ⟨v781, gb787, gb788⟩ w33 ⟨hS_, h0_, h1_, h2_, h3_, h4_, h5_, h6_, h7_, h8_, h9_, h10_, h11_, h12_, h13_, h14_⟩
          have n0_ : Aside0 (Kd.V k100 100 w33 w.heap.size (fun k_ => k_ ≠ gb775 ∧ k_ ≠ gb787 ∧ k_ ≠ gb788) v781 t780) := ⟨h0_⟩
          have n1_ : Aside0 (w33.heap[gb775]? = some (.cells #[.string a0_0, .slice A0_1 l0_1.length c0_1, .string a0_2, .slice A0_3 l0_3.length c0_3, .string a0_4, .int .i64 a0_5, .int .i64 a0_6, .int .u64 a0_7] 77 (0, 0))) := ⟨h1_⟩
          have n2_ : Aside0 (w33.heap[gb787]? = some (.cells #[.string (⟨#[]⟩ : ByteArray), .slice none 0 0] 51 (0, 0))) := ⟨h2_⟩
          have n3_ : Aside0 (w33.heap[gb788]? = some (.cells #[.string (⟨#[]⟩ : ByteArray), .slice none 0 0] 51 (0, 0))) := ⟨h3_⟩
          have n4_ : Aside0 (w.heap.size ≤ gb787) := ⟨h4_⟩
          have n5_ : Aside0 (w.heap.size ≤ gb787) := ⟨h5_⟩
          have n6_ : Aside0 (gb775 ≠ gb787) := ⟨h6_⟩
          have n7_ : Aside0 (gb787 ≠ gb775) := ⟨h7_⟩
          have n8_ : Aside0 (gb788 ≠ gb787) := ⟨h8_⟩
          have n9_ : Aside0 (gb787 ≠ gb788) := ⟨h9_⟩
          have n10_ : Aside0 (w.heap.size ≤ gb788) := ⟨h10_⟩
          have n11_ : Aside0 (w.heap.size ≤ gb788) := ⟨h11_⟩
          have n12_ : Aside0 (gb775 ≠ gb788) := ⟨h12_⟩
          have n13_ : Aside0 (gb788 ≠ gb775) := ⟨h13_⟩
          have n14_ : Aside0 (Below w.heap.size w w33) := ⟨h14_⟩
          clear BK775
          clear HB
          clear h0_ h1_ h2_ h3_ h4_ h5_ h6_ h7_ h8_ h9_ h10_ h11_ h12_ h13_ h14_
          have HO782 := n0_
          have BK775 := n1_
          have BK787 := n2_
          have BK788 := n3_
          have GW787 := n4_
          have GE787 := n5_
          have NB775_787 := n6_
          have NB787_775 := n7_
          have NB788_787 := n8_
          have NB787_788 := n9_
          have GW788 := n10_
          have GE788 := n11_
          have NB775_788 := n12_
          have NB788_775 := n13_
          have HB := n14_
          clear n0_ n1_ n2_ n3_ n4_ n5_ n6_ n7_ n8_ n9_ n10_ n11_ n12_ n13_ n14_
          have hHeld : w33.cell? ⟨gb775, 0, none⟩ = some (.string a0_0) ∧ w33.cell? ⟨gb775, 1, none⟩ = some (.slice A0_1 l0_1.length c0_1) ∧ w33.cell? ⟨gb775, 2, none⟩ = some (.string a0_2) ∧ w33.cell? ⟨gb775, 3, none⟩ = some (.slice A0_3 l0_3.length c0_3) ∧ w33.cell? ⟨gb775, 4, none⟩ = some (.string a0_4) ∧ w33.cell? ⟨gb775, 5, none⟩ = some (.int .i64 a0_5) ∧ w33.cell? ⟨gb775, 6, none⟩ = some (.int .i64 a0_6) ∧ w33.cell? ⟨gb775, 7, none⟩ = some (.int .u64 a0_7) := hS_
          refine norm_ (a' := ?_) ?_ ?_
          rotate_left
          · simp only [putAll, Act.put, List.setIfInBounds_toArray, List.set_cons_zero, List.set_cons_succ]
            rfl
          refine one_ (i := 11) (N := some 44) #[true, true, true, true, true, true, true, true, true, true, true, true, true, true, false, false] rfl rfl (one_of HT_.out (by kernel_rfl)) (by decide) (fun K hK => ?_)
          refine goes_ Try.func66 (by kernel_rfl) rfl #[.agg #[.string a0_2, .slice A0_3 l0_3.length c0_3], .int .u64 a1, .string a0_4] (by rfl) rfl rfl (by (try simp only [List.map_toArray, List.map_cons, List.map_nil]); first | done | rfl | (simp only [List.length_drop, List.length_take]; rfl)) ?_
          with_reducible refine (bureauref04_Other.calls kj4 a0_2 (fun k_ => k_ < w.heap.size) _ _ l0_3 a1 a0_4 t783 t784 _ ?side1 A25.out).mono ?_
          (case side1 => exact Kd.V_mk HC0_3.out (Kd.F_below (Kd.C_F k100_heap HR0_3.out) (by repeat (first | (with_reducible first | exact HB.out | apply ea | apply en | apply ed | refine bs ?_ GE775.out | refine bs ?_ GE787.out | refine bs ?_ GE788.out) | exact HB.out))))
          rintro e w34 ⟨v785, rfl, ho0, hb⟩
          refine ⟨_, rfl, ?_⟩
          have n0_ := aM (Kd.V_below (by (with_reducible repeat (first | apply va | apply vn | apply vd)); exact HO782.out) hb)
          have n1_ := aM (Kd.V_lower (Kd.V_mono (ok' := fun k_ => k_ ≠ gb775 ∧ k_ ≠ gb787 ∧ k_ ≠ gb788) ho0 (fun k_ hk_ => ⟨Or.elim hk_ (fun hs_ => fun e_ => Nat.not_le.2 hs_ (by rw [e_]; exact GW775.out)) (fun hn_ => (Kd.freshB (g := gb775) (o := .cells #[.string a0_0, .slice A0_1 l0_1.length c0_1, .string a0_2, .slice A0_3 l0_3.length c0_3, .string a0_4, .int .i64 a0_5, .int .i64 a0_6, .int .u64 a0_7] 77 (0, 0)) (by (with_reducible repeat (first | refine bn ?_ _ | refine bd ?_ | refine ba ?_ _)); exact BK775.out) k_ hn_)), Or.elim hk_ (fun hs_ => fun e_ => Nat.not_le.2 hs_ (by rw [e_]; exact GW787.out)) (fun hn_ => (Kd.freshB (g := gb787) (o := .cells #[.string (⟨#[]⟩ : ByteArray), .slice none 0 0] 51 (0, 0)) (by (with_reducible repeat (first | refine bn ?_ _ | refine bd ?_ | refine ba ?_ _)); exact BK787.out) k_ hn_)), Or.elim hk_ (fun hs_ => fun e_ => Nat.not_le.2 hs_ (by rw [e_]; exact GW788.out)) (fun hn_ => (Kd.freshB (g := gb788) (o := .cells #[.string (⟨#[]⟩ : ByteArray), .slice none 0 0] 51 (0, 0)) (by (with_reducible repeat (first | refine bn ?_ _ | refine bd ?_ | refine ba ?_ _)); exact BK788.out) k_ hn_))⟩)) (bZ (by repeat (first | (with_reducible first | exact HB.out | apply ea | apply en | apply ed | refine bs ?_ GE775.out | refine bs ?_ GE787.out | refine bs ?_ GE788.out) | exact HB.out))))
          have n2_ := aM (bB (g := gb775) (o := .cells #[.string a0_0, .slice A0_1 l0_1.length c0_1, .string a0_2, .slice A0_3 l0_3.length c0_3, .string a0_4, .int .i64 a0_5, .int .i64 a0_6, .int .u64 a0_7] 77 (0, 0)) (by (with_reducible repeat (first | refine bn ?_ _ | refine bd ?_ | refine ba ?_ _)); exact BK775.out) hb)
          have n3_ := aM (bB (g := gb787) (o := .cells #[.string (⟨#[]⟩ : ByteArray), .slice none 0 0] 51 (0, 0)) (by (with_reducible repeat (first | refine bn ?_ _ | refine bd ?_ | refine ba ?_ _)); exact BK787.out) hb)
          have n4_ := aM (bB (g := gb788) (o := .cells #[.string (⟨#[]⟩ : ByteArray), .slice none 0 0] 51 (0, 0)) (by (with_reducible repeat (first | refine bn ?_ _ | refine bd ?_ | refine ba ?_ _)); exact BK788.out) hb)
          have n5_ := aM (bP (by repeat (first | (with_reducible first | exact HB.out | apply ea | apply en | apply ed | refine bs ?_ GE775.out | refine bs ?_ GE787.out | refine bs ?_ GE788.out) | exact HB.out)) hb)
          clear HO782
          clear BK775
          clear BK787
          clear BK788
          clear HB
          have HO782 := n0_
          have HO786 := n1_
          have BK775 := n2_
          have BK787 := n3_
          have BK788 := n4_
          have HB := n5_
          clear n0_ n1_ n2_ n3_ n4_ n5_
          (try clear hb)
          (try clear hb2)
          (try clear hk)
          (try clear hi)
          (try clear ho0)
          refine hK.out _ _ ⟨(bC BK775.out 0).trans rfl, (bC BK775.out 1).trans rfl, (bC BK775.out 2).trans rfl, (bC BK775.out 3).trans rfl, (bC BK775.out 4).trans rfl, (bC BK775.out 5).trans rfl, (bC BK775.out 6).trans rfl, (bC BK775.out 7).trans rfl⟩ (fun hHeld => ?_)
          clear hK K
          refine norm_ (a' := ?_) ?_ ?_
          rotate_left
          · show Act.put _ (some 44) _ = _
            simp only [Act.put, List.setIfInBounds_toArray, List.set_cons_zero, List.set_cons_succ, i64_w, i32_w]
            rfl
          exact norm_ (by first | (simp only [putAll, Act.put, List.setIfInBounds_toArray, List.set_cons_zero, List.set_cons_succ]; done) | (simp only [putAll, Act.put, List.setIfInBounds_toArray, List.set_cons_zero, List.set_cons_succ]; rfl)) (hJ5_11_12_13 (v781, v785, gb787, gb788) _ ⟨hHeld, (by (with_reducible repeat (first | apply va | apply vn | apply vd)); exact HO782.out), (by (with_reducible repeat (first | apply va | apply vn | apply vd)); exact HO786.out), (by (with_reducible repeat (first | refine bn ?_ _ | refine bd ?_ | refine ba ?_ _)); exact BK775.out), (by (with_reducible repeat (first | refine bn ?_ _ | refine bd ?_ | refine ba ?_ _)); exact BK787.out), (by (with_reducible repeat (first | refine bn ?_ _ | refine bd ?_ | refine ba ?_ _)); exact BK788.out), GW787.out, GE787.out, NB775_787.out, NB787_775.out, NB788_787.out, NB787_788.out, GW788.out, GE788.out, NB775_788.out, NB788_775.out, (by repeat (first | (with_reducible first | exact HB.out | apply ea | apply en | apply ed | refine bs ?_ GE775.out | refine bs ?_ GE787.out | refine bs ?_ GE788.out) | exact HB.out))⟩)
      · skip
        rintro ⟨v781, v785, gb788⟩ w33 ⟨hS_, h0_, h1_, h2_, h3_, h4_, h5_, h6_, h7_, h8_⟩
        have n0_ : Aside0 (Kd.V k100 100 w33 w.heap.size (fun k_ => k_ ≠ gb775 ∧ k_ ≠ gb788) v781 t780) := ⟨h0_⟩
        have n1_ : Aside0 (Kd.V k100 100 w33 w.heap.size (fun k_ => k_ ≠ gb775 ∧ k_ ≠ gb788) v785 t784) := ⟨h1_⟩
        have n2_ : Aside0 (w33.heap[gb775]? = some (.cells #[.string a0_0, .slice A0_1 l0_1.length c0_1, .string a0_2, .slice A0_3 l0_3.length c0_3, .string a0_4, .int .i64 a0_5, .int .i64 a0_6, .int .u64 a0_7] 77 (0, 0))) := ⟨h2_⟩
        have n3_ : Aside0 (w33.heap[gb788]? = some (.cells #[.string (⟨#[]⟩ : ByteArray), .slice none 0 0] 51 (0, 0))) := ⟨h3_⟩
        have n4_ : Aside0 (w.heap.size ≤ gb788) := ⟨h4_⟩
        have n5_ : Aside0 (w.heap.size ≤ gb788) := ⟨h5_⟩
        have n6_ : Aside0 (gb775 ≠ gb788) := ⟨h6_⟩
        have n7_ : Aside0 (gb788 ≠ gb775) := ⟨h7_⟩
        have n8_ : Aside0 (Below w.heap.size w w33) := ⟨h8_⟩
        clear BK775
        clear HB
        clear h0_ h1_ h2_ h3_ h4_ h5_ h6_ h7_ h8_
        have HO782 := n0_
        have HO786 := n1_
        have BK775 := n2_
        have BK788 := n3_
        have GW788 := n4_
        have GE788 := n5_
        have NB775_788 := n6_
        have NB788_775 := n7_
        have HB := n8_
        clear n0_ n1_ n2_ n3_ n4_ n5_ n6_ n7_ n8_
        have hHeld : w33.cell? ⟨gb775, 0, none⟩ = some (.string a0_0) ∧ w33.cell? ⟨gb775, 1, none⟩ = some (.slice A0_1 l0_1.length c0_1) ∧ w33.cell? ⟨gb775, 2, none⟩ = some (.string a0_2) ∧ w33.cell? ⟨gb775, 3, none⟩ = some (.slice A0_3 l0_3.length c0_3) ∧ w33.cell? ⟨gb775, 4, none⟩ = some (.string a0_4) ∧ w33.cell? ⟨gb775, 5, none⟩ = some (.int .i64 a0_5) ∧ w33.cell? ⟨gb775, 6, none⟩ = some (.int .i64 a0_6) ∧ w33.cell? ⟨gb775, 7, none⟩ = some (.int .u64 a0_7) := hS_
        refine norm_ (a' := ?_) ?_ ?_
        rotate_left
        · simp only [putAll, Act.put, List.setIfInBounds_toArray, List.set_cons_zero, List.set_cons_succ]
          rfl
        refine one_ (i := 12) (N := some 5) #[true, true, true, true, true, true, true, true, true, true, true, true, true, true, false, false] rfl rfl (one_of HT_.out (by kernel_rfl)) (by decide) (fun K hK => ?_)
        refine box_step ?hg (N := 5) ?hd (cs := #[.string (⟨#[]⟩ : ByteArray), .slice none 0 0]) (t := 51) ?hr ?_; (case hd => rfl); (case hg => rfl); (case hr => first | (go_simp; done) | (go_simp; rfl))
        intro gb787 hg w34 hbox hb
        have n0_ := aM (Kd.V_below (Kd.V_elderB (by (with_reducible repeat (first | apply va | apply vn | apply vd)); exact HO782.out) gb787 (Nat.le_of_eq hg.symm)) hb)
        have n1_ := aM (Kd.V_below (Kd.V_elderB (by (with_reducible repeat (first | apply va | apply vn | apply vd)); exact HO786.out) gb787 (Nat.le_of_eq hg.symm)) hb)
        have n2_ := aM (bB (g := gb775) (o := .cells #[.string a0_0, .slice A0_1 l0_1.length c0_1, .string a0_2, .slice A0_3 l0_3.length c0_3, .string a0_4, .int .i64 a0_5, .int .i64 a0_6, .int .u64 a0_7] 77 (0, 0)) (by (with_reducible repeat (first | refine bn ?_ _ | refine bd ?_ | refine ba ?_ _)); exact BK775.out) hb)
        have n3_ := aM (bB (g := gb788) (o := .cells #[.string (⟨#[]⟩ : ByteArray), .slice none 0 0] 51 (0, 0)) (by (with_reducible repeat (first | refine bn ?_ _ | refine bd ?_ | refine ba ?_ _)); exact BK788.out) hb)
        have n4_ := aM (bP (by repeat (first | (with_reducible first | exact HB.out | apply ea | apply en | apply ed | refine bs ?_ GE775.out | refine bs ?_ GE788.out) | exact HB.out)) hb)
        have n5_ := aM (hbox)
        have n6_ := aM ((by rw [hg]; exact (bZ (by repeat (first | (with_reducible first | exact HB.out | apply ea | apply en | apply ed | refine bs ?_ GE775.out | refine bs ?_ GE788.out) | exact HB.out))) : w.heap.size ≤ gb787))
        have n7_ := aM ((by rw [hg]; exact (bZ (by repeat (first | (with_reducible first | exact HB.out | apply ea | apply en | apply ed | refine bs ?_ GE775.out | refine bs ?_ GE788.out) | exact HB.out))) : w.heap.size ≤ gb787))
        have n8_ := aM ((by rw [hg]; exact Nat.ne_of_lt (blk_lt (g := gb775) (o := .cells #[.string a0_0, .slice A0_1 l0_1.length c0_1, .string a0_2, .slice A0_3 l0_3.length c0_3, .string a0_4, .int .i64 a0_5, .int .i64 a0_6, .int .u64 a0_7] 77 (0, 0)) (by (with_reducible repeat (first | refine bn ?_ _ | refine bd ?_ | refine ba ?_ _)); exact BK775.out)) : gb775 ≠ gb787))
        have n9_ := aM ((by rw [hg]; exact Nat.ne_of_gt (blk_lt (g := gb775) (o := .cells #[.string a0_0, .slice A0_1 l0_1.length c0_1, .string a0_2, .slice A0_3 l0_3.length c0_3, .string a0_4, .int .i64 a0_5, .int .i64 a0_6, .int .u64 a0_7] 77 (0, 0)) (by (with_reducible repeat (first | refine bn ?_ _ | refine bd ?_ | refine ba ?_ _)); exact BK775.out)) : gb787 ≠ gb775))
        have n10_ := aM ((by rw [hg]; exact Nat.ne_of_lt (blk_lt (g := gb788) (o := .cells #[.string (⟨#[]⟩ : ByteArray), .slice none 0 0] 51 (0, 0)) (by (with_reducible repeat (first | refine bn ?_ _ | refine bd ?_ | refine ba ?_ _)); exact BK788.out)) : gb788 ≠ gb787))
        have n11_ := aM ((by rw [hg]; exact Nat.ne_of_gt (blk_lt (g := gb788) (o := .cells #[.string (⟨#[]⟩ : ByteArray), .slice none 0 0] 51 (0, 0)) (by (with_reducible repeat (first | refine bn ?_ _ | refine bd ?_ | refine ba ?_ _)); exact BK788.out)) : gb787 ≠ gb788))
        clear HO782
        clear HO786
        clear BK775
        clear BK788
        clear HB
        have HO782 := n0_
        have HO786 := n1_
        have BK775 := n2_
        have BK788 := n3_
        have HB := n4_
        have BK787 := n5_
        have GW787 := n6_
        have GE787 := n7_
        have NB775_787 := n8_
        have NB787_775 := n9_
        have NB788_787 := n10_
        have NB787_788 := n11_
        clear n0_ n1_ n2_ n3_ n4_ n5_ n6_ n7_ n8_ n9_ n10_ n11_
        clear hb hbox hg
        refine hK.out _ _ ⟨(bC BK775.out 0).trans rfl, (bC BK775.out 1).trans rfl, (bC BK775.out 2).trans rfl, (bC BK775.out 3).trans rfl, (bC BK775.out 4).trans rfl, (bC BK775.out 5).trans rfl, (bC BK775.out 6).trans rfl, (bC BK775.out 7).trans rfl⟩ (fun hHeld => ?_)
        clear hK K
        refine norm_ (a' := ?_) ?_ ?_
        rotate_left
        · show Act.put _ (some 5) _ = _
          simp only [Act.put, List.setIfInBounds_toArray, List.set_cons_zero, List.set_cons_succ, i64_w, i32_w]
          rfl
        exact norm_ (by first | (simp only [putAll, Act.put, List.setIfInBounds_toArray, List.set_cons_zero, List.set_cons_succ]; done) | (simp only [putAll, Act.put, List.setIfInBounds_toArray, List.set_cons_zero, List.set_cons_succ]; rfl)) (hJ5_11_12_13 (v781, v785, gb787, gb788) _ ⟨hHeld, (by (with_reducible repeat (first | apply va | apply vn | apply vd)); exact Kd.V_mono HO782.out (fun _ hk => ⟨hk.1.1, ⟨hk.2, hk.1.2⟩⟩)), (by (with_reducible repeat (first | apply va | apply vn | apply vd)); exact Kd.V_mono HO786.out (fun _ hk => ⟨hk.1.1, ⟨hk.2, hk.1.2⟩⟩)), (by (with_reducible repeat (first | refine bn ?_ _ | refine bd ?_ | refine ba ?_ _)); exact BK775.out), (by (with_reducible repeat (first | refine bn ?_ _ | refine bd ?_ | refine ba ?_ _)); exact BK787.out), (by (with_reducible repeat (first | refine bn ?_ _ | refine bd ?_ | refine ba ?_ _)); exact BK788.out), GW787.out, GE787.out, NB775_787.out, NB787_775.out, NB788_787.out, NB787_788.out, GW788.out, GE788.out, NB775_788.out, NB788_775.out, (by repeat (first | (with_reducible first | exact HB.out | apply ea | apply en | apply ed | refine bs ?_ GE775.out | refine bs ?_ GE788.out | refine bs ?_ GE787.out) | exact HB.out))⟩)
    · skip
      rintro ⟨v781, v785, gb787⟩ w33 ⟨hS_, h0_, h1_, h2_, h3_, h4_, h5_, h6_, h7_, h8_⟩
      have n0_ : Aside0 (Kd.V k100 100 w33 w.heap.size (fun k_ => k_ ≠ gb775 ∧ k_ ≠ gb787) v781 t780) := ⟨h0_⟩
      have n1_ : Aside0 (Kd.V k100 100 w33 w.heap.size (fun k_ => k_ ≠ gb775 ∧ k_ ≠ gb787) v785 t784) := ⟨h1_⟩
      have n2_ : Aside0 (w33.heap[gb775]? = some (.cells #[.string a0_0, .slice A0_1 l0_1.length c0_1, .string a0_2, .slice A0_3 l0_3.length c0_3, .string a0_4, .int .i64 a0_5, .int .i64 a0_6, .int .u64 a0_7] 77 (0, 0))) := ⟨h2_⟩
      have n3_ : Aside0 (w33.heap[gb787]? = some (.cells #[.string (⟨#[]⟩ : ByteArray), .slice none 0 0] 51 (0, 0))) := ⟨h3_⟩
      have n4_ : Aside0 (w.heap.size ≤ gb787) := ⟨h4_⟩
      have n5_ : Aside0 (w.heap.size ≤ gb787) := ⟨h5_⟩
      have n6_ : Aside0 (gb775 ≠ gb787) := ⟨h6_⟩
      have n7_ : Aside0 (gb787 ≠ gb775) := ⟨h7_⟩
      have n8_ : Aside0 (Below w.heap.size w w33) := ⟨h8_⟩
      clear BK775
      clear HB
      clear h0_ h1_ h2_ h3_ h4_ h5_ h6_ h7_ h8_
      have HO782 := n0_
      have HO786 := n1_
      have BK775 := n2_
      have BK787 := n3_
      have GW787 := n4_
      have GE787 := n5_
      have NB775_787 := n6_
      have NB787_775 := n7_
      have HB := n8_
      clear n0_ n1_ n2_ n3_ n4_ n5_ n6_ n7_ n8_
      have hHeld : w33.cell? ⟨gb775, 0, none⟩ = some (.string a0_0) ∧ w33.cell? ⟨gb775, 1, none⟩ = some (.slice A0_1 l0_1.length c0_1) ∧ w33.cell? ⟨gb775, 2, none⟩ = some (.string a0_2) ∧ w33.cell? ⟨gb775, 3, none⟩ = some (.slice A0_3 l0_3.length c0_3) ∧ w33.cell? ⟨gb775, 4, none⟩ = some (.string a0_4) ∧ w33.cell? ⟨gb775, 5, none⟩ = some (.int .i64 a0_5) ∧ w33.cell? ⟨gb775, 6, none⟩ = some (.int .i64 a0_6) ∧ w33.cell? ⟨gb775, 7, none⟩ = some (.int .u64 a0_7) := hS_
      refine norm_ (a' := ?_) ?_ ?_
      rotate_left
      · simp only [putAll, Act.put, List.setIfInBounds_toArray, List.set_cons_zero, List.set_cons_succ]
        rfl
      refine one_ (i := 13) (N := some 6) #[true, true, true, true, true, true, true, true, true, true, true, true, true, true, false, false] rfl rfl (one_of HT_.out (by kernel_rfl)) (by decide) (fun K hK => ?_)
      refine box_step ?hg (N := 6) ?hd (cs := #[.string (⟨#[]⟩ : ByteArray), .slice none 0 0]) (t := 51) ?hr ?_; (case hd => rfl); (case hg => rfl); (case hr => first | (go_simp; done) | (go_simp; rfl))
      intro gb788 hg w34 hbox hb
      have n0_ := aM (Kd.V_below (Kd.V_elderB (by (with_reducible repeat (first | apply va | apply vn | apply vd)); exact HO782.out) gb788 (Nat.le_of_eq hg.symm)) hb)
      have n1_ := aM (Kd.V_below (Kd.V_elderB (by (with_reducible repeat (first | apply va | apply vn | apply vd)); exact HO786.out) gb788 (Nat.le_of_eq hg.symm)) hb)
      have n2_ := aM (bB (g := gb775) (o := .cells #[.string a0_0, .slice A0_1 l0_1.length c0_1, .string a0_2, .slice A0_3 l0_3.length c0_3, .string a0_4, .int .i64 a0_5, .int .i64 a0_6, .int .u64 a0_7] 77 (0, 0)) (by (with_reducible repeat (first | refine bn ?_ _ | refine bd ?_ | refine ba ?_ _)); exact BK775.out) hb)
      have n3_ := aM (bB (g := gb787) (o := .cells #[.string (⟨#[]⟩ : ByteArray), .slice none 0 0] 51 (0, 0)) (by (with_reducible repeat (first | refine bn ?_ _ | refine bd ?_ | refine ba ?_ _)); exact BK787.out) hb)
      have n4_ := aM (bP (by repeat (first | (with_reducible first | exact HB.out | apply ea | apply en | apply ed | refine bs ?_ GE775.out | refine bs ?_ GE787.out) | exact HB.out)) hb)
      have n5_ := aM (hbox)
      have n6_ := aM ((by rw [hg]; exact (bZ (by repeat (first | (with_reducible first | exact HB.out | apply ea | apply en | apply ed | refine bs ?_ GE775.out | refine bs ?_ GE787.out) | exact HB.out))) : w.heap.size ≤ gb788))
      have n7_ := aM ((by rw [hg]; exact (bZ (by repeat (first | (with_reducible first | exact HB.out | apply ea | apply en | apply ed | refine bs ?_ GE775.out | refine bs ?_ GE787.out) | exact HB.out))) : w.heap.size ≤ gb788))
      have n8_ := aM ((by rw [hg]; exact Nat.ne_of_lt (blk_lt (g := gb775) (o := .cells #[.string a0_0, .slice A0_1 l0_1.length c0_1, .string a0_2, .slice A0_3 l0_3.length c0_3, .string a0_4, .int .i64 a0_5, .int .i64 a0_6, .int .u64 a0_7] 77 (0, 0)) (by (with_reducible repeat (first | refine bn ?_ _ | refine bd ?_ | refine ba ?_ _)); exact BK775.out)) : gb775 ≠ gb788))
      have n9_ := aM ((by rw [hg]; exact Nat.ne_of_gt (blk_lt (g := gb775) (o := .cells #[.string a0_0, .slice A0_1 l0_1.length c0_1, .string a0_2, .slice A0_3 l0_3.length c0_3, .string a0_4, .int .i64 a0_5, .int .i64 a0_6, .int .u64 a0_7] 77 (0, 0)) (by (with_reducible repeat (first | refine bn ?_ _ | refine bd ?_ | refine ba ?_ _)); exact BK775.out)) : gb788 ≠ gb775))
      have n10_ := aM ((by rw [hg]; exact Nat.ne_of_lt (blk_lt (g := gb787) (o := .cells #[.string (⟨#[]⟩ : ByteArray), .slice none 0 0] 51 (0, 0)) (by (with_reducible repeat (first | refine bn ?_ _ | refine bd ?_ | refine ba ?_ _)); exact BK787.out)) : gb787 ≠ gb788))
      have n11_ := aM ((by rw [hg]; exact Nat.ne_of_gt (blk_lt (g := gb787) (o := .cells #[.string (⟨#[]⟩ : ByteArray), .slice none 0 0] 51 (0, 0)) (by (with_reducible repeat (first | refine bn ?_ _ | refine bd ?_ | refine ba ?_ _)); exact BK787.out)) : gb788 ≠ gb787))
      clear HO782
      clear HO786
      clear BK775
      clear BK787
      clear HB
      have HO782 := n0_
      have HO786 := n1_
      have BK775 := n2_
      have BK787 := n3_
      have HB := n4_
      have BK788 := n5_
      have GW788 := n6_
      have GE788 := n7_
      have NB775_788 := n8_
      have NB788_775 := n9_
      have NB787_788 := n10_
      have NB788_787 := n11_
      clear n0_ n1_ n2_ n3_ n4_ n5_ n6_ n7_ n8_ n9_ n10_ n11_
      clear hb hbox hg
      refine hK.out _ _ ⟨(bC BK775.out 0).trans rfl, (bC BK775.out 1).trans rfl, (bC BK775.out 2).trans rfl, (bC BK775.out 3).trans rfl, (bC BK775.out 4).trans rfl, (bC BK775.out 5).trans rfl, (bC BK775.out 6).trans rfl, (bC BK775.out 7).trans rfl⟩ (fun hHeld => ?_)
      clear hK K
      refine norm_ (a' := ?_) ?_ ?_
      rotate_left
      · show Act.put _ (some 6) _ = _
        simp only [Act.put, List.setIfInBounds_toArray, List.set_cons_zero, List.set_cons_succ, i64_w, i32_w]
        rfl
      exact norm_ (by first | (simp only [putAll, Act.put, List.setIfInBounds_toArray, List.set_cons_zero, List.set_cons_succ]; done) | (simp only [putAll, Act.put, List.setIfInBounds_toArray, List.set_cons_zero, List.set_cons_succ]; rfl)) (hJ5_11_12_13 (v781, v785, gb787, gb788) _ ⟨hHeld, (by (with_reducible repeat (first | apply va | apply vn | apply vd)); exact Kd.V_mono HO782.out (fun _ hk => ⟨hk.1.1, ⟨hk.1.2, hk.2⟩⟩)), (by (with_reducible repeat (first | apply va | apply vn | apply vd)); exact Kd.V_mono HO786.out (fun _ hk => ⟨hk.1.1, ⟨hk.1.2, hk.2⟩⟩)), (by (with_reducible repeat (first | refine bn ?_ _ | refine bd ?_ | refine ba ?_ _)); exact BK775.out), (by (with_reducible repeat (first | refine bn ?_ _ | refine bd ?_ | refine ba ?_ _)); exact BK787.out), (by (with_reducible repeat (first | refine bn ?_ _ | refine bd ?_ | refine ba ?_ _)); exact BK788.out), GW787.out, GE787.out, NB775_787.out, NB787_775.out, NB788_787.out, NB787_788.out, GW788.out, GE788.out, NB775_788.out, NB788_775.out, (by repeat (first | (with_reducible first | exact HB.out | apply ea | apply en | apply ed | refine bs ?_ GE775.out | refine bs ?_ GE787.out | refine bs ?_ GE788.out) | exact HB.out))⟩)
  rintro ⟨v781, v785, gb787, gb788⟩ w34 ⟨hS_, h0_, h1_, h2_, h3_, h4_, h5_, h6_, h7_, h8_, h9_, h10_, h11_, h12_, h13_, h14_, h15_⟩
  have n0_ : Aside0 (Kd.V k100 100 w34 w.heap.size (fun k_ => k_ ≠ gb775 ∧ k_ ≠ gb787 ∧ k_ ≠ gb788) v781 t780) := ⟨h0_⟩
  have n1_ : Aside0 (Kd.V k100 100 w34 w.heap.size (fun k_ => k_ ≠ gb775 ∧ k_ ≠ gb787 ∧ k_ ≠ gb788) v785 t784) := ⟨h1_⟩
  have n2_ : Aside0 (w34.heap[gb775]? = some (.cells #[.string a0_0, .slice A0_1 l0_1.length c0_1, .string a0_2, .slice A0_3 l0_3.length c0_3, .string a0_4, .int .i64 a0_5, .int .i64 a0_6, .int .u64 a0_7] 77 (0, 0))) := ⟨h2_⟩
  have n3_ : Aside0 (w34.heap[gb787]? = some (.cells #[.string (⟨#[]⟩ : ByteArray), .slice none 0 0] 51 (0, 0))) := ⟨h3_⟩
  have n4_ : Aside0 (w34.heap[gb788]? = some (.cells #[.string (⟨#[]⟩ : ByteArray), .slice none 0 0] 51 (0, 0))) := ⟨h4_⟩
  have n5_ : Aside0 (w.heap.size ≤ gb787) := ⟨h5_⟩
  have n6_ : Aside0 (w.heap.size ≤ gb787) := ⟨h6_⟩
  have n7_ : Aside0 (gb775 ≠ gb787) := ⟨h7_⟩
  have n8_ : Aside0 (gb787 ≠ gb775) := ⟨h8_⟩
  have n9_ : Aside0 (gb788 ≠ gb787) := ⟨h9_⟩
  have n10_ : Aside0 (gb787 ≠ gb788) := ⟨h10_⟩
  have n11_ : Aside0 (w.heap.size ≤ gb788) := ⟨h11_⟩
  have n12_ : Aside0 (w.heap.size ≤ gb788) := ⟨h12_⟩
  have n13_ : Aside0 (gb775 ≠ gb788) := ⟨h13_⟩
  have n14_ : Aside0 (gb788 ≠ gb775) := ⟨h14_⟩
  have n15_ : Aside0 (Below w.heap.size w w34) := ⟨h15_⟩
  clear BK775
  clear HB
  clear h0_ h1_ h2_ h3_ h4_ h5_ h6_ h7_ h8_ h9_ h10_ h11_ h12_ h13_ h14_ h15_
  have HO782 := n0_
  have HO786 := n1_
  have BK775 := n2_
  have BK787 := n3_
  have BK788 := n4_
  have GW787 := n5_
  have GE787 := n6_
  have NB775_787 := n7_
  have NB787_775 := n8_
  have NB788_787 := n9_
  have NB787_788 := n10_
  have GW788 := n11_
  have GE788 := n12_
  have NB775_788 := n13_
  have NB788_775 := n14_
  have HB := n15_
  clear n0_ n1_ n2_ n3_ n4_ n5_ n6_ n7_ n8_ n9_ n10_ n11_ n12_ n13_ n14_ n15_
  have hHeld : w34.cell? ⟨gb775, 0, none⟩ = some (.string a0_0) ∧ w34.cell? ⟨gb775, 1, none⟩ = some (.slice A0_1 l0_1.length c0_1) ∧ w34.cell? ⟨gb775, 2, none⟩ = some (.string a0_2) ∧ w34.cell? ⟨gb775, 3, none⟩ = some (.slice A0_3 l0_3.length c0_3) ∧ w34.cell? ⟨gb775, 4, none⟩ = some (.string a0_4) ∧ w34.cell? ⟨gb775, 5, none⟩ = some (.int .i64 a0_5) ∧ w34.cell? ⟨gb775, 6, none⟩ = some (.int .i64 a0_6) ∧ w34.cell? ⟨gb775, 7, none⟩ = some (.int .u64 a0_7) := hS_
  obtain ⟨Ao36, co36, eo36⟩ := Kd.V_slice HO782.out
  (first | subst eo36 | (injection eo36 with f1_ f2_ f3_; have f4_ := f1_.symm; have f5_ := f3_.symm; clear f1_ f2_ f3_; subst f4_; subst f5_))
  obtain ⟨Ao39, co39, eo39⟩ := Kd.V_slice HO786.out
  (first | subst eo39 | (injection eo39 with f1_ f2_ f3_; have f4_ := f1_.symm; have f5_ := f3_.symm; clear f1_ f2_ f3_; subst f4_; subst f5_))
  refine norm_ (a' := ?_) ?_ ?_
  rotate_left
  · simp only [putAll, Act.put, List.setIfInBounds_toArray, List.set_cons_zero, List.set_cons_succ]
    rfl
  refine one_ (i := 14) (N := none) #[true, true, true, true, true, true, true, true, true, true, true, true, true, true, true, false] rfl rfl (one_of HT_.out (by kernel_rfl)) (by decide) (fun K hK => ?_)
  have hs35 : w34.cell? ⟨gb787, 0, none⟩ = some (.string (⟨#[]⟩ : ByteArray)) := (bC BK787.out 0).trans rfl
  have hfs35 := bF BK787.out 0
  have hns35_0 := NB775_787.out
  have hns35_2 := NB788_787.out
  have hms35_0 := NB787_775.out
  have hms35_2 := NB787_788.out
  have hs37 : w34.cell? ⟨gb787, 1, none⟩ = some (.slice none 0 0) := (bC BK787.out 1).trans rfl
  have hfs37 := bF BK787.out 1
  have hns37_0 := NB775_787.out
  have hns37_2 := NB788_787.out
  have hms37_0 := NB787_775.out
  have hms37_2 := NB787_788.out
  refine skip_ (w1 := ?_) (by rfl) rfl ?_ ?_
  rotate_left
  · go_simp
    rfl
  refine hK.out _ _ ⟨((cell_far (p := ⟨gb787, _, none⟩) NB775_787.out _).trans (((cell_far (p := ⟨gb787, _, none⟩) NB775_787.out _).trans (hHeld.1)))), ((cell_far (p := ⟨gb787, _, none⟩) NB775_787.out _).trans (((cell_far (p := ⟨gb787, _, none⟩) NB775_787.out _).trans (hHeld.2.1)))), ((cell_far (p := ⟨gb787, _, none⟩) NB775_787.out _).trans (((cell_far (p := ⟨gb787, _, none⟩) NB775_787.out _).trans (hHeld.2.2.1)))), ((cell_far (p := ⟨gb787, _, none⟩) NB775_787.out _).trans (((cell_far (p := ⟨gb787, _, none⟩) NB775_787.out _).trans (hHeld.2.2.2.1)))), ((cell_far (p := ⟨gb787, _, none⟩) NB775_787.out _).trans (((cell_far (p := ⟨gb787, _, none⟩) NB775_787.out _).trans (hHeld.2.2.2.2.1)))), ((cell_far (p := ⟨gb787, _, none⟩) NB775_787.out _).trans (((cell_far (p := ⟨gb787, _, none⟩) NB775_787.out _).trans (hHeld.2.2.2.2.2.1)))), ((cell_far (p := ⟨gb787, _, none⟩) NB775_787.out _).trans (((cell_far (p := ⟨gb787, _, none⟩) NB775_787.out _).trans (hHeld.2.2.2.2.2.2.1)))), ((cell_far (p := ⟨gb787, _, none⟩) NB775_787.out _).trans (((cell_far (p := ⟨gb787, _, none⟩) NB775_787.out _).trans (hHeld.2.2.2.2.2.2.2))))⟩ (fun hHeld => ?_)
  clear hK K
  refine one_ (i := 15) (N := none) #[true, true, true, true, true, true, true, true, true, true, true, true, true, true, true, true] rfl rfl (one_of HT_.out (by kernel_rfl)) (by decide) (fun K hK => ?_)
  have hs38 : w34.cell? ⟨gb788, 0, none⟩ = some (.string (⟨#[]⟩ : ByteArray)) := (bC BK788.out 0).trans rfl
  have hfs38 := bF BK788.out 0
  have hns38_0 := NB775_788.out
  have hns38_1 := NB787_788.out
  have hms38_0 := NB788_775.out
  have hms38_1 := NB788_787.out
  have hs40 : w34.cell? ⟨gb788, 1, none⟩ = some (.slice none 0 0) := (bC BK788.out 1).trans rfl
  have hfs40 := bF BK788.out 1
  have hns40_0 := NB775_788.out
  have hns40_1 := NB787_788.out
  have hms40_0 := NB788_775.out
  have hms40_1 := NB788_787.out
  refine skip_ (w1 := ?_) (by rfl) rfl ?_ ?_
  rotate_left
  · go_simp
    rfl
  refine hK.out _ _ ⟨((cell_far (p := ⟨gb788, _, none⟩) NB775_788.out _).trans (((cell_far (p := ⟨gb788, _, none⟩) NB775_788.out _).trans (hHeld.1)))), ((cell_far (p := ⟨gb788, _, none⟩) NB775_788.out _).trans (((cell_far (p := ⟨gb788, _, none⟩) NB775_788.out _).trans (hHeld.2.1)))), ((cell_far (p := ⟨gb788, _, none⟩) NB775_788.out _).trans (((cell_far (p := ⟨gb788, _, none⟩) NB775_788.out _).trans (hHeld.2.2.1)))), ((cell_far (p := ⟨gb788, _, none⟩) NB775_788.out _).trans (((cell_far (p := ⟨gb788, _, none⟩) NB775_788.out _).trans (hHeld.2.2.2.1)))), ((cell_far (p := ⟨gb788, _, none⟩) NB775_788.out _).trans (((cell_far (p := ⟨gb788, _, none⟩) NB775_788.out _).trans (hHeld.2.2.2.2.1)))), ((cell_far (p := ⟨gb788, _, none⟩) NB775_788.out _).trans (((cell_far (p := ⟨gb788, _, none⟩) NB775_788.out _).trans (hHeld.2.2.2.2.2.1)))), ((cell_far (p := ⟨gb788, _, none⟩) NB775_788.out _).trans (((cell_far (p := ⟨gb788, _, none⟩) NB775_788.out _).trans (hHeld.2.2.2.2.2.2.1)))), ((cell_far (p := ⟨gb788, _, none⟩) NB775_788.out _).trans (((cell_far (p := ⟨gb788, _, none⟩) NB775_788.out _).trans (hHeld.2.2.2.2.2.2.2))))⟩ (fun hHeld => ?_)
  clear hK K
  refine done_ (done_of HT_.out (by kernel_rfl)) ?_
  have hnb41 := NB775_787.out
  have hnc41 := NB787_775.out
  have hnb42 := NB775_788.out
  have hnc42 := NB788_775.out
  have hcz43_0 : w34.cell? ⟨gb775, 0, none⟩ = some (.string a0_0) := (bC BK775.out 0).trans rfl
  have hcz43_1 : w34.cell? ⟨gb775, 1, none⟩ = some (.slice A0_1 l0_1.length c0_1) := (bC BK775.out 1).trans rfl
  have hcz43_2 : w34.cell? ⟨gb775, 2, none⟩ = some (.string a0_2) := (bC BK775.out 2).trans rfl
  have hcz43_3 : w34.cell? ⟨gb775, 3, none⟩ = some (.slice A0_3 l0_3.length c0_3) := (bC BK775.out 3).trans rfl
  have hcz43_4 : w34.cell? ⟨gb775, 4, none⟩ = some (.string a0_4) := (bC BK775.out 4).trans rfl
  have hcz43_5 : w34.cell? ⟨gb775, 5, none⟩ = some (.int .i64 a0_5) := (bC BK775.out 5).trans rfl
  have hcz43_6 : w34.cell? ⟨gb775, 6, none⟩ = some (.int .i64 a0_6) := (bC BK775.out 6).trans rfl
  have hcz43_7 : w34.cell? ⟨gb775, 7, none⟩ = some (.int .u64 a0_7) := (bC BK775.out 7).trans rfl
  have hfz43_0 := bF BK775.out 0
  have hfz43_1 := bF BK775.out 1
  have hfz43_2 := bF BK775.out 2
  have hfz43_3 := bF BK775.out 3
  have hfz43_4 := bF BK775.out 4
  have hfz43_5 := bF BK775.out 5
  have hfz43_6 := bF BK775.out 6
  have hfz43_7 := bF BK775.out 7
  go_upto_region 8 with (first | ((with_reducible refine gate_callee (f := 56) rfl ?_); refine goesL_ (some 54) rfl rfl Try.func56 (by kernel_rfl) rfl #[.agg #[.string a0_0, .slice A0_1 l0_1.length c0_1], .int .i64 a0_5, .int .i64 a0_6, .agg #[.string a0_2, .slice A0_3 l0_3.length c0_3]] rfl (by (try simp only [List.map_toArray, List.map_cons, List.map_nil]); first | done | rfl | (simp only [List.length_drop, List.length_take]; rfl)) ?_; (with_reducible refine (edit_Of.calls kj4 a0_0 _ _ l0_1 a0_5 a0_6 a0_2 _ _ l0_3 t789 t790 t791 t794 t795 t798 _ ?side1 ?side2 ?side3 ?side4 A26.out).mono ?_); (case side1 => exact cB_ HR0_1.out (by repeat (first | (with_reducible first | exact HB.out | apply ea | apply en | apply ed | refine bs ?_ GE775.out | refine bs ?_ GE787.out | refine bs ?_ GE788.out) | exact HB.out))); (case side2 => exact HC0_1.out); (case side3 => exact cB_ HR0_3.out (by repeat (first | (with_reducible first | exact HB.out | apply ea | apply en | apply ed | refine bs ?_ GE775.out | refine bs ?_ GE787.out | refine bs ?_ GE788.out) | exact HB.out))); (case side4 => exact HC0_3.out); rintro e w44 ⟨v792, v796, rfl, ho0, ho1, hb⟩; refine ⟨_, rfl, ?_⟩; have n0_ := aM (Kd.V_mono (Kd.V_told (Kd.V_told (Kd.V_old (by (with_reducible repeat (first | apply va | apply vn | apply vd)); exact (Kd.V_mono (Kd.V_mono (Kd.V_far (p := ⟨gb788, 1, none⟩) (Kd.V_far (p := ⟨gb788, 0, none⟩) (Kd.V_far (p := ⟨gb787, 1, none⟩) (Kd.V_far (p := ⟨gb787, 0, none⟩) (Kd.V_mono (Kd.V_mono HO782.out (fun k_ hk => (⟨hk, hk.2.1⟩ : _ ∧ k_ ≠ gb787))) (fun k_ hk => (⟨hk, hk.1.2.2⟩ : _ ∧ k_ ≠ gb788))) (fun _ hk => hk.1.2) (.string t779)) (fun _ hk => hk.1.2) (.slice Ao36 t780.length co36)) (fun _ hk => hk.2) (.string t783)) (fun _ hk => hk.2) (.slice Ao39 t784.length co39)) (fun _ h_ => h_.1)) (fun _ h_ => h_.1))) hb) (Kd.R_base ho0)) (Kd.R_base ho1)) (fun _ h_ => h_.1)); have n1_ := aM (Kd.V_mono (Kd.V_told (Kd.V_told (Kd.V_old (by (with_reducible repeat (first | apply va | apply vn | apply vd)); exact (Kd.V_mono (Kd.V_mono (Kd.V_far (p := ⟨gb788, 1, none⟩) (Kd.V_far (p := ⟨gb788, 0, none⟩) (Kd.V_far (p := ⟨gb787, 1, none⟩) (Kd.V_far (p := ⟨gb787, 0, none⟩) (Kd.V_mono (Kd.V_mono HO786.out (fun k_ hk => (⟨hk, hk.2.1⟩ : _ ∧ k_ ≠ gb787))) (fun k_ hk => (⟨hk, hk.1.2.2⟩ : _ ∧ k_ ≠ gb788))) (fun _ hk => hk.1.2) (.string t779)) (fun _ hk => hk.1.2) (.slice Ao36 t780.length co36)) (fun _ hk => hk.2) (.string t783)) (fun _ hk => hk.2) (.slice Ao39 t784.length co39)) (fun _ h_ => h_.1)) (fun _ h_ => h_.1))) hb) (Kd.R_base ho0)) (Kd.R_base ho1)) (fun _ h_ => h_.1)); have n2_ := aM (rL ho0 (bZ (by repeat (first | (with_reducible first | exact HB.out | apply ea | apply en | apply ed | refine bs ?_ GE775.out | refine bs ?_ GE787.out | refine bs ?_ GE788.out) | exact HB.out)))); have n3_ := aM (rL ho1 (bZ (by repeat (first | (with_reducible first | exact HB.out | apply ea | apply en | apply ed | refine bs ?_ GE775.out | refine bs ?_ GE787.out | refine bs ?_ GE788.out) | exact HB.out)))); have n4_ := aM (bB (g := gb775) (o := .cells #[.string a0_0, .slice A0_1 l0_1.length c0_1, .string a0_2, .slice A0_3 l0_3.length c0_3, .string a0_4, .int .i64 a0_5, .int .i64 a0_6, .int .u64 a0_7] 77 (0, 0)) (by (with_reducible repeat (first | refine bn ?_ _ | refine bd ?_ | refine ba ?_ _)); refine bR ?_ NB775_788.out _; (with_reducible repeat (first | refine bn ?_ _ | refine bd ?_ | refine ba ?_ _)); refine bR ?_ NB775_788.out _; (with_reducible repeat (first | refine bn ?_ _ | refine bd ?_ | refine ba ?_ _)); refine bR ?_ NB775_787.out _; (with_reducible repeat (first | refine bn ?_ _ | refine bd ?_ | refine ba ?_ _)); refine bR ?_ NB775_787.out _; (with_reducible repeat (first | refine bn ?_ _ | refine bd ?_ | refine ba ?_ _)); exact BK775.out) hb); have n5_ := aM (bB (g := gb787) (o := .cells #[.string t779, .slice Ao36 t780.length co36] 51 (0, 0)) (by (with_reducible repeat (first | refine bn ?_ _ | refine bd ?_ | refine ba ?_ _)); refine bR ?_ NB787_788.out _; (with_reducible repeat (first | refine bn ?_ _ | refine bd ?_ | refine ba ?_ _)); refine bR ?_ NB787_788.out _; (with_reducible repeat (first | refine bn ?_ _ | refine bd ?_ | refine ba ?_ _)); refine bU (cs := #[.string t779, .slice none 0 0]) ?_ 1 _ rfl; (with_reducible repeat (first | refine bn ?_ _ | refine bd ?_ | refine ba ?_ _)); refine bU (cs := #[.string (⟨#[]⟩ : ByteArray), .slice none 0 0]) ?_ 0 _ rfl; (with_reducible repeat (first | refine bn ?_ _ | refine bd ?_ | refine ba ?_ _)); exact BK787.out) hb); have n6_ := aM (bB (g := gb788) (o := .cells #[.string t783, .slice Ao39 t784.length co39] 51 (0, 0)) (by (with_reducible repeat (first | refine bn ?_ _ | refine bd ?_ | refine ba ?_ _)); refine bU (cs := #[.string t783, .slice none 0 0]) ?_ 1 _ rfl; (with_reducible repeat (first | refine bn ?_ _ | refine bd ?_ | refine ba ?_ _)); refine bU (cs := #[.string (⟨#[]⟩ : ByteArray), .slice none 0 0]) ?_ 0 _ rfl; (with_reducible repeat (first | refine bn ?_ _ | refine bd ?_ | refine ba ?_ _)); refine bR ?_ NB788_787.out _; (with_reducible repeat (first | refine bn ?_ _ | refine bd ?_ | refine ba ?_ _)); refine bR ?_ NB788_787.out _; (with_reducible repeat (first | refine bn ?_ _ | refine bd ?_ | refine ba ?_ _)); exact BK788.out) hb); have n7_ := aM (bP (by repeat (first | (with_reducible first | exact HB.out | apply ea | apply en | apply ed | refine bs ?_ GE775.out | refine bs ?_ GE787.out | refine bs ?_ GE788.out) | exact HB.out)) hb); clear HO782; clear HO786; clear BK775; clear BK787; clear BK788; clear HB; have HO782 := n0_; have HO786 := n1_; have HO793 := n2_; have HO797 := n3_; have BK775 := n4_; have BK787 := n5_; have BK788 := n6_; have HB := n7_; clear n0_ n1_ n2_ n3_ n4_ n5_ n6_ n7_; (try clear hb); (try clear hb2); (try clear hk); (try clear hi); (try clear ho0); (try clear ho1)) | ((with_reducible refine gate_dst (N := 7) rfl ?_); (try (refine gate_guard (by rfl) ?_; dsimp only)); refine box_event ?hg (N := 7) ?hd (cs := #[.int .i64 0, .string (⟨#[]⟩ : ByteArray), .slice none 0 0, .string (⟨#[]⟩ : ByteArray), .slice none 0 0]) (t := 64) ?hr ?_; (case hd => rfl); (case hg => rfl); (case hr => first | (go_simp; done) | (go_simp; rfl)); intro gb799 hg w45 hbox hb; have n0_ := aM (Kd.V_below (Kd.V_elderB (by (with_reducible repeat (first | apply va | apply vn | apply vd)); exact HO782.out) gb799 (Nat.le_of_eq hg.symm)) hb); have n1_ := aM (Kd.V_below (Kd.V_elderB (by (with_reducible repeat (first | apply va | apply vn | apply vd)); exact HO786.out) gb799 (Nat.le_of_eq hg.symm)) hb); have n2_ := aM (Kd.R_below (by (with_reducible repeat (first | apply ra | apply rn | apply rd_)); exact HO793.out) hb); have n3_ := aM (Kd.R_below (by (with_reducible repeat (first | apply ra | apply rn | apply rd_)); exact HO797.out) hb); have n4_ := aM (bB (g := gb775) (o := .cells #[.string a0_0, .slice A0_1 l0_1.length c0_1, .string a0_2, .slice A0_3 l0_3.length c0_3, .string a0_4, .int .i64 a0_5, .int .i64 a0_6, .int .u64 a0_7] 77 (0, 0)) (by (with_reducible repeat (first | refine bn ?_ _ | refine bd ?_ | refine ba ?_ _)); exact BK775.out) hb); have n5_ := aM (bB (g := gb787) (o := .cells #[.string t779, .slice Ao36 t780.length co36] 51 (0, 0)) (by (with_reducible repeat (first | refine bn ?_ _ | refine bd ?_ | refine ba ?_ _)); exact BK787.out) hb); have n6_ := aM (bB (g := gb788) (o := .cells #[.string t783, .slice Ao39 t784.length co39] 51 (0, 0)) (by (with_reducible repeat (first | refine bn ?_ _ | refine bd ?_ | refine ba ?_ _)); exact BK788.out) hb); have n7_ := aM (bP (by repeat (first | (with_reducible first | exact HB.out | apply ea | apply en | apply ed | refine bs ?_ GE775.out | refine bs ?_ GE787.out | refine bs ?_ GE788.out) | exact HB.out)) hb); have n8_ := aM (hbox); have n9_ := aM ((by rw [hg]; exact (bZ (by repeat (first | (with_reducible first | exact HB.out | apply ea | apply en | apply ed | refine bs ?_ GE775.out | refine bs ?_ GE787.out | refine bs ?_ GE788.out) | exact HB.out))) : w.heap.size ≤ gb799)); have n10_ := aM ((by rw [hg]; exact (bZ (by repeat (first | (with_reducible first | exact HB.out | apply ea | apply en | apply ed | refine bs ?_ GE775.out | refine bs ?_ GE787.out | refine bs ?_ GE788.out) | exact HB.out))) : w.heap.size ≤ gb799)); have n11_ := aM ((by rw [hg]; exact Nat.ne_of_lt (blk_lt (g := gb775) (o := .cells #[.string a0_0, .slice A0_1 l0_1.length c0_1, .string a0_2, .slice A0_3 l0_3.length c0_3, .string a0_4, .int .i64 a0_5, .int .i64 a0_6, .int .u64 a0_7] 77 (0, 0)) (by (with_reducible repeat (first | refine bn ?_ _ | refine bd ?_ | refine ba ?_ _)); exact BK775.out)) : gb775 ≠ gb799)); have n12_ := aM ((by rw [hg]; exact Nat.ne_of_gt (blk_lt (g := gb775) (o := .cells #[.string a0_0, .slice A0_1 l0_1.length c0_1, .string a0_2, .slice A0_3 l0_3.length c0_3, .string a0_4, .int .i64 a0_5, .int .i64 a0_6, .int .u64 a0_7] 77 (0, 0)) (by (with_reducible repeat (first | refine bn ?_ _ | refine bd ?_ | refine ba ?_ _)); exact BK775.out)) : gb799 ≠ gb775)); have n13_ := aM ((by rw [hg]; exact Nat.ne_of_lt (blk_lt (g := gb787) (o := .cells #[.string t779, .slice Ao36 t780.length co36] 51 (0, 0)) (by (with_reducible repeat (first | refine bn ?_ _ | refine bd ?_ | refine ba ?_ _)); exact BK787.out)) : gb787 ≠ gb799)); have n14_ := aM ((by rw [hg]; exact Nat.ne_of_gt (blk_lt (g := gb787) (o := .cells #[.string t779, .slice Ao36 t780.length co36] 51 (0, 0)) (by (with_reducible repeat (first | refine bn ?_ _ | refine bd ?_ | refine ba ?_ _)); exact BK787.out)) : gb799 ≠ gb787)); have n15_ := aM ((by rw [hg]; exact Nat.ne_of_lt (blk_lt (g := gb788) (o := .cells #[.string t783, .slice Ao39 t784.length co39] 51 (0, 0)) (by (with_reducible repeat (first | refine bn ?_ _ | refine bd ?_ | refine ba ?_ _)); exact BK788.out)) : gb788 ≠ gb799)); have n16_ := aM ((by rw [hg]; exact Nat.ne_of_gt (blk_lt (g := gb788) (o := .cells #[.string t783, .slice Ao39 t784.length co39] 51 (0, 0)) (by (with_reducible repeat (first | refine bn ?_ _ | refine bd ?_ | refine ba ?_ _)); exact BK788.out)) : gb799 ≠ gb788)); clear HO782; clear HO786; clear HO793; clear HO797; clear BK775; clear BK787; clear BK788; clear HB; have HO782 := n0_; have HO786 := n1_; have HO793 := n2_; have HO797 := n3_; have BK775 := n4_; have BK787 := n5_; have BK788 := n6_; have HB := n7_; have BK799 := n8_; have GW799 := n9_; have GE799 := n10_; have NB775_799 := n11_; have NB799_775 := n12_; have NB787_799 := n13_; have NB799_787 := n14_; have NB788_799 := n15_; have NB799_788 := n16_; clear n0_ n1_ n2_ n3_ n4_ n5_ n6_ n7_ n8_ n9_ n10_ n11_ n12_ n13_ n14_ n15_ n16_; clear hb hbox hg; have hnb46 := NB799_775.out; have hnc46 := NB775_799.out; have hnb47 := NB799_787.out; have hnc47 := NB787_799.out; have hnb48 := NB799_788.out; have hnc48 := NB788_799.out; have hcz49_0 : w45.cell? ⟨gb799, 0, none⟩ = some (.int .i64 0) := (bC BK799.out 0).trans rfl; have hcz49_1 : w45.cell? ⟨gb799, 1, none⟩ = some (.string (⟨#[]⟩ : ByteArray)) := (bC BK799.out 1).trans rfl; have hcz49_2 : w45.cell? ⟨gb799, 2, none⟩ = some (.slice none 0 0) := (bC BK799.out 2).trans rfl; have hcz49_3 : w45.cell? ⟨gb799, 3, none⟩ = some (.string (⟨#[]⟩ : ByteArray)) := (bC BK799.out 3).trans rfl; have hcz49_4 : w45.cell? ⟨gb799, 4, none⟩ = some (.slice none 0 0) := (bC BK799.out 4).trans rfl; have hfz49_0 := bF BK799.out 0; have hfz49_1 := bF BK799.out 1; have hfz49_2 := bF BK799.out 2; have hfz49_3 := bF BK799.out 3; have hfz49_4 := bF BK799.out 4; obtain ⟨Ao50, co50, eo50⟩ := Kd.R_slice HO793.out; subst eo50; obtain ⟨Ao51, co51, eo51⟩ := Kd.R_slice HO797.out; subst eo51; have hnb52 := NB787_788.out; have hnc52 := NB788_787.out; have hcz53_0 : w45.cell? ⟨gb787, 0, none⟩ = some (.string t779) := (bC BK787.out 0).trans rfl; have hcz53_1 : w45.cell? ⟨gb787, 1, none⟩ = some (.slice Ao36 t780.length co36) := (bC BK787.out 1).trans rfl; have hfz53_0 := bF BK787.out 0; have hfz53_1 := bF BK787.out 1; have hcz54_0 : w45.cell? ⟨gb775, 0, none⟩ = some (.string a0_0) := (bC BK775.out 0).trans rfl; have hcz54_1 : w45.cell? ⟨gb775, 1, none⟩ = some (.slice A0_1 l0_1.length c0_1) := (bC BK775.out 1).trans rfl; have hcz54_2 : w45.cell? ⟨gb775, 2, none⟩ = some (.string a0_2) := (bC BK775.out 2).trans rfl; have hcz54_3 : w45.cell? ⟨gb775, 3, none⟩ = some (.slice A0_3 l0_3.length c0_3) := (bC BK775.out 3).trans rfl; have hcz54_4 : w45.cell? ⟨gb775, 4, none⟩ = some (.string a0_4) := (bC BK775.out 4).trans rfl; have hcz54_5 : w45.cell? ⟨gb775, 5, none⟩ = some (.int .i64 a0_5) := (bC BK775.out 5).trans rfl; have hcz54_6 : w45.cell? ⟨gb775, 6, none⟩ = some (.int .i64 a0_6) := (bC BK775.out 6).trans rfl; have hcz54_7 : w45.cell? ⟨gb775, 7, none⟩ = some (.int .u64 a0_7) := (bC BK775.out 7).trans rfl; have hfz54_0 := bF BK775.out 0; have hfz54_1 := bF BK775.out 1; have hfz54_2 := bF BK775.out 2; have hfz54_3 := bF BK775.out 3; have hfz54_4 := bF BK775.out 4; have hfz54_5 := bF BK775.out 5; have hfz54_6 := bF BK775.out 6; have hfz54_7 := bF BK775.out 7; have hcz55_0 : w45.cell? ⟨gb788, 0, none⟩ = some (.string t783) := (bC BK788.out 0).trans rfl; have hcz55_1 : w45.cell? ⟨gb788, 1, none⟩ = some (.slice Ao39 t784.length co39) := (bC BK788.out 1).trans rfl; have hfz55_0 := bF BK788.out 0; have hfz55_1 := bF BK788.out 1) | ((with_reducible refine gate_callee (f := 56) rfl ?_); refine goesL_ (some 64) rfl rfl Try.func56 (by kernel_rfl) rfl #[.agg #[.string t779, .slice Ao36 t780.length co36], .int .i64 a0_5, .int .i64 a0_6, .agg #[.string t783, .slice Ao39 t784.length co39]] rfl (by (try simp only [List.map_toArray, List.map_cons, List.map_nil]); first | done | rfl | (simp only [List.length_drop, List.length_take]; rfl)) ?_; (with_reducible refine (edit_Of.calls kj4 t779 _ _ t780 a0_5 a0_6 t783 _ _ t784 t800 t801 t802 t805 t806 t809 _ ?side1 ?side2 ?side3 ?side4 A27.out).mono ?_); (case side1 => refine (Kd.V_reads' (e := 100) (base := w.heap.size) (ok := fun k_ => ((((k_ ≠ gb775 ∧ (k_ ≠ gb787 ∧ k_ ≠ gb788)) ∧ some k_ ≠ (.slice Ao50 t791.length co50 : Value).ownBlock) ∧ some k_ ≠ (.slice Ao51 t795.length co51 : Value).ownBlock) ∧ k_ ≠ gb799)) (n := t780.length) (c := co36) ?_).2.2; exact (by (with_reducible repeat (first | apply va | apply vn | apply vd)); exact (Kd.V_mono (Kd.V_far (p := ⟨gb799, 4, none⟩) (Kd.V_far (p := ⟨gb799, 3, none⟩) (Kd.V_far (p := ⟨gb799, 2, none⟩) (Kd.V_far (p := ⟨gb799, 1, none⟩) (Kd.V_far (p := ⟨gb799, 0, none⟩) (Kd.V_mono HO782.out (fun k_ hk => (⟨hk, hk.2⟩ : _ ∧ k_ ≠ gb799))) (fun _ hk => hk.2) (.int .i64 t789)) (fun _ hk => hk.2) (.string t790)) (fun _ hk => hk.2) (.slice Ao50 t791.length co50)) (fun _ hk => hk.2) (.string t794)) (fun _ hk => hk.2) (.slice Ao51 t795.length co51)) (fun _ h_ => h_.1)))); (case side2 => exact (Kd.V_reads' HO782.out).2.1); (case side3 => refine (Kd.V_reads' (e := 100) (base := w.heap.size) (ok := fun k_ => ((((k_ ≠ gb775 ∧ (k_ ≠ gb787 ∧ k_ ≠ gb788)) ∧ some k_ ≠ (.slice Ao50 t791.length co50 : Value).ownBlock) ∧ some k_ ≠ (.slice Ao51 t795.length co51 : Value).ownBlock) ∧ k_ ≠ gb799)) (n := t784.length) (c := co39) ?_).2.2; exact (by (with_reducible repeat (first | apply va | apply vn | apply vd)); exact (Kd.V_mono (Kd.V_far (p := ⟨gb799, 4, none⟩) (Kd.V_far (p := ⟨gb799, 3, none⟩) (Kd.V_far (p := ⟨gb799, 2, none⟩) (Kd.V_far (p := ⟨gb799, 1, none⟩) (Kd.V_far (p := ⟨gb799, 0, none⟩) (Kd.V_mono HO786.out (fun k_ hk => (⟨hk, hk.2⟩ : _ ∧ k_ ≠ gb799))) (fun _ hk => hk.2) (.int .i64 t789)) (fun _ hk => hk.2) (.string t790)) (fun _ hk => hk.2) (.slice Ao50 t791.length co50)) (fun _ hk => hk.2) (.string t794)) (fun _ hk => hk.2) (.slice Ao51 t795.length co51)) (fun _ h_ => h_.1)))); (case side4 => exact (Kd.V_reads' HO786.out).2.1); rintro e w56 ⟨v803, v807, rfl, ho0, ho1, hb⟩; refine ⟨_, rfl, ?_⟩; have n0_ := aM (Kd.V_mono (Kd.V_told (Kd.V_told (Kd.V_old (by (with_reducible repeat (first | apply va | apply vn | apply vd)); exact (Kd.V_mono (Kd.V_far (p := ⟨gb799, 4, none⟩) (Kd.V_far (p := ⟨gb799, 3, none⟩) (Kd.V_far (p := ⟨gb799, 2, none⟩) (Kd.V_far (p := ⟨gb799, 1, none⟩) (Kd.V_far (p := ⟨gb799, 0, none⟩) (Kd.V_mono HO782.out (fun k_ hk => (⟨hk, hk.2⟩ : _ ∧ k_ ≠ gb799))) (fun _ hk => hk.2) (.int .i64 t789)) (fun _ hk => hk.2) (.string t790)) (fun _ hk => hk.2) (.slice Ao50 t791.length co50)) (fun _ hk => hk.2) (.string t794)) (fun _ hk => hk.2) (.slice Ao51 t795.length co51)) (fun _ h_ => h_.1))) hb) (Kd.R_base ho0)) (Kd.R_base ho1)) (fun _ h_ => h_.1)); have n1_ := aM (Kd.V_mono (Kd.V_told (Kd.V_told (Kd.V_old (by (with_reducible repeat (first | apply va | apply vn | apply vd)); exact (Kd.V_mono (Kd.V_far (p := ⟨gb799, 4, none⟩) (Kd.V_far (p := ⟨gb799, 3, none⟩) (Kd.V_far (p := ⟨gb799, 2, none⟩) (Kd.V_far (p := ⟨gb799, 1, none⟩) (Kd.V_far (p := ⟨gb799, 0, none⟩) (Kd.V_mono HO786.out (fun k_ hk => (⟨hk, hk.2⟩ : _ ∧ k_ ≠ gb799))) (fun _ hk => hk.2) (.int .i64 t789)) (fun _ hk => hk.2) (.string t790)) (fun _ hk => hk.2) (.slice Ao50 t791.length co50)) (fun _ hk => hk.2) (.string t794)) (fun _ hk => hk.2) (.slice Ao51 t795.length co51)) (fun _ h_ => h_.1))) hb) (Kd.R_base ho0)) (Kd.R_base ho1)) (fun _ h_ => h_.1)); have n2_ := aM (rM (Kd.R_told (Kd.R_told (Kd.R_old (by (with_reducible repeat (first | apply ra | apply rn | apply rd_)); exact (rM (rF (p := ⟨gb799, 4, none⟩) (rF (p := ⟨gb799, 3, none⟩) (rF (p := ⟨gb799, 2, none⟩) (rF (p := ⟨gb799, 1, none⟩) (rF (p := ⟨gb799, 0, none⟩) (rT HO793.out BK799.out (by decide)) (fun _ hk => hk.2) (.int .i64 t789)) (fun _ hk => hk.2) (.string t790)) (fun _ hk => hk.2) (.slice Ao50 t791.length co50)) (fun _ hk => hk.2) (.string t794)) (fun _ hk => hk.2) (.slice Ao51 t795.length co51)) (fun _ h_ => h_.1))) hb) (Kd.R_base ho0)) (Kd.R_base ho1)) (fun _ h_ => h_.1)); have n3_ := aM (rM (Kd.R_told (Kd.R_told (Kd.R_old (by (with_reducible repeat (first | apply ra | apply rn | apply rd_)); exact (rM (rF (p := ⟨gb799, 4, none⟩) (rF (p := ⟨gb799, 3, none⟩) (rF (p := ⟨gb799, 2, none⟩) (rF (p := ⟨gb799, 1, none⟩) (rF (p := ⟨gb799, 0, none⟩) (rT HO797.out BK799.out (by decide)) (fun _ hk => hk.2) (.int .i64 t789)) (fun _ hk => hk.2) (.string t790)) (fun _ hk => hk.2) (.slice Ao50 t791.length co50)) (fun _ hk => hk.2) (.string t794)) (fun _ hk => hk.2) (.slice Ao51 t795.length co51)) (fun _ h_ => h_.1))) hb) (Kd.R_base ho0)) (Kd.R_base ho1)) (fun _ h_ => h_.1)); have n4_ := aM (rL (Kd.R_new' (Kd.R_new' ho0 (Kd.R_lt (by (with_reducible repeat (first | apply ra | apply rn | apply rd_)); exact (rM (rF (p := ⟨gb799, 4, none⟩) (rF (p := ⟨gb799, 3, none⟩) (rF (p := ⟨gb799, 2, none⟩) (rF (p := ⟨gb799, 1, none⟩) (rF (p := ⟨gb799, 0, none⟩) (rT HO793.out BK799.out (by decide)) (fun _ hk => hk.2) (.int .i64 t789)) (fun _ hk => hk.2) (.string t790)) (fun _ hk => hk.2) (.slice Ao50 t791.length co50)) (fun _ hk => hk.2) (.string t794)) (fun _ hk => hk.2) (.slice Ao51 t795.length co51)) (fun _ h_ => h_.1))))) (Kd.R_lt (by (with_reducible repeat (first | apply ra | apply rn | apply rd_)); exact (rM (rF (p := ⟨gb799, 4, none⟩) (rF (p := ⟨gb799, 3, none⟩) (rF (p := ⟨gb799, 2, none⟩) (rF (p := ⟨gb799, 1, none⟩) (rF (p := ⟨gb799, 0, none⟩) (rT HO797.out BK799.out (by decide)) (fun _ hk => hk.2) (.int .i64 t789)) (fun _ hk => hk.2) (.string t790)) (fun _ hk => hk.2) (.slice Ao50 t791.length co50)) (fun _ hk => hk.2) (.string t794)) (fun _ hk => hk.2) (.slice Ao51 t795.length co51)) (fun _ h_ => h_.1))))) (bZ (by repeat (first | (with_reducible first | exact HB.out | apply ea | apply en | apply ed | refine bs ?_ GE775.out | refine bs ?_ GE787.out | refine bs ?_ GE788.out | refine bs ?_ GE799.out) | exact HB.out)))); have n5_ := aM (rL (Kd.R_new' (Kd.R_new' ho1 (Kd.R_lt (by (with_reducible repeat (first | apply ra | apply rn | apply rd_)); exact (rM (rF (p := ⟨gb799, 4, none⟩) (rF (p := ⟨gb799, 3, none⟩) (rF (p := ⟨gb799, 2, none⟩) (rF (p := ⟨gb799, 1, none⟩) (rF (p := ⟨gb799, 0, none⟩) (rT HO793.out BK799.out (by decide)) (fun _ hk => hk.2) (.int .i64 t789)) (fun _ hk => hk.2) (.string t790)) (fun _ hk => hk.2) (.slice Ao50 t791.length co50)) (fun _ hk => hk.2) (.string t794)) (fun _ hk => hk.2) (.slice Ao51 t795.length co51)) (fun _ h_ => h_.1))))) (Kd.R_lt (by (with_reducible repeat (first | apply ra | apply rn | apply rd_)); exact (rM (rF (p := ⟨gb799, 4, none⟩) (rF (p := ⟨gb799, 3, none⟩) (rF (p := ⟨gb799, 2, none⟩) (rF (p := ⟨gb799, 1, none⟩) (rF (p := ⟨gb799, 0, none⟩) (rT HO797.out BK799.out (by decide)) (fun _ hk => hk.2) (.int .i64 t789)) (fun _ hk => hk.2) (.string t790)) (fun _ hk => hk.2) (.slice Ao50 t791.length co50)) (fun _ hk => hk.2) (.string t794)) (fun _ hk => hk.2) (.slice Ao51 t795.length co51)) (fun _ h_ => h_.1))))) (bZ (by repeat (first | (with_reducible first | exact HB.out | apply ea | apply en | apply ed | refine bs ?_ GE775.out | refine bs ?_ GE787.out | refine bs ?_ GE788.out | refine bs ?_ GE799.out) | exact HB.out)))); have n6_ := aM (bB (g := gb775) (o := .cells #[.string a0_0, .slice A0_1 l0_1.length c0_1, .string a0_2, .slice A0_3 l0_3.length c0_3, .string a0_4, .int .i64 a0_5, .int .i64 a0_6, .int .u64 a0_7] 77 (0, 0)) (by (with_reducible repeat (first | refine bn ?_ _ | refine bd ?_ | refine ba ?_ _)); refine bR ?_ NB775_799.out _; (with_reducible repeat (first | refine bn ?_ _ | refine bd ?_ | refine ba ?_ _)); refine bR ?_ NB775_799.out _; (with_reducible repeat (first | refine bn ?_ _ | refine bd ?_ | refine ba ?_ _)); refine bR ?_ NB775_799.out _; (with_reducible repeat (first | refine bn ?_ _ | refine bd ?_ | refine ba ?_ _)); refine bR ?_ NB775_799.out _; (with_reducible repeat (first | refine bn ?_ _ | refine bd ?_ | refine ba ?_ _)); refine bR ?_ NB775_799.out _; (with_reducible repeat (first | refine bn ?_ _ | refine bd ?_ | refine ba ?_ _)); exact BK775.out) hb); have n7_ := aM (bB (g := gb787) (o := .cells #[.string t779, .slice Ao36 t780.length co36] 51 (0, 0)) (by (with_reducible repeat (first | refine bn ?_ _ | refine bd ?_ | refine ba ?_ _)); refine bR ?_ NB787_799.out _; (with_reducible repeat (first | refine bn ?_ _ | refine bd ?_ | refine ba ?_ _)); refine bR ?_ NB787_799.out _; (with_reducible repeat (first | refine bn ?_ _ | refine bd ?_ | refine ba ?_ _)); refine bR ?_ NB787_799.out _; (with_reducible repeat (first | refine bn ?_ _ | refine bd ?_ | refine ba ?_ _)); refine bR ?_ NB787_799.out _; (with_reducible repeat (first | refine bn ?_ _ | refine bd ?_ | refine ba ?_ _)); refine bR ?_ NB787_799.out _; (with_reducible repeat (first | refine bn ?_ _ | refine bd ?_ | refine ba ?_ _)); exact BK787.out) hb); have n8_ := aM (bB (g := gb788) (o := .cells #[.string t783, .slice Ao39 t784.length co39] 51 (0, 0)) (by (with_reducible repeat (first | refine bn ?_ _ | refine bd ?_ | refine ba ?_ _)); refine bR ?_ NB788_799.out _; (with_reducible repeat (first | refine bn ?_ _ | refine bd ?_ | refine ba ?_ _)); refine bR ?_ NB788_799.out _; (with_reducible repeat (first | refine bn ?_ _ | refine bd ?_ | refine ba ?_ _)); refine bR ?_ NB788_799.out _; (with_reducible repeat (first | refine bn ?_ _ | refine bd ?_ | refine ba ?_ _)); refine bR ?_ NB788_799.out _; (with_reducible repeat (first | refine bn ?_ _ | refine bd ?_ | refine ba ?_ _)); refine bR ?_ NB788_799.out _; (with_reducible repeat (first | refine bn ?_ _ | refine bd ?_ | refine ba ?_ _)); exact BK788.out) hb); have n9_ := aM (bB (g := gb799) (o := .cells #[.int .i64 t789, .string t790, .slice Ao50 t791.length co50, .string t794, .slice Ao51 t795.length co51] 64 (0, 0)) (by (with_reducible repeat (first | refine bn ?_ _ | refine bd ?_ | refine ba ?_ _)); refine bU (cs := #[.int .i64 t789, .string t790, .slice Ao50 t791.length co50, .string t794, .slice none 0 0]) ?_ 4 _ rfl; (with_reducible repeat (first | refine bn ?_ _ | refine bd ?_ | refine ba ?_ _)); refine bU (cs := #[.int .i64 t789, .string t790, .slice Ao50 t791.length co50, .string (⟨#[]⟩ : ByteArray), .slice none 0 0]) ?_ 3 _ rfl; (with_reducible repeat (first | refine bn ?_ _ | refine bd ?_ | refine ba ?_ _)); refine bU (cs := #[.int .i64 t789, .string t790, .slice none 0 0, .string (⟨#[]⟩ : ByteArray), .slice none 0 0]) ?_ 2 _ rfl; (with_reducible repeat (first | refine bn ?_ _ | refine bd ?_ | refine ba ?_ _)); refine bU (cs := #[.int .i64 t789, .string (⟨#[]⟩ : ByteArray), .slice none 0 0, .string (⟨#[]⟩ : ByteArray), .slice none 0 0]) ?_ 1 _ rfl; (with_reducible repeat (first | refine bn ?_ _ | refine bd ?_ | refine ba ?_ _)); refine bU (cs := #[.int .i64 0, .string (⟨#[]⟩ : ByteArray), .slice none 0 0, .string (⟨#[]⟩ : ByteArray), .slice none 0 0]) ?_ 0 _ rfl; (with_reducible repeat (first | refine bn ?_ _ | refine bd ?_ | refine ba ?_ _)); exact BK799.out) hb); have n10_ := aM (bP (by repeat (first | (with_reducible first | exact HB.out | apply ea | apply en | apply ed | refine bs ?_ GE775.out | refine bs ?_ GE787.out | refine bs ?_ GE788.out | refine bs ?_ GE799.out) | exact HB.out)) hb); clear HO782; clear HO786; clear HO793; clear HO797; clear BK775; clear BK787; clear BK788; clear BK799; clear HB; have HO782 := n0_; have HO786 := n1_; have HO793 := n2_; have HO797 := n3_; have HO804 := n4_; have HO808 := n5_; have BK775 := n6_; have BK787 := n7_; have BK788 := n8_; have BK799 := n9_; have HB := n10_; clear n0_ n1_ n2_ n3_ n4_ n5_ n6_ n7_ n8_ n9_ n10_; (try clear hb); (try clear hb2); (try clear hk); (try clear hi); (try clear ho0); (try clear ho1)) | ((with_reducible refine gate_dst (N := 9) rfl ?_); (try (refine gate_guard (by rfl) ?_; dsimp only)); refine box_event ?hg (N := 9) ?hd (cs := #[.int .i64 0, .string (⟨#[]⟩ : ByteArray), .slice none 0 0, .string (⟨#[]⟩ : ByteArray), .slice none 0 0]) (t := 64) ?hr ?_; (case hd => rfl); (case hg => rfl); (case hr => first | (go_simp; done) | (go_simp; rfl)); intro gb810 hg w57 hbox hb; have n0_ := aM (Kd.V_below (Kd.V_elderB (by (with_reducible repeat (first | apply va | apply vn | apply vd)); exact HO782.out) gb810 (Nat.le_of_eq hg.symm)) hb); have n1_ := aM (Kd.V_below (Kd.V_elderB (by (with_reducible repeat (first | apply va | apply vn | apply vd)); exact HO786.out) gb810 (Nat.le_of_eq hg.symm)) hb); have n2_ := aM (Kd.R_below (by (with_reducible repeat (first | apply ra | apply rn | apply rd_)); exact HO793.out) hb); have n3_ := aM (Kd.R_below (by (with_reducible repeat (first | apply ra | apply rn | apply rd_)); exact HO797.out) hb); have n4_ := aM (Kd.R_below (by (with_reducible repeat (first | apply ra | apply rn | apply rd_)); exact HO804.out) hb); have n5_ := aM (Kd.R_below (by (with_reducible repeat (first | apply ra | apply rn | apply rd_)); exact HO808.out) hb); have n6_ := aM (bB (g := gb775) (o := .cells #[.string a0_0, .slice A0_1 l0_1.length c0_1, .string a0_2, .slice A0_3 l0_3.length c0_3, .string a0_4, .int .i64 a0_5, .int .i64 a0_6, .int .u64 a0_7] 77 (0, 0)) (by (with_reducible repeat (first | refine bn ?_ _ | refine bd ?_ | refine ba ?_ _)); exact BK775.out) hb); have n7_ := aM (bB (g := gb787) (o := .cells #[.string t779, .slice Ao36 t780.length co36] 51 (0, 0)) (by (with_reducible repeat (first | refine bn ?_ _ | refine bd ?_ | refine ba ?_ _)); exact BK787.out) hb); have n8_ := aM (bB (g := gb788) (o := .cells #[.string t783, .slice Ao39 t784.length co39] 51 (0, 0)) (by (with_reducible repeat (first | refine bn ?_ _ | refine bd ?_ | refine ba ?_ _)); exact BK788.out) hb); have n9_ := aM (bB (g := gb799) (o := .cells #[.int .i64 t789, .string t790, .slice Ao50 t791.length co50, .string t794, .slice Ao51 t795.length co51] 64 (0, 0)) (by (with_reducible repeat (first | refine bn ?_ _ | refine bd ?_ | refine ba ?_ _)); exact BK799.out) hb); have n10_ := aM (bP (by repeat (first | (with_reducible first | exact HB.out | apply ea | apply en | apply ed | refine bs ?_ GE775.out | refine bs ?_ GE787.out | refine bs ?_ GE788.out | refine bs ?_ GE799.out) | exact HB.out)) hb); have n11_ := aM (hbox); have n12_ := aM ((by rw [hg]; exact (bZ (by repeat (first | (with_reducible first | exact HB.out | apply ea | apply en | apply ed | refine bs ?_ GE775.out | refine bs ?_ GE787.out | refine bs ?_ GE788.out | refine bs ?_ GE799.out) | exact HB.out))) : w.heap.size ≤ gb810)); have n13_ := aM ((by rw [hg]; exact (bZ (by repeat (first | (with_reducible first | exact HB.out | apply ea | apply en | apply ed | refine bs ?_ GE775.out | refine bs ?_ GE787.out | refine bs ?_ GE788.out | refine bs ?_ GE799.out) | exact HB.out))) : w.heap.size ≤ gb810)); have n14_ := aM ((by rw [hg]; exact Nat.ne_of_lt (blk_lt (g := gb775) (o := .cells #[.string a0_0, .slice A0_1 l0_1.length c0_1, .string a0_2, .slice A0_3 l0_3.length c0_3, .string a0_4, .int .i64 a0_5, .int .i64 a0_6, .int .u64 a0_7] 77 (0, 0)) (by (with_reducible repeat (first | refine bn ?_ _ | refine bd ?_ | refine ba ?_ _)); exact BK775.out)) : gb775 ≠ gb810)); have n15_ := aM ((by rw [hg]; exact Nat.ne_of_gt (blk_lt (g := gb775) (o := .cells #[.string a0_0, .slice A0_1 l0_1.length c0_1, .string a0_2, .slice A0_3 l0_3.length c0_3, .string a0_4, .int .i64 a0_5, .int .i64 a0_6, .int .u64 a0_7] 77 (0, 0)) (by (with_reducible repeat (first | refine bn ?_ _ | refine bd ?_ | refine ba ?_ _)); exact BK775.out)) : gb810 ≠ gb775)); have n16_ := aM ((by rw [hg]; exact Nat.ne_of_lt (blk_lt (g := gb787) (o := .cells #[.string t779, .slice Ao36 t780.length co36] 51 (0, 0)) (by (with_reducible repeat (first | refine bn ?_ _ | refine bd ?_ | refine ba ?_ _)); exact BK787.out)) : gb787 ≠ gb810)); have n17_ := aM ((by rw [hg]; exact Nat.ne_of_gt (blk_lt (g := gb787) (o := .cells #[.string t779, .slice Ao36 t780.length co36] 51 (0, 0)) (by (with_reducible repeat (first | refine bn ?_ _ | refine bd ?_ | refine ba ?_ _)); exact BK787.out)) : gb810 ≠ gb787)); have n18_ := aM ((by rw [hg]; exact Nat.ne_of_lt (blk_lt (g := gb788) (o := .cells #[.string t783, .slice Ao39 t784.length co39] 51 (0, 0)) (by (with_reducible repeat (first | refine bn ?_ _ | refine bd ?_ | refine ba ?_ _)); exact BK788.out)) : gb788 ≠ gb810)); have n19_ := aM ((by rw [hg]; exact Nat.ne_of_gt (blk_lt (g := gb788) (o := .cells #[.string t783, .slice Ao39 t784.length co39] 51 (0, 0)) (by (with_reducible repeat (first | refine bn ?_ _ | refine bd ?_ | refine ba ?_ _)); exact BK788.out)) : gb810 ≠ gb788)); have n20_ := aM ((by rw [hg]; exact Nat.ne_of_lt (blk_lt (g := gb799) (o := .cells #[.int .i64 t789, .string t790, .slice Ao50 t791.length co50, .string t794, .slice Ao51 t795.length co51] 64 (0, 0)) (by (with_reducible repeat (first | refine bn ?_ _ | refine bd ?_ | refine ba ?_ _)); exact BK799.out)) : gb799 ≠ gb810)); have n21_ := aM ((by rw [hg]; exact Nat.ne_of_gt (blk_lt (g := gb799) (o := .cells #[.int .i64 t789, .string t790, .slice Ao50 t791.length co50, .string t794, .slice Ao51 t795.length co51] 64 (0, 0)) (by (with_reducible repeat (first | refine bn ?_ _ | refine bd ?_ | refine ba ?_ _)); exact BK799.out)) : gb810 ≠ gb799)); clear HO782; clear HO786; clear HO793; clear HO797; clear HO804; clear HO808; clear BK775; clear BK787; clear BK788; clear BK799; clear HB; have HO782 := n0_; have HO786 := n1_; have HO793 := n2_; have HO797 := n3_; have HO804 := n4_; have HO808 := n5_; have BK775 := n6_; have BK787 := n7_; have BK788 := n8_; have BK799 := n9_; have HB := n10_; have BK810 := n11_; have GW810 := n12_; have GE810 := n13_; have NB775_810 := n14_; have NB810_775 := n15_; have NB787_810 := n16_; have NB810_787 := n17_; have NB788_810 := n18_; have NB810_788 := n19_; have NB799_810 := n20_; have NB810_799 := n21_; clear n0_ n1_ n2_ n3_ n4_ n5_ n6_ n7_ n8_ n9_ n10_ n11_ n12_ n13_ n14_ n15_ n16_ n17_ n18_ n19_ n20_ n21_; clear hb hbox hg; have hnb58 := NB810_775.out; have hnc58 := NB775_810.out; have hnb59 := NB810_787.out; have hnc59 := NB787_810.out; have hnb60 := NB810_788.out; have hnc60 := NB788_810.out; have hnb61 := NB810_799.out; have hnc61 := NB799_810.out; have hcz62_0 : w57.cell? ⟨gb810, 0, none⟩ = some (.int .i64 0) := (bC BK810.out 0).trans rfl; have hcz62_1 : w57.cell? ⟨gb810, 1, none⟩ = some (.string (⟨#[]⟩ : ByteArray)) := (bC BK810.out 1).trans rfl; have hcz62_2 : w57.cell? ⟨gb810, 2, none⟩ = some (.slice none 0 0) := (bC BK810.out 2).trans rfl; have hcz62_3 : w57.cell? ⟨gb810, 3, none⟩ = some (.string (⟨#[]⟩ : ByteArray)) := (bC BK810.out 3).trans rfl; have hcz62_4 : w57.cell? ⟨gb810, 4, none⟩ = some (.slice none 0 0) := (bC BK810.out 4).trans rfl; have hfz62_0 := bF BK810.out 0; have hfz62_1 := bF BK810.out 1; have hfz62_2 := bF BK810.out 2; have hfz62_3 := bF BK810.out 3; have hfz62_4 := bF BK810.out 4; obtain ⟨Ao63, co63, eo63⟩ := Kd.R_slice HO804.out; subst eo63; obtain ⟨Ao64, co64, eo64⟩ := Kd.R_slice HO808.out; subst eo64))
  (try simp only [Act.put, List.setIfInBounds_toArray, List.set_cons_zero, List.set_cons_succ])
  go_cut [72] (fun v72 wc => ∃ (kq : Nat) (x72_27 : Bool), v72 = .bool x72_27 ∧ Aside0 (bureaulaw07_EditHides.j1 kq a1 t798 t809 x72_27 a0_0 l0_1 a0_2 l0_3 a0_4 a0_5 a0_6 a0_7 t779 t780 t789 t790 t791 t794 t795 t800 t801 t802 t805 t806 = some r) ∧ Aside0 (kq ≤ kj4) ∧ Aside0 (Kd.V k100 100 wc w.heap.size (fun k_ => some k_ ≠ ((.slice Ao50 t791.length co50) : Value).ownBlock ∧ some k_ ≠ ((.slice Ao51 t795.length co51) : Value).ownBlock ∧ some k_ ≠ ((.slice Ao63 t802.length co63) : Value).ownBlock ∧ some k_ ≠ ((.slice Ao64 t806.length co64) : Value).ownBlock ∧ k_ ≠ gb775 ∧ k_ ≠ gb787 ∧ k_ ≠ gb788 ∧ k_ ≠ gb799 ∧ k_ ≠ gb810) (.slice Ao36 t780.length co36) t780) ∧ Aside0 (Kd.V k100 100 wc w.heap.size (fun k_ => some k_ ≠ ((.slice Ao50 t791.length co50) : Value).ownBlock ∧ some k_ ≠ ((.slice Ao51 t795.length co51) : Value).ownBlock ∧ some k_ ≠ ((.slice Ao63 t802.length co63) : Value).ownBlock ∧ some k_ ≠ ((.slice Ao64 t806.length co64) : Value).ownBlock ∧ k_ ≠ gb775 ∧ k_ ≠ gb787 ∧ k_ ≠ gb788 ∧ k_ ≠ gb799 ∧ k_ ≠ gb810) (.slice Ao39 t784.length co39) t784) ∧ Aside0 (Kd.R k100 100 wc w.heap.size (fun k_ => some k_ ≠ ((.slice Ao51 t795.length co51) : Value).ownBlock ∧ some k_ ≠ ((.slice Ao63 t802.length co63) : Value).ownBlock ∧ some k_ ≠ ((.slice Ao64 t806.length co64) : Value).ownBlock) (.slice Ao50 t791.length co50) t791) ∧ Aside0 (Kd.R k100 100 wc w.heap.size (fun k_ => some k_ ≠ ((.slice Ao50 t791.length co50) : Value).ownBlock ∧ some k_ ≠ ((.slice Ao63 t802.length co63) : Value).ownBlock ∧ some k_ ≠ ((.slice Ao64 t806.length co64) : Value).ownBlock) (.slice Ao51 t795.length co51) t795) ∧ Aside0 (Kd.R k100 100 wc w.heap.size (fun k_ => some k_ ≠ ((.slice Ao50 t791.length co50) : Value).ownBlock ∧ some k_ ≠ ((.slice Ao51 t795.length co51) : Value).ownBlock ∧ some k_ ≠ ((.slice Ao64 t806.length co64) : Value).ownBlock) (.slice Ao63 t802.length co63) t802) ∧ Aside0 (Kd.R k100 100 wc w.heap.size (fun k_ => some k_ ≠ ((.slice Ao50 t791.length co50) : Value).ownBlock ∧ some k_ ≠ ((.slice Ao51 t795.length co51) : Value).ownBlock ∧ some k_ ≠ ((.slice Ao63 t802.length co63) : Value).ownBlock) (.slice Ao64 t806.length co64) t806) ∧ Aside0 (wc.heap[gb775]? = some (.cells #[.string a0_0, (.slice A0_1 l0_1.length c0_1), .string a0_2, (.slice A0_3 l0_3.length c0_3), .string a0_4, .int .i64 a0_5, .int .i64 a0_6, .int .u64 a0_7] 77 (0, 0))) ∧ Aside0 (wc.heap[gb787]? = some (.cells #[.string t779, (.slice Ao36 t780.length co36)] 51 (0, 0))) ∧ Aside0 (wc.heap[gb788]? = some (.cells #[.string t783, (.slice Ao39 t784.length co39)] 51 (0, 0))) ∧ Aside0 (wc.heap[gb799]? = some (.cells #[.int .i64 t789, .string t790, (.slice Ao50 t791.length co50), .string t794, (.slice Ao51 t795.length co51)] 64 (0, 0))) ∧ Aside0 (wc.heap[gb810]? = some (.cells #[.int .i64 t800, .string t801, (.slice Ao63 t802.length co63), .string t805, (.slice Ao64 t806.length co64)] 64 (0, 0))) ∧ Aside0 (Below w.heap.size w wc))
  case first =>
    have H := HC28.out
    clear HC28
    by_cases c65 : t798 = 0
    · rw [if_pos c65] at H
      have c65b0 : (t798 == 0) = true := beq_iff_eq.mpr c65
      have c65b1 : (t798 != 0) = false := bne_eq_false_iff_eq.mpr c65
      clear c65
      (first | rw [c65b0] | (simp only [i64_w, i32_w]; rw [c65b0]) | skip)
      have H' := aM H
      clear H
      go_wp2
      go_meet
      case rel => exact ⟨_, ((t809 != 0)), (by first | rfl | (simp; done) | (simp [*]; done)), H', ⟨by have := HJ4.out; first | omega | exact Nat.le_refl _⟩, ⟨by (with_reducible repeat (first | apply va | apply vn | apply vd)); exact Kd.V_mono (Kd.V_far (p := ⟨gb810, 4, none⟩) (Kd.V_far (p := ⟨gb810, 3, none⟩) (Kd.V_far (p := ⟨gb810, 2, none⟩) (Kd.V_far (p := ⟨gb810, 1, none⟩) (Kd.V_far (p := ⟨gb810, 0, none⟩) (Kd.V_mono HO782.out (fun k_ hk => (⟨hk, hk.2⟩ : _ ∧ k_ ≠ gb810))) (fun _ hk => hk.2) (.int .i64 t800)) (fun _ hk => hk.2) (.string t801)) (fun _ hk => hk.2) (.slice Ao63 t802.length co63)) (fun _ hk => hk.2) (.string t805)) (fun _ hk => hk.2) (.slice Ao64 t806.length co64)) (fun _ hk => ⟨hk.1.1.1.1.1.1.2, ⟨hk.1.1.1.1.1.2, ⟨hk.1.1.1.2, ⟨hk.1.1.2, ⟨hk.1.1.1.1.1.1.1.1, ⟨hk.1.1.1.1.1.1.1.2.1, ⟨hk.1.1.1.1.1.1.1.2.2, ⟨hk.1.1.1.1.2, hk.1.2⟩⟩⟩⟩⟩⟩⟩⟩)⟩, ⟨by (with_reducible repeat (first | apply va | apply vn | apply vd)); exact Kd.V_mono (Kd.V_far (p := ⟨gb810, 4, none⟩) (Kd.V_far (p := ⟨gb810, 3, none⟩) (Kd.V_far (p := ⟨gb810, 2, none⟩) (Kd.V_far (p := ⟨gb810, 1, none⟩) (Kd.V_far (p := ⟨gb810, 0, none⟩) (Kd.V_mono HO786.out (fun k_ hk => (⟨hk, hk.2⟩ : _ ∧ k_ ≠ gb810))) (fun _ hk => hk.2) (.int .i64 t800)) (fun _ hk => hk.2) (.string t801)) (fun _ hk => hk.2) (.slice Ao63 t802.length co63)) (fun _ hk => hk.2) (.string t805)) (fun _ hk => hk.2) (.slice Ao64 t806.length co64)) (fun _ hk => ⟨hk.1.1.1.1.1.1.2, ⟨hk.1.1.1.1.1.2, ⟨hk.1.1.1.2, ⟨hk.1.1.2, ⟨hk.1.1.1.1.1.1.1.1, ⟨hk.1.1.1.1.1.1.1.2.1, ⟨hk.1.1.1.1.1.1.1.2.2, ⟨hk.1.1.1.1.2, hk.1.2⟩⟩⟩⟩⟩⟩⟩⟩)⟩, ⟨by (with_reducible repeat (first | apply ra | apply rn | apply rd_)); exact rM (rF (p := ⟨gb810, 4, none⟩) (rF (p := ⟨gb810, 3, none⟩) (rF (p := ⟨gb810, 2, none⟩) (rF (p := ⟨gb810, 1, none⟩) (rF (p := ⟨gb810, 0, none⟩) (rT HO793.out BK810.out (by decide)) (fun _ hk => hk.2) (.int .i64 t800)) (fun _ hk => hk.2) (.string t801)) (fun _ hk => hk.2) (.slice Ao63 t802.length co63)) (fun _ hk => hk.2) (.string t805)) (fun _ hk => hk.2) (.slice Ao64 t806.length co64)) (fun _ hk => ⟨hk.1.1.1, ⟨hk.1.1.2, hk.1.2⟩⟩)⟩, ⟨by (with_reducible repeat (first | apply ra | apply rn | apply rd_)); exact rM (rF (p := ⟨gb810, 4, none⟩) (rF (p := ⟨gb810, 3, none⟩) (rF (p := ⟨gb810, 2, none⟩) (rF (p := ⟨gb810, 1, none⟩) (rF (p := ⟨gb810, 0, none⟩) (rT HO797.out BK810.out (by decide)) (fun _ hk => hk.2) (.int .i64 t800)) (fun _ hk => hk.2) (.string t801)) (fun _ hk => hk.2) (.slice Ao63 t802.length co63)) (fun _ hk => hk.2) (.string t805)) (fun _ hk => hk.2) (.slice Ao64 t806.length co64)) (fun _ hk => ⟨hk.1.1.1, ⟨hk.1.1.2, hk.1.2⟩⟩)⟩, ⟨by (with_reducible repeat (first | apply ra | apply rn | apply rd_)); exact rM (rF (p := ⟨gb810, 4, none⟩) (rF (p := ⟨gb810, 3, none⟩) (rF (p := ⟨gb810, 2, none⟩) (rF (p := ⟨gb810, 1, none⟩) (rF (p := ⟨gb810, 0, none⟩) (rT HO804.out BK810.out (by decide)) (fun _ hk => hk.2) (.int .i64 t800)) (fun _ hk => hk.2) (.string t801)) (fun _ hk => hk.2) (.slice Ao63 t802.length co63)) (fun _ hk => hk.2) (.string t805)) (fun _ hk => hk.2) (.slice Ao64 t806.length co64)) (fun _ hk => ⟨hk.1.1.2, ⟨hk.1.2, hk.1.1.1⟩⟩)⟩, ⟨by (with_reducible repeat (first | apply ra | apply rn | apply rd_)); exact rM (rF (p := ⟨gb810, 4, none⟩) (rF (p := ⟨gb810, 3, none⟩) (rF (p := ⟨gb810, 2, none⟩) (rF (p := ⟨gb810, 1, none⟩) (rF (p := ⟨gb810, 0, none⟩) (rT HO808.out BK810.out (by decide)) (fun _ hk => hk.2) (.int .i64 t800)) (fun _ hk => hk.2) (.string t801)) (fun _ hk => hk.2) (.slice Ao63 t802.length co63)) (fun _ hk => hk.2) (.string t805)) (fun _ hk => hk.2) (.slice Ao64 t806.length co64)) (fun _ hk => ⟨hk.1.1.2, ⟨hk.1.2, hk.1.1.1⟩⟩)⟩, ⟨by (with_reducible repeat (first | refine bn ?_ _ | refine bd ?_ | refine ba ?_ _)); refine bR ?_ NB775_810.out _; (with_reducible repeat (first | refine bn ?_ _ | refine bd ?_ | refine ba ?_ _)); refine bR ?_ NB775_810.out _; (with_reducible repeat (first | refine bn ?_ _ | refine bd ?_ | refine ba ?_ _)); refine bR ?_ NB775_810.out _; (with_reducible repeat (first | refine bn ?_ _ | refine bd ?_ | refine ba ?_ _)); refine bR ?_ NB775_810.out _; (with_reducible repeat (first | refine bn ?_ _ | refine bd ?_ | refine ba ?_ _)); refine bR ?_ NB775_810.out _; (with_reducible repeat (first | refine bn ?_ _ | refine bd ?_ | refine ba ?_ _)); exact BK775.out⟩, ⟨by (with_reducible repeat (first | refine bn ?_ _ | refine bd ?_ | refine ba ?_ _)); refine bR ?_ NB787_810.out _; (with_reducible repeat (first | refine bn ?_ _ | refine bd ?_ | refine ba ?_ _)); refine bR ?_ NB787_810.out _; (with_reducible repeat (first | refine bn ?_ _ | refine bd ?_ | refine ba ?_ _)); refine bR ?_ NB787_810.out _; (with_reducible repeat (first | refine bn ?_ _ | refine bd ?_ | refine ba ?_ _)); refine bR ?_ NB787_810.out _; (with_reducible repeat (first | refine bn ?_ _ | refine bd ?_ | refine ba ?_ _)); refine bR ?_ NB787_810.out _; (with_reducible repeat (first | refine bn ?_ _ | refine bd ?_ | refine ba ?_ _)); exact BK787.out⟩, ⟨by (with_reducible repeat (first | refine bn ?_ _ | refine bd ?_ | refine ba ?_ _)); refine bR ?_ NB788_810.out _; (with_reducible repeat (first | refine bn ?_ _ | refine bd ?_ | refine ba ?_ _)); refine bR ?_ NB788_810.out _; (with_reducible repeat (first | refine bn ?_ _ | refine bd ?_ | refine ba ?_ _)); refine bR ?_ NB788_810.out _; (with_reducible repeat (first | refine bn ?_ _ | refine bd ?_ | refine ba ?_ _)); refine bR ?_ NB788_810.out _; (with_reducible repeat (first | refine bn ?_ _ | refine bd ?_ | refine ba ?_ _)); refine bR ?_ NB788_810.out _; (with_reducible repeat (first | refine bn ?_ _ | refine bd ?_ | refine ba ?_ _)); exact BK788.out⟩, ⟨by (with_reducible repeat (first | refine bn ?_ _ | refine bd ?_ | refine ba ?_ _)); refine bR ?_ NB799_810.out _; (with_reducible repeat (first | refine bn ?_ _ | refine bd ?_ | refine ba ?_ _)); refine bR ?_ NB799_810.out _; (with_reducible repeat (first | refine bn ?_ _ | refine bd ?_ | refine ba ?_ _)); refine bR ?_ NB799_810.out _; (with_reducible repeat (first | refine bn ?_ _ | refine bd ?_ | refine ba ?_ _)); refine bR ?_ NB799_810.out _; (with_reducible repeat (first | refine bn ?_ _ | refine bd ?_ | refine ba ?_ _)); refine bR ?_ NB799_810.out _; (with_reducible repeat (first | refine bn ?_ _ | refine bd ?_ | refine ba ?_ _)); exact BK799.out⟩, ⟨by (with_reducible repeat (first | refine bn ?_ _ | refine bd ?_ | refine ba ?_ _)); refine bU (cs := #[.int .i64 t800, .string t801, .slice Ao63 t802.length co63, .string t805, .slice none 0 0]) ?_ 4 _ rfl; (with_reducible repeat (first | refine bn ?_ _ | refine bd ?_ | refine ba ?_ _)); refine bU (cs := #[.int .i64 t800, .string t801, .slice Ao63 t802.length co63, .string (⟨#[]⟩ : ByteArray), .slice none 0 0]) ?_ 3 _ rfl; (with_reducible repeat (first | refine bn ?_ _ | refine bd ?_ | refine ba ?_ _)); refine bU (cs := #[.int .i64 t800, .string t801, .slice none 0 0, .string (⟨#[]⟩ : ByteArray), .slice none 0 0]) ?_ 2 _ rfl; (with_reducible repeat (first | refine bn ?_ _ | refine bd ?_ | refine ba ?_ _)); refine bU (cs := #[.int .i64 t800, .string (⟨#[]⟩ : ByteArray), .slice none 0 0, .string (⟨#[]⟩ : ByteArray), .slice none 0 0]) ?_ 1 _ rfl; (with_reducible repeat (first | refine bn ?_ _ | refine bd ?_ | refine ba ?_ _)); refine bU (cs := #[.int .i64 0, .string (⟨#[]⟩ : ByteArray), .slice none 0 0, .string (⟨#[]⟩ : ByteArray), .slice none 0 0]) ?_ 0 _ rfl; (with_reducible repeat (first | refine bn ?_ _ | refine bd ?_ | refine ba ?_ _)); exact BK810.out⟩, ⟨by repeat (first | (with_reducible first | exact HB.out | apply ea | apply en | apply ed | refine bs ?_ GE775.out | refine bs ?_ GE787.out | refine bs ?_ GE788.out | refine bs ?_ GE799.out | refine bs ?_ GE810.out) | exact HB.out)⟩⟩
    · rw [if_neg c65] at H
      have c65b0 : (t798 == 0) = false := beq_eq_false_iff_ne.mpr c65
      have c65b1 : (t798 != 0) = true := bne_iff_ne.mpr c65
      (first | rw [c65b0] | (simp only [i64_w, i32_w]; rw [c65b0]) | skip)
      have H' := aM H
      clear H
      go_wp2
      go_meet
      case rel => exact ⟨_, (true), (by first | rfl | (simp; done) | (simp [*]; done)), H', ⟨by have := HJ4.out; first | omega | exact Nat.le_refl _⟩, ⟨by (with_reducible repeat (first | apply va | apply vn | apply vd)); exact Kd.V_mono (Kd.V_far (p := ⟨gb810, 4, none⟩) (Kd.V_far (p := ⟨gb810, 3, none⟩) (Kd.V_far (p := ⟨gb810, 2, none⟩) (Kd.V_far (p := ⟨gb810, 1, none⟩) (Kd.V_far (p := ⟨gb810, 0, none⟩) (Kd.V_mono HO782.out (fun k_ hk => (⟨hk, hk.2⟩ : _ ∧ k_ ≠ gb810))) (fun _ hk => hk.2) (.int .i64 t800)) (fun _ hk => hk.2) (.string t801)) (fun _ hk => hk.2) (.slice Ao63 t802.length co63)) (fun _ hk => hk.2) (.string t805)) (fun _ hk => hk.2) (.slice Ao64 t806.length co64)) (fun _ hk => ⟨hk.1.1.1.1.1.1.2, ⟨hk.1.1.1.1.1.2, ⟨hk.1.1.1.2, ⟨hk.1.1.2, ⟨hk.1.1.1.1.1.1.1.1, ⟨hk.1.1.1.1.1.1.1.2.1, ⟨hk.1.1.1.1.1.1.1.2.2, ⟨hk.1.1.1.1.2, hk.1.2⟩⟩⟩⟩⟩⟩⟩⟩)⟩, ⟨by (with_reducible repeat (first | apply va | apply vn | apply vd)); exact Kd.V_mono (Kd.V_far (p := ⟨gb810, 4, none⟩) (Kd.V_far (p := ⟨gb810, 3, none⟩) (Kd.V_far (p := ⟨gb810, 2, none⟩) (Kd.V_far (p := ⟨gb810, 1, none⟩) (Kd.V_far (p := ⟨gb810, 0, none⟩) (Kd.V_mono HO786.out (fun k_ hk => (⟨hk, hk.2⟩ : _ ∧ k_ ≠ gb810))) (fun _ hk => hk.2) (.int .i64 t800)) (fun _ hk => hk.2) (.string t801)) (fun _ hk => hk.2) (.slice Ao63 t802.length co63)) (fun _ hk => hk.2) (.string t805)) (fun _ hk => hk.2) (.slice Ao64 t806.length co64)) (fun _ hk => ⟨hk.1.1.1.1.1.1.2, ⟨hk.1.1.1.1.1.2, ⟨hk.1.1.1.2, ⟨hk.1.1.2, ⟨hk.1.1.1.1.1.1.1.1, ⟨hk.1.1.1.1.1.1.1.2.1, ⟨hk.1.1.1.1.1.1.1.2.2, ⟨hk.1.1.1.1.2, hk.1.2⟩⟩⟩⟩⟩⟩⟩⟩)⟩, ⟨by (with_reducible repeat (first | apply ra | apply rn | apply rd_)); exact rM (rF (p := ⟨gb810, 4, none⟩) (rF (p := ⟨gb810, 3, none⟩) (rF (p := ⟨gb810, 2, none⟩) (rF (p := ⟨gb810, 1, none⟩) (rF (p := ⟨gb810, 0, none⟩) (rT HO793.out BK810.out (by decide)) (fun _ hk => hk.2) (.int .i64 t800)) (fun _ hk => hk.2) (.string t801)) (fun _ hk => hk.2) (.slice Ao63 t802.length co63)) (fun _ hk => hk.2) (.string t805)) (fun _ hk => hk.2) (.slice Ao64 t806.length co64)) (fun _ hk => ⟨hk.1.1.1, ⟨hk.1.1.2, hk.1.2⟩⟩)⟩, ⟨by (with_reducible repeat (first | apply ra | apply rn | apply rd_)); exact rM (rF (p := ⟨gb810, 4, none⟩) (rF (p := ⟨gb810, 3, none⟩) (rF (p := ⟨gb810, 2, none⟩) (rF (p := ⟨gb810, 1, none⟩) (rF (p := ⟨gb810, 0, none⟩) (rT HO797.out BK810.out (by decide)) (fun _ hk => hk.2) (.int .i64 t800)) (fun _ hk => hk.2) (.string t801)) (fun _ hk => hk.2) (.slice Ao63 t802.length co63)) (fun _ hk => hk.2) (.string t805)) (fun _ hk => hk.2) (.slice Ao64 t806.length co64)) (fun _ hk => ⟨hk.1.1.1, ⟨hk.1.1.2, hk.1.2⟩⟩)⟩, ⟨by (with_reducible repeat (first | apply ra | apply rn | apply rd_)); exact rM (rF (p := ⟨gb810, 4, none⟩) (rF (p := ⟨gb810, 3, none⟩) (rF (p := ⟨gb810, 2, none⟩) (rF (p := ⟨gb810, 1, none⟩) (rF (p := ⟨gb810, 0, none⟩) (rT HO804.out BK810.out (by decide)) (fun _ hk => hk.2) (.int .i64 t800)) (fun _ hk => hk.2) (.string t801)) (fun _ hk => hk.2) (.slice Ao63 t802.length co63)) (fun _ hk => hk.2) (.string t805)) (fun _ hk => hk.2) (.slice Ao64 t806.length co64)) (fun _ hk => ⟨hk.1.1.2, ⟨hk.1.2, hk.1.1.1⟩⟩)⟩, ⟨by (with_reducible repeat (first | apply ra | apply rn | apply rd_)); exact rM (rF (p := ⟨gb810, 4, none⟩) (rF (p := ⟨gb810, 3, none⟩) (rF (p := ⟨gb810, 2, none⟩) (rF (p := ⟨gb810, 1, none⟩) (rF (p := ⟨gb810, 0, none⟩) (rT HO808.out BK810.out (by decide)) (fun _ hk => hk.2) (.int .i64 t800)) (fun _ hk => hk.2) (.string t801)) (fun _ hk => hk.2) (.slice Ao63 t802.length co63)) (fun _ hk => hk.2) (.string t805)) (fun _ hk => hk.2) (.slice Ao64 t806.length co64)) (fun _ hk => ⟨hk.1.1.2, ⟨hk.1.2, hk.1.1.1⟩⟩)⟩, ⟨by (with_reducible repeat (first | refine bn ?_ _ | refine bd ?_ | refine ba ?_ _)); refine bR ?_ NB775_810.out _; (with_reducible repeat (first | refine bn ?_ _ | refine bd ?_ | refine ba ?_ _)); refine bR ?_ NB775_810.out _; (with_reducible repeat (first | refine bn ?_ _ | refine bd ?_ | refine ba ?_ _)); refine bR ?_ NB775_810.out _; (with_reducible repeat (first | refine bn ?_ _ | refine bd ?_ | refine ba ?_ _)); refine bR ?_ NB775_810.out _; (with_reducible repeat (first | refine bn ?_ _ | refine bd ?_ | refine ba ?_ _)); refine bR ?_ NB775_810.out _; (with_reducible repeat (first | refine bn ?_ _ | refine bd ?_ | refine ba ?_ _)); exact BK775.out⟩, ⟨by (with_reducible repeat (first | refine bn ?_ _ | refine bd ?_ | refine ba ?_ _)); refine bR ?_ NB787_810.out _; (with_reducible repeat (first | refine bn ?_ _ | refine bd ?_ | refine ba ?_ _)); refine bR ?_ NB787_810.out _; (with_reducible repeat (first | refine bn ?_ _ | refine bd ?_ | refine ba ?_ _)); refine bR ?_ NB787_810.out _; (with_reducible repeat (first | refine bn ?_ _ | refine bd ?_ | refine ba ?_ _)); refine bR ?_ NB787_810.out _; (with_reducible repeat (first | refine bn ?_ _ | refine bd ?_ | refine ba ?_ _)); refine bR ?_ NB787_810.out _; (with_reducible repeat (first | refine bn ?_ _ | refine bd ?_ | refine ba ?_ _)); exact BK787.out⟩, ⟨by (with_reducible repeat (first | refine bn ?_ _ | refine bd ?_ | refine ba ?_ _)); refine bR ?_ NB788_810.out _; (with_reducible repeat (first | refine bn ?_ _ | refine bd ?_ | refine ba ?_ _)); refine bR ?_ NB788_810.out _; (with_reducible repeat (first | refine bn ?_ _ | refine bd ?_ | refine ba ?_ _)); refine bR ?_ NB788_810.out _; (with_reducible repeat (first | refine bn ?_ _ | refine bd ?_ | refine ba ?_ _)); refine bR ?_ NB788_810.out _; (with_reducible repeat (first | refine bn ?_ _ | refine bd ?_ | refine ba ?_ _)); refine bR ?_ NB788_810.out _; (with_reducible repeat (first | refine bn ?_ _ | refine bd ?_ | refine ba ?_ _)); exact BK788.out⟩, ⟨by (with_reducible repeat (first | refine bn ?_ _ | refine bd ?_ | refine ba ?_ _)); refine bR ?_ NB799_810.out _; (with_reducible repeat (first | refine bn ?_ _ | refine bd ?_ | refine ba ?_ _)); refine bR ?_ NB799_810.out _; (with_reducible repeat (first | refine bn ?_ _ | refine bd ?_ | refine ba ?_ _)); refine bR ?_ NB799_810.out _; (with_reducible repeat (first | refine bn ?_ _ | refine bd ?_ | refine ba ?_ _)); refine bR ?_ NB799_810.out _; (with_reducible repeat (first | refine bn ?_ _ | refine bd ?_ | refine ba ?_ _)); refine bR ?_ NB799_810.out _; (with_reducible repeat (first | refine bn ?_ _ | refine bd ?_ | refine ba ?_ _)); exact BK799.out⟩, ⟨by (with_reducible repeat (first | refine bn ?_ _ | refine bd ?_ | refine ba ?_ _)); refine bU (cs := #[.int .i64 t800, .string t801, .slice Ao63 t802.length co63, .string t805, .slice none 0 0]) ?_ 4 _ rfl; (with_reducible repeat (first | refine bn ?_ _ | refine bd ?_ | refine ba ?_ _)); refine bU (cs := #[.int .i64 t800, .string t801, .slice Ao63 t802.length co63, .string (⟨#[]⟩ : ByteArray), .slice none 0 0]) ?_ 3 _ rfl; (with_reducible repeat (first | refine bn ?_ _ | refine bd ?_ | refine ba ?_ _)); refine bU (cs := #[.int .i64 t800, .string t801, .slice none 0 0, .string (⟨#[]⟩ : ByteArray), .slice none 0 0]) ?_ 2 _ rfl; (with_reducible repeat (first | refine bn ?_ _ | refine bd ?_ | refine ba ?_ _)); refine bU (cs := #[.int .i64 t800, .string (⟨#[]⟩ : ByteArray), .slice none 0 0, .string (⟨#[]⟩ : ByteArray), .slice none 0 0]) ?_ 1 _ rfl; (with_reducible repeat (first | refine bn ?_ _ | refine bd ?_ | refine ba ?_ _)); refine bU (cs := #[.int .i64 0, .string (⟨#[]⟩ : ByteArray), .slice none 0 0, .string (⟨#[]⟩ : ByteArray), .slice none 0 0]) ?_ 0 _ rfl; (with_reducible repeat (first | refine bn ?_ _ | refine bd ?_ | refine ba ?_ _)); exact BK810.out⟩, ⟨by repeat (first | (with_reducible first | exact HB.out | apply ea | apply en | apply ed | refine bs ?_ GE775.out | refine bs ?_ GE787.out | refine bs ?_ GE788.out | refine bs ?_ GE799.out | refine bs ?_ GE810.out) | exact HB.out)⟩⟩
  case rest =>
    clear HC28
    try clear p2
    try clear c4
    try clear c5
    try clear c6
    try clear c41
    try clear c42
    try clear c46
    try clear c47
    try clear c48
    try clear c52
    try clear c56
    try clear c58
    try clear c59
    try clear c60
    try clear c61
    try clear c65
    try clear c65b0
    try clear c65b1
    try clear hcz43_0
    try clear hcz43_1
    try clear hcz43_2
    try clear hcz43_3
    try clear hcz43_4
    try clear hcz43_5
    try clear hcz43_6
    try clear hcz43_7
    try clear hcz49_0
    try clear hcz49_1
    try clear hcz49_2
    try clear hcz49_3
    try clear hcz49_4
    try clear hcz53_0
    try clear hcz53_1
    try clear hcz54_0
    try clear hcz54_1
    try clear hcz54_2
    try clear hcz54_3
    try clear hcz54_4
    try clear hcz54_5
    try clear hcz54_6
    try clear hcz54_7
    try clear hcz55_0
    try clear hcz55_1
    try clear hcz62_0
    try clear hcz62_1
    try clear hcz62_2
    try clear hcz62_3
    try clear hcz62_4
    try clear hfz43_0
    try clear hfz43_1
    try clear hfz43_2
    try clear hfz43_3
    try clear hfz43_4
    try clear hfz43_5
    try clear hfz43_6
    try clear hfz43_7
    try clear hfz49_0
    try clear hfz49_1
    try clear hfz49_2
    try clear hfz49_3
    try clear hfz49_4
    try clear hfz53_0
    try clear hfz53_1
    try clear hfz54_0
    try clear hfz54_1
    try clear hfz54_2
    try clear hfz54_3
    try clear hfz54_4
    try clear hfz54_5
    try clear hfz54_6
    try clear hfz54_7
    try clear hfz55_0
    try clear hfz55_1
    try clear hfz62_0
    try clear hfz62_1
    try clear hfz62_2
    try clear hfz62_3
    try clear hfz62_4
    obtain ⟨kq, x72_27, rfl, HA, HJ27, HO_788001, HO_789001, HO_800002, HO_800004, HO_811002, HO_811004, BK775, BK787, BK788, BK799, BK810, HB⟩ := hcut
    cases kq with
    | zero => exact absurd HA.out (by simp [bureaulaw07_EditHides.j1])
    | succ kj27 =>
      have H := HA.out
      clear HA
      simp only [bureaulaw07_EditHides.j1] at H
      by_cases c66 : x72_27 = true
      · subst c66
        have H1 : (some (t798 == t809)) = some r := by rw [if_pos rfl] at H; exact H
        clear H
        have H := H1
        clear H1
        obtain rfl := Option.some.inj H
        go_wp2
        go_ret
        exact ⟨by first | rfl | (simp [errW_none, errW_some] <;> rfl) | (simp [*, errW_none, errW_some] <;> rfl), by repeat (first | (with_reducible first | exact HB.out | apply ea | apply en | apply ed | refine bs ?_ GE775.out | refine bs ?_ GE787.out | refine bs ?_ GE788.out | refine bs ?_ GE799.out | refine bs ?_ GE810.out) | exact HB.out)⟩
      · replace c66 := Bool.eq_false_iff.mpr c66
        subst c66
        have H1 : ((edit_Apply.f kj27 a0_0 l0_1 t789 t790 t791 t794 t795).bind fun bt811 => ((edit_Apply.f kj27 t779 t780 t800 t801 t802 t805 t806).bind fun bt817 => (if bt811.2.2 = 0 then (if bt817.2.2 = 0 then ((bureauref04_Low.f kj27 bt811.1 bt811.2.1 bt817.1 bt817.2.1 a1).bind fun t823 => (if t823 = true then ((bureauref04_Low.f kj27 t790 t791 t801 t802 a1).bind fun t824 => (some t824)) else (some false))) else (some false)) else (some false)))) = some r := by rw [if_neg (show ¬ (false = true) by decide)] at H; exact H
        clear H
        have H := H1
        clear H1
        replace H := Option.bind_eq_some_iff.mp H
        obtain ⟨⟨t811, t812, t815⟩, A670, H⟩ := H
        replace H : ((edit_Apply.f kj27 t779 t780 t800 t801 t802 t805 t806).bind fun bt817 => (if t815 = 0 then (if bt817.2.2 = 0 then ((bureauref04_Low.f kj27 t811 t812 bt817.1 bt817.2.1 a1).bind fun t823 => (if t823 = true then ((bureauref04_Low.f kj27 t790 t791 t801 t802 a1).bind fun t824 => (some t824)) else (some false))) else (some false)) else (some false))) = some r := H
        have A67 := aM A670
        clear A670
        replace H := Option.bind_eq_some_iff.mp H
        obtain ⟨⟨t817, t818, t821⟩, A680, H⟩ := H
        replace H : (if t815 = 0 then (if t821 = 0 then ((bureauref04_Low.f kj27 t811 t812 t817 t818 a1).bind fun t823 => (if t823 = true then ((bureauref04_Low.f kj27 t790 t791 t801 t802 a1).bind fun t824 => (some t824)) else (some false))) else (some false)) else (some false)) = some r := H
        have A68 := aM A680
        clear A680
        have hnb74 := NB775_787.out
        have hnc74 := NB787_775.out
        have hnb75 := NB775_788.out
        have hnc75 := NB788_775.out
        have hnb76 := NB775_799.out
        have hnc76 := NB799_775.out
        have hnb77 := NB775_810.out
        have hnc77 := NB810_775.out
        have hcz78_0 : wc.cell? ⟨gb775, 0, none⟩ = some (.string a0_0) := (bC BK775.out 0).trans rfl
        have hcz78_1 : wc.cell? ⟨gb775, 1, none⟩ = some (.slice A0_1 l0_1.length c0_1) := (bC BK775.out 1).trans rfl
        have hcz78_2 : wc.cell? ⟨gb775, 2, none⟩ = some (.string a0_2) := (bC BK775.out 2).trans rfl
        have hcz78_3 : wc.cell? ⟨gb775, 3, none⟩ = some (.slice A0_3 l0_3.length c0_3) := (bC BK775.out 3).trans rfl
        have hcz78_4 : wc.cell? ⟨gb775, 4, none⟩ = some (.string a0_4) := (bC BK775.out 4).trans rfl
        have hcz78_5 : wc.cell? ⟨gb775, 5, none⟩ = some (.int .i64 a0_5) := (bC BK775.out 5).trans rfl
        have hcz78_6 : wc.cell? ⟨gb775, 6, none⟩ = some (.int .i64 a0_6) := (bC BK775.out 6).trans rfl
        have hcz78_7 : wc.cell? ⟨gb775, 7, none⟩ = some (.int .u64 a0_7) := (bC BK775.out 7).trans rfl
        have hfz78_0 := bF BK775.out 0
        have hfz78_1 := bF BK775.out 1
        have hfz78_2 := bF BK775.out 2
        have hfz78_3 := bF BK775.out 3
        have hfz78_4 := bF BK775.out 4
        have hfz78_5 := bF BK775.out 5
        have hfz78_6 := bF BK775.out 6
        have hfz78_7 := bF BK775.out 7
        have hnb79 := NB799_787.out
        have hnc79 := NB787_799.out
        have hnb80 := NB799_788.out
        have hnc80 := NB788_799.out
        have hnb81 := NB799_810.out
        have hnc81 := NB810_799.out
        have hcz82_0 : wc.cell? ⟨gb799, 0, none⟩ = some (.int .i64 t789) := (bC BK799.out 0).trans rfl
        have hcz82_1 : wc.cell? ⟨gb799, 1, none⟩ = some (.string t790) := (bC BK799.out 1).trans rfl
        have hcz82_2 : wc.cell? ⟨gb799, 2, none⟩ = some (.slice Ao50 t791.length co50) := (bC BK799.out 2).trans rfl
        have hcz82_3 : wc.cell? ⟨gb799, 3, none⟩ = some (.string t794) := (bC BK799.out 3).trans rfl
        have hcz82_4 : wc.cell? ⟨gb799, 4, none⟩ = some (.slice Ao51 t795.length co51) := (bC BK799.out 4).trans rfl
        have hfz82_0 := bF BK799.out 0
        have hfz82_1 := bF BK799.out 1
        have hfz82_2 := bF BK799.out 2
        have hfz82_3 := bF BK799.out 3
        have hfz82_4 := bF BK799.out 4
        go_upto_region 12 with (first | ((with_reducible refine gate_callee (f := 65) rfl ?_); refine goesL_ (some 80) rfl rfl Try.func65 (by kernel_rfl) rfl #[.agg #[.string a0_0, .slice A0_1 l0_1.length c0_1], .agg #[.int .i64 t789, .string t790, .slice Ao50 t791.length co50, .string t794, .slice Ao51 t795.length co51]] rfl (by (try simp only [List.map_toArray, List.map_cons, List.map_nil]); first | done | rfl | (simp only [List.length_drop, List.length_take]; rfl)) ?_; (with_reducible refine (edit_Apply.calls kj27 a0_0 _ _ l0_1 t789 t790 _ _ t791 t794 _ _ t795 t811 t812 t815 _ ?side1 ?side2 ?side3 ?side4 ?side5 ?side6 A67.out).mono ?_); (case side1 => repeat (first | exact (cB_ HR0_1.out HB.out) | (with_reducible refine Kd.C_alloc ?_ _) | (with_reducible refine Kd.C_drewN ?_ _) | (with_reducible refine Kd.C_drew ?_))); (case side2 => exact HC0_1.out); (case side3 => repeat (first | exact (rR HO_800002.out).2.2 | (with_reducible refine Kd.C_alloc ?_ _) | (with_reducible refine Kd.C_drewN ?_ _) | (with_reducible refine Kd.C_drew ?_))); (case side4 => exact (rR HO_800002.out).2.1); (case side5 => repeat (first | exact (rR HO_800004.out).2.2 | (with_reducible refine Kd.C_alloc ?_ _) | (with_reducible refine Kd.C_drewN ?_ _) | (with_reducible refine Kd.C_drew ?_))); (case side6 => exact (rR HO_800004.out).2.1); rintro e w83 ⟨v813, rfl, ho0, hb⟩; refine ⟨_, rfl, ?_⟩; have n0_ := aM (Kd.V_elder' (by (with_reducible repeat (first | apply va | apply vn | apply vd)); exact HO_788001.out) (Kd.R_base ho0) hb); have n1_ := aM (Kd.V_elder' (by (with_reducible repeat (first | apply va | apply vn | apply vd)); exact HO_789001.out) (Kd.R_base ho0) hb); have n2_ := aM (rE (by (with_reducible repeat (first | apply ra | apply rn | apply rd_)); exact HO_800002.out) (Kd.R_base ho0) hb); have n3_ := aM (rE (by (with_reducible repeat (first | apply ra | apply rn | apply rd_)); exact HO_800004.out) (Kd.R_base ho0) hb); have n4_ := aM (rE (by (with_reducible repeat (first | apply ra | apply rn | apply rd_)); exact HO_811002.out) (Kd.R_base ho0) hb); have n5_ := aM (rE (by (with_reducible repeat (first | apply ra | apply rn | apply rd_)); exact HO_811004.out) (Kd.R_base ho0) hb); have n6_ := aM (rL (Kd.R_new' (Kd.R_new' (Kd.R_new' (Kd.R_new' ho0 (Kd.R_lt (by (with_reducible repeat (first | apply ra | apply rn | apply rd_)); exact HO_800002.out))) (Kd.R_lt (by (with_reducible repeat (first | apply ra | apply rn | apply rd_)); exact HO_800004.out))) (Kd.R_lt (by (with_reducible repeat (first | apply ra | apply rn | apply rd_)); exact HO_811002.out))) (Kd.R_lt (by (with_reducible repeat (first | apply ra | apply rn | apply rd_)); exact HO_811004.out))) (bZ (by repeat (first | (with_reducible first | exact HB.out | apply ea | apply en | apply ed | refine bs ?_ GE775.out | refine bs ?_ GE787.out | refine bs ?_ GE788.out | refine bs ?_ GE799.out | refine bs ?_ GE810.out) | exact HB.out)))); have n7_ := aM (bB (g := gb775) (o := .cells #[.string a0_0, .slice A0_1 l0_1.length c0_1, .string a0_2, .slice A0_3 l0_3.length c0_3, .string a0_4, .int .i64 a0_5, .int .i64 a0_6, .int .u64 a0_7] 77 (0, 0)) (by (with_reducible repeat (first | refine bn ?_ _ | refine bd ?_ | refine ba ?_ _)); exact BK775.out) hb); have n8_ := aM (bB (g := gb787) (o := .cells #[.string t779, .slice Ao36 t780.length co36] 51 (0, 0)) (by (with_reducible repeat (first | refine bn ?_ _ | refine bd ?_ | refine ba ?_ _)); exact BK787.out) hb); have n9_ := aM (bB (g := gb788) (o := .cells #[.string t783, .slice Ao39 t784.length co39] 51 (0, 0)) (by (with_reducible repeat (first | refine bn ?_ _ | refine bd ?_ | refine ba ?_ _)); exact BK788.out) hb); have n10_ := aM (bB (g := gb799) (o := .cells #[.int .i64 t789, .string t790, .slice Ao50 t791.length co50, .string t794, .slice Ao51 t795.length co51] 64 (0, 0)) (by (with_reducible repeat (first | refine bn ?_ _ | refine bd ?_ | refine ba ?_ _)); exact BK799.out) hb); have n11_ := aM (bB (g := gb810) (o := .cells #[.int .i64 t800, .string t801, .slice Ao63 t802.length co63, .string t805, .slice Ao64 t806.length co64] 64 (0, 0)) (by (with_reducible repeat (first | refine bn ?_ _ | refine bd ?_ | refine ba ?_ _)); exact BK810.out) hb); have n12_ := aM (bP (by repeat (first | (with_reducible first | exact HB.out | apply ea | apply en | apply ed | refine bs ?_ GE775.out | refine bs ?_ GE787.out | refine bs ?_ GE788.out | refine bs ?_ GE799.out | refine bs ?_ GE810.out) | exact HB.out)) hb); clear HO_788001; clear HO_789001; clear HO_800002; clear HO_800004; clear HO_811002; clear HO_811004; clear BK775; clear BK787; clear BK788; clear BK799; clear BK810; clear HB; have HO_788001 := n0_; have HO_789001 := n1_; have HO_800002 := n2_; have HO_800004 := n3_; have HO_811002 := n4_; have HO_811004 := n5_; have HO814 := n6_; have BK775 := n7_; have BK787 := n8_; have BK788 := n9_; have BK799 := n10_; have BK810 := n11_; have HB := n12_; clear n0_ n1_ n2_ n3_ n4_ n5_ n6_ n7_ n8_ n9_ n10_ n11_ n12_; (try clear hb); (try clear hb2); (try clear hk); (try clear hi); (try clear ho0)) | ((with_reducible refine gate_dst (N := 11) rfl ?_); (try (refine gate_guard (by rfl) ?_; dsimp only)); refine box_event ?hg (N := 11) ?hd (cs := #[.string (⟨#[]⟩ : ByteArray), .slice none 0 0]) (t := 51) ?hr ?_; (case hd => rfl); (case hg => rfl); (case hr => first | (go_simp; done) | (go_simp; rfl)); intro gb816 hg w84 hbox hb; have n0_ := aM (Kd.V_below (Kd.V_elderB (by (with_reducible repeat (first | apply va | apply vn | apply vd)); exact HO_788001.out) gb816 (Nat.le_of_eq hg.symm)) hb); have n1_ := aM (Kd.V_below (Kd.V_elderB (by (with_reducible repeat (first | apply va | apply vn | apply vd)); exact HO_789001.out) gb816 (Nat.le_of_eq hg.symm)) hb); have n2_ := aM (Kd.R_below (by (with_reducible repeat (first | apply ra | apply rn | apply rd_)); exact HO_800002.out) hb); have n3_ := aM (Kd.R_below (by (with_reducible repeat (first | apply ra | apply rn | apply rd_)); exact HO_800004.out) hb); have n4_ := aM (Kd.R_below (by (with_reducible repeat (first | apply ra | apply rn | apply rd_)); exact HO_811002.out) hb); have n5_ := aM (Kd.R_below (by (with_reducible repeat (first | apply ra | apply rn | apply rd_)); exact HO_811004.out) hb); have n6_ := aM (Kd.R_below (by (with_reducible repeat (first | apply ra | apply rn | apply rd_)); exact HO814.out) hb); have n7_ := aM (bB (g := gb775) (o := .cells #[.string a0_0, .slice A0_1 l0_1.length c0_1, .string a0_2, .slice A0_3 l0_3.length c0_3, .string a0_4, .int .i64 a0_5, .int .i64 a0_6, .int .u64 a0_7] 77 (0, 0)) (by (with_reducible repeat (first | refine bn ?_ _ | refine bd ?_ | refine ba ?_ _)); exact BK775.out) hb); have n8_ := aM (bB (g := gb787) (o := .cells #[.string t779, .slice Ao36 t780.length co36] 51 (0, 0)) (by (with_reducible repeat (first | refine bn ?_ _ | refine bd ?_ | refine ba ?_ _)); exact BK787.out) hb); have n9_ := aM (bB (g := gb788) (o := .cells #[.string t783, .slice Ao39 t784.length co39] 51 (0, 0)) (by (with_reducible repeat (first | refine bn ?_ _ | refine bd ?_ | refine ba ?_ _)); exact BK788.out) hb); have n10_ := aM (bB (g := gb799) (o := .cells #[.int .i64 t789, .string t790, .slice Ao50 t791.length co50, .string t794, .slice Ao51 t795.length co51] 64 (0, 0)) (by (with_reducible repeat (first | refine bn ?_ _ | refine bd ?_ | refine ba ?_ _)); exact BK799.out) hb); have n11_ := aM (bB (g := gb810) (o := .cells #[.int .i64 t800, .string t801, .slice Ao63 t802.length co63, .string t805, .slice Ao64 t806.length co64] 64 (0, 0)) (by (with_reducible repeat (first | refine bn ?_ _ | refine bd ?_ | refine ba ?_ _)); exact BK810.out) hb); have n12_ := aM (bP (by repeat (first | (with_reducible first | exact HB.out | apply ea | apply en | apply ed | refine bs ?_ GE775.out | refine bs ?_ GE787.out | refine bs ?_ GE788.out | refine bs ?_ GE799.out | refine bs ?_ GE810.out) | exact HB.out)) hb); have n13_ := aM (hbox); have n14_ := aM ((by rw [hg]; exact (bZ (by repeat (first | (with_reducible first | exact HB.out | apply ea | apply en | apply ed | refine bs ?_ GE775.out | refine bs ?_ GE787.out | refine bs ?_ GE788.out | refine bs ?_ GE799.out | refine bs ?_ GE810.out) | exact HB.out))) : w.heap.size ≤ gb816)); have n15_ := aM ((by rw [hg]; exact (bZ (by repeat (first | (with_reducible first | exact HB.out | apply ea | apply en | apply ed | refine bs ?_ GE775.out | refine bs ?_ GE787.out | refine bs ?_ GE788.out | refine bs ?_ GE799.out | refine bs ?_ GE810.out) | exact HB.out))) : w.heap.size ≤ gb816)); have n16_ := aM ((by rw [hg]; exact Nat.ne_of_lt (blk_lt (g := gb775) (o := .cells #[.string a0_0, .slice A0_1 l0_1.length c0_1, .string a0_2, .slice A0_3 l0_3.length c0_3, .string a0_4, .int .i64 a0_5, .int .i64 a0_6, .int .u64 a0_7] 77 (0, 0)) (by (with_reducible repeat (first | refine bn ?_ _ | refine bd ?_ | refine ba ?_ _)); exact BK775.out)) : gb775 ≠ gb816)); have n17_ := aM ((by rw [hg]; exact Nat.ne_of_gt (blk_lt (g := gb775) (o := .cells #[.string a0_0, .slice A0_1 l0_1.length c0_1, .string a0_2, .slice A0_3 l0_3.length c0_3, .string a0_4, .int .i64 a0_5, .int .i64 a0_6, .int .u64 a0_7] 77 (0, 0)) (by (with_reducible repeat (first | refine bn ?_ _ | refine bd ?_ | refine ba ?_ _)); exact BK775.out)) : gb816 ≠ gb775)); have n18_ := aM ((by rw [hg]; exact Nat.ne_of_lt (blk_lt (g := gb787) (o := .cells #[.string t779, .slice Ao36 t780.length co36] 51 (0, 0)) (by (with_reducible repeat (first | refine bn ?_ _ | refine bd ?_ | refine ba ?_ _)); exact BK787.out)) : gb787 ≠ gb816)); have n19_ := aM ((by rw [hg]; exact Nat.ne_of_gt (blk_lt (g := gb787) (o := .cells #[.string t779, .slice Ao36 t780.length co36] 51 (0, 0)) (by (with_reducible repeat (first | refine bn ?_ _ | refine bd ?_ | refine ba ?_ _)); exact BK787.out)) : gb816 ≠ gb787)); have n20_ := aM ((by rw [hg]; exact Nat.ne_of_lt (blk_lt (g := gb788) (o := .cells #[.string t783, .slice Ao39 t784.length co39] 51 (0, 0)) (by (with_reducible repeat (first | refine bn ?_ _ | refine bd ?_ | refine ba ?_ _)); exact BK788.out)) : gb788 ≠ gb816)); have n21_ := aM ((by rw [hg]; exact Nat.ne_of_gt (blk_lt (g := gb788) (o := .cells #[.string t783, .slice Ao39 t784.length co39] 51 (0, 0)) (by (with_reducible repeat (first | refine bn ?_ _ | refine bd ?_ | refine ba ?_ _)); exact BK788.out)) : gb816 ≠ gb788)); have n22_ := aM ((by rw [hg]; exact Nat.ne_of_lt (blk_lt (g := gb799) (o := .cells #[.int .i64 t789, .string t790, .slice Ao50 t791.length co50, .string t794, .slice Ao51 t795.length co51] 64 (0, 0)) (by (with_reducible repeat (first | refine bn ?_ _ | refine bd ?_ | refine ba ?_ _)); exact BK799.out)) : gb799 ≠ gb816)); have n23_ := aM ((by rw [hg]; exact Nat.ne_of_gt (blk_lt (g := gb799) (o := .cells #[.int .i64 t789, .string t790, .slice Ao50 t791.length co50, .string t794, .slice Ao51 t795.length co51] 64 (0, 0)) (by (with_reducible repeat (first | refine bn ?_ _ | refine bd ?_ | refine ba ?_ _)); exact BK799.out)) : gb816 ≠ gb799)); have n24_ := aM ((by rw [hg]; exact Nat.ne_of_lt (blk_lt (g := gb810) (o := .cells #[.int .i64 t800, .string t801, .slice Ao63 t802.length co63, .string t805, .slice Ao64 t806.length co64] 64 (0, 0)) (by (with_reducible repeat (first | refine bn ?_ _ | refine bd ?_ | refine ba ?_ _)); exact BK810.out)) : gb810 ≠ gb816)); have n25_ := aM ((by rw [hg]; exact Nat.ne_of_gt (blk_lt (g := gb810) (o := .cells #[.int .i64 t800, .string t801, .slice Ao63 t802.length co63, .string t805, .slice Ao64 t806.length co64] 64 (0, 0)) (by (with_reducible repeat (first | refine bn ?_ _ | refine bd ?_ | refine ba ?_ _)); exact BK810.out)) : gb816 ≠ gb810)); clear HO_788001; clear HO_789001; clear HO_800002; clear HO_800004; clear HO_811002; clear HO_811004; clear HO814; clear BK775; clear BK787; clear BK788; clear BK799; clear BK810; clear HB; have HO_788001 := n0_; have HO_789001 := n1_; have HO_800002 := n2_; have HO_800004 := n3_; have HO_811002 := n4_; have HO_811004 := n5_; have HO814 := n6_; have BK775 := n7_; have BK787 := n8_; have BK788 := n9_; have BK799 := n10_; have BK810 := n11_; have HB := n12_; have BK816 := n13_; have GW816 := n14_; have GE816 := n15_; have NB775_816 := n16_; have NB816_775 := n17_; have NB787_816 := n18_; have NB816_787 := n19_; have NB788_816 := n20_; have NB816_788 := n21_; have NB799_816 := n22_; have NB816_799 := n23_; have NB810_816 := n24_; have NB816_810 := n25_; clear n0_ n1_ n2_ n3_ n4_ n5_ n6_ n7_ n8_ n9_ n10_ n11_ n12_ n13_ n14_ n15_ n16_ n17_ n18_ n19_ n20_ n21_ n22_ n23_ n24_ n25_; clear hb hbox hg; have hnb85 := NB816_775.out; have hnc85 := NB775_816.out; have hnb86 := NB816_787.out; have hnc86 := NB787_816.out; have hnb87 := NB816_788.out; have hnc87 := NB788_816.out; have hnb88 := NB816_799.out; have hnc88 := NB799_816.out; have hnb89 := NB816_810.out; have hnc89 := NB810_816.out; have hcz90_0 : w84.cell? ⟨gb816, 0, none⟩ = some (.string (⟨#[]⟩ : ByteArray)) := (bC BK816.out 0).trans rfl; have hcz90_1 : w84.cell? ⟨gb816, 1, none⟩ = some (.slice none 0 0) := (bC BK816.out 1).trans rfl; have hfz90_0 := bF BK816.out 0; have hfz90_1 := bF BK816.out 1; obtain ⟨Ao91, co91, eo91⟩ := Kd.R_slice HO814.out; subst eo91; have hnb92 := NB787_788.out; have hnc92 := NB788_787.out; have hnb93 := NB787_810.out; have hnc93 := NB810_787.out; have hcz94_0 : w84.cell? ⟨gb787, 0, none⟩ = some (.string t779) := (bC BK787.out 0).trans rfl; have hcz94_1 : w84.cell? ⟨gb787, 1, none⟩ = some (.slice Ao36 t780.length co36) := (bC BK787.out 1).trans rfl; have hfz94_0 := bF BK787.out 0; have hfz94_1 := bF BK787.out 1; have hnb95 := NB810_788.out; have hnc95 := NB788_810.out; have hcz96_0 : w84.cell? ⟨gb810, 0, none⟩ = some (.int .i64 t800) := (bC BK810.out 0).trans rfl; have hcz96_1 : w84.cell? ⟨gb810, 1, none⟩ = some (.string t801) := (bC BK810.out 1).trans rfl; have hcz96_2 : w84.cell? ⟨gb810, 2, none⟩ = some (.slice Ao63 t802.length co63) := (bC BK810.out 2).trans rfl; have hcz96_3 : w84.cell? ⟨gb810, 3, none⟩ = some (.string t805) := (bC BK810.out 3).trans rfl; have hcz96_4 : w84.cell? ⟨gb810, 4, none⟩ = some (.slice Ao64 t806.length co64) := (bC BK810.out 4).trans rfl; have hfz96_0 := bF BK810.out 0; have hfz96_1 := bF BK810.out 1; have hfz96_2 := bF BK810.out 2; have hfz96_3 := bF BK810.out 3; have hfz96_4 := bF BK810.out 4) | ((with_reducible refine gate_callee (f := 65) rfl ?_); refine goesL_ (some 86) rfl rfl Try.func65 (by kernel_rfl) rfl #[.agg #[.string t779, .slice Ao36 t780.length co36], .agg #[.int .i64 t800, .string t801, .slice Ao63 t802.length co63, .string t805, .slice Ao64 t806.length co64]] rfl (by (try simp only [List.map_toArray, List.map_cons, List.map_nil]); first | done | rfl | (simp only [List.length_drop, List.length_take]; rfl)) ?_; (with_reducible refine (edit_Apply.calls kj27 t779 _ _ t780 t800 t801 _ _ t802 t805 _ _ t806 t817 t818 t821 _ ?side1 ?side2 ?side3 ?side4 ?side5 ?side6 A68.out).mono ?_); (case side1 => refine (Kd.V_reads' (e := 100) (base := w.heap.size) (ok := fun k_ => (((some k_ ≠ (.slice Ao50 t791.length co50 : Value).ownBlock ∧ (some k_ ≠ (.slice Ao51 t795.length co51 : Value).ownBlock ∧ (some k_ ≠ (.slice Ao63 t802.length co63 : Value).ownBlock ∧ (some k_ ≠ (.slice Ao64 t806.length co64 : Value).ownBlock ∧ (k_ ≠ gb775 ∧ (k_ ≠ gb787 ∧ (k_ ≠ gb788 ∧ (k_ ≠ gb799 ∧ k_ ≠ gb810)))))))) ∧ some k_ ≠ (.slice Ao91 t812.length co91 : Value).ownBlock) ∧ k_ ≠ gb816)) (n := t780.length) (c := co36) ?_).2.2; exact (by (with_reducible repeat (first | apply va | apply vn | apply vd)); exact (Kd.V_mono (Kd.V_far (p := ⟨gb816, 1, none⟩) (Kd.V_far (p := ⟨gb816, 0, none⟩) (Kd.V_mono HO_788001.out (fun k_ hk => (⟨hk, hk.2⟩ : _ ∧ k_ ≠ gb816))) (fun _ hk => hk.2) (.string t811)) (fun _ hk => hk.2) (.slice Ao91 t812.length co91)) (fun _ h_ => h_.1)))); (case side2 => exact (Kd.V_reads' HO_788001.out).2.1); (case side3 => refine (rR (e := 100) (base := w.heap.size) (ok := fun k_ => ((some k_ ≠ (.slice Ao50 t791.length co50 : Value).ownBlock ∧ (some k_ ≠ (.slice Ao51 t795.length co51 : Value).ownBlock ∧ some k_ ≠ (.slice Ao64 t806.length co64 : Value).ownBlock)) ∧ some k_ ≠ (.slice Ao91 t812.length co91 : Value).ownBlock)) (n := t802.length) (c := co63) ?_).2.2; exact (by (with_reducible repeat (first | apply ra | apply rn | apply rd_)); exact (rM (rF (p := ⟨gb816, 1, none⟩) (rF (p := ⟨gb816, 0, none⟩) (rT HO_811002.out BK816.out (by decide)) (fun _ hk => hk.2) (.string t811)) (fun _ hk => hk.2) (.slice Ao91 t812.length co91)) (fun _ h_ => h_.1)))); (case side4 => exact (rR HO_811002.out).2.1); (case side5 => refine (rR (e := 100) (base := w.heap.size) (ok := fun k_ => ((some k_ ≠ (.slice Ao50 t791.length co50 : Value).ownBlock ∧ (some k_ ≠ (.slice Ao51 t795.length co51 : Value).ownBlock ∧ some k_ ≠ (.slice Ao63 t802.length co63 : Value).ownBlock)) ∧ some k_ ≠ (.slice Ao91 t812.length co91 : Value).ownBlock)) (n := t806.length) (c := co64) ?_).2.2; exact (by (with_reducible repeat (first | apply ra | apply rn | apply rd_)); exact (rM (rF (p := ⟨gb816, 1, none⟩) (rF (p := ⟨gb816, 0, none⟩) (rT HO_811004.out BK816.out (by decide)) (fun _ hk => hk.2) (.string t811)) (fun _ hk => hk.2) (.slice Ao91 t812.length co91)) (fun _ h_ => h_.1)))); (case side6 => exact (rR HO_811004.out).2.1); rintro e w97 ⟨v819, rfl, ho0, hb⟩; refine ⟨_, rfl, ?_⟩; have n0_ := aM (Kd.V_elder' (by (with_reducible repeat (first | apply va | apply vn | apply vd)); exact (Kd.V_mono (Kd.V_far (p := ⟨gb816, 1, none⟩) (Kd.V_far (p := ⟨gb816, 0, none⟩) (Kd.V_mono HO_788001.out (fun k_ hk => (⟨hk, hk.2⟩ : _ ∧ k_ ≠ gb816))) (fun _ hk => hk.2) (.string t811)) (fun _ hk => hk.2) (.slice Ao91 t812.length co91)) (fun _ h_ => h_.1))) (Kd.R_base ho0) hb); have n1_ := aM (Kd.V_elder' (by (with_reducible repeat (first | apply va | apply vn | apply vd)); exact (Kd.V_mono (Kd.V_far (p := ⟨gb816, 1, none⟩) (Kd.V_far (p := ⟨gb816, 0, none⟩) (Kd.V_mono HO_789001.out (fun k_ hk => (⟨hk, hk.2⟩ : _ ∧ k_ ≠ gb816))) (fun _ hk => hk.2) (.string t811)) (fun _ hk => hk.2) (.slice Ao91 t812.length co91)) (fun _ h_ => h_.1))) (Kd.R_base ho0) hb); have n2_ := aM (rE (by (with_reducible repeat (first | apply ra | apply rn | apply rd_)); exact (rM (rF (p := ⟨gb816, 1, none⟩) (rF (p := ⟨gb816, 0, none⟩) (rT HO_800002.out BK816.out (by decide)) (fun _ hk => hk.2) (.string t811)) (fun _ hk => hk.2) (.slice Ao91 t812.length co91)) (fun _ h_ => h_.1))) (Kd.R_base ho0) hb); have n3_ := aM (rE (by (with_reducible repeat (first | apply ra | apply rn | apply rd_)); exact (rM (rF (p := ⟨gb816, 1, none⟩) (rF (p := ⟨gb816, 0, none⟩) (rT HO_800004.out BK816.out (by decide)) (fun _ hk => hk.2) (.string t811)) (fun _ hk => hk.2) (.slice Ao91 t812.length co91)) (fun _ h_ => h_.1))) (Kd.R_base ho0) hb); have n4_ := aM (rE (by (with_reducible repeat (first | apply ra | apply rn | apply rd_)); exact (rM (rF (p := ⟨gb816, 1, none⟩) (rF (p := ⟨gb816, 0, none⟩) (rT HO_811002.out BK816.out (by decide)) (fun _ hk => hk.2) (.string t811)) (fun _ hk => hk.2) (.slice Ao91 t812.length co91)) (fun _ h_ => h_.1))) (Kd.R_base ho0) hb); have n5_ := aM (rE (by (with_reducible repeat (first | apply ra | apply rn | apply rd_)); exact (rM (rF (p := ⟨gb816, 1, none⟩) (rF (p := ⟨gb816, 0, none⟩) (rT HO_811004.out BK816.out (by decide)) (fun _ hk => hk.2) (.string t811)) (fun _ hk => hk.2) (.slice Ao91 t812.length co91)) (fun _ h_ => h_.1))) (Kd.R_base ho0) hb); have n6_ := aM (rE (by (with_reducible repeat (first | apply ra | apply rn | apply rd_)); exact (rM (rF (p := ⟨gb816, 1, none⟩) (rF (p := ⟨gb816, 0, none⟩) (rT HO814.out BK816.out (by decide)) (fun _ hk => hk.2) (.string t811)) (fun _ hk => hk.2) (.slice Ao91 t812.length co91)) (fun _ h_ => h_.1))) (Kd.R_base ho0) hb); have n7_ := aM (rL (Kd.R_new' (Kd.R_new' (Kd.R_new' (Kd.R_new' (Kd.R_new' ho0 (Kd.R_lt (by (with_reducible repeat (first | apply ra | apply rn | apply rd_)); exact (rM (rF (p := ⟨gb816, 1, none⟩) (rF (p := ⟨gb816, 0, none⟩) (rT HO_800002.out BK816.out (by decide)) (fun _ hk => hk.2) (.string t811)) (fun _ hk => hk.2) (.slice Ao91 t812.length co91)) (fun _ h_ => h_.1))))) (Kd.R_lt (by (with_reducible repeat (first | apply ra | apply rn | apply rd_)); exact (rM (rF (p := ⟨gb816, 1, none⟩) (rF (p := ⟨gb816, 0, none⟩) (rT HO_800004.out BK816.out (by decide)) (fun _ hk => hk.2) (.string t811)) (fun _ hk => hk.2) (.slice Ao91 t812.length co91)) (fun _ h_ => h_.1))))) (Kd.R_lt (by (with_reducible repeat (first | apply ra | apply rn | apply rd_)); exact (rM (rF (p := ⟨gb816, 1, none⟩) (rF (p := ⟨gb816, 0, none⟩) (rT HO_811002.out BK816.out (by decide)) (fun _ hk => hk.2) (.string t811)) (fun _ hk => hk.2) (.slice Ao91 t812.length co91)) (fun _ h_ => h_.1))))) (Kd.R_lt (by (with_reducible repeat (first | apply ra | apply rn | apply rd_)); exact (rM (rF (p := ⟨gb816, 1, none⟩) (rF (p := ⟨gb816, 0, none⟩) (rT HO_811004.out BK816.out (by decide)) (fun _ hk => hk.2) (.string t811)) (fun _ hk => hk.2) (.slice Ao91 t812.length co91)) (fun _ h_ => h_.1))))) (Kd.R_lt (by (with_reducible repeat (first | apply ra | apply rn | apply rd_)); exact (rM (rF (p := ⟨gb816, 1, none⟩) (rF (p := ⟨gb816, 0, none⟩) (rT HO814.out BK816.out (by decide)) (fun _ hk => hk.2) (.string t811)) (fun _ hk => hk.2) (.slice Ao91 t812.length co91)) (fun _ h_ => h_.1))))) (bZ (by repeat (first | (with_reducible first | exact HB.out | apply ea | apply en | apply ed | refine bs ?_ GE775.out | refine bs ?_ GE787.out | refine bs ?_ GE788.out | refine bs ?_ GE799.out | refine bs ?_ GE810.out | refine bs ?_ GE816.out) | exact HB.out)))); have n8_ := aM (bB (g := gb775) (o := .cells #[.string a0_0, .slice A0_1 l0_1.length c0_1, .string a0_2, .slice A0_3 l0_3.length c0_3, .string a0_4, .int .i64 a0_5, .int .i64 a0_6, .int .u64 a0_7] 77 (0, 0)) (by (with_reducible repeat (first | refine bn ?_ _ | refine bd ?_ | refine ba ?_ _)); refine bR ?_ NB775_816.out _; (with_reducible repeat (first | refine bn ?_ _ | refine bd ?_ | refine ba ?_ _)); refine bR ?_ NB775_816.out _; (with_reducible repeat (first | refine bn ?_ _ | refine bd ?_ | refine ba ?_ _)); exact BK775.out) hb); have n9_ := aM (bB (g := gb787) (o := .cells #[.string t779, .slice Ao36 t780.length co36] 51 (0, 0)) (by (with_reducible repeat (first | refine bn ?_ _ | refine bd ?_ | refine ba ?_ _)); refine bR ?_ NB787_816.out _; (with_reducible repeat (first | refine bn ?_ _ | refine bd ?_ | refine ba ?_ _)); refine bR ?_ NB787_816.out _; (with_reducible repeat (first | refine bn ?_ _ | refine bd ?_ | refine ba ?_ _)); exact BK787.out) hb); have n10_ := aM (bB (g := gb788) (o := .cells #[.string t783, .slice Ao39 t784.length co39] 51 (0, 0)) (by (with_reducible repeat (first | refine bn ?_ _ | refine bd ?_ | refine ba ?_ _)); refine bR ?_ NB788_816.out _; (with_reducible repeat (first | refine bn ?_ _ | refine bd ?_ | refine ba ?_ _)); refine bR ?_ NB788_816.out _; (with_reducible repeat (first | refine bn ?_ _ | refine bd ?_ | refine ba ?_ _)); exact BK788.out) hb); have n11_ := aM (bB (g := gb799) (o := .cells #[.int .i64 t789, .string t790, .slice Ao50 t791.length co50, .string t794, .slice Ao51 t795.length co51] 64 (0, 0)) (by (with_reducible repeat (first | refine bn ?_ _ | refine bd ?_ | refine ba ?_ _)); refine bR ?_ NB799_816.out _; (with_reducible repeat (first | refine bn ?_ _ | refine bd ?_ | refine ba ?_ _)); refine bR ?_ NB799_816.out _; (with_reducible repeat (first | refine bn ?_ _ | refine bd ?_ | refine ba ?_ _)); exact BK799.out) hb); have n12_ := aM (bB (g := gb810) (o := .cells #[.int .i64 t800, .string t801, .slice Ao63 t802.length co63, .string t805, .slice Ao64 t806.length co64] 64 (0, 0)) (by (with_reducible repeat (first | refine bn ?_ _ | refine bd ?_ | refine ba ?_ _)); refine bR ?_ NB810_816.out _; (with_reducible repeat (first | refine bn ?_ _ | refine bd ?_ | refine ba ?_ _)); refine bR ?_ NB810_816.out _; (with_reducible repeat (first | refine bn ?_ _ | refine bd ?_ | refine ba ?_ _)); exact BK810.out) hb); have n13_ := aM (bB (g := gb816) (o := .cells #[.string t811, .slice Ao91 t812.length co91] 51 (0, 0)) (by (with_reducible repeat (first | refine bn ?_ _ | refine bd ?_ | refine ba ?_ _)); refine bU (cs := #[.string t811, .slice none 0 0]) ?_ 1 _ rfl; (with_reducible repeat (first | refine bn ?_ _ | refine bd ?_ | refine ba ?_ _)); refine bU (cs := #[.string (⟨#[]⟩ : ByteArray), .slice none 0 0]) ?_ 0 _ rfl; (with_reducible repeat (first | refine bn ?_ _ | refine bd ?_ | refine ba ?_ _)); exact BK816.out) hb); have n14_ := aM (bP (by repeat (first | (with_reducible first | exact HB.out | apply ea | apply en | apply ed | refine bs ?_ GE775.out | refine bs ?_ GE787.out | refine bs ?_ GE788.out | refine bs ?_ GE799.out | refine bs ?_ GE810.out | refine bs ?_ GE816.out) | exact HB.out)) hb); clear HO_788001; clear HO_789001; clear HO_800002; clear HO_800004; clear HO_811002; clear HO_811004; clear HO814; clear BK775; clear BK787; clear BK788; clear BK799; clear BK810; clear BK816; clear HB; have HO_788001 := n0_; have HO_789001 := n1_; have HO_800002 := n2_; have HO_800004 := n3_; have HO_811002 := n4_; have HO_811004 := n5_; have HO814 := n6_; have HO820 := n7_; have BK775 := n8_; have BK787 := n9_; have BK788 := n10_; have BK799 := n11_; have BK810 := n12_; have BK816 := n13_; have HB := n14_; clear n0_ n1_ n2_ n3_ n4_ n5_ n6_ n7_ n8_ n9_ n10_ n11_ n12_ n13_ n14_; (try clear hb); (try clear hb2); (try clear hk); (try clear hi); (try clear ho0)) | ((with_reducible refine gate_dst (N := 13) rfl ?_); (try (refine gate_guard (by rfl) ?_; dsimp only)); refine box_event ?hg (N := 13) ?hd (cs := #[.string (⟨#[]⟩ : ByteArray), .slice none 0 0]) (t := 51) ?hr ?_; (case hd => rfl); (case hg => rfl); (case hr => first | (go_simp; done) | (go_simp; rfl)); intro gb822 hg w98 hbox hb; have n0_ := aM (Kd.V_below (Kd.V_elderB (by (with_reducible repeat (first | apply va | apply vn | apply vd)); exact HO_788001.out) gb822 (Nat.le_of_eq hg.symm)) hb); have n1_ := aM (Kd.V_below (Kd.V_elderB (by (with_reducible repeat (first | apply va | apply vn | apply vd)); exact HO_789001.out) gb822 (Nat.le_of_eq hg.symm)) hb); have n2_ := aM (Kd.R_below (by (with_reducible repeat (first | apply ra | apply rn | apply rd_)); exact HO_800002.out) hb); have n3_ := aM (Kd.R_below (by (with_reducible repeat (first | apply ra | apply rn | apply rd_)); exact HO_800004.out) hb); have n4_ := aM (Kd.R_below (by (with_reducible repeat (first | apply ra | apply rn | apply rd_)); exact HO_811002.out) hb); have n5_ := aM (Kd.R_below (by (with_reducible repeat (first | apply ra | apply rn | apply rd_)); exact HO_811004.out) hb); have n6_ := aM (Kd.R_below (by (with_reducible repeat (first | apply ra | apply rn | apply rd_)); exact HO814.out) hb); have n7_ := aM (Kd.R_below (by (with_reducible repeat (first | apply ra | apply rn | apply rd_)); exact HO820.out) hb); have n8_ := aM (bB (g := gb775) (o := .cells #[.string a0_0, .slice A0_1 l0_1.length c0_1, .string a0_2, .slice A0_3 l0_3.length c0_3, .string a0_4, .int .i64 a0_5, .int .i64 a0_6, .int .u64 a0_7] 77 (0, 0)) (by (with_reducible repeat (first | refine bn ?_ _ | refine bd ?_ | refine ba ?_ _)); exact BK775.out) hb); have n9_ := aM (bB (g := gb787) (o := .cells #[.string t779, .slice Ao36 t780.length co36] 51 (0, 0)) (by (with_reducible repeat (first | refine bn ?_ _ | refine bd ?_ | refine ba ?_ _)); exact BK787.out) hb); have n10_ := aM (bB (g := gb788) (o := .cells #[.string t783, .slice Ao39 t784.length co39] 51 (0, 0)) (by (with_reducible repeat (first | refine bn ?_ _ | refine bd ?_ | refine ba ?_ _)); exact BK788.out) hb); have n11_ := aM (bB (g := gb799) (o := .cells #[.int .i64 t789, .string t790, .slice Ao50 t791.length co50, .string t794, .slice Ao51 t795.length co51] 64 (0, 0)) (by (with_reducible repeat (first | refine bn ?_ _ | refine bd ?_ | refine ba ?_ _)); exact BK799.out) hb); have n12_ := aM (bB (g := gb810) (o := .cells #[.int .i64 t800, .string t801, .slice Ao63 t802.length co63, .string t805, .slice Ao64 t806.length co64] 64 (0, 0)) (by (with_reducible repeat (first | refine bn ?_ _ | refine bd ?_ | refine ba ?_ _)); exact BK810.out) hb); have n13_ := aM (bB (g := gb816) (o := .cells #[.string t811, .slice Ao91 t812.length co91] 51 (0, 0)) (by (with_reducible repeat (first | refine bn ?_ _ | refine bd ?_ | refine ba ?_ _)); exact BK816.out) hb); have n14_ := aM (bP (by repeat (first | (with_reducible first | exact HB.out | apply ea | apply en | apply ed | refine bs ?_ GE775.out | refine bs ?_ GE787.out | refine bs ?_ GE788.out | refine bs ?_ GE799.out | refine bs ?_ GE810.out | refine bs ?_ GE816.out) | exact HB.out)) hb); have n15_ := aM (hbox); have n16_ := aM ((by rw [hg]; exact (bZ (by repeat (first | (with_reducible first | exact HB.out | apply ea | apply en | apply ed | refine bs ?_ GE775.out | refine bs ?_ GE787.out | refine bs ?_ GE788.out | refine bs ?_ GE799.out | refine bs ?_ GE810.out | refine bs ?_ GE816.out) | exact HB.out))) : w.heap.size ≤ gb822)); have n17_ := aM ((by rw [hg]; exact (bZ (by repeat (first | (with_reducible first | exact HB.out | apply ea | apply en | apply ed | refine bs ?_ GE775.out | refine bs ?_ GE787.out | refine bs ?_ GE788.out | refine bs ?_ GE799.out | refine bs ?_ GE810.out | refine bs ?_ GE816.out) | exact HB.out))) : w.heap.size ≤ gb822)); have n18_ := aM ((by rw [hg]; exact Nat.ne_of_lt (blk_lt (g := gb775) (o := .cells #[.string a0_0, .slice A0_1 l0_1.length c0_1, .string a0_2, .slice A0_3 l0_3.length c0_3, .string a0_4, .int .i64 a0_5, .int .i64 a0_6, .int .u64 a0_7] 77 (0, 0)) (by (with_reducible repeat (first | refine bn ?_ _ | refine bd ?_ | refine ba ?_ _)); exact BK775.out)) : gb775 ≠ gb822)); have n19_ := aM ((by rw [hg]; exact Nat.ne_of_gt (blk_lt (g := gb775) (o := .cells #[.string a0_0, .slice A0_1 l0_1.length c0_1, .string a0_2, .slice A0_3 l0_3.length c0_3, .string a0_4, .int .i64 a0_5, .int .i64 a0_6, .int .u64 a0_7] 77 (0, 0)) (by (with_reducible repeat (first | refine bn ?_ _ | refine bd ?_ | refine ba ?_ _)); exact BK775.out)) : gb822 ≠ gb775)); have n20_ := aM ((by rw [hg]; exact Nat.ne_of_lt (blk_lt (g := gb787) (o := .cells #[.string t779, .slice Ao36 t780.length co36] 51 (0, 0)) (by (with_reducible repeat (first | refine bn ?_ _ | refine bd ?_ | refine ba ?_ _)); exact BK787.out)) : gb787 ≠ gb822)); have n21_ := aM ((by rw [hg]; exact Nat.ne_of_gt (blk_lt (g := gb787) (o := .cells #[.string t779, .slice Ao36 t780.length co36] 51 (0, 0)) (by (with_reducible repeat (first | refine bn ?_ _ | refine bd ?_ | refine ba ?_ _)); exact BK787.out)) : gb822 ≠ gb787)); have n22_ := aM ((by rw [hg]; exact Nat.ne_of_lt (blk_lt (g := gb788) (o := .cells #[.string t783, .slice Ao39 t784.length co39] 51 (0, 0)) (by (with_reducible repeat (first | refine bn ?_ _ | refine bd ?_ | refine ba ?_ _)); exact BK788.out)) : gb788 ≠ gb822)); have n23_ := aM ((by rw [hg]; exact Nat.ne_of_gt (blk_lt (g := gb788) (o := .cells #[.string t783, .slice Ao39 t784.length co39] 51 (0, 0)) (by (with_reducible repeat (first | refine bn ?_ _ | refine bd ?_ | refine ba ?_ _)); exact BK788.out)) : gb822 ≠ gb788)); have n24_ := aM ((by rw [hg]; exact Nat.ne_of_lt (blk_lt (g := gb799) (o := .cells #[.int .i64 t789, .string t790, .slice Ao50 t791.length co50, .string t794, .slice Ao51 t795.length co51] 64 (0, 0)) (by (with_reducible repeat (first | refine bn ?_ _ | refine bd ?_ | refine ba ?_ _)); exact BK799.out)) : gb799 ≠ gb822)); have n25_ := aM ((by rw [hg]; exact Nat.ne_of_gt (blk_lt (g := gb799) (o := .cells #[.int .i64 t789, .string t790, .slice Ao50 t791.length co50, .string t794, .slice Ao51 t795.length co51] 64 (0, 0)) (by (with_reducible repeat (first | refine bn ?_ _ | refine bd ?_ | refine ba ?_ _)); exact BK799.out)) : gb822 ≠ gb799)); have n26_ := aM ((by rw [hg]; exact Nat.ne_of_lt (blk_lt (g := gb810) (o := .cells #[.int .i64 t800, .string t801, .slice Ao63 t802.length co63, .string t805, .slice Ao64 t806.length co64] 64 (0, 0)) (by (with_reducible repeat (first | refine bn ?_ _ | refine bd ?_ | refine ba ?_ _)); exact BK810.out)) : gb810 ≠ gb822)); have n27_ := aM ((by rw [hg]; exact Nat.ne_of_gt (blk_lt (g := gb810) (o := .cells #[.int .i64 t800, .string t801, .slice Ao63 t802.length co63, .string t805, .slice Ao64 t806.length co64] 64 (0, 0)) (by (with_reducible repeat (first | refine bn ?_ _ | refine bd ?_ | refine ba ?_ _)); exact BK810.out)) : gb822 ≠ gb810)); have n28_ := aM ((by rw [hg]; exact Nat.ne_of_lt (blk_lt (g := gb816) (o := .cells #[.string t811, .slice Ao91 t812.length co91] 51 (0, 0)) (by (with_reducible repeat (first | refine bn ?_ _ | refine bd ?_ | refine ba ?_ _)); exact BK816.out)) : gb816 ≠ gb822)); have n29_ := aM ((by rw [hg]; exact Nat.ne_of_gt (blk_lt (g := gb816) (o := .cells #[.string t811, .slice Ao91 t812.length co91] 51 (0, 0)) (by (with_reducible repeat (first | refine bn ?_ _ | refine bd ?_ | refine ba ?_ _)); exact BK816.out)) : gb822 ≠ gb816)); clear HO_788001; clear HO_789001; clear HO_800002; clear HO_800004; clear HO_811002; clear HO_811004; clear HO814; clear HO820; clear BK775; clear BK787; clear BK788; clear BK799; clear BK810; clear BK816; clear HB; have HO_788001 := n0_; have HO_789001 := n1_; have HO_800002 := n2_; have HO_800004 := n3_; have HO_811002 := n4_; have HO_811004 := n5_; have HO814 := n6_; have HO820 := n7_; have BK775 := n8_; have BK787 := n9_; have BK788 := n10_; have BK799 := n11_; have BK810 := n12_; have BK816 := n13_; have HB := n14_; have BK822 := n15_; have GW822 := n16_; have GE822 := n17_; have NB775_822 := n18_; have NB822_775 := n19_; have NB787_822 := n20_; have NB822_787 := n21_; have NB788_822 := n22_; have NB822_788 := n23_; have NB799_822 := n24_; have NB822_799 := n25_; have NB810_822 := n26_; have NB822_810 := n27_; have NB816_822 := n28_; have NB822_816 := n29_; clear n0_ n1_ n2_ n3_ n4_ n5_ n6_ n7_ n8_ n9_ n10_ n11_ n12_ n13_ n14_ n15_ n16_ n17_ n18_ n19_ n20_ n21_ n22_ n23_ n24_ n25_ n26_ n27_ n28_ n29_; clear hb hbox hg; have hnb99 := NB822_775.out; have hnc99 := NB775_822.out; have hnb100 := NB822_787.out; have hnc100 := NB787_822.out; have hnb101 := NB822_788.out; have hnc101 := NB788_822.out; have hnb102 := NB822_799.out; have hnc102 := NB799_822.out; have hnb103 := NB822_810.out; have hnc103 := NB810_822.out; have hnb104 := NB822_816.out; have hnc104 := NB816_822.out; have hcz105_0 : w98.cell? ⟨gb822, 0, none⟩ = some (.string (⟨#[]⟩ : ByteArray)) := (bC BK822.out 0).trans rfl; have hcz105_1 : w98.cell? ⟨gb822, 1, none⟩ = some (.slice none 0 0) := (bC BK822.out 1).trans rfl; have hfz105_0 := bF BK822.out 0; have hfz105_1 := bF BK822.out 1; obtain ⟨Ao106, co106, eo106⟩ := Kd.R_slice HO820.out; subst eo106; have hcz107_0 : w98.cell? ⟨gb816, 0, none⟩ = some (.string t811) := (bC BK816.out 0).trans rfl; have hcz107_1 : w98.cell? ⟨gb816, 1, none⟩ = some (.slice Ao91 t812.length co91) := (bC BK816.out 1).trans rfl; have hfz107_0 := bF BK816.out 0; have hfz107_1 := bF BK816.out 1))
        by_cases c69 : t815 = 0
        · rw [if_pos c69] at H
          have c69b0 : (t815 == 0) = true := beq_iff_eq.mpr c69
          have c69b1 : (t815 != 0) = false := bne_eq_false_iff_eq.mpr c69
          clear c69
          by_cases c70 : t821 = 0
          · rw [if_pos c70] at H
            have c70b0 : (t821 == 0) = true := beq_iff_eq.mpr c70
            have c70b1 : (t821 != 0) = false := bne_eq_false_iff_eq.mpr c70
            clear c70
            replace H := Option.bind_eq_some_iff.mp H
            obtain ⟨t823, A710, H⟩ := H
            replace H : (if t823 = true then ((bureauref04_Low.f kj27 t790 t791 t801 t802 a1).bind fun t824 => (some t824)) else (some false)) = some r := H
            have A71 := aM A710
            clear A710
            by_cases c72 : t823 = true
            · subst c72
              have H1 : ((bureauref04_Low.f kj27 t790 t791 t801 t802 a1).bind fun t824 => (some t824)) = some r := by rw [if_pos rfl] at H; exact H
              clear H
              have H := H1
              clear H1
              replace H := Option.bind_eq_some_iff.mp H
              obtain ⟨t824, A730, H⟩ := H
              replace H : (some t824) = some r := H
              have A73 := aM A730
              clear A730
              obtain rfl := Option.some.inj H
              go_wp2_with (first | (go_at_call 67; (with_reducible refine (bureauref04_Low.calls kj27 t811 _ _ t812 t817 _ _ t818 a1 true _ ?side1 ?side2 ?side3 ?side4 A71.out).mono ?_); (case side1 => refine (rR (e := 100) (base := w.heap.size) (ok := fun k_ => (((((True ∧ some k_ ≠ (.slice Ao50 t791.length co50 : Value).ownBlock) ∧ some k_ ≠ (.slice Ao51 t795.length co51 : Value).ownBlock) ∧ some k_ ≠ (.slice Ao63 t802.length co63 : Value).ownBlock) ∧ some k_ ≠ (.slice Ao64 t806.length co64 : Value).ownBlock) ∧ some k_ ≠ (.slice Ao106 t818.length co106 : Value).ownBlock)) (n := t812.length) (c := co91) ?_).2.2; exact (by (with_reducible repeat (first | apply ra | apply rn | apply rd_)); exact (rM (rF (p := ⟨gb822, 1, none⟩) (rF (p := ⟨gb822, 0, none⟩) (rT HO814.out BK822.out (by decide)) (fun _ hk => hk.2) (.string t817)) (fun _ hk => hk.2) (.slice Ao106 t818.length co106)) (fun _ h_ => h_.1)))); (case side2 => exact (rR HO814.out).2.1); (case side3 => refine (rR (e := 100) (base := w.heap.size) (ok := fun k_ => (((((True ∧ some k_ ≠ (.slice Ao50 t791.length co50 : Value).ownBlock) ∧ some k_ ≠ (.slice Ao51 t795.length co51 : Value).ownBlock) ∧ some k_ ≠ (.slice Ao63 t802.length co63 : Value).ownBlock) ∧ some k_ ≠ (.slice Ao64 t806.length co64 : Value).ownBlock) ∧ some k_ ≠ (.slice Ao91 t812.length co91 : Value).ownBlock)) (n := t818.length) (c := co106) ?_).2.2; exact (by (with_reducible repeat (first | apply ra | apply rn | apply rd_)); exact (rM (rF (p := ⟨gb822, 1, none⟩) (rF (p := ⟨gb822, 0, none⟩) (rT HO820.out BK822.out (by decide)) (fun _ hk => hk.2) (.string t817)) (fun _ hk => hk.2) (.slice Ao106 t818.length co106)) (fun _ h_ => h_.1)))); (case side4 => exact (rR HO820.out).2.1); rintro e w108 ⟨rfl, hb⟩; have n0_ := aM (Kd.V_below (by (with_reducible repeat (first | apply va | apply vn | apply vd)); exact (Kd.V_mono (Kd.V_far (p := ⟨gb822, 1, none⟩) (Kd.V_far (p := ⟨gb822, 0, none⟩) (Kd.V_mono HO_788001.out (fun k_ hk => (⟨hk, hk.2⟩ : _ ∧ k_ ≠ gb822))) (fun _ hk => hk.2) (.string t817)) (fun _ hk => hk.2) (.slice Ao106 t818.length co106)) (fun _ h_ => h_.1))) hb); have n1_ := aM (Kd.V_below (by (with_reducible repeat (first | apply va | apply vn | apply vd)); exact (Kd.V_mono (Kd.V_far (p := ⟨gb822, 1, none⟩) (Kd.V_far (p := ⟨gb822, 0, none⟩) (Kd.V_mono HO_789001.out (fun k_ hk => (⟨hk, hk.2⟩ : _ ∧ k_ ≠ gb822))) (fun _ hk => hk.2) (.string t817)) (fun _ hk => hk.2) (.slice Ao106 t818.length co106)) (fun _ h_ => h_.1))) hb); have n2_ := aM (Kd.R_below (by (with_reducible repeat (first | apply ra | apply rn | apply rd_)); exact (rM (rF (p := ⟨gb822, 1, none⟩) (rF (p := ⟨gb822, 0, none⟩) (rT HO_800002.out BK822.out (by decide)) (fun _ hk => hk.2) (.string t817)) (fun _ hk => hk.2) (.slice Ao106 t818.length co106)) (fun _ h_ => h_.1))) hb); have n3_ := aM (Kd.R_below (by (with_reducible repeat (first | apply ra | apply rn | apply rd_)); exact (rM (rF (p := ⟨gb822, 1, none⟩) (rF (p := ⟨gb822, 0, none⟩) (rT HO_800004.out BK822.out (by decide)) (fun _ hk => hk.2) (.string t817)) (fun _ hk => hk.2) (.slice Ao106 t818.length co106)) (fun _ h_ => h_.1))) hb); have n4_ := aM (Kd.R_below (by (with_reducible repeat (first | apply ra | apply rn | apply rd_)); exact (rM (rF (p := ⟨gb822, 1, none⟩) (rF (p := ⟨gb822, 0, none⟩) (rT HO_811002.out BK822.out (by decide)) (fun _ hk => hk.2) (.string t817)) (fun _ hk => hk.2) (.slice Ao106 t818.length co106)) (fun _ h_ => h_.1))) hb); have n5_ := aM (Kd.R_below (by (with_reducible repeat (first | apply ra | apply rn | apply rd_)); exact (rM (rF (p := ⟨gb822, 1, none⟩) (rF (p := ⟨gb822, 0, none⟩) (rT HO_811004.out BK822.out (by decide)) (fun _ hk => hk.2) (.string t817)) (fun _ hk => hk.2) (.slice Ao106 t818.length co106)) (fun _ h_ => h_.1))) hb); have n6_ := aM (Kd.R_below (by (with_reducible repeat (first | apply ra | apply rn | apply rd_)); exact (rM (rF (p := ⟨gb822, 1, none⟩) (rF (p := ⟨gb822, 0, none⟩) (rT HO814.out BK822.out (by decide)) (fun _ hk => hk.2) (.string t817)) (fun _ hk => hk.2) (.slice Ao106 t818.length co106)) (fun _ h_ => h_.1))) hb); have n7_ := aM (Kd.R_below (by (with_reducible repeat (first | apply ra | apply rn | apply rd_)); exact (rM (rF (p := ⟨gb822, 1, none⟩) (rF (p := ⟨gb822, 0, none⟩) (rT HO820.out BK822.out (by decide)) (fun _ hk => hk.2) (.string t817)) (fun _ hk => hk.2) (.slice Ao106 t818.length co106)) (fun _ h_ => h_.1))) hb); have n8_ := aM (bB (g := gb775) (o := .cells #[.string a0_0, .slice A0_1 l0_1.length c0_1, .string a0_2, .slice A0_3 l0_3.length c0_3, .string a0_4, .int .i64 a0_5, .int .i64 a0_6, .int .u64 a0_7] 77 (0, 0)) (by (with_reducible repeat (first | refine bn ?_ _ | refine bd ?_ | refine ba ?_ _)); refine bR ?_ NB775_822.out _; (with_reducible repeat (first | refine bn ?_ _ | refine bd ?_ | refine ba ?_ _)); refine bR ?_ NB775_822.out _; (with_reducible repeat (first | refine bn ?_ _ | refine bd ?_ | refine ba ?_ _)); exact BK775.out) hb); have n9_ := aM (bB (g := gb787) (o := .cells #[.string t779, .slice Ao36 t780.length co36] 51 (0, 0)) (by (with_reducible repeat (first | refine bn ?_ _ | refine bd ?_ | refine ba ?_ _)); refine bR ?_ NB787_822.out _; (with_reducible repeat (first | refine bn ?_ _ | refine bd ?_ | refine ba ?_ _)); refine bR ?_ NB787_822.out _; (with_reducible repeat (first | refine bn ?_ _ | refine bd ?_ | refine ba ?_ _)); exact BK787.out) hb); have n10_ := aM (bB (g := gb788) (o := .cells #[.string t783, .slice Ao39 t784.length co39] 51 (0, 0)) (by (with_reducible repeat (first | refine bn ?_ _ | refine bd ?_ | refine ba ?_ _)); refine bR ?_ NB788_822.out _; (with_reducible repeat (first | refine bn ?_ _ | refine bd ?_ | refine ba ?_ _)); refine bR ?_ NB788_822.out _; (with_reducible repeat (first | refine bn ?_ _ | refine bd ?_ | refine ba ?_ _)); exact BK788.out) hb); have n11_ := aM (bB (g := gb799) (o := .cells #[.int .i64 t789, .string t790, .slice Ao50 t791.length co50, .string t794, .slice Ao51 t795.length co51] 64 (0, 0)) (by (with_reducible repeat (first | refine bn ?_ _ | refine bd ?_ | refine ba ?_ _)); refine bR ?_ NB799_822.out _; (with_reducible repeat (first | refine bn ?_ _ | refine bd ?_ | refine ba ?_ _)); refine bR ?_ NB799_822.out _; (with_reducible repeat (first | refine bn ?_ _ | refine bd ?_ | refine ba ?_ _)); exact BK799.out) hb); have n12_ := aM (bB (g := gb810) (o := .cells #[.int .i64 t800, .string t801, .slice Ao63 t802.length co63, .string t805, .slice Ao64 t806.length co64] 64 (0, 0)) (by (with_reducible repeat (first | refine bn ?_ _ | refine bd ?_ | refine ba ?_ _)); refine bR ?_ NB810_822.out _; (with_reducible repeat (first | refine bn ?_ _ | refine bd ?_ | refine ba ?_ _)); refine bR ?_ NB810_822.out _; (with_reducible repeat (first | refine bn ?_ _ | refine bd ?_ | refine ba ?_ _)); exact BK810.out) hb); have n13_ := aM (bB (g := gb816) (o := .cells #[.string t811, .slice Ao91 t812.length co91] 51 (0, 0)) (by (with_reducible repeat (first | refine bn ?_ _ | refine bd ?_ | refine ba ?_ _)); refine bR ?_ NB816_822.out _; (with_reducible repeat (first | refine bn ?_ _ | refine bd ?_ | refine ba ?_ _)); refine bR ?_ NB816_822.out _; (with_reducible repeat (first | refine bn ?_ _ | refine bd ?_ | refine ba ?_ _)); exact BK816.out) hb); have n14_ := aM (bB (g := gb822) (o := .cells #[.string t817, .slice Ao106 t818.length co106] 51 (0, 0)) (by (with_reducible repeat (first | refine bn ?_ _ | refine bd ?_ | refine ba ?_ _)); refine bU (cs := #[.string t817, .slice none 0 0]) ?_ 1 _ rfl; (with_reducible repeat (first | refine bn ?_ _ | refine bd ?_ | refine ba ?_ _)); refine bU (cs := #[.string (⟨#[]⟩ : ByteArray), .slice none 0 0]) ?_ 0 _ rfl; (with_reducible repeat (first | refine bn ?_ _ | refine bd ?_ | refine ba ?_ _)); exact BK822.out) hb); have n15_ := aM (bP (by repeat (first | (with_reducible first | exact HB.out | apply ea | apply en | apply ed | refine bs ?_ GE775.out | refine bs ?_ GE787.out | refine bs ?_ GE788.out | refine bs ?_ GE799.out | refine bs ?_ GE810.out | refine bs ?_ GE816.out | refine bs ?_ GE822.out) | exact HB.out)) hb); clear HO_788001; clear HO_789001; clear HO_800002; clear HO_800004; clear HO_811002; clear HO_811004; clear HO814; clear HO820; clear BK775; clear BK787; clear BK788; clear BK799; clear BK810; clear BK816; clear BK822; clear HB; have HO_788001 := n0_; have HO_789001 := n1_; have HO_800002 := n2_; have HO_800004 := n3_; have HO_811002 := n4_; have HO_811004 := n5_; have HO814 := n6_; have HO820 := n7_; have BK775 := n8_; have BK787 := n9_; have BK788 := n10_; have BK799 := n11_; have BK810 := n12_; have BK816 := n13_; have BK822 := n14_; have HB := n15_; clear n0_ n1_ n2_ n3_ n4_ n5_ n6_ n7_ n8_ n9_ n10_ n11_ n12_ n13_ n14_ n15_; (try clear hb); (try clear hb2); (try clear hk); (try clear hi); have hcz109_0 : w108.cell? ⟨gb799, 0, none⟩ = some (.int .i64 t789) := (bC BK799.out 0).trans rfl; have hcz109_1 : w108.cell? ⟨gb799, 1, none⟩ = some (.string t790) := (bC BK799.out 1).trans rfl; have hcz109_2 : w108.cell? ⟨gb799, 2, none⟩ = some (.slice Ao50 t791.length co50) := (bC BK799.out 2).trans rfl; have hcz109_3 : w108.cell? ⟨gb799, 3, none⟩ = some (.string t794) := (bC BK799.out 3).trans rfl; have hcz109_4 : w108.cell? ⟨gb799, 4, none⟩ = some (.slice Ao51 t795.length co51) := (bC BK799.out 4).trans rfl; have hfz109_0 := bF BK799.out 0; have hfz109_1 := bF BK799.out 1; have hfz109_2 := bF BK799.out 2; have hfz109_3 := bF BK799.out 3; have hfz109_4 := bF BK799.out 4; have hcz110_0 : w108.cell? ⟨gb810, 0, none⟩ = some (.int .i64 t800) := (bC BK810.out 0).trans rfl; have hcz110_1 : w108.cell? ⟨gb810, 1, none⟩ = some (.string t801) := (bC BK810.out 1).trans rfl; have hcz110_2 : w108.cell? ⟨gb810, 2, none⟩ = some (.slice Ao63 t802.length co63) := (bC BK810.out 2).trans rfl; have hcz110_3 : w108.cell? ⟨gb810, 3, none⟩ = some (.string t805) := (bC BK810.out 3).trans rfl; have hcz110_4 : w108.cell? ⟨gb810, 4, none⟩ = some (.slice Ao64 t806.length co64) := (bC BK810.out 4).trans rfl; have hfz110_0 := bF BK810.out 0; have hfz110_1 := bF BK810.out 1; have hfz110_2 := bF BK810.out 2; have hfz110_3 := bF BK810.out 3; have hfz110_4 := bF BK810.out 4) | (go_at_call 67; (with_reducible refine (bureauref04_Low.calls kj27 t790 _ _ t791 t801 _ _ t802 a1 t824 _ ?side1 ?side2 ?side3 ?side4 A73.out).mono ?_); (case side1 => repeat (first | exact (rR HO_800002.out).2.2 | (with_reducible refine Kd.C_alloc ?_ _) | (with_reducible refine Kd.C_drewN ?_ _) | (with_reducible refine Kd.C_drew ?_))); (case side2 => exact (rR HO_800002.out).2.1); (case side3 => repeat (first | exact (rR HO_811002.out).2.2 | (with_reducible refine Kd.C_alloc ?_ _) | (with_reducible refine Kd.C_drewN ?_ _) | (with_reducible refine Kd.C_drew ?_))); (case side4 => exact (rR HO_811002.out).2.1); rintro e w111 ⟨rfl, hb⟩; have n0_ := aM (Kd.V_below (by (with_reducible repeat (first | apply va | apply vn | apply vd)); exact HO_788001.out) hb); have n1_ := aM (Kd.V_below (by (with_reducible repeat (first | apply va | apply vn | apply vd)); exact HO_789001.out) hb); have n2_ := aM (Kd.R_below (by (with_reducible repeat (first | apply ra | apply rn | apply rd_)); exact HO_800002.out) hb); have n3_ := aM (Kd.R_below (by (with_reducible repeat (first | apply ra | apply rn | apply rd_)); exact HO_800004.out) hb); have n4_ := aM (Kd.R_below (by (with_reducible repeat (first | apply ra | apply rn | apply rd_)); exact HO_811002.out) hb); have n5_ := aM (Kd.R_below (by (with_reducible repeat (first | apply ra | apply rn | apply rd_)); exact HO_811004.out) hb); have n6_ := aM (Kd.R_below (by (with_reducible repeat (first | apply ra | apply rn | apply rd_)); exact HO814.out) hb); have n7_ := aM (Kd.R_below (by (with_reducible repeat (first | apply ra | apply rn | apply rd_)); exact HO820.out) hb); have n8_ := aM (bB (g := gb775) (o := .cells #[.string a0_0, .slice A0_1 l0_1.length c0_1, .string a0_2, .slice A0_3 l0_3.length c0_3, .string a0_4, .int .i64 a0_5, .int .i64 a0_6, .int .u64 a0_7] 77 (0, 0)) (by (with_reducible repeat (first | refine bn ?_ _ | refine bd ?_ | refine ba ?_ _)); exact BK775.out) hb); have n9_ := aM (bB (g := gb787) (o := .cells #[.string t779, .slice Ao36 t780.length co36] 51 (0, 0)) (by (with_reducible repeat (first | refine bn ?_ _ | refine bd ?_ | refine ba ?_ _)); exact BK787.out) hb); have n10_ := aM (bB (g := gb788) (o := .cells #[.string t783, .slice Ao39 t784.length co39] 51 (0, 0)) (by (with_reducible repeat (first | refine bn ?_ _ | refine bd ?_ | refine ba ?_ _)); exact BK788.out) hb); have n11_ := aM (bB (g := gb799) (o := .cells #[.int .i64 t789, .string t790, .slice Ao50 t791.length co50, .string t794, .slice Ao51 t795.length co51] 64 (0, 0)) (by (with_reducible repeat (first | refine bn ?_ _ | refine bd ?_ | refine ba ?_ _)); exact BK799.out) hb); have n12_ := aM (bB (g := gb810) (o := .cells #[.int .i64 t800, .string t801, .slice Ao63 t802.length co63, .string t805, .slice Ao64 t806.length co64] 64 (0, 0)) (by (with_reducible repeat (first | refine bn ?_ _ | refine bd ?_ | refine ba ?_ _)); exact BK810.out) hb); have n13_ := aM (bB (g := gb816) (o := .cells #[.string t811, .slice Ao91 t812.length co91] 51 (0, 0)) (by (with_reducible repeat (first | refine bn ?_ _ | refine bd ?_ | refine ba ?_ _)); exact BK816.out) hb); have n14_ := aM (bB (g := gb822) (o := .cells #[.string t817, .slice Ao106 t818.length co106] 51 (0, 0)) (by (with_reducible repeat (first | refine bn ?_ _ | refine bd ?_ | refine ba ?_ _)); exact BK822.out) hb); have n15_ := aM (bP (by repeat (first | (with_reducible first | exact HB.out | apply ea | apply en | apply ed | refine bs ?_ GE775.out | refine bs ?_ GE787.out | refine bs ?_ GE788.out | refine bs ?_ GE799.out | refine bs ?_ GE810.out | refine bs ?_ GE816.out | refine bs ?_ GE822.out) | exact HB.out)) hb); clear HO_788001; clear HO_789001; clear HO_800002; clear HO_800004; clear HO_811002; clear HO_811004; clear HO814; clear HO820; clear BK775; clear BK787; clear BK788; clear BK799; clear BK810; clear BK816; clear BK822; clear HB; have HO_788001 := n0_; have HO_789001 := n1_; have HO_800002 := n2_; have HO_800004 := n3_; have HO_811002 := n4_; have HO_811004 := n5_; have HO814 := n6_; have HO820 := n7_; have BK775 := n8_; have BK787 := n9_; have BK788 := n10_; have BK799 := n11_; have BK810 := n12_; have BK816 := n13_; have BK822 := n14_; have HB := n15_; clear n0_ n1_ n2_ n3_ n4_ n5_ n6_ n7_ n8_ n9_ n10_ n11_ n12_ n13_ n14_ n15_; (try clear hb); (try clear hb2); (try clear hk); (try clear hi)))
              go_ret
              exact ⟨by first | rfl | (simp [errW_none, errW_some] <;> rfl) | (simp [*, errW_none, errW_some] <;> rfl), by repeat (first | (with_reducible first | exact HB.out | apply ea | apply en | apply ed | refine bs ?_ GE775.out | refine bs ?_ GE787.out | refine bs ?_ GE788.out | refine bs ?_ GE799.out | refine bs ?_ GE810.out | refine bs ?_ GE816.out | refine bs ?_ GE822.out) | exact HB.out)⟩
            · replace c72 := Bool.eq_false_iff.mpr c72
              subst c72
              have H1 : (some false) = some r := by rw [if_neg (show ¬ (false = true) by decide)] at H; exact H
              clear H
              have H := H1
              clear H1
              obtain rfl := Option.some.inj H
              go_wp2_with (first | (go_at_call 67; (with_reducible refine (bureauref04_Low.calls kj27 t811 _ _ t812 t817 _ _ t818 a1 false _ ?side1 ?side2 ?side3 ?side4 A71.out).mono ?_); (case side1 => refine (rR (e := 100) (base := w.heap.size) (ok := fun k_ => (((((True ∧ some k_ ≠ (.slice Ao50 t791.length co50 : Value).ownBlock) ∧ some k_ ≠ (.slice Ao51 t795.length co51 : Value).ownBlock) ∧ some k_ ≠ (.slice Ao63 t802.length co63 : Value).ownBlock) ∧ some k_ ≠ (.slice Ao64 t806.length co64 : Value).ownBlock) ∧ some k_ ≠ (.slice Ao106 t818.length co106 : Value).ownBlock)) (n := t812.length) (c := co91) ?_).2.2; exact (by (with_reducible repeat (first | apply ra | apply rn | apply rd_)); exact (rM (rF (p := ⟨gb822, 1, none⟩) (rF (p := ⟨gb822, 0, none⟩) (rT HO814.out BK822.out (by decide)) (fun _ hk => hk.2) (.string t817)) (fun _ hk => hk.2) (.slice Ao106 t818.length co106)) (fun _ h_ => h_.1)))); (case side2 => exact (rR HO814.out).2.1); (case side3 => refine (rR (e := 100) (base := w.heap.size) (ok := fun k_ => (((((True ∧ some k_ ≠ (.slice Ao50 t791.length co50 : Value).ownBlock) ∧ some k_ ≠ (.slice Ao51 t795.length co51 : Value).ownBlock) ∧ some k_ ≠ (.slice Ao63 t802.length co63 : Value).ownBlock) ∧ some k_ ≠ (.slice Ao64 t806.length co64 : Value).ownBlock) ∧ some k_ ≠ (.slice Ao91 t812.length co91 : Value).ownBlock)) (n := t818.length) (c := co106) ?_).2.2; exact (by (with_reducible repeat (first | apply ra | apply rn | apply rd_)); exact (rM (rF (p := ⟨gb822, 1, none⟩) (rF (p := ⟨gb822, 0, none⟩) (rT HO820.out BK822.out (by decide)) (fun _ hk => hk.2) (.string t817)) (fun _ hk => hk.2) (.slice Ao106 t818.length co106)) (fun _ h_ => h_.1)))); (case side4 => exact (rR HO820.out).2.1); rintro e w108 ⟨rfl, hb⟩; have n0_ := aM (Kd.V_below (by (with_reducible repeat (first | apply va | apply vn | apply vd)); exact (Kd.V_mono (Kd.V_far (p := ⟨gb822, 1, none⟩) (Kd.V_far (p := ⟨gb822, 0, none⟩) (Kd.V_mono HO_788001.out (fun k_ hk => (⟨hk, hk.2⟩ : _ ∧ k_ ≠ gb822))) (fun _ hk => hk.2) (.string t817)) (fun _ hk => hk.2) (.slice Ao106 t818.length co106)) (fun _ h_ => h_.1))) hb); have n1_ := aM (Kd.V_below (by (with_reducible repeat (first | apply va | apply vn | apply vd)); exact (Kd.V_mono (Kd.V_far (p := ⟨gb822, 1, none⟩) (Kd.V_far (p := ⟨gb822, 0, none⟩) (Kd.V_mono HO_789001.out (fun k_ hk => (⟨hk, hk.2⟩ : _ ∧ k_ ≠ gb822))) (fun _ hk => hk.2) (.string t817)) (fun _ hk => hk.2) (.slice Ao106 t818.length co106)) (fun _ h_ => h_.1))) hb); have n2_ := aM (Kd.R_below (by (with_reducible repeat (first | apply ra | apply rn | apply rd_)); exact (rM (rF (p := ⟨gb822, 1, none⟩) (rF (p := ⟨gb822, 0, none⟩) (rT HO_800002.out BK822.out (by decide)) (fun _ hk => hk.2) (.string t817)) (fun _ hk => hk.2) (.slice Ao106 t818.length co106)) (fun _ h_ => h_.1))) hb); have n3_ := aM (Kd.R_below (by (with_reducible repeat (first | apply ra | apply rn | apply rd_)); exact (rM (rF (p := ⟨gb822, 1, none⟩) (rF (p := ⟨gb822, 0, none⟩) (rT HO_800004.out BK822.out (by decide)) (fun _ hk => hk.2) (.string t817)) (fun _ hk => hk.2) (.slice Ao106 t818.length co106)) (fun _ h_ => h_.1))) hb); have n4_ := aM (Kd.R_below (by (with_reducible repeat (first | apply ra | apply rn | apply rd_)); exact (rM (rF (p := ⟨gb822, 1, none⟩) (rF (p := ⟨gb822, 0, none⟩) (rT HO_811002.out BK822.out (by decide)) (fun _ hk => hk.2) (.string t817)) (fun _ hk => hk.2) (.slice Ao106 t818.length co106)) (fun _ h_ => h_.1))) hb); have n5_ := aM (Kd.R_below (by (with_reducible repeat (first | apply ra | apply rn | apply rd_)); exact (rM (rF (p := ⟨gb822, 1, none⟩) (rF (p := ⟨gb822, 0, none⟩) (rT HO_811004.out BK822.out (by decide)) (fun _ hk => hk.2) (.string t817)) (fun _ hk => hk.2) (.slice Ao106 t818.length co106)) (fun _ h_ => h_.1))) hb); have n6_ := aM (Kd.R_below (by (with_reducible repeat (first | apply ra | apply rn | apply rd_)); exact (rM (rF (p := ⟨gb822, 1, none⟩) (rF (p := ⟨gb822, 0, none⟩) (rT HO814.out BK822.out (by decide)) (fun _ hk => hk.2) (.string t817)) (fun _ hk => hk.2) (.slice Ao106 t818.length co106)) (fun _ h_ => h_.1))) hb); have n7_ := aM (Kd.R_below (by (with_reducible repeat (first | apply ra | apply rn | apply rd_)); exact (rM (rF (p := ⟨gb822, 1, none⟩) (rF (p := ⟨gb822, 0, none⟩) (rT HO820.out BK822.out (by decide)) (fun _ hk => hk.2) (.string t817)) (fun _ hk => hk.2) (.slice Ao106 t818.length co106)) (fun _ h_ => h_.1))) hb); have n8_ := aM (bB (g := gb775) (o := .cells #[.string a0_0, .slice A0_1 l0_1.length c0_1, .string a0_2, .slice A0_3 l0_3.length c0_3, .string a0_4, .int .i64 a0_5, .int .i64 a0_6, .int .u64 a0_7] 77 (0, 0)) (by (with_reducible repeat (first | refine bn ?_ _ | refine bd ?_ | refine ba ?_ _)); refine bR ?_ NB775_822.out _; (with_reducible repeat (first | refine bn ?_ _ | refine bd ?_ | refine ba ?_ _)); refine bR ?_ NB775_822.out _; (with_reducible repeat (first | refine bn ?_ _ | refine bd ?_ | refine ba ?_ _)); exact BK775.out) hb); have n9_ := aM (bB (g := gb787) (o := .cells #[.string t779, .slice Ao36 t780.length co36] 51 (0, 0)) (by (with_reducible repeat (first | refine bn ?_ _ | refine bd ?_ | refine ba ?_ _)); refine bR ?_ NB787_822.out _; (with_reducible repeat (first | refine bn ?_ _ | refine bd ?_ | refine ba ?_ _)); refine bR ?_ NB787_822.out _; (with_reducible repeat (first | refine bn ?_ _ | refine bd ?_ | refine ba ?_ _)); exact BK787.out) hb); have n10_ := aM (bB (g := gb788) (o := .cells #[.string t783, .slice Ao39 t784.length co39] 51 (0, 0)) (by (with_reducible repeat (first | refine bn ?_ _ | refine bd ?_ | refine ba ?_ _)); refine bR ?_ NB788_822.out _; (with_reducible repeat (first | refine bn ?_ _ | refine bd ?_ | refine ba ?_ _)); refine bR ?_ NB788_822.out _; (with_reducible repeat (first | refine bn ?_ _ | refine bd ?_ | refine ba ?_ _)); exact BK788.out) hb); have n11_ := aM (bB (g := gb799) (o := .cells #[.int .i64 t789, .string t790, .slice Ao50 t791.length co50, .string t794, .slice Ao51 t795.length co51] 64 (0, 0)) (by (with_reducible repeat (first | refine bn ?_ _ | refine bd ?_ | refine ba ?_ _)); refine bR ?_ NB799_822.out _; (with_reducible repeat (first | refine bn ?_ _ | refine bd ?_ | refine ba ?_ _)); refine bR ?_ NB799_822.out _; (with_reducible repeat (first | refine bn ?_ _ | refine bd ?_ | refine ba ?_ _)); exact BK799.out) hb); have n12_ := aM (bB (g := gb810) (o := .cells #[.int .i64 t800, .string t801, .slice Ao63 t802.length co63, .string t805, .slice Ao64 t806.length co64] 64 (0, 0)) (by (with_reducible repeat (first | refine bn ?_ _ | refine bd ?_ | refine ba ?_ _)); refine bR ?_ NB810_822.out _; (with_reducible repeat (first | refine bn ?_ _ | refine bd ?_ | refine ba ?_ _)); refine bR ?_ NB810_822.out _; (with_reducible repeat (first | refine bn ?_ _ | refine bd ?_ | refine ba ?_ _)); exact BK810.out) hb); have n13_ := aM (bB (g := gb816) (o := .cells #[.string t811, .slice Ao91 t812.length co91] 51 (0, 0)) (by (with_reducible repeat (first | refine bn ?_ _ | refine bd ?_ | refine ba ?_ _)); refine bR ?_ NB816_822.out _; (with_reducible repeat (first | refine bn ?_ _ | refine bd ?_ | refine ba ?_ _)); refine bR ?_ NB816_822.out _; (with_reducible repeat (first | refine bn ?_ _ | refine bd ?_ | refine ba ?_ _)); exact BK816.out) hb); have n14_ := aM (bB (g := gb822) (o := .cells #[.string t817, .slice Ao106 t818.length co106] 51 (0, 0)) (by (with_reducible repeat (first | refine bn ?_ _ | refine bd ?_ | refine ba ?_ _)); refine bU (cs := #[.string t817, .slice none 0 0]) ?_ 1 _ rfl; (with_reducible repeat (first | refine bn ?_ _ | refine bd ?_ | refine ba ?_ _)); refine bU (cs := #[.string (⟨#[]⟩ : ByteArray), .slice none 0 0]) ?_ 0 _ rfl; (with_reducible repeat (first | refine bn ?_ _ | refine bd ?_ | refine ba ?_ _)); exact BK822.out) hb); have n15_ := aM (bP (by repeat (first | (with_reducible first | exact HB.out | apply ea | apply en | apply ed | refine bs ?_ GE775.out | refine bs ?_ GE787.out | refine bs ?_ GE788.out | refine bs ?_ GE799.out | refine bs ?_ GE810.out | refine bs ?_ GE816.out | refine bs ?_ GE822.out) | exact HB.out)) hb); clear HO_788001; clear HO_789001; clear HO_800002; clear HO_800004; clear HO_811002; clear HO_811004; clear HO814; clear HO820; clear BK775; clear BK787; clear BK788; clear BK799; clear BK810; clear BK816; clear BK822; clear HB; have HO_788001 := n0_; have HO_789001 := n1_; have HO_800002 := n2_; have HO_800004 := n3_; have HO_811002 := n4_; have HO_811004 := n5_; have HO814 := n6_; have HO820 := n7_; have BK775 := n8_; have BK787 := n9_; have BK788 := n10_; have BK799 := n11_; have BK810 := n12_; have BK816 := n13_; have BK822 := n14_; have HB := n15_; clear n0_ n1_ n2_ n3_ n4_ n5_ n6_ n7_ n8_ n9_ n10_ n11_ n12_ n13_ n14_ n15_; (try clear hb); (try clear hb2); (try clear hk); (try clear hi); have hcz109_0 : w108.cell? ⟨gb799, 0, none⟩ = some (.int .i64 t789) := (bC BK799.out 0).trans rfl; have hcz109_1 : w108.cell? ⟨gb799, 1, none⟩ = some (.string t790) := (bC BK799.out 1).trans rfl; have hcz109_2 : w108.cell? ⟨gb799, 2, none⟩ = some (.slice Ao50 t791.length co50) := (bC BK799.out 2).trans rfl; have hcz109_3 : w108.cell? ⟨gb799, 3, none⟩ = some (.string t794) := (bC BK799.out 3).trans rfl; have hcz109_4 : w108.cell? ⟨gb799, 4, none⟩ = some (.slice Ao51 t795.length co51) := (bC BK799.out 4).trans rfl; have hfz109_0 := bF BK799.out 0; have hfz109_1 := bF BK799.out 1; have hfz109_2 := bF BK799.out 2; have hfz109_3 := bF BK799.out 3; have hfz109_4 := bF BK799.out 4; have hcz110_0 : w108.cell? ⟨gb810, 0, none⟩ = some (.int .i64 t800) := (bC BK810.out 0).trans rfl; have hcz110_1 : w108.cell? ⟨gb810, 1, none⟩ = some (.string t801) := (bC BK810.out 1).trans rfl; have hcz110_2 : w108.cell? ⟨gb810, 2, none⟩ = some (.slice Ao63 t802.length co63) := (bC BK810.out 2).trans rfl; have hcz110_3 : w108.cell? ⟨gb810, 3, none⟩ = some (.string t805) := (bC BK810.out 3).trans rfl; have hcz110_4 : w108.cell? ⟨gb810, 4, none⟩ = some (.slice Ao64 t806.length co64) := (bC BK810.out 4).trans rfl; have hfz110_0 := bF BK810.out 0; have hfz110_1 := bF BK810.out 1; have hfz110_2 := bF BK810.out 2; have hfz110_3 := bF BK810.out 3; have hfz110_4 := bF BK810.out 4))
              go_ret
              exact ⟨by first | rfl | (simp [errW_none, errW_some] <;> rfl) | (simp [*, errW_none, errW_some] <;> rfl), by repeat (first | (with_reducible first | exact HB.out | apply ea | apply en | apply ed | refine bs ?_ GE775.out | refine bs ?_ GE787.out | refine bs ?_ GE788.out | refine bs ?_ GE799.out | refine bs ?_ GE810.out | refine bs ?_ GE816.out | refine bs ?_ GE822.out) | exact HB.out)⟩
          · rw [if_neg c70] at H
            have c70b0 : (t821 == 0) = false := beq_eq_false_iff_ne.mpr c70
            have c70b1 : (t821 != 0) = true := bne_iff_ne.mpr c70
            obtain rfl := Option.some.inj H
            go_wp2
            go_ret
            exact ⟨by first | rfl | (simp [errW_none, errW_some] <;> rfl) | (simp [*, errW_none, errW_some] <;> rfl), by repeat (first | (with_reducible first | exact HB.out | apply ea | apply en | apply ed | refine bs ?_ GE775.out | refine bs ?_ GE787.out | refine bs ?_ GE788.out | refine bs ?_ GE799.out | refine bs ?_ GE810.out | refine bs ?_ GE816.out | refine bs ?_ GE822.out) | exact HB.out)⟩
        · rw [if_neg c69] at H
          have c69b0 : (t815 == 0) = false := beq_eq_false_iff_ne.mpr c69
          have c69b1 : (t815 != 0) = true := bne_iff_ne.mpr c69
          obtain rfl := Option.some.inj H
          go_wp2
          go_ret
          exact ⟨by first | rfl | (simp [errW_none, errW_some] <;> rfl) | (simp [*, errW_none, errW_some] <;> rfl), by repeat (first | (with_reducible first | exact HB.out | apply ea | apply en | apply ed | refine bs ?_ GE775.out | refine bs ?_ GE787.out | refine bs ?_ GE788.out | refine bs ?_ GE799.out | refine bs ?_ GE810.out | refine bs ?_ GE816.out | refine bs ?_ GE822.out) | exact HB.out)⟩
end Go.Proofs.Ythpjagblnddjaaa.PB
end
