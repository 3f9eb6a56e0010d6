/- What the row hangs on, part 6. -/
import Derived.Test.YthpjagblnddjaaaQEditHides5
section
namespace Go.Proofs.Ythpjagblnddjaaa.PB
open Go.RowKit Go.Proofs.YthpjagblnddjaaaW.PrintWords Go.Proofs.YthpjagblnddjaaaW.PrintLast Go.Proofs.YthpjagblnddjaaaW.PrintMore
attribute [local go_sem] max2_int min2_int max_two min_two max_three min_three max_four min_four   
theorem bn {w : World} {g : Nat} {o : Obj} (h : w.heap[g]? = some o) (n : Nat) : (w.drewN n).heap[g]? = some o := blk_drewN h n
theorem bd {w : World} {g : Nat} {o : Obj} (h : w.heap[g]? = some o) : w.drew.heap[g]? = some o := blk_drew h
theorem ba {w : World} {g : Nat} {o : Obj} (h : w.heap[g]? = some o) (o' : Obj) : (w.alloc o').heap[g]? = some o := blk_alloc h o'
theorem bs {w W : World} {g j : Nat} {v : Value} (h : Below w.heap.size w W) (hg : w.heap.size ≤ g) : Below w.heap.size w (W.setCell ⟨g, j, none⟩ v) := below_set h hg
def ehA : Code → Code
  | .seq a _ => a
  | c => c
def ehB : Code → Code
  | .seq _ b => b
  | c => c
noncomputable def ehRest : Code := ehB (ehB (ehB (Try.f16.body.getD .skip)))
set_option maxHeartbeats 8000000 in
set_option maxRecDepth 100000 in
theorem bureaulaw07_EditHides.rest (k kj4 : Nat) (HJ4 : Aside0 (kj4 + 1 ≤ k)) (a0_0 : ByteArray) (A0_1 : Option Addr) (c0_1 : Nat) (l0_1 : List (S100)) (a0_2 : ByteArray) (A0_3 : Option Addr) (c0_3 : Nat) (l0_3 : List (S100)) (a0_4 : ByteArray) (a0_5 a0_6 a0_7 a1 : Int) (r : Bool) (w wc : World) (gb296 : Nat)
    (HR0_1 : Aside0 (Kd.C k100 w A0_1 l0_1.length l0_1)) (HC0_1 : Aside0 (l0_1.length ≤ c0_1)) (HR0_3 : Aside0 (Kd.C k100 w A0_3 l0_3.length l0_3)) (HC0_3 : Aside0 (l0_3.length ≤ c0_3)) (GW296 GE296 : Aside0 (w.heap.size ≤ gb296))
    (BK296 : Aside0 (wc.heap[gb296]? = some (.cells #[.string a0_0, .slice A0_1 l0_1.length c0_1, .string a0_2, .slice A0_3 l0_3.length c0_3, .string a0_4, .int .i64 a0_5, .int .i64 a0_6, .int .u64 a0_7] 77 (0, 0)))) (HB : Aside0 (Below w.heap.size w wc))
    (H : ((bureauref04_Other.f kj4 a0_0 l0_1 a1 a0_4).bind fun bt300 => ((bureauref04_Other.f kj4 a0_2 l0_3 a1 a0_4).bind fun bt304 => ((edit_Of.f kj4 a0_0 l0_1 a0_5 a0_6 a0_2 l0_3).bind fun bt310 => ((edit_Of.f kj4 bt300.1 bt300.2 a0_5 a0_6 bt304.1 bt304.2).bind fun bt321 => (if bt310.2.2.2.2.2 = 0 then (bureaulaw07_EditHides.j1 kj4 a1 bt310.2.2.2.2.2 bt321.2.2.2.2.2 (bt321.2.2.2.2.2 != 0) a0_0 l0_1 a0_2 l0_3 a0_4 a0_5 a0_6 a0_7 bt300.1 bt300.2 bt310.1 bt310.2.1 bt310.2.2.1 bt310.2.2.2.1 bt310.2.2.2.2.1 bt321.1 bt321.2.1 bt321.2.2.1 bt321.2.2.2.1 bt321.2.2.2.2.1) else (bureaulaw07_EditHides.j1 kj4 a1 bt310.2.2.2.2.2 bt321.2.2.2.2.2 true a0_0 l0_1 a0_2 l0_3 a0_4 a0_5 a0_6 a0_7 bt300.1 bt300.2 bt310.1 bt310.2.1 bt310.2.2.1 bt310.2.2.2.1 bt310.2.2.2.2.1 bt321.1 bt321.2.1 bt321.2.2.1 bt321.2.2.2.1 bt321.2.2.2.2.1)))))) = some r)
    (K2 : Act → World → Prop) (hK2 : ∀ a w0, Code.wp Try.prog (ehB ehRest) (bodyPost Try.prog Try.f16 fun e w' => e = .returned (.bool r) ∧ Below w.heap.size w w') a w0 → K2 a w0) (u15 u16 u17 u18 u19 u20 u21 u22 u23 u24 u25 u26 u27 u28 u29 u30 u31 u33 u34 u35 u36 u37 u38 u39 u40 u41 u42 u43 u44 u45 u46 u47 u48 u49 u50 u51 u52 u53 u54 u55 u56 u57 u58 u59 u60 u61 u62 u63 u64 u65 u66 u67 u68 u69 u70 u71 u72 u73 u74 u75 u76 u77 u78 u79 u80 u81 u82 u83 u84 u85 u86 u87 u88 u89 u90 u91 u92 u93 u94 u95 u96 u97 u98 u99 u100 u101 u102 u103 u104 u105 u106 u107 u108 : Value) :
    Code.wp Try.prog (ehA ehRest) (Exit.then K2 (bodyPost Try.prog Try.f16 fun e w' => e = .returned (.bool r) ∧ Below w.heap.size w w')) ⟨#[.agg #[.string a0_0, .slice A0_1 l0_1.length c0_1, .string a0_2, .slice A0_3 l0_3.length c0_3, .string a0_4, .int .i64 a0_5, .int .i64 a0_6, .int .u64 a0_7], .int .u64 a1, .pointer (some ⟨gb296, 0, none⟩), undef, .bool false, undef, undef, undef, undef, undef, undef, undef, undef, undef, undef, u15, u16, u17, u18, u19, u20, u21, u22, u23, u24, u25, u26, u27, u28, u29, u30, u31, .bool false, u33, u34, u35, u36, u37, u38, u39, u40, u41, u42, u43, u44, u45, u46, u47, u48, u49, u50, u51, u52, u53, u54, u55, u56, u57, u58, u59, u60, u61, u62, u63, u64, u65, u66, u67, u68, u69, u70, u71, u72, u73, u74, u75, u76, u77, u78, u79, u80, u81, u82, u83, u84, u85, u86, u87, u88, u89, u90, u91, u92, u93, u94, u95, u96, u97, u98, u99, u100, u101, u102, u103, u104, u105, u106, u107, u108], []⟩ wc := by
  have hu77 := Try.underlying77
  have hu51 := Try.underlying51
  have hu64 := Try.underlying64
  conv at hK2 => enter [a, w0, 1, 2]; whnf
  conv => arg 2; whnf
  replace H := Option.bind_eq_some_iff.mp H
  obtain ⟨⟨t300, t301⟩, A240, H⟩ := H
  replace H : ((bureauref04_Other.f kj4 a0_2 l0_3 a1 a0_4).bind fun bt304 => ((edit_Of.f kj4 a0_0 l0_1 a0_5 a0_6 a0_2 l0_3).bind fun bt310 => ((edit_Of.f kj4 t300 t301 a0_5 a0_6 bt304.1 bt304.2).bind fun bt321 => (if bt310.2.2.2.2.2 = 0 then (bureaulaw07_EditHides.j1 kj4 a1 bt310.2.2.2.2.2 bt321.2.2.2.2.2 (bt321.2.2.2.2.2 != 0) a0_0 l0_1 a0_2 l0_3 a0_4 a0_5 a0_6 a0_7 t300 t301 bt310.1 bt310.2.1 bt310.2.2.1 bt310.2.2.2.1 bt310.2.2.2.2.1 bt321.1 bt321.2.1 bt321.2.2.1 bt321.2.2.2.1 bt321.2.2.2.2.1) else (bureaulaw07_EditHides.j1 kj4 a1 bt310.2.2.2.2.2 bt321.2.2.2.2.2 true a0_0 l0_1 a0_2 l0_3 a0_4 a0_5 a0_6 a0_7 t300 t301 bt310.1 bt310.2.1 bt310.2.2.1 bt310.2.2.2.1 bt310.2.2.2.2.1 bt321.1 bt321.2.1 bt321.2.2.1 bt321.2.2.2.1 bt321.2.2.2.2.1))))) = some r := H
  have A24 := aM A240
  clear A240
  replace H := Option.bind_eq_some_iff.mp H
  obtain ⟨⟨t304, t305⟩, A250, H⟩ := H
  replace H : ((edit_Of.f kj4 a0_0 l0_1 a0_5 a0_6 a0_2 l0_3).bind fun bt310 => ((edit_Of.f kj4 t300 t301 a0_5 a0_6 t304 t305).bind fun bt321 => (if bt310.2.2.2.2.2 = 0 then (bureaulaw07_EditHides.j1 kj4 a1 bt310.2.2.2.2.2 bt321.2.2.2.2.2 (bt321.2.2.2.2.2 != 0) a0_0 l0_1 a0_2 l0_3 a0_4 a0_5 a0_6 a0_7 t300 t301 bt310.1 bt310.2.1 bt310.2.2.1 bt310.2.2.2.1 bt310.2.2.2.2.1 bt321.1 bt321.2.1 bt321.2.2.1 bt321.2.2.2.1 bt321.2.2.2.2.1) else (bureaulaw07_EditHides.j1 kj4 a1 bt310.2.2.2.2.2 bt321.2.2.2.2.2 true a0_0 l0_1 a0_2 l0_3 a0_4 a0_5 a0_6 a0_7 t300 t301 bt310.1 bt310.2.1 bt310.2.2.1 bt310.2.2.2.1 bt310.2.2.2.2.1 bt321.1 bt321.2.1 bt321.2.2.1 bt321.2.2.2.1 bt321.2.2.2.2.1)))) = some r := H
  have A25 := aM A250
  clear A250
  replace H := Option.bind_eq_some_iff.mp H
  obtain ⟨⟨t310, t311, t312, t315, t316, t319⟩, A260, H⟩ := H
  replace H : ((edit_Of.f kj4 t300 t301 a0_5 a0_6 t304 t305).bind fun bt321 => (if t319 = 0 then (bureaulaw07_EditHides.j1 kj4 a1 t319 bt321.2.2.2.2.2 (bt321.2.2.2.2.2 != 0) a0_0 l0_1 a0_2 l0_3 a0_4 a0_5 a0_6 a0_7 t300 t301 t310 t311 t312 t315 t316 bt321.1 bt321.2.1 bt321.2.2.1 bt321.2.2.2.1 bt321.2.2.2.2.1) else (bureaulaw07_EditHides.j1 kj4 a1 t319 bt321.2.2.2.2.2 true a0_0 l0_1 a0_2 l0_3 a0_4 a0_5 a0_6 a0_7 t300 t301 t310 t311 t312 t315 t316 bt321.1 bt321.2.1 bt321.2.2.1 bt321.2.2.2.1 bt321.2.2.2.2.1))) = some r := H
  have A26 := aM A260
  clear A260
  replace H := Option.bind_eq_some_iff.mp H
  obtain ⟨⟨t321, t322, t323, t326, t327, t330⟩, A270, H⟩ := H
  replace H : (if t319 = 0 then (bureaulaw07_EditHides.j1 kj4 a1 t319 t330 (t330 != 0) a0_0 l0_1 a0_2 l0_3 a0_4 a0_5 a0_6 a0_7 t300 t301 t310 t311 t312 t315 t316 t321 t322 t323 t326 t327) else (bureaulaw07_EditHides.j1 kj4 a1 t319 t330 true a0_0 l0_1 a0_2 l0_3 a0_4 a0_5 a0_6 a0_7 t300 t301 t310 t311 t312 t315 t316 t321 t322 t323 t326 t327)) = some r := H
  have A27 := aM A270
  clear A270
  have HC28 := aM H
  clear H
  try go_wp2
  have n0_ := aM (blk_drew BK296.out)
  have n1_ := aM (below_drew1 HB.out)
  clear BK296
  clear HB
  have BK296 := n0_
  have HB := n1_
  clear n0_ n1_
  refine start_ (n := 16) (S := fun w' => w'.cell? ⟨gb296, 0, none⟩ = some (.string a0_0) ∧ w'.cell? ⟨gb296, 1, none⟩ = some (.slice A0_1 l0_1.length c0_1) ∧ w'.cell? ⟨gb296, 2, none⟩ = some (.string a0_2) ∧ w'.cell? ⟨gb296, 3, none⟩ = some (.slice A0_3 l0_3.length c0_3) ∧ w'.cell? ⟨gb296, 4, none⟩ = some (.string a0_4) ∧ w'.cell? ⟨gb296, 5, none⟩ = some (.int .i64 a0_5) ∧ w'.cell? ⟨gb296, 6, none⟩ = some (.int .i64 a0_6) ∧ w'.cell? ⟨gb296, 7, none⟩ = some (.int .u64 a0_7)) (ds := []) #[false, false, false, false, false, false, false, false, false, false, false, false, false, false, false, false] (by kernel_rfl) rfl rfl ⟨(bC BK296.out 0).trans rfl, (bC BK296.out 1).trans rfl, (bC BK296.out 2).trans rfl, (bC BK296.out 3).trans rfl, (bC BK296.out 4).trans rfl, (bC BK296.out 5).trans rfl, (bC BK296.out 6).trans rfl, (bC BK296.out 7).trans rfl⟩ (fun hHeld => ?_); refine with_tabW bureaulaw07_EditHides.tab5 bureaulaw07_EditHides.bits5 (fun HT_ HW_ => ?_)
  generalize wc.drew = w29 at BK296 HB hHeld ⊢
  refine pure_ (i := 0) (N := some 33) (v := ?_) (a' := ?_) #[true, false, false, false, false, false, false, false, false, false, false, false, false, false, false, false] rfl rfl (any_of HT_.out (by kernel_rfl)) (fun _ _ _ h => h) (Or.inl ⟨by rfl, ?_⟩) ?_ ?_
  rotate_left
  · intro w'
    go_simp
    with_reducible rfl
  rotate_left
  · simp only [Act.put, List.setIfInBounds_toArray, List.set_cons_zero, List.set_cons_succ, i64_w, i32_w]
    rfl
  refine pure_ (i := 2) (N := some 35) (v := ?_) (a' := ?_) #[true, false, true, false, false, false, false, false, false, false, false, false, false, false, false, false] rfl rfl (any_of HT_.out (by kernel_rfl)) (fun _ _ _ h => h) (Or.inl ⟨by rfl, ?_⟩) ?_ ?_
  rotate_left
  · intro w'
    go_simp
    with_reducible rfl
  rotate_left
  · simp only [Act.put, List.setIfInBounds_toArray, List.set_cons_zero, List.set_cons_succ, i64_w, i32_w]
    rfl
  refine pure_ (i := 3) (N := some 36) (v := ?_) (a' := ?_) #[true, false, true, true, false, false, false, false, false, false, false, false, false, false, false, false] rfl rfl (any_of HT_.out (by kernel_rfl)) (fun _ _ _ h => h) (Or.inl ⟨by rfl, ?_⟩) ?_ ?_
  rotate_left
  · intro w'
    go_simp
    with_reducible rfl
  rotate_left
  · simp only [Act.put, List.setIfInBounds_toArray, List.set_cons_zero, List.set_cons_succ, i64_w, i32_w]
    rfl
  refine pure_ (i := 6) (N := some 39) (v := ?_) (a' := ?_) #[true, false, true, true, false, false, true, false, false, false, false, false, false, false, false, false] rfl rfl (any_of HT_.out (by kernel_rfl)) (fun _ _ _ h => h) (Or.inl ⟨by rfl, ?_⟩) ?_ ?_
  rotate_left
  · intro w'
    go_simp
    with_reducible rfl
  rotate_left
  · simp only [Act.put, List.setIfInBounds_toArray, List.set_cons_zero, List.set_cons_succ, i64_w, i32_w]
    rfl
  refine pure_ (i := 8) (N := some 41) (v := ?_) (a' := ?_) #[true, false, true, true, false, false, true, false, true, false, false, false, false, false, false, false] rfl rfl (any_of HT_.out (by kernel_rfl)) (fun _ _ _ h => h) (Or.inl ⟨by rfl, ?_⟩) ?_ ?_
  rotate_left
  · intro w'
    go_simp
    with_reducible rfl
  rotate_left
  · simp only [Act.put, List.setIfInBounds_toArray, List.set_cons_zero, List.set_cons_succ, i64_w, i32_w]
    rfl
  refine pure_ (i := 9) (N := some 42) (v := ?_) (a' := ?_) #[true, false, true, true, false, false, true, false, true, true, false, false, false, false, false, false] rfl rfl (any_of HT_.out (by kernel_rfl)) (fun _ _ _ h => h) (Or.inl ⟨by rfl, ?_⟩) ?_ ?_
  rotate_left
  · intro w'
    go_simp
    with_reducible rfl
  rotate_left
  · simp only [Act.put, List.setIfInBounds_toArray, List.set_cons_zero, List.set_cons_succ, i64_w, i32_w]
    rfl
  refine take_ (i := 1) (N := some 34) (v := ?_) (a' := ?_) #[true, true, true, true, false, false, true, false, true, true, false, false, false, false, false, false] rfl rfl (take_ofW HT_.out HW_.out (by kernel_rfl)) (fun _ _ _ h => h) (Or.inl ⟨by rfl, ?_⟩) hHeld ?_ ?_
  rotate_left
  · rintro w' ⟨s0, s1, s2, s3, s4, s5, s6, s7⟩
    go_simp
    with_reducible rfl
  rotate_left
  · simp only [Act.put, List.setIfInBounds_toArray, List.set_cons_zero, List.set_cons_succ, i64_w, i32_w]
    rfl
  refine take_ (i := 4) (N := some 37) (v := ?_) (a' := ?_) #[true, true, true, true, true, false, true, false, true, true, false, false, false, false, false, false] rfl rfl (take_ofW HT_.out HW_.out (by kernel_rfl)) (fun _ _ _ h => h) (Or.inl ⟨by rfl, ?_⟩) hHeld ?_ ?_
  rotate_left
  · rintro w' ⟨s0, s1, s2, s3, s4, s5, s6, s7⟩
    go_simp
    with_reducible rfl
  rotate_left
  · simp only [Act.put, List.setIfInBounds_toArray, List.set_cons_zero, List.set_cons_succ, i64_w, i32_w]
    rfl
  refine take_ (i := 7) (N := some 40) (v := ?_) (a' := ?_) #[true, true, true, true, true, false, true, true, true, true, false, false, false, false, false, false] rfl rfl (take_ofW HT_.out HW_.out (by kernel_rfl)) (fun _ _ _ h => h) (Or.inl ⟨by rfl, ?_⟩) hHeld ?_ ?_
  rotate_left
  · rintro w' ⟨s0, s1, s2, s3, s4, s5, s6, s7⟩
    go_simp
    with_reducible rfl
  rotate_left
  · simp only [Act.put, List.setIfInBounds_toArray, List.set_cons_zero, List.set_cons_succ, i64_w, i32_w]
    rfl
  refine take_ (i := 10) (N := some 43) (v := ?_) (a' := ?_) #[true, true, true, true, true, false, true, true, true, true, true, false, false, false, false, false] rfl rfl (take_ofW HT_.out HW_.out (by kernel_rfl)) (fun _ _ _ h => h) (Or.inl ⟨by rfl, ?_⟩) hHeld ?_ ?_
  rotate_left
  · rintro w' ⟨s0, s1, s2, s3, s4, s5, s6, s7⟩
    go_simp
    with_reducible rfl
  rotate_left
  · simp only [Act.put, List.setIfInBounds_toArray, List.set_cons_zero, List.set_cons_succ, i64_w, i32_w]
    rfl
  refine join_ (σ := Value × Value × Nat × Nat) 2 #[true, true, true, true, true, true, true, true, true, true, true, true, true, true, false, false] (fun s_ => [(38, .agg #[.string t300, s_.1]), (44, .agg #[.string t304, s_.2.1]), (5, .pointer (some ⟨s_.2.2.1, 0, none⟩)), (6, .pointer (some ⟨s_.2.2.2, 0, none⟩))]) (fun s_ w' => (w'.cell? ⟨gb296, 0, none⟩ = some (.string a0_0) ∧ w'.cell? ⟨gb296, 1, none⟩ = some (.slice A0_1 l0_1.length c0_1) ∧ w'.cell? ⟨gb296, 2, none⟩ = some (.string a0_2) ∧ w'.cell? ⟨gb296, 3, none⟩ = some (.slice A0_3 l0_3.length c0_3) ∧ w'.cell? ⟨gb296, 4, none⟩ = some (.string a0_4) ∧ w'.cell? ⟨gb296, 5, none⟩ = some (.int .i64 a0_5) ∧ w'.cell? ⟨gb296, 6, none⟩ = some (.int .i64 a0_6) ∧ w'.cell? ⟨gb296, 7, none⟩ = some (.int .u64 a0_7)) ∧ (Kd.V k100 100 w' w.heap.size (fun k_ => k_ ≠ gb296 ∧ k_ ≠ s_.2.2.1 ∧ k_ ≠ s_.2.2.2) s_.1 t301) ∧ (Kd.V k100 100 w' w.heap.size (fun k_ => k_ ≠ gb296 ∧ k_ ≠ s_.2.2.1 ∧ k_ ≠ s_.2.2.2) s_.2.1 t305) ∧ (w'.heap[gb296]? = some (.cells #[.string a0_0, .slice A0_1 l0_1.length c0_1, .string a0_2, .slice A0_3 l0_3.length c0_3, .string a0_4, .int .i64 a0_5, .int .i64 a0_6, .int .u64 a0_7] 77 (0, 0))) ∧ (w'.heap[s_.2.2.1]? = some (.cells #[.string (⟨#[]⟩ : ByteArray), .slice none 0 0] 51 (0, 0))) ∧ (w'.heap[s_.2.2.2]? = some (.cells #[.string (⟨#[]⟩ : ByteArray), .slice none 0 0] 51 (0, 0))) ∧ (w.heap.size ≤ s_.2.2.1) ∧ (w.heap.size ≤ s_.2.2.1) ∧ (gb296 ≠ s_.2.2.1) ∧ (s_.2.2.1 ≠ gb296) ∧ (s_.2.2.2 ≠ s_.2.2.1) ∧ (s_.2.2.1 ≠ s_.2.2.2) ∧ (w.heap.size ≤ s_.2.2.2) ∧ (w.heap.size ≤ s_.2.2.2) ∧ (gb296 ≠ s_.2.2.2) ∧ (s_.2.2.2 ≠ gb296) ∧ (Below w.heap.size w w')) ?_ ?_
  rotate_left
  · intro hJ5_11_12_13
    refine join_ (σ := Value × Value × Nat) 3 #[true, true, true, true, true, true, true, true, true, true, true, true, true, false, false, false] (fun s_ => [(38, .agg #[.string t300, s_.1]), (44, .agg #[.string t304, s_.2.1]), (5, .pointer (some ⟨s_.2.2, 0, none⟩))]) (fun s_ w' => (w'.cell? ⟨gb296, 0, none⟩ = some (.string a0_0) ∧ w'.cell? ⟨gb296, 1, none⟩ = some (.slice A0_1 l0_1.length c0_1) ∧ w'.cell? ⟨gb296, 2, none⟩ = some (.string a0_2) ∧ w'.cell? ⟨gb296, 3, none⟩ = some (.slice A0_3 l0_3.length c0_3) ∧ w'.cell? ⟨gb296, 4, none⟩ = some (.string a0_4) ∧ w'.cell? ⟨gb296, 5, none⟩ = some (.int .i64 a0_5) ∧ w'.cell? ⟨gb296, 6, none⟩ = some (.int .i64 a0_6) ∧ w'.cell? ⟨gb296, 7, none⟩ = some (.int .u64 a0_7)) ∧ (Kd.V k100 100 w' w.heap.size (fun k_ => k_ ≠ gb296 ∧ k_ ≠ s_.2.2) s_.1 t301) ∧ (Kd.V k100 100 w' w.heap.size (fun k_ => k_ ≠ gb296 ∧ k_ ≠ s_.2.2) s_.2.1 t305) ∧ (w'.heap[gb296]? = some (.cells #[.string a0_0, .slice A0_1 l0_1.length c0_1, .string a0_2, .slice A0_3 l0_3.length c0_3, .string a0_4, .int .i64 a0_5, .int .i64 a0_6, .int .u64 a0_7] 77 (0, 0))) ∧ (w'.heap[s_.2.2]? = some (.cells #[.string (⟨#[]⟩ : ByteArray), .slice none 0 0] 51 (0, 0))) ∧ (w.heap.size ≤ s_.2.2) ∧ (w.heap.size ≤ s_.2.2) ∧ (gb296 ≠ s_.2.2) ∧ (s_.2.2 ≠ gb296) ∧ (Below w.heap.size w w')) ?_ ?_
    rotate_left
    · intro hJ5_11_12
      refine join_ (σ := Value × Value × Nat) 3 #[true, true, true, true, true, true, true, true, true, true, true, true, false, true, false, false] (fun s_ => [(38, .agg #[.string t300, s_.1]), (44, .agg #[.string t304, s_.2.1]), (6, .pointer (some ⟨s_.2.2, 0, none⟩))]) (fun s_ w' => (w'.cell? ⟨gb296, 0, none⟩ = some (.string a0_0) ∧ w'.cell? ⟨gb296, 1, none⟩ = some (.slice A0_1 l0_1.length c0_1) ∧ w'.cell? ⟨gb296, 2, none⟩ = some (.string a0_2) ∧ w'.cell? ⟨gb296, 3, none⟩ = some (.slice A0_3 l0_3.length c0_3) ∧ w'.cell? ⟨gb296, 4, none⟩ = some (.string a0_4) ∧ w'.cell? ⟨gb296, 5, none⟩ = some (.int .i64 a0_5) ∧ w'.cell? ⟨gb296, 6, none⟩ = some (.int .i64 a0_6) ∧ w'.cell? ⟨gb296, 7, none⟩ = some (.int .u64 a0_7)) ∧ (Kd.V k100 100 w' w.heap.size (fun k_ => k_ ≠ gb296 ∧ k_ ≠ s_.2.2) s_.1 t301) ∧ (Kd.V k100 100 w' w.heap.size (fun k_ => k_ ≠ gb296 ∧ k_ ≠ s_.2.2) s_.2.1 t305) ∧ (w'.heap[gb296]? = some (.cells #[.string a0_0, .slice A0_1 l0_1.length c0_1, .string a0_2, .slice A0_3 l0_3.length c0_3, .string a0_4, .int .i64 a0_5, .int .i64 a0_6, .int .u64 a0_7] 77 (0, 0))) ∧ (w'.heap[s_.2.2]? = some (.cells #[.string (⟨#[]⟩ : ByteArray), .slice none 0 0] 51 (0, 0))) ∧ (w.heap.size ≤ s_.2.2) ∧ (w.heap.size ≤ s_.2.2) ∧ (gb296 ≠ s_.2.2) ∧ (s_.2.2 ≠ gb296) ∧ (Below w.heap.size w w')) ?_ ?_
      rotate_left
      · intro hJ5_11_13
        refine join_ (σ := Value × Nat × Nat) 3 #[true, true, true, true, true, true, true, true, true, true, true, false, true, true, false, false] (fun s_ => [(38, .agg #[.string t300, s_.1]), (5, .pointer (some ⟨s_.2.1, 0, none⟩)), (6, .pointer (some ⟨s_.2.2, 0, none⟩))]) (fun s_ w' => (w'.cell? ⟨gb296, 0, none⟩ = some (.string a0_0) ∧ w'.cell? ⟨gb296, 1, none⟩ = some (.slice A0_1 l0_1.length c0_1) ∧ w'.cell? ⟨gb296, 2, none⟩ = some (.string a0_2) ∧ w'.cell? ⟨gb296, 3, none⟩ = some (.slice A0_3 l0_3.length c0_3) ∧ w'.cell? ⟨gb296, 4, none⟩ = some (.string a0_4) ∧ w'.cell? ⟨gb296, 5, none⟩ = some (.int .i64 a0_5) ∧ w'.cell? ⟨gb296, 6, none⟩ = some (.int .i64 a0_6) ∧ w'.cell? ⟨gb296, 7, none⟩ = some (.int .u64 a0_7)) ∧ (Kd.V k100 100 w' w.heap.size (fun k_ => k_ ≠ gb296 ∧ k_ ≠ s_.2.1 ∧ k_ ≠ s_.2.2) s_.1 t301) ∧ (w'.heap[gb296]? = some (.cells #[.string a0_0, .slice A0_1 l0_1.length c0_1, .string a0_2, .slice A0_3 l0_3.length c0_3, .string a0_4, .int .i64 a0_5, .int .i64 a0_6, .int .u64 a0_7] 77 (0, 0))) ∧ (w'.heap[s_.2.1]? = some (.cells #[.string (⟨#[]⟩ : ByteArray), .slice none 0 0] 51 (0, 0))) ∧ (w'.heap[s_.2.2]? = some (.cells #[.string (⟨#[]⟩ : ByteArray), .slice none 0 0] 51 (0, 0))) ∧ (w.heap.size ≤ s_.2.1) ∧ (w.heap.size ≤ s_.2.1) ∧ (gb296 ≠ s_.2.1) ∧ (s_.2.1 ≠ gb296) ∧ (s_.2.2 ≠ s_.2.1) ∧ (s_.2.1 ≠ s_.2.2) ∧ (w.heap.size ≤ s_.2.2) ∧ (w.heap.size ≤ s_.2.2) ∧ (gb296 ≠ s_.2.2) ∧ (s_.2.2 ≠ gb296) ∧ (Below w.heap.size w w')) ?_ ?_
        rotate_left
        · intro hJ5_12_13
          refine join_ (σ := Value × Value) 4 #[true, true, true, true, true, true, true, true, true, true, true, true, false, false, false, false] (fun s_ => [(38, .agg #[.string t300, s_.1]), (44, .agg #[.string t304, s_.2])]) (fun s_ w' => (w'.cell? ⟨gb296, 0, none⟩ = some (.string a0_0) ∧ w'.cell? ⟨gb296, 1, none⟩ = some (.slice A0_1 l0_1.length c0_1) ∧ w'.cell? ⟨gb296, 2, none⟩ = some (.string a0_2) ∧ w'.cell? ⟨gb296, 3, none⟩ = some (.slice A0_3 l0_3.length c0_3) ∧ w'.cell? ⟨gb296, 4, none⟩ = some (.string a0_4) ∧ w'.cell? ⟨gb296, 5, none⟩ = some (.int .i64 a0_5) ∧ w'.cell? ⟨gb296, 6, none⟩ = some (.int .i64 a0_6) ∧ w'.cell? ⟨gb296, 7, none⟩ = some (.int .u64 a0_7)) ∧ (Kd.V k100 100 w' w.heap.size (fun k_ => k_ ≠ gb296) s_.1 t301) ∧ (Kd.V k100 100 w' w.heap.size (fun k_ => k_ ≠ gb296) s_.2 t305) ∧ (w'.heap[gb296]? = some (.cells #[.string a0_0, .slice A0_1 l0_1.length c0_1, .string a0_2, .slice A0_3 l0_3.length c0_3, .string a0_4, .int .i64 a0_5, .int .i64 a0_6, .int .u64 a0_7] 77 (0, 0))) ∧ (Below w.heap.size w w')) ?_ ?_
          rotate_left
          · intro hJ5_11
            refine join_ (σ := Value × Nat) 4 #[true, true, true, true, true, true, true, true, true, true, true, false, true, false, false, false] (fun s_ => [(38, .agg #[.string t300, s_.1]), (5, .pointer (some ⟨s_.2, 0, none⟩))]) (fun s_ w' => (w'.cell? ⟨gb296, 0, none⟩ = some (.string a0_0) ∧ w'.cell? ⟨gb296, 1, none⟩ = some (.slice A0_1 l0_1.length c0_1) ∧ w'.cell? ⟨gb296, 2, none⟩ = some (.string a0_2) ∧ w'.cell? ⟨gb296, 3, none⟩ = some (.slice A0_3 l0_3.length c0_3) ∧ w'.cell? ⟨gb296, 4, none⟩ = some (.string a0_4) ∧ w'.cell? ⟨gb296, 5, none⟩ = some (.int .i64 a0_5) ∧ w'.cell? ⟨gb296, 6, none⟩ = some (.int .i64 a0_6) ∧ w'.cell? ⟨gb296, 7, none⟩ = some (.int .u64 a0_7)) ∧ (Kd.V k100 100 w' w.heap.size (fun k_ => k_ ≠ gb296 ∧ k_ ≠ s_.2) s_.1 t301) ∧ (w'.heap[gb296]? = some (.cells #[.string a0_0, .slice A0_1 l0_1.length c0_1, .string a0_2, .slice A0_3 l0_3.length c0_3, .string a0_4, .int .i64 a0_5, .int .i64 a0_6, .int .u64 a0_7] 77 (0, 0))) ∧ (w'.heap[s_.2]? = some (.cells #[.string (⟨#[]⟩ : ByteArray), .slice none 0 0] 51 (0, 0))) ∧ (w.heap.size ≤ s_.2) ∧ (w.heap.size ≤ s_.2) ∧ (gb296 ≠ s_.2) ∧ (s_.2 ≠ gb296) ∧ (Below w.heap.size w w')) ?_ ?_
            rotate_left
            · intro hJ5_12
              refine join_ (σ := Value × Nat) 4 #[true, true, true, true, true, true, true, true, true, true, true, false, false, true, false, false] (fun s_ => [(38, .agg #[.string t300, s_.1]), (6, .pointer (some ⟨s_.2, 0, none⟩))]) (fun s_ w' => (w'.cell? ⟨gb296, 0, none⟩ = some (.string a0_0) ∧ w'.cell? ⟨gb296, 1, none⟩ = some (.slice A0_1 l0_1.length c0_1) ∧ w'.cell? ⟨gb296, 2, none⟩ = some (.string a0_2) ∧ w'.cell? ⟨gb296, 3, none⟩ = some (.slice A0_3 l0_3.length c0_3) ∧ w'.cell? ⟨gb296, 4, none⟩ = some (.string a0_4) ∧ w'.cell? ⟨gb296, 5, none⟩ = some (.int .i64 a0_5) ∧ w'.cell? ⟨gb296, 6, none⟩ = some (.int .i64 a0_6) ∧ w'.cell? ⟨gb296, 7, none⟩ = some (.int .u64 a0_7)) ∧ (Kd.V k100 100 w' w.heap.size (fun k_ => k_ ≠ gb296 ∧ k_ ≠ s_.2) s_.1 t301) ∧ (w'.heap[gb296]? = some (.cells #[.string a0_0, .slice A0_1 l0_1.length c0_1, .string a0_2, .slice A0_3 l0_3.length c0_3, .string a0_4, .int .i64 a0_5, .int .i64 a0_6, .int .u64 a0_7] 77 (0, 0))) ∧ (w'.heap[s_.2]? = some (.cells #[.string (⟨#[]⟩ : ByteArray), .slice none 0 0] 51 (0, 0))) ∧ (w.heap.size ≤ s_.2) ∧ (w.heap.size ≤ s_.2) ∧ (gb296 ≠ s_.2) ∧ (s_.2 ≠ gb296) ∧ (Below w.heap.size w w')) ?_ ?_
              rotate_left
              · intro hJ5_13
                refine join_ (σ := Nat × Nat) 4 #[true, true, true, true, true, false, true, true, true, true, true, false, true, true, false, false] (fun s_ => [(5, .pointer (some ⟨s_.1, 0, none⟩)), (6, .pointer (some ⟨s_.2, 0, none⟩))]) (fun s_ w' => (w'.cell? ⟨gb296, 0, none⟩ = some (.string a0_0) ∧ w'.cell? ⟨gb296, 1, none⟩ = some (.slice A0_1 l0_1.length c0_1) ∧ w'.cell? ⟨gb296, 2, none⟩ = some (.string a0_2) ∧ w'.cell? ⟨gb296, 3, none⟩ = some (.slice A0_3 l0_3.length c0_3) ∧ w'.cell? ⟨gb296, 4, none⟩ = some (.string a0_4) ∧ w'.cell? ⟨gb296, 5, none⟩ = some (.int .i64 a0_5) ∧ w'.cell? ⟨gb296, 6, none⟩ = some (.int .i64 a0_6) ∧ w'.cell? ⟨gb296, 7, none⟩ = some (.int .u64 a0_7)) ∧ (w'.heap[gb296]? = some (.cells #[.string a0_0, .slice A0_1 l0_1.length c0_1, .string a0_2, .slice A0_3 l0_3.length c0_3, .string a0_4, .int .i64 a0_5, .int .i64 a0_6, .int .u64 a0_7] 77 (0, 0))) ∧ (w'.heap[s_.1]? = some (.cells #[.string (⟨#[]⟩ : ByteArray), .slice none 0 0] 51 (0, 0))) ∧ (w'.heap[s_.2]? = some (.cells #[.string (⟨#[]⟩ : ByteArray), .slice none 0 0] 51 (0, 0))) ∧ (w.heap.size ≤ s_.1) ∧ (w.heap.size ≤ s_.1) ∧ (gb296 ≠ s_.1) ∧ (s_.1 ≠ gb296) ∧ (s_.2 ≠ s_.1) ∧ (s_.1 ≠ s_.2) ∧ (w.heap.size ≤ s_.2) ∧ (w.heap.size ≤ s_.2) ∧ (gb296 ≠ s_.2) ∧ (s_.2 ≠ gb296) ∧ (Below w.heap.size w w')) ?_ ?_
                rotate_left
                · intro hJ12_13
                  refine join_ (σ := Value) 5 #[true, true, true, true, true, true, true, true, true, true, true, false, false, false, false, false] (fun s_ => [(38, .agg #[.string t300, s_])]) (fun s_ w' => (w'.cell? ⟨gb296, 0, none⟩ = some (.string a0_0) ∧ w'.cell? ⟨gb296, 1, none⟩ = some (.slice A0_1 l0_1.length c0_1) ∧ w'.cell? ⟨gb296, 2, none⟩ = some (.string a0_2) ∧ w'.cell? ⟨gb296, 3, none⟩ = some (.slice A0_3 l0_3.length c0_3) ∧ w'.cell? ⟨gb296, 4, none⟩ = some (.string a0_4) ∧ w'.cell? ⟨gb296, 5, none⟩ = some (.int .i64 a0_5) ∧ w'.cell? ⟨gb296, 6, none⟩ = some (.int .i64 a0_6) ∧ w'.cell? ⟨gb296, 7, none⟩ = some (.int .u64 a0_7)) ∧ (Kd.V k100 100 w' w.heap.size (fun k_ => k_ ≠ gb296) s_ t301) ∧ (w'.heap[gb296]? = some (.cells #[.string a0_0, .slice A0_1 l0_1.length c0_1, .string a0_2, .slice A0_3 l0_3.length c0_3, .string a0_4, .int .i64 a0_5, .int .i64 a0_6, .int .u64 a0_7] 77 (0, 0))) ∧ (Below w.heap.size w w')) ?_ ?_
                  rotate_left
                  · intro hJ5
                    refine join_ (σ := Nat) 5 #[true, true, true, true, true, false, true, true, true, true, true, false, true, false, false, false] (fun s_ => [(5, .pointer (some ⟨s_, 0, none⟩))]) (fun s_ w' => (w'.cell? ⟨gb296, 0, none⟩ = some (.string a0_0) ∧ w'.cell? ⟨gb296, 1, none⟩ = some (.slice A0_1 l0_1.length c0_1) ∧ w'.cell? ⟨gb296, 2, none⟩ = some (.string a0_2) ∧ w'.cell? ⟨gb296, 3, none⟩ = some (.slice A0_3 l0_3.length c0_3) ∧ w'.cell? ⟨gb296, 4, none⟩ = some (.string a0_4) ∧ w'.cell? ⟨gb296, 5, none⟩ = some (.int .i64 a0_5) ∧ w'.cell? ⟨gb296, 6, none⟩ = some (.int .i64 a0_6) ∧ w'.cell? ⟨gb296, 7, none⟩ = some (.int .u64 a0_7)) ∧ (w'.heap[gb296]? = some (.cells #[.string a0_0, .slice A0_1 l0_1.length c0_1, .string a0_2, .slice A0_3 l0_3.length c0_3, .string a0_4, .int .i64 a0_5, .int .i64 a0_6, .int .u64 a0_7] 77 (0, 0))) ∧ (w'.heap[s_]? = some (.cells #[.string (⟨#[]⟩ : ByteArray), .slice none 0 0] 51 (0, 0))) ∧ (w.heap.size ≤ s_) ∧ (w.heap.size ≤ s_) ∧ (gb296 ≠ s_) ∧ (s_ ≠ gb296) ∧ (Below w.heap.size w w')) ?_ ?_
                    rotate_left
                    · intro hJ12
                      refine join_ (σ := Nat) 5 #[true, true, true, true, true, false, true, true, true, true, true, false, false, true, false, false] (fun s_ => [(6, .pointer (some ⟨s_, 0, none⟩))]) (fun s_ w' => (w'.cell? ⟨gb296, 0, none⟩ = some (.string a0_0) ∧ w'.cell? ⟨gb296, 1, none⟩ = some (.slice A0_1 l0_1.length c0_1) ∧ w'.cell? ⟨gb296, 2, none⟩ = some (.string a0_2) ∧ w'.cell? ⟨gb296, 3, none⟩ = some (.slice A0_3 l0_3.length c0_3) ∧ w'.cell? ⟨gb296, 4, none⟩ = some (.string a0_4) ∧ w'.cell? ⟨gb296, 5, none⟩ = some (.int .i64 a0_5) ∧ w'.cell? ⟨gb296, 6, none⟩ = some (.int .i64 a0_6) ∧ w'.cell? ⟨gb296, 7, none⟩ = some (.int .u64 a0_7)) ∧ (w'.heap[gb296]? = some (.cells #[.string a0_0, .slice A0_1 l0_1.length c0_1, .string a0_2, .slice A0_3 l0_3.length c0_3, .string a0_4, .int .i64 a0_5, .int .i64 a0_6, .int .u64 a0_7] 77 (0, 0))) ∧ (w'.heap[s_]? = some (.cells #[.string (⟨#[]⟩ : ByteArray), .slice none 0 0] 51 (0, 0))) ∧ (w.heap.size ≤ s_) ∧ (w.heap.size ≤ s_) ∧ (gb296 ≠ s_) ∧ (s_ ≠ gb296) ∧ (Below w.heap.size w w')) ?_ ?_
                      rotate_left
                      · intro hJ13
                        refine three_ (i := 5) (j := 12) (k := 13) (Ni := some 38) (Nj := some 5) (Nk := some 6) #[true, true, true, true, true, true, true, true, true, true, true, false, false, false, false, false] #[true, true, true, true, true, false, true, true, true, true, true, false, true, false, false, false] #[true, true, true, true, true, false, true, true, true, true, true, false, false, true, false, false] rfl rfl rfl rfl rfl rfl (three_of HT_.out (by kernel_rfl)) (by decide) (by decide) (by decide) (fun K hK => ?_) (fun K hK => ?_) (fun K hK => ?_)
                        · skip
                          refine goes_ Try.func66 (by kernel_rfl) rfl #[.agg #[.string a0_0, .slice A0_1 l0_1.length c0_1], .int .u64 a1, .string a0_4] (by rfl) rfl rfl (by (try simp only [List.map_toArray, List.map_cons, List.map_nil]); first | done | rfl | (simp only [List.length_drop, List.length_take]; rfl)) ?_
                          with_reducible refine (bureauref04_Other.calls kj4 a0_0 (fun k_ => k_ < w.heap.size) _ _ l0_1 a1 a0_4 t300 t301 _ ?side1 A24.out).mono ?_
                          (case side1 => exact Kd.V_mk HC0_1.out (Kd.F_below (Kd.C_F k100_heap HR0_1.out) (by repeat (first | (with_reducible first | exact HB.out | apply ea | apply en | apply ed | refine bs ?_ GE296.out) | exact HB.out))))
                          rintro e w30 ⟨v302, rfl, ho0, hb⟩
                          refine ⟨_, rfl, ?_⟩
                          have n0_ := aM (Kd.V_lower (Kd.V_mono (ok' := fun k_ => k_ ≠ gb296) ho0 (fun k_ hk_ => Or.elim hk_ (fun hs_ => fun e_ => Nat.not_le.2 hs_ (by rw [e_]; exact GW296.out)) (fun hn_ => (Kd.freshB (g := gb296) (o := .cells #[.string a0_0, .slice A0_1 l0_1.length c0_1, .string a0_2, .slice A0_3 l0_3.length c0_3, .string a0_4, .int .i64 a0_5, .int .i64 a0_6, .int .u64 a0_7] 77 (0, 0)) (by (with_reducible repeat (first | refine bn ?_ _ | refine bd ?_ | refine ba ?_ _)); exact BK296.out) k_ hn_)))) (bZ (by repeat (first | (with_reducible first | exact HB.out | apply ea | apply en | apply ed | refine bs ?_ GE296.out) | exact HB.out))))
                          have n1_ := aM (bB (g := gb296) (o := .cells #[.string a0_0, .slice A0_1 l0_1.length c0_1, .string a0_2, .slice A0_3 l0_3.length c0_3, .string a0_4, .int .i64 a0_5, .int .i64 a0_6, .int .u64 a0_7] 77 (0, 0)) (by (with_reducible repeat (first | refine bn ?_ _ | refine bd ?_ | refine ba ?_ _)); exact BK296.out) hb)
                          have n2_ := aM (bP (by repeat (first | (with_reducible first | exact HB.out | apply ea | apply en | apply ed | refine bs ?_ GE296.out) | exact HB.out)) hb)
                          clear BK296
                          clear HB
                          have HO303 := n0_
                          have BK296 := n1_
                          have HB := n2_
                          clear n0_ n1_ n2_
                          (try clear hb)
                          (try clear hb2)
                          (try clear hk)
                          (try clear hi)
                          (try clear ho0)
                          refine hK.out _ _ ⟨(bC BK296.out 0).trans rfl, (bC BK296.out 1).trans rfl, (bC BK296.out 2).trans rfl, (bC BK296.out 3).trans rfl, (bC BK296.out 4).trans rfl, (bC BK296.out 5).trans rfl, (bC BK296.out 6).trans rfl, (bC BK296.out 7).trans rfl⟩ (fun hHeld => ?_)
                          clear hK K
                          refine norm_ (a' := ?_) ?_ ?_
                          rotate_left
                          · show Act.put _ (some 38) _ = _
                            simp only [Act.put, List.setIfInBounds_toArray, List.set_cons_zero, List.set_cons_succ, i64_w, i32_w]
                            rfl
                          exact norm_ (by first | (simp only [putAll, Act.put, List.setIfInBounds_toArray, List.set_cons_zero, List.set_cons_succ]; done) | (simp only [putAll, Act.put, List.setIfInBounds_toArray, List.set_cons_zero, List.set_cons_succ]; rfl)) (hJ5 (v302) _ ⟨hHeld, (by (with_reducible repeat (first | apply va | apply vn | apply vd)); exact HO303.out), (by (with_reducible repeat (first | refine bn ?_ _ | refine bd ?_ | refine ba ?_ _)); exact BK296.out), (by repeat (first | (with_reducible first | exact HB.out | apply ea | apply en | apply ed | refine bs ?_ GE296.out) | exact HB.out))⟩)
                        · skip
                          refine box_step ?hg (N := 5) ?hd (cs := #[.string (⟨#[]⟩ : ByteArray), .slice none 0 0]) (t := 51) ?hr ?_; (case hd => rfl); (case hg => rfl); (case hr => first | (go_simp; done) | (go_simp; rfl))
                          intro gb308 hg w30 hbox hb
                          have n0_ := aM (bB (g := gb296) (o := .cells #[.string a0_0, .slice A0_1 l0_1.length c0_1, .string a0_2, .slice A0_3 l0_3.length c0_3, .string a0_4, .int .i64 a0_5, .int .i64 a0_6, .int .u64 a0_7] 77 (0, 0)) (by (with_reducible repeat (first | refine bn ?_ _ | refine bd ?_ | refine ba ?_ _)); exact BK296.out) hb)
                          have n1_ := aM (bP (by repeat (first | (with_reducible first | exact HB.out | apply ea | apply en | apply ed | refine bs ?_ GE296.out) | exact HB.out)) hb)
                          have n2_ := aM (hbox)
                          have n3_ := aM ((by rw [hg]; exact (bZ (by repeat (first | (with_reducible first | exact HB.out | apply ea | apply en | apply ed | refine bs ?_ GE296.out) | exact HB.out))) : w.heap.size ≤ gb308))
                          have n4_ := aM ((by rw [hg]; exact (bZ (by repeat (first | (with_reducible first | exact HB.out | apply ea | apply en | apply ed | refine bs ?_ GE296.out) | exact HB.out))) : w.heap.size ≤ gb308))
                          have n5_ := aM ((by rw [hg]; exact Nat.ne_of_lt (blk_lt (g := gb296) (o := .cells #[.string a0_0, .slice A0_1 l0_1.length c0_1, .string a0_2, .slice A0_3 l0_3.length c0_3, .string a0_4, .int .i64 a0_5, .int .i64 a0_6, .int .u64 a0_7] 77 (0, 0)) (by (with_reducible repeat (first | refine bn ?_ _ | refine bd ?_ | refine ba ?_ _)); exact BK296.out)) : gb296 ≠ gb308))
                          have n6_ := aM ((by rw [hg]; exact Nat.ne_of_gt (blk_lt (g := gb296) (o := .cells #[.string a0_0, .slice A0_1 l0_1.length c0_1, .string a0_2, .slice A0_3 l0_3.length c0_3, .string a0_4, .int .i64 a0_5, .int .i64 a0_6, .int .u64 a0_7] 77 (0, 0)) (by (with_reducible repeat (first | refine bn ?_ _ | refine bd ?_ | refine ba ?_ _)); exact BK296.out)) : gb308 ≠ gb296))
                          clear BK296
                          clear HB
                          have BK296 := n0_
                          have HB := n1_
                          have BK308 := n2_
                          have GW308 := n3_
                          have GE308 := n4_
                          have NB296_308 := n5_
                          have NB308_296 := n6_
                          clear n0_ n1_ n2_ n3_ n4_ n5_ n6_
                          clear hb hbox hg
                          refine hK.out _ _ ⟨(bC BK296.out 0).trans rfl, (bC BK296.out 1).trans rfl, (bC BK296.out 2).trans rfl, (bC BK296.out 3).trans rfl, (bC BK296.out 4).trans rfl, (bC BK296.out 5).trans rfl, (bC BK296.out 6).trans rfl, (bC BK296.out 7).trans rfl⟩ (fun hHeld => ?_)
                          clear hK K
                          refine norm_ (a' := ?_) ?_ ?_
                          rotate_left
                          · show Act.put _ (some 5) _ = _
                            simp only [Act.put, List.setIfInBounds_toArray, List.set_cons_zero, List.set_cons_succ, i64_w, i32_w]
                            rfl
                          exact norm_ (by first | (simp only [putAll, Act.put, List.setIfInBounds_toArray, List.set_cons_zero, List.set_cons_succ]; done) | (simp only [putAll, Act.put, List.setIfInBounds_toArray, List.set_cons_zero, List.set_cons_succ]; rfl)) (hJ12 (gb308) _ ⟨hHeld, (by (with_reducible repeat (first | refine bn ?_ _ | refine bd ?_ | refine ba ?_ _)); exact BK296.out), (by (with_reducible repeat (first | refine bn ?_ _ | refine bd ?_ | refine ba ?_ _)); exact BK308.out), GW308.out, GE308.out, NB296_308.out, NB308_296.out, (by repeat (first | (with_reducible first | exact HB.out | apply ea | apply en | apply ed | refine bs ?_ GE296.out | refine bs ?_ GE308.out) | exact HB.out))⟩)
                        · skip
                          refine box_step ?hg (N := 6) ?hd (cs := #[.string (⟨#[]⟩ : ByteArray), .slice none 0 0]) (t := 51) ?hr ?_; (case hd => rfl); (case hg => rfl); (case hr => first | (go_simp; done) | (go_simp; rfl))
                          intro gb309 hg w30 hbox hb
                          have n0_ := aM (bB (g := gb296) (o := .cells #[.string a0_0, .slice A0_1 l0_1.length c0_1, .string a0_2, .slice A0_3 l0_3.length c0_3, .string a0_4, .int .i64 a0_5, .int .i64 a0_6, .int .u64 a0_7] 77 (0, 0)) (by (with_reducible repeat (first | refine bn ?_ _ | refine bd ?_ | refine ba ?_ _)); exact BK296.out) hb)
                          have n1_ := aM (bP (by repeat (first | (with_reducible first | exact HB.out | apply ea | apply en | apply ed | refine bs ?_ GE296.out) | exact HB.out)) hb)
                          have n2_ := aM (hbox)
                          have n3_ := aM ((by rw [hg]; exact (bZ (by repeat (first | (with_reducible first | exact HB.out | apply ea | apply en | apply ed | refine bs ?_ GE296.out) | exact HB.out))) : w.heap.size ≤ gb309))
                          have n4_ := aM ((by rw [hg]; exact (bZ (by repeat (first | (with_reducible first | exact HB.out | apply ea | apply en | apply ed | refine bs ?_ GE296.out) | exact HB.out))) : w.heap.size ≤ gb309))
                          have n5_ := aM ((by rw [hg]; exact Nat.ne_of_lt (blk_lt (g := gb296) (o := .cells #[.string a0_0, .slice A0_1 l0_1.length c0_1, .string a0_2, .slice A0_3 l0_3.length c0_3, .string a0_4, .int .i64 a0_5, .int .i64 a0_6, .int .u64 a0_7] 77 (0, 0)) (by (with_reducible repeat (first | refine bn ?_ _ | refine bd ?_ | refine ba ?_ _)); exact BK296.out)) : gb296 ≠ gb309))
                          have n6_ := aM ((by rw [hg]; exact Nat.ne_of_gt (blk_lt (g := gb296) (o := .cells #[.string a0_0, .slice A0_1 l0_1.length c0_1, .string a0_2, .slice A0_3 l0_3.length c0_3, .string a0_4, .int .i64 a0_5, .int .i64 a0_6, .int .u64 a0_7] 77 (0, 0)) (by (with_reducible repeat (first | refine bn ?_ _ | refine bd ?_ | refine ba ?_ _)); exact BK296.out)) : gb309 ≠ gb296))
                          clear BK296
                          clear HB
                          have BK296 := n0_
                          have HB := n1_
                          have BK309 := n2_
                          have GW309 := n3_
                          have GE309 := n4_
                          have NB296_309 := n5_
                          have NB309_296 := n6_
                          clear n0_ n1_ n2_ n3_ n4_ n5_ n6_
                          clear hb hbox hg
                          refine hK.out _ _ ⟨(bC BK296.out 0).trans rfl, (bC BK296.out 1).trans rfl, (bC BK296.out 2).trans rfl, (bC BK296.out 3).trans rfl, (bC BK296.out 4).trans rfl, (bC BK296.out 5).trans rfl, (bC BK296.out 6).trans rfl, (bC BK296.out 7).trans rfl⟩ (fun hHeld => ?_)
                          clear hK K
                          refine norm_ (a' := ?_) ?_ ?_
                          rotate_left
                          · show Act.put _ (some 6) _ = _
                            simp only [Act.put, List.setIfInBounds_toArray, List.set_cons_zero, List.set_cons_succ, i64_w, i32_w]
                            rfl
                          exact norm_ (by first | (simp only [putAll, Act.put, List.setIfInBounds_toArray, List.set_cons_zero, List.set_cons_succ]; done) | (simp only [putAll, Act.put, List.setIfInBounds_toArray, List.set_cons_zero, List.set_cons_succ]; rfl)) (hJ13 (gb309) _ ⟨hHeld, (by (with_reducible repeat (first | refine bn ?_ _ | refine bd ?_ | refine ba ?_ _)); exact BK296.out), (by (with_reducible repeat (first | refine bn ?_ _ | refine bd ?_ | refine ba ?_ _)); exact BK309.out), GW309.out, GE309.out, NB296_309.out, NB309_296.out, (by repeat (first | (with_reducible first | exact HB.out | apply ea | apply en | apply ed | refine bs ?_ GE296.out | refine bs ?_ GE309.out) | exact HB.out))⟩)
                      · skip
                        rintro gb309 w31 ⟨hS_, h0_, h1_, h2_, h3_, h4_, h5_, h6_⟩
                        have n0_ : Aside0 (w31.heap[gb296]? = some (.cells #[.string a0_0, .slice A0_1 l0_1.length c0_1, .string a0_2, .slice A0_3 l0_3.length c0_3, .string a0_4, .int .i64 a0_5, .int .i64 a0_6, .int .u64 a0_7] 77 (0, 0))) := ⟨h0_⟩
                        have n1_ : Aside0 (w31.heap[gb309]? = some (.cells #[.string (⟨#[]⟩ : ByteArray), .slice none 0 0] 51 (0, 0))) := ⟨h1_⟩
                        have n2_ : Aside0 (w.heap.size ≤ gb309) := ⟨h2_⟩
                        have n3_ : Aside0 (w.heap.size ≤ gb309) := ⟨h3_⟩
                        have n4_ : Aside0 (gb296 ≠ gb309) := ⟨h4_⟩
                        have n5_ : Aside0 (gb309 ≠ gb296) := ⟨h5_⟩
                        have n6_ : Aside0 (Below w.heap.size w w31) := ⟨h6_⟩
                        clear BK296
                        clear HB
                        clear h0_ h1_ h2_ h3_ h4_ h5_ h6_
                        have BK296 := n0_
                        have BK309 := n1_
                        have GW309 := n2_
                        have GE309 := n3_
                        have NB296_309 := n4_
                        have NB309_296 := n5_
                        have HB := n6_
                        clear n0_ n1_ n2_ n3_ n4_ n5_ n6_
                        have hHeld : w31.cell? ⟨gb296, 0, none⟩ = some (.string a0_0) ∧ w31.cell? ⟨gb296, 1, none⟩ = some (.slice A0_1 l0_1.length c0_1) ∧ w31.cell? ⟨gb296, 2, none⟩ = some (.string a0_2) ∧ w31.cell? ⟨gb296, 3, none⟩ = some (.slice A0_3 l0_3.length c0_3) ∧ w31.cell? ⟨gb296, 4, none⟩ = some (.string a0_4) ∧ w31.cell? ⟨gb296, 5, none⟩ = some (.int .i64 a0_5) ∧ w31.cell? ⟨gb296, 6, none⟩ = some (.int .i64 a0_6) ∧ w31.cell? ⟨gb296, 7, none⟩ = some (.int .u64 a0_7) := hS_
                        refine norm_ (a' := ?_) ?_ ?_
                        rotate_left
                        · simp only [putAll, Act.put, List.setIfInBounds_toArray, List.set_cons_zero, List.set_cons_succ]
                          rfl
                        refine two_ (i := 5) (j := 12) (Ni := some 38) (Nj := some 5) #[true, true, true, true, true, true, true, true, true, true, true, false, false, true, false, false] #[true, true, true, true, true, false, true, true, true, true, true, false, true, true, false, false] rfl rfl rfl rfl (two_of HT_.out (by kernel_rfl)) (by decide) (by decide) (fun K hK => ?_) (fun K hK => ?_)
                        · skip
                          refine goes_ Try.func66 (by kernel_rfl) rfl #[.agg #[.string a0_0, .slice A0_1 l0_1.length c0_1], .int .u64 a1, .string a0_4] (by rfl) rfl rfl (by (try simp only [List.map_toArray, List.map_cons, List.map_nil]); first | done | rfl | (simp only [List.length_drop, List.length_take]; rfl)) ?_
                          with_reducible refine (bureauref04_Other.calls kj4 a0_0 (fun k_ => k_ < w.heap.size) _ _ l0_1 a1 a0_4 t300 t301 _ ?side1 A24.out).mono ?_
                          (case side1 => exact Kd.V_mk HC0_1.out (Kd.F_below (Kd.C_F k100_heap HR0_1.out) (by repeat (first | (with_reducible first | exact HB.out | apply ea | apply en | apply ed | refine bs ?_ GE296.out | refine bs ?_ GE309.out) | exact HB.out))))
                          rintro e w32 ⟨v302, rfl, ho0, hb⟩
                          refine ⟨_, rfl, ?_⟩
                          have n0_ := aM (Kd.V_lower (Kd.V_mono (ok' := fun k_ => k_ ≠ gb296 ∧ k_ ≠ gb309) ho0 (fun k_ hk_ => ⟨Or.elim hk_ (fun hs_ => fun e_ => Nat.not_le.2 hs_ (by rw [e_]; exact GW296.out)) (fun hn_ => (Kd.freshB (g := gb296) (o := .cells #[.string a0_0, .slice A0_1 l0_1.length c0_1, .string a0_2, .slice A0_3 l0_3.length c0_3, .string a0_4, .int .i64 a0_5, .int .i64 a0_6, .int .u64 a0_7] 77 (0, 0)) (by (with_reducible repeat (first | refine bn ?_ _ | refine bd ?_ | refine ba ?_ _)); exact BK296.out) k_ hn_)), Or.elim hk_ (fun hs_ => fun e_ => Nat.not_le.2 hs_ (by rw [e_]; exact GW309.out)) (fun hn_ => (Kd.freshB (g := gb309) (o := .cells #[.string (⟨#[]⟩ : ByteArray), .slice none 0 0] 51 (0, 0)) (by (with_reducible repeat (first | refine bn ?_ _ | refine bd ?_ | refine ba ?_ _)); exact BK309.out) k_ hn_))⟩)) (bZ (by repeat (first | (with_reducible first | exact HB.out | apply ea | apply en | apply ed | refine bs ?_ GE296.out | refine bs ?_ GE309.out) | exact HB.out))))
                          have n1_ := aM (bB (g := gb296) (o := .cells #[.string a0_0, .slice A0_1 l0_1.length c0_1, .string a0_2, .slice A0_3 l0_3.length c0_3, .string a0_4, .int .i64 a0_5, .int .i64 a0_6, .int .u64 a0_7] 77 (0, 0)) (by (with_reducible repeat (first | refine bn ?_ _ | refine bd ?_ | refine ba ?_ _)); exact BK296.out) hb)
                          have n2_ := aM (bB (g := gb309) (o := .cells #[.string (⟨#[]⟩ : ByteArray), .slice none 0 0] 51 (0, 0)) (by (with_reducible repeat (first | refine bn ?_ _ | refine bd ?_ | refine ba ?_ _)); exact BK309.out) hb)
                          have n3_ := aM (bP (by repeat (first | (with_reducible first | exact HB.out | apply ea | apply en | apply ed | refine bs ?_ GE296.out | refine bs ?_ GE309.out) | exact HB.out)) hb)
                          clear BK296
                          clear BK309
                          clear HB
                          have HO303 := n0_
                          have BK296 := n1_
                          have BK309 := n2_
                          have HB := n3_
                          clear n0_ n1_ n2_ n3_
                          (try clear hb)
                          (try clear hb2)
                          (try clear hk)
                          (try clear hi)
                          (try clear ho0)
                          refine hK.out _ _ ⟨(bC BK296.out 0).trans rfl, (bC BK296.out 1).trans rfl, (bC BK296.out 2).trans rfl, (bC BK296.out 3).trans rfl, (bC BK296.out 4).trans rfl, (bC BK296.out 5).trans rfl, (bC BK296.out 6).trans rfl, (bC BK296.out 7).trans rfl⟩ (fun hHeld => ?_)
                          clear hK K
                          refine norm_ (a' := ?_) ?_ ?_
                          rotate_left
                          · show Act.put _ (some 38) _ = _
                            simp only [Act.put, List.setIfInBounds_toArray, List.set_cons_zero, List.set_cons_succ, i64_w, i32_w]
                            rfl
                          exact norm_ (by first | (simp only [putAll, Act.put, List.setIfInBounds_toArray, List.set_cons_zero, List.set_cons_succ]; done) | (simp only [putAll, Act.put, List.setIfInBounds_toArray, List.set_cons_zero, List.set_cons_succ]; rfl)) (hJ5_13 (v302, gb309) _ ⟨hHeld, (by (with_reducible repeat (first | apply va | apply vn | apply vd)); exact HO303.out), (by (with_reducible repeat (first | refine bn ?_ _ | refine bd ?_ | refine ba ?_ _)); exact BK296.out), (by (with_reducible repeat (first | refine bn ?_ _ | refine bd ?_ | refine ba ?_ _)); exact BK309.out), GW309.out, GE309.out, NB296_309.out, NB309_296.out, (by repeat (first | (with_reducible first | exact HB.out | apply ea | apply en | apply ed | refine bs ?_ GE296.out | refine bs ?_ GE309.out) | exact HB.out))⟩)
                        · skip
                          refine box_step ?hg (N := 5) ?hd (cs := #[.string (⟨#[]⟩ : ByteArray), .slice none 0 0]) (t := 51) ?hr ?_; (case hd => rfl); (case hg => rfl); (case hr => first | (go_simp; done) | (go_simp; rfl))
                          intro gb308 hg w32 hbox hb
                          have n0_ := aM (bB (g := gb296) (o := .cells #[.string a0_0, .slice A0_1 l0_1.length c0_1, .string a0_2, .slice A0_3 l0_3.length c0_3, .string a0_4, .int .i64 a0_5, .int .i64 a0_6, .int .u64 a0_7] 77 (0, 0)) (by (with_reducible repeat (first | refine bn ?_ _ | refine bd ?_ | refine ba ?_ _)); exact BK296.out) hb)
                          have n1_ := aM (bB (g := gb309) (o := .cells #[.string (⟨#[]⟩ : ByteArray), .slice none 0 0] 51 (0, 0)) (by (with_reducible repeat (first | refine bn ?_ _ | refine bd ?_ | refine ba ?_ _)); exact BK309.out) hb)
                          have n2_ := aM (bP (by repeat (first | (with_reducible first | exact HB.out | apply ea | apply en | apply ed | refine bs ?_ GE296.out | refine bs ?_ GE309.out) | exact HB.out)) hb)
                          have n3_ := aM (hbox)
                          have n4_ := aM ((by rw [hg]; exact (bZ (by repeat (first | (with_reducible first | exact HB.out | apply ea | apply en | apply ed | refine bs ?_ GE296.out | refine bs ?_ GE309.out) | exact HB.out))) : w.heap.size ≤ gb308))
                          have n5_ := aM ((by rw [hg]; exact (bZ (by repeat (first | (with_reducible first | exact HB.out | apply ea | apply en | apply ed | refine bs ?_ GE296.out | refine bs ?_ GE309.out) | exact HB.out))) : w.heap.size ≤ gb308))
                          have n6_ := aM ((by rw [hg]; exact Nat.ne_of_lt (blk_lt (g := gb296) (o := .cells #[.string a0_0, .slice A0_1 l0_1.length c0_1, .string a0_2, .slice A0_3 l0_3.length c0_3, .string a0_4, .int .i64 a0_5, .int .i64 a0_6, .int .u64 a0_7] 77 (0, 0)) (by (with_reducible repeat (first | refine bn ?_ _ | refine bd ?_ | refine ba ?_ _)); exact BK296.out)) : gb296 ≠ gb308))
                          have n7_ := aM ((by rw [hg]; exact Nat.ne_of_gt (blk_lt (g := gb296) (o := .cells #[.string a0_0, .slice A0_1 l0_1.length c0_1, .string a0_2, .slice A0_3 l0_3.length c0_3, .string a0_4, .int .i64 a0_5, .int .i64 a0_6, .int .u64 a0_7] 77 (0, 0)) (by (with_reducible repeat (first | refine bn ?_ _ | refine bd ?_ | refine ba ?_ _)); exact BK296.out)) : gb308 ≠ gb296))
                          have n8_ := aM ((by rw [hg]; exact Nat.ne_of_lt (blk_lt (g := gb309) (o := .cells #[.string (⟨#[]⟩ : ByteArray), .slice none 0 0] 51 (0, 0)) (by (with_reducible repeat (first | refine bn ?_ _ | refine bd ?_ | refine ba ?_ _)); exact BK309.out)) : gb309 ≠ gb308))
                          have n9_ := aM ((by rw [hg]; exact Nat.ne_of_gt (blk_lt (g := gb309) (o := .cells #[.string (⟨#[]⟩ : ByteArray), .slice none 0 0] 51 (0, 0)) (by (with_reducible repeat (first | refine bn ?_ _ | refine bd ?_ | refine ba ?_ _)); exact BK309.out)) : gb308 ≠ gb309))
                          clear BK296
                          clear BK309
                          clear HB
                          have BK296 := n0_
                          have BK309 := n1_
                          have HB := n2_
                          have BK308 := n3_
                          have GW308 := n4_
                          have GE308 := n5_
                          have NB296_308 := n6_
                          have NB308_296 := n7_
                          have NB309_308 := n8_
                          have NB308_309 := n9_
                          clear n0_ n1_ n2_ n3_ n4_ n5_ n6_ n7_ n8_ n9_
                          clear hb hbox hg
                          refine hK.out _ _ ⟨(bC BK296.out 0).trans rfl, (bC BK296.out 1).trans rfl, (bC BK296.out 2).trans rfl, (bC BK296.out 3).trans rfl, (bC BK296.out 4).trans rfl, (bC BK296.out 5).trans rfl, (bC BK296.out 6).trans rfl, (bC BK296.out 7).trans rfl⟩ (fun hHeld => ?_)
                          clear hK K
                          refine norm_ (a' := ?_) ?_ ?_
                          rotate_left
                          · show Act.put _ (some 5) _ = _
                            simp only [Act.put, List.setIfInBounds_toArray, List.set_cons_zero, List.set_cons_succ, i64_w, i32_w]
                            rfl
                          exact norm_ (by first | (simp only [putAll, Act.put, List.setIfInBounds_toArray, List.set_cons_zero, List.set_cons_succ]; done) | (simp only [putAll, Act.put, List.setIfInBounds_toArray, List.set_cons_zero, List.set_cons_succ]; rfl)) (hJ12_13 (gb308, gb309) _ ⟨hHeld, (by (with_reducible repeat (first | refine bn ?_ _ | refine bd ?_ | refine ba ?_ _)); exact BK296.out), (by (with_reducible repeat (first | refine bn ?_ _ | refine bd ?_ | refine ba ?_ _)); exact BK308.out), (by (with_reducible repeat (first | refine bn ?_ _ | refine bd ?_ | refine ba ?_ _)); exact BK309.out), GW308.out, GE308.out, NB296_308.out, NB308_296.out, NB309_308.out, NB308_309.out, GW309.out, GE309.out, NB296_309.out, NB309_296.out, (by repeat (first | (with_reducible first | exact HB.out | apply ea | apply en | apply ed | refine bs ?_ GE296.out | refine bs ?_ GE309.out | refine bs ?_ GE308.out) | exact HB.out))⟩)
                    · skip
                      rintro gb308 w31 ⟨hS_, h0_, h1_, h2_, h3_, h4_, h5_, h6_⟩
                      have n0_ : Aside0 (w31.heap[gb296]? = some (.cells #[.string a0_0, .slice A0_1 l0_1.length c0_1, .string a0_2, .slice A0_3 l0_3.length c0_3, .string a0_4, .int .i64 a0_5, .int .i64 a0_6, .int .u64 a0_7] 77 (0, 0))) := ⟨h0_⟩
                      have n1_ : Aside0 (w31.heap[gb308]? = some (.cells #[.string (⟨#[]⟩ : ByteArray), .slice none 0 0] 51 (0, 0))) := ⟨h1_⟩
                      have n2_ : Aside0 (w.heap.size ≤ gb308) := ⟨h2_⟩
                      have n3_ : Aside0 (w.heap.size ≤ gb308) := ⟨h3_⟩
                      have n4_ : Aside0 (gb296 ≠ gb308) := ⟨h4_⟩
                      have n5_ : Aside0 (gb308 ≠ gb296) := ⟨h5_⟩
                      have n6_ : Aside0 (Below w.heap.size w w31) := ⟨h6_⟩
                      clear BK296
                      clear HB
                      clear h0_ h1_ h2_ h3_ h4_ h5_ h6_
                      have BK296 := n0_
                      have BK308 := n1_
                      have GW308 := n2_
                      have GE308 := n3_
                      have NB296_308 := n4_
                      have NB308_296 := n5_
                      have HB := n6_
                      clear n0_ n1_ n2_ n3_ n4_ n5_ n6_
                      have hHeld : w31.cell? ⟨gb296, 0, none⟩ = some (.string a0_0) ∧ w31.cell? ⟨gb296, 1, none⟩ = some (.slice A0_1 l0_1.length c0_1) ∧ w31.cell? ⟨gb296, 2, none⟩ = some (.string a0_2) ∧ w31.cell? ⟨gb296, 3, none⟩ = some (.slice A0_3 l0_3.length c0_3) ∧ w31.cell? ⟨gb296, 4, none⟩ = some (.string a0_4) ∧ w31.cell? ⟨gb296, 5, none⟩ = some (.int .i64 a0_5) ∧ w31.cell? ⟨gb296, 6, none⟩ = some (.int .i64 a0_6) ∧ w31.cell? ⟨gb296, 7, none⟩ = some (.int .u64 a0_7) := hS_
                      refine norm_ (a' := ?_) ?_ ?_
                      rotate_left
                      · simp only [putAll, Act.put, List.setIfInBounds_toArray, List.set_cons_zero, List.set_cons_succ]
                        rfl
                      refine two_ (i := 5) (j := 13) (Ni := some 38) (Nj := some 6) #[true, true, true, true, true, true, true, true, true, true, true, false, true, false, false, false] #[true, true, true, true, true, false, true, true, true, true, true, false, true, true, false, false] rfl rfl rfl rfl (two_of HT_.out (by kernel_rfl)) (by decide) (by decide) (fun K hK => ?_) (fun K hK => ?_)
                      · skip
                        refine goes_ Try.func66 (by kernel_rfl) rfl #[.agg #[.string a0_0, .slice A0_1 l0_1.length c0_1], .int .u64 a1, .string a0_4] (by rfl) rfl rfl (by (try simp only [List.map_toArray, List.map_cons, List.map_nil]); first | done | rfl | (simp only [List.length_drop, List.length_take]; rfl)) ?_
                        with_reducible refine (bureauref04_Other.calls kj4 a0_0 (fun k_ => k_ < w.heap.size) _ _ l0_1 a1 a0_4 t300 t301 _ ?side1 A24.out).mono ?_
                        (case side1 => exact Kd.V_mk HC0_1.out (Kd.F_below (Kd.C_F k100_heap HR0_1.out) (by repeat (first | (with_reducible first | exact HB.out | apply ea | apply en | apply ed | refine bs ?_ GE296.out | refine bs ?_ GE308.out) | exact HB.out))))
                        rintro e w32 ⟨v302, rfl, ho0, hb⟩
                        refine ⟨_, rfl, ?_⟩
                        have n0_ := aM (Kd.V_lower (Kd.V_mono (ok' := fun k_ => k_ ≠ gb296 ∧ k_ ≠ gb308) ho0 (fun k_ hk_ => ⟨Or.elim hk_ (fun hs_ => fun e_ => Nat.not_le.2 hs_ (by rw [e_]; exact GW296.out)) (fun hn_ => (Kd.freshB (g := gb296) (o := .cells #[.string a0_0, .slice A0_1 l0_1.length c0_1, .string a0_2, .slice A0_3 l0_3.length c0_3, .string a0_4, .int .i64 a0_5, .int .i64 a0_6, .int .u64 a0_7] 77 (0, 0)) (by (with_reducible repeat (first | refine bn ?_ _ | refine bd ?_ | refine ba ?_ _)); exact BK296.out) k_ hn_)), Or.elim hk_ (fun hs_ => fun e_ => Nat.not_le.2 hs_ (by rw [e_]; exact GW308.out)) (fun hn_ => (Kd.freshB (g := gb308) (o := .cells #[.string (⟨#[]⟩ : ByteArray), .slice none 0 0] 51 (0, 0)) (by (with_reducible repeat (first | refine bn ?_ _ | refine bd ?_ | refine ba ?_ _)); exact BK308.out) k_ hn_))⟩)) (bZ (by repeat (first | (with_reducible first | exact HB.out | apply ea | apply en | apply ed | refine bs ?_ GE296.out | refine bs ?_ GE308.out) | exact HB.out))))
                        have n1_ := aM (bB (g := gb296) (o := .cells #[.string a0_0, .slice A0_1 l0_1.length c0_1, .string a0_2, .slice A0_3 l0_3.length c0_3, .string a0_4, .int .i64 a0_5, .int .i64 a0_6, .int .u64 a0_7] 77 (0, 0)) (by (with_reducible repeat (first | refine bn ?_ _ | refine bd ?_ | refine ba ?_ _)); exact BK296.out) hb)
                        have n2_ := aM (bB (g := gb308) (o := .cells #[.string (⟨#[]⟩ : ByteArray), .slice none 0 0] 51 (0, 0)) (by (with_reducible repeat (first | refine bn ?_ _ | refine bd ?_ | refine ba ?_ _)); exact BK308.out) hb)
                        have n3_ := aM (bP (by repeat (first | (with_reducible first | exact HB.out | apply ea | apply en | apply ed | refine bs ?_ GE296.out | refine bs ?_ GE308.out) | exact HB.out)) hb)
                        clear BK296
                        clear BK308
                        clear HB
                        have HO303 := n0_
                        have BK296 := n1_
                        have BK308 := n2_
                        have HB := n3_
                        clear n0_ n1_ n2_ n3_
                        (try clear hb)
                        (try clear hb2)
                        (try clear hk)
                        (try clear hi)
                        (try clear ho0)
                        refine hK.out _ _ ⟨(bC BK296.out 0).trans rfl, (bC BK296.out 1).trans rfl, (bC BK296.out 2).trans rfl, (bC BK296.out 3).trans rfl, (bC BK296.out 4).trans rfl, (bC BK296.out 5).trans rfl, (bC BK296.out 6).trans rfl, (bC BK296.out 7).trans rfl⟩ (fun hHeld => ?_)
                        clear hK K
                        refine norm_ (a' := ?_) ?_ ?_
                        rotate_left
                        · show Act.put _ (some 38) _ = _
                          simp only [Act.put, List.setIfInBounds_toArray, List.set_cons_zero, List.set_cons_succ, i64_w, i32_w]
                          rfl
                        exact norm_ (by first | (simp only [putAll, Act.put, List.setIfInBounds_toArray, List.set_cons_zero, List.set_cons_succ]; done) | (simp only [putAll, Act.put, List.setIfInBounds_toArray, List.set_cons_zero, List.set_cons_succ]; rfl)) (hJ5_12 (v302, gb308) _ ⟨hHeld, (by (with_reducible repeat (first | apply va | apply vn | apply vd)); exact HO303.out), (by (with_reducible repeat (first | refine bn ?_ _ | refine bd ?_ | refine ba ?_ _)); exact BK296.out), (by (with_reducible repeat (first | refine bn ?_ _ | refine bd ?_ | refine ba ?_ _)); exact BK308.out), GW308.out, GE308.out, NB296_308.out, NB308_296.out, (by repeat (first | (with_reducible first | exact HB.out | apply ea | apply en | apply ed | refine bs ?_ GE296.out | refine bs ?_ GE308.out) | exact HB.out))⟩)
                      · skip
                        refine box_step ?hg (N := 6) ?hd (cs := #[.string (⟨#[]⟩ : ByteArray), .slice none 0 0]) (t := 51) ?hr ?_; (case hd => rfl); (case hg => rfl); (case hr => first | (go_simp; done) | (go_simp; rfl))
                        intro gb309 hg w32 hbox hb
                        have n0_ := aM (bB (g := gb296) (o := .cells #[.string a0_0, .slice A0_1 l0_1.length c0_1, .string a0_2, .slice A0_3 l0_3.length c0_3, .string a0_4, .int .i64 a0_5, .int .i64 a0_6, .int .u64 a0_7] 77 (0, 0)) (by (with_reducible repeat (first | refine bn ?_ _ | refine bd ?_ | refine ba ?_ _)); exact BK296.out) hb)
                        have n1_ := aM (bB (g := gb308) (o := .cells #[.string (⟨#[]⟩ : ByteArray), .slice none 0 0] 51 (0, 0)) (by (with_reducible repeat (first | refine bn ?_ _ | refine bd ?_ | refine ba ?_ _)); exact BK308.out) hb)
                        have n2_ := aM (bP (by repeat (first | (with_reducible first | exact HB.out | apply ea | apply en | apply ed | refine bs ?_ GE296.out | refine bs ?_ GE308.out) | exact HB.out)) hb)
                        have n3_ := aM (hbox)
                        have n4_ := aM ((by rw [hg]; exact (bZ (by repeat (first | (with_reducible first | exact HB.out | apply ea | apply en | apply ed | refine bs ?_ GE296.out | refine bs ?_ GE308.out) | exact HB.out))) : w.heap.size ≤ gb309))
                        have n5_ := aM ((by rw [hg]; exact (bZ (by repeat (first | (with_reducible first | exact HB.out | apply ea | apply en | apply ed | refine bs ?_ GE296.out | refine bs ?_ GE308.out) | exact HB.out))) : w.heap.size ≤ gb309))
                        have n6_ := aM ((by rw [hg]; exact Nat.ne_of_lt (blk_lt (g := gb296) (o := .cells #[.string a0_0, .slice A0_1 l0_1.length c0_1, .string a0_2, .slice A0_3 l0_3.length c0_3, .string a0_4, .int .i64 a0_5, .int .i64 a0_6, .int .u64 a0_7] 77 (0, 0)) (by (with_reducible repeat (first | refine bn ?_ _ | refine bd ?_ | refine ba ?_ _)); exact BK296.out)) : gb296 ≠ gb309))
                        have n7_ := aM ((by rw [hg]; exact Nat.ne_of_gt (blk_lt (g := gb296) (o := .cells #[.string a0_0, .slice A0_1 l0_1.length c0_1, .string a0_2, .slice A0_3 l0_3.length c0_3, .string a0_4, .int .i64 a0_5, .int .i64 a0_6, .int .u64 a0_7] 77 (0, 0)) (by (with_reducible repeat (first | refine bn ?_ _ | refine bd ?_ | refine ba ?_ _)); exact BK296.out)) : gb309 ≠ gb296))
                        have n8_ := aM ((by rw [hg]; exact Nat.ne_of_lt (blk_lt (g := gb308) (o := .cells #[.string (⟨#[]⟩ : ByteArray), .slice none 0 0] 51 (0, 0)) (by (with_reducible repeat (first | refine bn ?_ _ | refine bd ?_ | refine ba ?_ _)); exact BK308.out)) : gb308 ≠ gb309))
                        have n9_ := aM ((by rw [hg]; exact Nat.ne_of_gt (blk_lt (g := gb308) (o := .cells #[.string (⟨#[]⟩ : ByteArray), .slice none 0 0] 51 (0, 0)) (by (with_reducible repeat (first | refine bn ?_ _ | refine bd ?_ | refine ba ?_ _)); exact BK308.out)) : gb309 ≠ gb308))
                        clear BK296
                        clear BK308
                        clear HB
                        have BK296 := n0_
                        have BK308 := n1_
                        have HB := n2_
                        have BK309 := n3_
                        have GW309 := n4_
                        have GE309 := n5_
                        have NB296_309 := n6_
                        have NB309_296 := n7_
                        have NB308_309 := n8_
                        have NB309_308 := n9_
                        clear n0_ n1_ n2_ n3_ n4_ n5_ n6_ n7_ n8_ n9_
                        clear hb hbox hg
                        refine hK.out _ _ ⟨(bC BK296.out 0).trans rfl, (bC BK296.out 1).trans rfl, (bC BK296.out 2).trans rfl, (bC BK296.out 3).trans rfl, (bC BK296.out 4).trans rfl, (bC BK296.out 5).trans rfl, (bC BK296.out 6).trans rfl, (bC BK296.out 7).trans rfl⟩ (fun hHeld => ?_)
                        clear hK K
                        refine norm_ (a' := ?_) ?_ ?_
                        rotate_left
                        · show Act.put _ (some 6) _ = _
                          simp only [Act.put, List.setIfInBounds_toArray, List.set_cons_zero, List.set_cons_succ, i64_w, i32_w]
                          rfl
                        exact norm_ (by first | (simp only [putAll, Act.put, List.setIfInBounds_toArray, List.set_cons_zero, List.set_cons_succ]; done) | (simp only [putAll, Act.put, List.setIfInBounds_toArray, List.set_cons_zero, List.set_cons_succ]; rfl)) (hJ12_13 (gb308, gb309) _ ⟨hHeld, (by (with_reducible repeat (first | refine bn ?_ _ | refine bd ?_ | refine ba ?_ _)); exact BK296.out), (by (with_reducible repeat (first | refine bn ?_ _ | refine bd ?_ | refine ba ?_ _)); exact BK308.out), (by (with_reducible repeat (first | refine bn ?_ _ | refine bd ?_ | refine ba ?_ _)); exact BK309.out), GW308.out, GE308.out, NB296_308.out, NB308_296.out, NB309_308.out, NB308_309.out, GW309.out, GE309.out, NB296_309.out, NB309_296.out, (by repeat (first | (with_reducible first | exact HB.out | apply ea | apply en | apply ed | refine bs ?_ GE296.out | refine bs ?_ GE308.out | refine bs ?_ GE309.out) | exact HB.out))⟩)
                  · skip
                    rintro v302 w31 ⟨hS_, h0_, h1_, h2_⟩
                    have n0_ : Aside0 (Kd.V k100 100 w31 w.heap.size (fun k_ => k_ ≠ gb296) v302 t301) := ⟨h0_⟩
                    have n1_ : Aside0 (w31.heap[gb296]? = some (.cells #[.string a0_0, .slice A0_1 l0_1.length c0_1, .string a0_2, .slice A0_3 l0_3.length c0_3, .string a0_4, .int .i64 a0_5, .int .i64 a0_6, .int .u64 a0_7] 77 (0, 0))) := ⟨h1_⟩
                    have n2_ : Aside0 (Below w.heap.size w w31) := ⟨h2_⟩
                    clear BK296
                    clear HB
                    clear h0_ h1_ h2_
                    have HO303 := n0_
                    have BK296 := n1_
                    have HB := n2_
                    clear n0_ n1_ n2_
                    have hHeld : w31.cell? ⟨gb296, 0, none⟩ = some (.string a0_0) ∧ w31.cell? ⟨gb296, 1, none⟩ = some (.slice A0_1 l0_1.length c0_1) ∧ w31.cell? ⟨gb296, 2, none⟩ = some (.string a0_2) ∧ w31.cell? ⟨gb296, 3, none⟩ = some (.slice A0_3 l0_3.length c0_3) ∧ w31.cell? ⟨gb296, 4, none⟩ = some (.string a0_4) ∧ w31.cell? ⟨gb296, 5, none⟩ = some (.int .i64 a0_5) ∧ w31.cell? ⟨gb296, 6, none⟩ = some (.int .i64 a0_6) ∧ w31.cell? ⟨gb296, 7, none⟩ = some (.int .u64 a0_7) := hS_
                    refine norm_ (a' := ?_) ?_ ?_
                    rotate_left
                    · simp only [putAll, Act.put, List.setIfInBounds_toArray, List.set_cons_zero, List.set_cons_succ]
                      rfl
                    refine three_ (i := 11) (j := 12) (k := 13) (Ni := some 44) (Nj := some 5) (Nk := some 6) #[true, true, true, true, true, true, true, true, true, true, true, true, false, false, false, false] #[true, true, true, true, true, true, true, true, true, true, true, false, true, false, false, false] #[true, true, true, true, true, true, true, true, true, true, true, false, false, true, false, false] rfl rfl rfl rfl rfl rfl (three_of HT_.out (by kernel_rfl)) (by decide) (by decide) (by decide) (fun K hK => ?_) (fun K hK => ?_) (fun K hK => ?_)
                    · skip
                      refine goes_ Try.func66 (by kernel_rfl) rfl #[.agg #[.string a0_2, .slice A0_3 l0_3.length c0_3], .int .u64 a1, .string a0_4] (by rfl) rfl rfl (by (try simp only [List.map_toArray, List.map_cons, List.map_nil]); first | done | rfl | (simp only [List.length_drop, List.length_take]; rfl)) ?_
                      with_reducible refine (bureauref04_Other.calls kj4 a0_2 (fun k_ => k_ < w.heap.size) _ _ l0_3 a1 a0_4 t304 t305 _ ?side1 A25.out).mono ?_
                      (case side1 => exact Kd.V_mk HC0_3.out (Kd.F_below (Kd.C_F k100_heap HR0_3.out) (by repeat (first | (with_reducible first | exact HB.out | apply ea | apply en | apply ed | refine bs ?_ GE296.out) | exact HB.out))))
                      rintro e w32 ⟨v306, rfl, ho0, hb⟩
                      refine ⟨_, rfl, ?_⟩
                      have n0_ := aM (Kd.V_below (by (with_reducible repeat (first | apply va | apply vn | apply vd)); exact HO303.out) hb)
                      have n1_ := aM (Kd.V_lower (Kd.V_mono (ok' := fun k_ => k_ ≠ gb296) ho0 (fun k_ hk_ => Or.elim hk_ (fun hs_ => fun e_ => Nat.not_le.2 hs_ (by rw [e_]; exact GW296.out)) (fun hn_ => (Kd.freshB (g := gb296) (o := .cells #[.string a0_0, .slice A0_1 l0_1.length c0_1, .string a0_2, .slice A0_3 l0_3.length c0_3, .string a0_4, .int .i64 a0_5, .int .i64 a0_6, .int .u64 a0_7] 77 (0, 0)) (by (with_reducible repeat (first | refine bn ?_ _ | refine bd ?_ | refine ba ?_ _)); exact BK296.out) k_ hn_)))) (bZ (by repeat (first | (with_reducible first | exact HB.out | apply ea | apply en | apply ed | refine bs ?_ GE296.out) | exact HB.out))))
                      have n2_ := aM (bB (g := gb296) (o := .cells #[.string a0_0, .slice A0_1 l0_1.length c0_1, .string a0_2, .slice A0_3 l0_3.length c0_3, .string a0_4, .int .i64 a0_5, .int .i64 a0_6, .int .u64 a0_7] 77 (0, 0)) (by (with_reducible repeat (first | refine bn ?_ _ | refine bd ?_ | refine ba ?_ _)); exact BK296.out) hb)
                      have n3_ := aM (bP (by repeat (first | (with_reducible first | exact HB.out | apply ea | apply en | apply ed | refine bs ?_ GE296.out) | exact HB.out)) hb)
                      clear HO303
                      clear BK296
                      clear HB
                      have HO303 := n0_
                      have HO307 := n1_
                      have BK296 := n2_
                      have HB := n3_
                      clear n0_ n1_ n2_ n3_
                      (try clear hb)
                      (try clear hb2)
                      (try clear hk)
                      (try clear hi)
                      (try clear ho0)
                      refine hK.out _ _ ⟨(bC BK296.out 0).trans rfl, (bC BK296.out 1).trans rfl, (bC BK296.out 2).trans rfl, (bC BK296.out 3).trans rfl, (bC BK296.out 4).trans rfl, (bC BK296.out 5).trans rfl, (bC BK296.out 6).trans rfl, (bC BK296.out 7).trans rfl⟩ (fun hHeld => ?_)
                      clear hK K
                      refine norm_ (a' := ?_) ?_ ?_
                      rotate_left
                      · show Act.put _ (some 44) _ = _
                        simp only [Act.put, List.setIfInBounds_toArray, List.set_cons_zero, List.set_cons_succ, i64_w, i32_w]
                        rfl
                      exact norm_ (by first | (simp only [putAll, Act.put, List.setIfInBounds_toArray, List.set_cons_zero, List.set_cons_succ]; done) | (simp only [putAll, Act.put, List.setIfInBounds_toArray, List.set_cons_zero, List.set_cons_succ]; rfl)) (hJ5_11 (v302, v306) _ ⟨hHeld, (by (with_reducible repeat (first | apply va | apply vn | apply vd)); exact HO303.out), (by (with_reducible repeat (first | apply va | apply vn | apply vd)); exact HO307.out), (by (with_reducible repeat (first | refine bn ?_ _ | refine bd ?_ | refine ba ?_ _)); exact BK296.out), (by repeat (first | (with_reducible first | exact HB.out | apply ea | apply en | apply ed | refine bs ?_ GE296.out) | exact HB.out))⟩)
                    · skip
                      refine box_step ?hg (N := 5) ?hd (cs := #[.string (⟨#[]⟩ : ByteArray), .slice none 0 0]) (t := 51) ?hr ?_; (case hd => rfl); (case hg => rfl); (case hr => first | (go_simp; done) | (go_simp; rfl))
                      intro gb308 hg w32 hbox hb
                      have n0_ := aM (Kd.V_below (Kd.V_elderB (by (with_reducible repeat (first | apply va | apply vn | apply vd)); exact HO303.out) gb308 (Nat.le_of_eq hg.symm)) hb)
                      have n1_ := aM (bB (g := gb296) (o := .cells #[.string a0_0, .slice A0_1 l0_1.length c0_1, .string a0_2, .slice A0_3 l0_3.length c0_3, .string a0_4, .int .i64 a0_5, .int .i64 a0_6, .int .u64 a0_7] 77 (0, 0)) (by (with_reducible repeat (first | refine bn ?_ _ | refine bd ?_ | refine ba ?_ _)); exact BK296.out) hb)
                      have n2_ := aM (bP (by repeat (first | (with_reducible first | exact HB.out | apply ea | apply en | apply ed | refine bs ?_ GE296.out) | exact HB.out)) hb)
                      have n3_ := aM (hbox)
                      have n4_ := aM ((by rw [hg]; exact (bZ (by repeat (first | (with_reducible first | exact HB.out | apply ea | apply en | apply ed | refine bs ?_ GE296.out) | exact HB.out))) : w.heap.size ≤ gb308))
                      have n5_ := aM ((by rw [hg]; exact (bZ (by repeat (first | (with_reducible first | exact HB.out | apply ea | apply en | apply ed | refine bs ?_ GE296.out) | exact HB.out))) : w.heap.size ≤ gb308))
                      have n6_ := aM ((by rw [hg]; exact Nat.ne_of_lt (blk_lt (g := gb296) (o := .cells #[.string a0_0, .slice A0_1 l0_1.length c0_1, .string a0_2, .slice A0_3 l0_3.length c0_3, .string a0_4, .int .i64 a0_5, .int .i64 a0_6, .int .u64 a0_7] 77 (0, 0)) (by (with_reducible repeat (first | refine bn ?_ _ | refine bd ?_ | refine ba ?_ _)); exact BK296.out)) : gb296 ≠ gb308))
                      have n7_ := aM ((by rw [hg]; exact Nat.ne_of_gt (blk_lt (g := gb296) (o := .cells #[.string a0_0, .slice A0_1 l0_1.length c0_1, .string a0_2, .slice A0_3 l0_3.length c0_3, .string a0_4, .int .i64 a0_5, .int .i64 a0_6, .int .u64 a0_7] 77 (0, 0)) (by (with_reducible repeat (first | refine bn ?_ _ | refine bd ?_ | refine ba ?_ _)); exact BK296.out)) : gb308 ≠ gb296))
                      clear HO303
                      clear BK296
                      clear HB
                      have HO303 := n0_
                      have BK296 := n1_
                      have HB := n2_
                      have BK308 := n3_
                      have GW308 := n4_
                      have GE308 := n5_
                      have NB296_308 := n6_
                      have NB308_296 := n7_
                      clear n0_ n1_ n2_ n3_ n4_ n5_ n6_ n7_
                      clear hb hbox hg
                      refine hK.out _ _ ⟨(bC BK296.out 0).trans rfl, (bC BK296.out 1).trans rfl, (bC BK296.out 2).trans rfl, (bC BK296.out 3).trans rfl, (bC BK296.out 4).trans rfl, (bC BK296.out 5).trans rfl, (bC BK296.out 6).trans rfl, (bC BK296.out 7).trans rfl⟩ (fun hHeld => ?_)
                      clear hK K
                      refine norm_ (a' := ?_) ?_ ?_
                      rotate_left
                      · show Act.put _ (some 5) _ = _
                        simp only [Act.put, List.setIfInBounds_toArray, List.set_cons_zero, List.set_cons_succ, i64_w, i32_w]
                        rfl
                      exact norm_ (by first | (simp only [putAll, Act.put, List.setIfInBounds_toArray, List.set_cons_zero, List.set_cons_succ]; done) | (simp only [putAll, Act.put, List.setIfInBounds_toArray, List.set_cons_zero, List.set_cons_succ]; rfl)) (hJ5_12 (v302, gb308) _ ⟨hHeld, (by (with_reducible repeat (first | apply va | apply vn | apply vd)); exact HO303.out), (by (with_reducible repeat (first | refine bn ?_ _ | refine bd ?_ | refine ba ?_ _)); exact BK296.out), (by (with_reducible repeat (first | refine bn ?_ _ | refine bd ?_ | refine ba ?_ _)); exact BK308.out), GW308.out, GE308.out, NB296_308.out, NB308_296.out, (by repeat (first | (with_reducible first | exact HB.out | apply ea | apply en | apply ed | refine bs ?_ GE296.out | refine bs ?_ GE308.out) | exact HB.out))⟩)
                    · skip
                      refine box_step ?hg (N := 6) ?hd (cs := #[.string (⟨#[]⟩ : ByteArray), .slice none 0 0]) (t := 51) ?hr ?_; (case hd => rfl); (case hg => rfl); (case hr => first | (go_simp; done) | (go_simp; rfl))
                      intro gb309 hg w32 hbox hb
                      have n0_ := aM (Kd.V_below (Kd.V_elderB (by (with_reducible repeat (first | apply va | apply vn | apply vd)); exact HO303.out) gb309 (Nat.le_of_eq hg.symm)) hb)
                      have n1_ := aM (bB (g := gb296) (o := .cells #[.string a0_0, .slice A0_1 l0_1.length c0_1, .string a0_2, .slice A0_3 l0_3.length c0_3, .string a0_4, .int .i64 a0_5, .int .i64 a0_6, .int .u64 a0_7] 77 (0, 0)) (by (with_reducible repeat (first | refine bn ?_ _ | refine bd ?_ | refine ba ?_ _)); exact BK296.out) hb)
                      have n2_ := aM (bP (by repeat (first | (with_reducible first | exact HB.out | apply ea | apply en | apply ed | refine bs ?_ GE296.out) | exact HB.out)) hb)
                      have n3_ := aM (hbox)
                      have n4_ := aM ((by rw [hg]; exact (bZ (by repeat (first | (with_reducible first | exact HB.out | apply ea | apply en | apply ed | refine bs ?_ GE296.out) | exact HB.out))) : w.heap.size ≤ gb309))
                      have n5_ := aM ((by rw [hg]; exact (bZ (by repeat (first | (with_reducible first | exact HB.out | apply ea | apply en | apply ed | refine bs ?_ GE296.out) | exact HB.out))) : w.heap.size ≤ gb309))
                      have n6_ := aM ((by rw [hg]; exact Nat.ne_of_lt (blk_lt (g := gb296) (o := .cells #[.string a0_0, .slice A0_1 l0_1.length c0_1, .string a0_2, .slice A0_3 l0_3.length c0_3, .string a0_4, .int .i64 a0_5, .int .i64 a0_6, .int .u64 a0_7] 77 (0, 0)) (by (with_reducible repeat (first | refine bn ?_ _ | refine bd ?_ | refine ba ?_ _)); exact BK296.out)) : gb296 ≠ gb309))
                      have n7_ := aM ((by rw [hg]; exact Nat.ne_of_gt (blk_lt (g := gb296) (o := .cells #[.string a0_0, .slice A0_1 l0_1.length c0_1, .string a0_2, .slice A0_3 l0_3.length c0_3, .string a0_4, .int .i64 a0_5, .int .i64 a0_6, .int .u64 a0_7] 77 (0, 0)) (by (with_reducible repeat (first | refine bn ?_ _ | refine bd ?_ | refine ba ?_ _)); exact BK296.out)) : gb309 ≠ gb296))
                      clear HO303
                      clear BK296
                      clear HB
                      have HO303 := n0_
                      have BK296 := n1_
                      have HB := n2_
                      have BK309 := n3_
                      have GW309 := n4_
                      have GE309 := n5_
                      have NB296_309 := n6_
                      have NB309_296 := n7_
                      clear n0_ n1_ n2_ n3_ n4_ n5_ n6_ n7_
                      clear hb hbox hg
                      refine hK.out _ _ ⟨(bC BK296.out 0).trans rfl, (bC BK296.out 1).trans rfl, (bC BK296.out 2).trans rfl, (bC BK296.out 3).trans rfl, (bC BK296.out 4).trans rfl, (bC BK296.out 5).trans rfl, (bC BK296.out 6).trans rfl, (bC BK296.out 7).trans rfl⟩ (fun hHeld => ?_)
                      clear hK K
                      refine norm_ (a' := ?_) ?_ ?_
                      rotate_left
                      · show Act.put _ (some 6) _ = _
                        simp only [Act.put, List.setIfInBounds_toArray, List.set_cons_zero, List.set_cons_succ, i64_w, i32_w]
                        rfl
                      exact norm_ (by first | (simp only [putAll, Act.put, List.setIfInBounds_toArray, List.set_cons_zero, List.set_cons_succ]; done) | (simp only [putAll, Act.put, List.setIfInBounds_toArray, List.set_cons_zero, List.set_cons_succ]; rfl)) (hJ5_13 (v302, gb309) _ ⟨hHeld, (by (with_reducible repeat (first | apply va | apply vn | apply vd)); exact HO303.out), (by (with_reducible repeat (first | refine bn ?_ _ | refine bd ?_ | refine ba ?_ _)); exact BK296.out), (by (with_reducible repeat (first | refine bn ?_ _ | refine bd ?_ | refine ba ?_ _)); exact BK309.out), GW309.out, GE309.out, NB296_309.out, NB309_296.out, (by repeat (first | (with_reducible first | exact HB.out | apply ea | apply en | apply ed | refine bs ?_ GE296.out | refine bs ?_ GE309.out) | exact HB.out))⟩)
                · skip
                  rintro ⟨gb308, gb309⟩ w32 ⟨hS_, h0_, h1_, h2_, h3_, h4_, h5_, h6_, h7_, h8_, h9_, h10_, h11_, h12_, h13_⟩
                  have n0_ : Aside0 (w32.heap[gb296]? = some (.cells #[.string a0_0, .slice A0_1 l0_1.length c0_1, .string a0_2, .slice A0_3 l0_3.length c0_3, .string a0_4, .int .i64 a0_5, .int .i64 a0_6, .int .u64 a0_7] 77 (0, 0))) := ⟨h0_⟩
                  have n1_ : Aside0 (w32.heap[gb308]? = some (.cells #[.string (⟨#[]⟩ : ByteArray), .slice none 0 0] 51 (0, 0))) := ⟨h1_⟩
                  have n2_ : Aside0 (w32.heap[gb309]? = some (.cells #[.string (⟨#[]⟩ : ByteArray), .slice none 0 0] 51 (0, 0))) := ⟨h2_⟩
                  have n3_ : Aside0 (w.heap.size ≤ gb308) := ⟨h3_⟩
                  have n4_ : Aside0 (w.heap.size ≤ gb308) := ⟨h4_⟩
                  have n5_ : Aside0 (gb296 ≠ gb308) := ⟨h5_⟩
                  have n6_ : Aside0 (gb308 ≠ gb296) := ⟨h6_⟩
                  have n7_ : Aside0 (gb309 ≠ gb308) := ⟨h7_⟩
                  have n8_ : Aside0 (gb308 ≠ gb309) := ⟨h8_⟩
                  have n9_ : Aside0 (w.heap.size ≤ gb309) := ⟨h9_⟩
                  have n10_ : Aside0 (w.heap.size ≤ gb309) := ⟨h10_⟩
                  have n11_ : Aside0 (gb296 ≠ gb309) := ⟨h11_⟩
                  have n12_ : Aside0 (gb309 ≠ gb296) := ⟨h12_⟩
                  have n13_ : Aside0 (Below w.heap.size w w32) := ⟨h13_⟩
                  clear BK296
                  clear HB
                  clear h0_ h1_ h2_ h3_ h4_ h5_ h6_ h7_ h8_ h9_ h10_ h11_ h12_ h13_
                  have BK296 := n0_
                  have BK308 := n1_
                  have BK309 := n2_
                  have GW308 := n3_
                  have GE308 := n4_
                  have NB296_308 := n5_
                  have NB308_296 := n6_
                  have NB309_308 := n7_
                  have NB308_309 := n8_
                  have GW309 := n9_
                  have GE309 := n10_
                  have NB296_309 := n11_
                  have NB309_296 := n12_
                  have HB := n13_
                  clear n0_ n1_ n2_ n3_ n4_ n5_ n6_ n7_ n8_ n9_ n10_ n11_ n12_ n13_
                  have hHeld : w32.cell? ⟨gb296, 0, none⟩ = some (.string a0_0) ∧ w32.cell? ⟨gb296, 1, none⟩ = some (.slice A0_1 l0_1.length c0_1) ∧ w32.cell? ⟨gb296, 2, none⟩ = some (.string a0_2) ∧ w32.cell? ⟨gb296, 3, none⟩ = some (.slice A0_3 l0_3.length c0_3) ∧ w32.cell? ⟨gb296, 4, none⟩ = some (.string a0_4) ∧ w32.cell? ⟨gb296, 5, none⟩ = some (.int .i64 a0_5) ∧ w32.cell? ⟨gb296, 6, none⟩ = some (.int .i64 a0_6) ∧ w32.cell? ⟨gb296, 7, none⟩ = some (.int .u64 a0_7) := hS_
                  refine norm_ (a' := ?_) ?_ ?_
                  rotate_left
                  · simp only [putAll, Act.put, List.setIfInBounds_toArray, List.set_cons_zero, List.set_cons_succ]
                    rfl
                  refine one_ (i := 5) (N := some 38) #[true, true, true, true, true, true, true, true, true, true, true, false, true, true, false, false] rfl rfl (one_of HT_.out (by kernel_rfl)) (by decide) (fun K hK => ?_)
                  refine goes_ Try.func66 (by kernel_rfl) rfl #[.agg #[.string a0_0, .slice A0_1 l0_1.length c0_1], .int .u64 a1, .string a0_4] (by rfl) rfl rfl (by (try simp only [List.map_toArray, List.map_cons, List.map_nil]); first | done | rfl | (simp only [List.length_drop, List.length_take]; rfl)) ?_
                  with_reducible refine (bureauref04_Other.calls kj4 a0_0 (fun k_ => k_ < w.heap.size) _ _ l0_1 a1 a0_4 t300 t301 _ ?side1 A24.out).mono ?_
                  (case side1 => exact Kd.V_mk HC0_1.out (Kd.F_below (Kd.C_F k100_heap HR0_1.out) (by repeat (first | (with_reducible first | exact HB.out | apply ea | apply en | apply ed | refine bs ?_ GE296.out | refine bs ?_ GE308.out | refine bs ?_ GE309.out) | exact HB.out))))
                  rintro e w33 ⟨v302, rfl, ho0, hb⟩
                  refine ⟨_, rfl, ?_⟩
                  have n0_ := aM (Kd.V_lower (Kd.V_mono (ok' := fun k_ => k_ ≠ gb296 ∧ k_ ≠ gb308 ∧ k_ ≠ gb309) ho0 (fun k_ hk_ => ⟨Or.elim hk_ (fun hs_ => fun e_ => Nat.not_le.2 hs_ (by rw [e_]; exact GW296.out)) (fun hn_ => (Kd.freshB (g := gb296) (o := .cells #[.string a0_0, .slice A0_1 l0_1.length c0_1, .string a0_2, .slice A0_3 l0_3.length c0_3, .string a0_4, .int .i64 a0_5, .int .i64 a0_6, .int .u64 a0_7] 77 (0, 0)) (by (with_reducible repeat (first | refine bn ?_ _ | refine bd ?_ | refine ba ?_ _)); exact BK296.out) k_ hn_)), Or.elim hk_ (fun hs_ => fun e_ => Nat.not_le.2 hs_ (by rw [e_]; exact GW308.out)) (fun hn_ => (Kd.freshB (g := gb308) (o := .cells #[.string (⟨#[]⟩ : ByteArray), .slice none 0 0] 51 (0, 0)) (by (with_reducible repeat (first | refine bn ?_ _ | refine bd ?_ | refine ba ?_ _)); exact BK308.out) k_ hn_)), Or.elim hk_ (fun hs_ => fun e_ => Nat.not_le.2 hs_ (by rw [e_]; exact GW309.out)) (fun hn_ => (Kd.freshB (g := gb309) (o := .cells #[.string (⟨#[]⟩ : ByteArray), .slice none 0 0] 51 (0, 0)) (by (with_reducible repeat (first | refine bn ?_ _ | refine bd ?_ | refine ba ?_ _)); exact BK309.out) k_ hn_))⟩)) (bZ (by repeat (first | (with_reducible first | exact HB.out | apply ea | apply en | apply ed | refine bs ?_ GE296.out | refine bs ?_ GE308.out | refine bs ?_ GE309.out) | exact HB.out))))
                  have n1_ := aM (bB (g := gb296) (o := .cells #[.string a0_0, .slice A0_1 l0_1.length c0_1, .string a0_2, .slice A0_3 l0_3.length c0_3, .string a0_4, .int .i64 a0_5, .int .i64 a0_6, .int .u64 a0_7] 77 (0, 0)) (by (with_reducible repeat (first | refine bn ?_ _ | refine bd ?_ | refine ba ?_ _)); exact BK296.out) hb)
                  have n2_ := aM (bB (g := gb308) (o := .cells #[.string (⟨#[]⟩ : ByteArray), .slice none 0 0] 51 (0, 0)) (by (with_reducible repeat (first | refine bn ?_ _ | refine bd ?_ | refine ba ?_ _)); exact BK308.out) hb)
                  have n3_ := aM (bB (g := gb309) (o := .cells #[.string (⟨#[]⟩ : ByteArray), .slice none 0 0] 51 (0, 0)) (by (with_reducible repeat (first | refine bn ?_ _ | refine bd ?_ | refine ba ?_ _)); exact BK309.out) hb)
                  have n4_ := aM (bP (by repeat (first | (with_reducible first | exact HB.out | apply ea | apply en | apply ed | refine bs ?_ GE296.out | refine bs ?_ GE308.out | refine bs ?_ GE309.out) | exact HB.out)) hb)
                  clear BK296
                  clear BK308
                  clear BK309
                  clear HB
                  have HO303 := n0_
                  have BK296 := n1_
                  have BK308 := n2_
                  have BK309 := n3_
                  have HB := n4_
                  clear n0_ n1_ n2_ n3_ n4_
                  (try clear hb)
                  (try clear hb2)
                  (try clear hk)
                  (try clear hi)
                  (try clear ho0)
                  refine hK.out _ _ ⟨(bC BK296.out 0).trans rfl, (bC BK296.out 1).trans rfl, (bC BK296.out 2).trans rfl, (bC BK296.out 3).trans rfl, (bC BK296.out 4).trans rfl, (bC BK296.out 5).trans rfl, (bC BK296.out 6).trans rfl, (bC BK296.out 7).trans rfl⟩ (fun hHeld => ?_)
                  clear hK K
                  refine norm_ (a' := ?_) ?_ ?_
                  rotate_left
                  · show Act.put _ (some 38) _ = _
                    simp only [Act.put, List.setIfInBounds_toArray, List.set_cons_zero, List.set_cons_succ, i64_w, i32_w]
                    rfl
                  exact norm_ (by first | (simp only [putAll, Act.put, List.setIfInBounds_toArray, List.set_cons_zero, List.set_cons_succ]; done) | (simp only [putAll, Act.put, List.setIfInBounds_toArray, List.set_cons_zero, List.set_cons_succ]; rfl)) (hJ5_12_13 (v302, gb308, gb309) _ ⟨hHeld, (by (with_reducible repeat (first | apply va | apply vn | apply vd)); exact HO303.out), (by (with_reducible repeat (first | refine bn ?_ _ | refine bd ?_ | refine ba ?_ _)); exact BK296.out), (by (with_reducible repeat (first | refine bn ?_ _ | refine bd ?_ | refine ba ?_ _)); exact BK308.out), (by (with_reducible repeat (first | refine bn ?_ _ | refine bd ?_ | refine ba ?_ _)); exact BK309.out), GW308.out, GE308.out, NB296_308.out, NB308_296.out, NB309_308.out, NB308_309.out, GW309.out, GE309.out, NB296_309.out, NB309_296.out, (by repeat (first | (with_reducible first | exact HB.out | apply ea | apply en | apply ed | refine bs ?_ GE296.out | refine bs ?_ GE308.out | refine bs ?_ GE309.out) | exact HB.out))⟩)
              · skip
                rintro ⟨v302, gb309⟩ w32 ⟨hS_, h0_, h1_, h2_, h3_, h4_, h5_, h6_, h7_⟩
                have n0_ : Aside0 (Kd.V k100 100 w32 w.heap.size (fun k_ => k_ ≠ gb296 ∧ k_ ≠ gb309) v302 t301) := ⟨h0_⟩
                have n1_ : Aside0 (w32.heap[gb296]? = some (.cells #[.string a0_0, .slice A0_1 l0_1.length c0_1, .string a0_2, .slice A0_3 l0_3.length c0_3, .string a0_4, .int .i64 a0_5, .int .i64 a0_6, .int .u64 a0_7] 77 (0, 0))) := ⟨h1_⟩
                have n2_ : Aside0 (w32.heap[gb309]? = some (.cells #[.string (⟨#[]⟩ : ByteArray), .slice none 0 0] 51 (0, 0))) := ⟨h2_⟩
                have n3_ : Aside0 (w.heap.size ≤ gb309) := ⟨h3_⟩
                have n4_ : Aside0 (w.heap.size ≤ gb309) := ⟨h4_⟩
                have n5_ : Aside0 (gb296 ≠ gb309) := ⟨h5_⟩
                have n6_ : Aside0 (gb309 ≠ gb296) := ⟨h6_⟩
                have n7_ : Aside0 (Below w.heap.size w w32) := ⟨h7_⟩
                clear BK296
                clear HB
                clear h0_ h1_ h2_ h3_ h4_ h5_ h6_ h7_
                have HO303 := n0_
                have BK296 := n1_
                have BK309 := n2_
                have GW309 := n3_
                have GE309 := n4_
                have NB296_309 := n5_
                have NB309_296 := n6_
                have HB := n7_
                clear n0_ n1_ n2_ n3_ n4_ n5_ n6_ n7_
                have hHeld : w32.cell? ⟨gb296, 0, none⟩ = some (.string a0_0) ∧ w32.cell? ⟨gb296, 1, none⟩ = some (.slice A0_1 l0_1.length c0_1) ∧ w32.cell? ⟨gb296, 2, none⟩ = some (.string a0_2) ∧ w32.cell? ⟨gb296, 3, none⟩ = some (.slice A0_3 l0_3.length c0_3) ∧ w32.cell? ⟨gb296, 4, none⟩ = some (.string a0_4) ∧ w32.cell? ⟨gb296, 5, none⟩ = some (.int .i64 a0_5) ∧ w32.cell? ⟨gb296, 6, none⟩ = some (.int .i64 a0_6) ∧ w32.cell? ⟨gb296, 7, none⟩ = some (.int .u64 a0_7) := hS_
                refine norm_ (a' := ?_) ?_ ?_
                rotate_left
                · simp only [putAll, Act.put, List.setIfInBounds_toArray, List.set_cons_zero, List.set_cons_succ]
                  rfl
                refine two_ (i := 11) (j := 12) (Ni := some 44) (Nj := some 5) #[true, true, true, true, true, true, true, true, true, true, true, true, false, true, false, false] #[true, true, true, true, true, true, true, true, true, true, true, false, true, true, false, false] rfl rfl rfl rfl (two_of HT_.out (by kernel_rfl)) (by decide) (by decide) (fun K hK => ?_) (fun K hK => ?_)
                · skip
                  refine goes_ Try.func66 (by kernel_rfl) rfl #[.agg #[.string a0_2, .slice A0_3 l0_3.length c0_3], .int .u64 a1, .string a0_4] (by rfl) rfl rfl (by (try simp only [List.map_toArray, List.map_cons, List.map_nil]); first | done | rfl | (simp only [List.length_drop, List.length_take]; rfl)) ?_
                  with_reducible refine (bureauref04_Other.calls kj4 a0_2 (fun k_ => k_ < w.heap.size) _ _ l0_3 a1 a0_4 t304 t305 _ ?side1 A25.out).mono ?_
                  (case side1 => exact Kd.V_mk HC0_3.out (Kd.F_below (Kd.C_F k100_heap HR0_3.out) (by repeat (first | (with_reducible first | exact HB.out | apply ea | apply en | apply ed | refine bs ?_ GE296.out | refine bs ?_ GE309.out) | exact HB.out))))
                  rintro e w33 ⟨v306, rfl, ho0, hb⟩
                  refine ⟨_, rfl, ?_⟩
                  have n0_ := aM (Kd.V_below (by (with_reducible repeat (first | apply va | apply vn | apply vd)); exact HO303.out) hb)
                  have n1_ := aM (Kd.V_lower (Kd.V_mono (ok' := fun k_ => k_ ≠ gb296 ∧ k_ ≠ gb309) ho0 (fun k_ hk_ => ⟨Or.elim hk_ (fun hs_ => fun e_ => Nat.not_le.2 hs_ (by rw [e_]; exact GW296.out)) (fun hn_ => (Kd.freshB (g := gb296) (o := .cells #[.string a0_0, .slice A0_1 l0_1.length c0_1, .string a0_2, .slice A0_3 l0_3.length c0_3, .string a0_4, .int .i64 a0_5, .int .i64 a0_6, .int .u64 a0_7] 77 (0, 0)) (by (with_reducible repeat (first | refine bn ?_ _ | refine bd ?_ | refine ba ?_ _)); exact BK296.out) k_ hn_)), Or.elim hk_ (fun hs_ => fun e_ => Nat.not_le.2 hs_ (by rw [e_]; exact GW309.out)) (fun hn_ => (Kd.freshB (g := gb309) (o := .cells #[.string (⟨#[]⟩ : ByteArray), .slice none 0 0] 51 (0, 0)) (by (with_reducible repeat (first | refine bn ?_ _ | refine bd ?_ | refine ba ?_ _)); exact BK309.out) k_ hn_))⟩)) (bZ (by repeat (first | (with_reducible first | exact HB.out | apply ea | apply en | apply ed | refine bs ?_ GE296.out | refine bs ?_ GE309.out) | exact HB.out))))
                  have n2_ := aM (bB (g := gb296) (o := .cells #[.string a0_0, .slice A0_1 l0_1.length c0_1, .string a0_2, .slice A0_3 l0_3.length c0_3, .string a0_4, .int .i64 a0_5, .int .i64 a0_6, .int .u64 a0_7] 77 (0, 0)) (by (with_reducible repeat (first | refine bn ?_ _ | refine bd ?_ | refine ba ?_ _)); exact BK296.out) hb)
                  have n3_ := aM (bB (g := gb309) (o := .cells #[.string (⟨#[]⟩ : ByteArray), .slice none 0 0] 51 (0, 0)) (by (with_reducible repeat (first | refine bn ?_ _ | refine bd ?_ | refine ba ?_ _)); exact BK309.out) hb)
                  have n4_ := aM (bP (by repeat (first | (with_reducible first | exact HB.out | apply ea | apply en | apply ed | refine bs ?_ GE296.out | refine bs ?_ GE309.out) | exact HB.out)) hb)
                  clear HO303
                  clear BK296
                  clear BK309
                  clear HB
                  have HO303 := n0_
                  have HO307 := n1_
                  have BK296 := n2_
                  have BK309 := n3_
                  have HB := n4_
                  clear n0_ n1_ n2_ n3_ n4_
                  (try clear hb)
                  (try clear hb2)
                  (try clear hk)
                  (try clear hi)
                  (try clear ho0)
                  refine hK.out _ _ ⟨(bC BK296.out 0).trans rfl, (bC BK296.out 1).trans rfl, (bC BK296.out 2).trans rfl, (bC BK296.out 3).trans rfl, (bC BK296.out 4).trans rfl, (bC BK296.out 5).trans rfl, (bC BK296.out 6).trans rfl, (bC BK296.out 7).trans rfl⟩ (fun hHeld => ?_)
                  clear hK K
                  refine norm_ (a' := ?_) ?_ ?_
                  rotate_left
                  · show Act.put _ (some 44) _ = _
                    simp only [Act.put, List.setIfInBounds_toArray, List.set_cons_zero, List.set_cons_succ, i64_w, i32_w]
                    rfl
                  exact norm_ (by first | (simp only [putAll, Act.put, List.setIfInBounds_toArray, List.set_cons_zero, List.set_cons_succ]; done) | (simp only [putAll, Act.put, List.setIfInBounds_toArray, List.set_cons_zero, List.set_cons_succ]; rfl)) (hJ5_11_13 (v302, v306, gb309) _ ⟨hHeld, (by (with_reducible repeat (first | apply va | apply vn | apply vd)); exact HO303.out), (by (with_reducible repeat (first | apply va | apply vn | apply vd)); exact HO307.out), (by (with_reducible repeat (first | refine bn ?_ _ | refine bd ?_ | refine ba ?_ _)); exact BK296.out), (by (with_reducible repeat (first | refine bn ?_ _ | refine bd ?_ | refine ba ?_ _)); exact BK309.out), GW309.out, GE309.out, NB296_309.out, NB309_296.out, (by repeat (first | (with_reducible first | exact HB.out | apply ea | apply en | apply ed | refine bs ?_ GE296.out | refine bs ?_ GE309.out) | exact HB.out))⟩)
                · skip
                  refine box_step ?hg (N := 5) ?hd (cs := #[.string (⟨#[]⟩ : ByteArray), .slice none 0 0]) (t := 51) ?hr ?_; (case hd => rfl); (case hg => rfl); (case hr => first | (go_simp; done) | (go_simp; rfl))
                  intro gb308 hg w33 hbox hb
                  have n0_ := aM (Kd.V_below (Kd.V_elderB (by (with_reducible repeat (first | apply va | apply vn | apply vd)); exact HO303.out) gb308 (Nat.le_of_eq hg.symm)) hb)
                  have n1_ := aM (bB (g := gb296) (o := .cells #[.string a0_0, .slice A0_1 l0_1.length c0_1, .string a0_2, .slice A0_3 l0_3.length c0_3, .string a0_4, .int .i64 a0_5, .int .i64 a0_6, .int .u64 a0_7] 77 (0, 0)) (by (with_reducible repeat (first | refine bn ?_ _ | refine bd ?_ | refine ba ?_ _)); exact BK296.out) hb)
                  have n2_ := aM (bB (g := gb309) (o := .cells #[.string (⟨#[]⟩ : ByteArray), .slice none 0 0] 51 (0, 0)) (by (with_reducible repeat (first | refine bn ?_ _ | refine bd ?_ | refine ba ?_ _)); exact BK309.out) hb)
                  have n3_ := aM (bP (by repeat (first | (with_reducible first | exact HB.out | apply ea | apply en | apply ed | refine bs ?_ GE296.out | refine bs ?_ GE309.out) | exact HB.out)) hb)
                  have n4_ := aM (hbox)
                  have n5_ := aM ((by rw [hg]; exact (bZ (by repeat (first | (with_reducible first | exact HB.out | apply ea | apply en | apply ed | refine bs ?_ GE296.out | refine bs ?_ GE309.out) | exact HB.out))) : w.heap.size ≤ gb308))
                  have n6_ := aM ((by rw [hg]; exact (bZ (by repeat (first | (with_reducible first | exact HB.out | apply ea | apply en | apply ed | refine bs ?_ GE296.out | refine bs ?_ GE309.out) | exact HB.out))) : w.heap.size ≤ gb308))
                  have n7_ := aM ((by rw [hg]; exact Nat.ne_of_lt (blk_lt (g := gb296) (o := .cells #[.string a0_0, .slice A0_1 l0_1.length c0_1, .string a0_2, .slice A0_3 l0_3.length c0_3, .string a0_4, .int .i64 a0_5, .int .i64 a0_6, .int .u64 a0_7] 77 (0, 0)) (by (with_reducible repeat (first | refine bn ?_ _ | refine bd ?_ | refine ba ?_ _)); exact BK296.out)) : gb296 ≠ gb308))
                  have n8_ := aM ((by rw [hg]; exact Nat.ne_of_gt (blk_lt (g := gb296) (o := .cells #[.string a0_0, .slice A0_1 l0_1.length c0_1, .string a0_2, .slice A0_3 l0_3.length c0_3, .string a0_4, .int .i64 a0_5, .int .i64 a0_6, .int .u64 a0_7] 77 (0, 0)) (by (with_reducible repeat (first | refine bn ?_ _ | refine bd ?_ | refine ba ?_ _)); exact BK296.out)) : gb308 ≠ gb296))
                  have n9_ := aM ((by rw [hg]; exact Nat.ne_of_lt (blk_lt (g := gb309) (o := .cells #[.string (⟨#[]⟩ : ByteArray), .slice none 0 0] 51 (0, 0)) (by (with_reducible repeat (first | refine bn ?_ _ | refine bd ?_ | refine ba ?_ _)); exact BK309.out)) : gb309 ≠ gb308))
                  have n10_ := aM ((by rw [hg]; exact Nat.ne_of_gt (blk_lt (g := gb309) (o := .cells #[.string (⟨#[]⟩ : ByteArray), .slice none 0 0] 51 (0, 0)) (by (with_reducible repeat (first | refine bn ?_ _ | refine bd ?_ | refine ba ?_ _)); exact BK309.out)) : gb308 ≠ gb309))
                  clear HO303
                  clear BK296
                  clear BK309
                  clear HB
                  have HO303 := n0_
                  have BK296 := n1_
                  have BK309 := n2_
                  have HB := n3_
                  have BK308 := n4_
                  have GW308 := n5_
                  have GE308 := n6_
                  have NB296_308 := n7_
                  have NB308_296 := n8_
                  have NB309_308 := n9_
                  have NB308_309 := n10_
                  clear n0_ n1_ n2_ n3_ n4_ n5_ n6_ n7_ n8_ n9_ n10_
                  clear hb hbox hg
                  refine hK.out _ _ ⟨(bC BK296.out 0).trans rfl, (bC BK296.out 1).trans rfl, (bC BK296.out 2).trans rfl, (bC BK296.out 3).trans rfl, (bC BK296.out 4).trans rfl, (bC BK296.out 5).trans rfl, (bC BK296.out 6).trans rfl, (bC BK296.out 7).trans rfl⟩ (fun hHeld => ?_)
                  clear hK K
                  refine norm_ (a' := ?_) ?_ ?_
                  rotate_left
                  · show Act.put _ (some 5) _ = _
                    simp only [Act.put, List.setIfInBounds_toArray, List.set_cons_zero, List.set_cons_succ, i64_w, i32_w]
                    rfl
                  exact norm_ (by first | (simp only [putAll, Act.put, List.setIfInBounds_toArray, List.set_cons_zero, List.set_cons_succ]; done) | (simp only [putAll, Act.put, List.setIfInBounds_toArray, List.set_cons_zero, List.set_cons_succ]; rfl)) (hJ5_12_13 (v302, gb308, gb309) _ ⟨hHeld, (by (with_reducible repeat (first | apply va | apply vn | apply vd)); exact Kd.V_mono HO303.out (fun _ hk => ⟨hk.1.1, ⟨hk.2, hk.1.2⟩⟩)), (by (with_reducible repeat (first | refine bn ?_ _ | refine bd ?_ | refine ba ?_ _)); exact BK296.out), (by (with_reducible repeat (first | refine bn ?_ _ | refine bd ?_ | refine ba ?_ _)); exact BK308.out), (by (with_reducible repeat (first | refine bn ?_ _ | refine bd ?_ | refine ba ?_ _)); exact BK309.out), GW308.out, GE308.out, NB296_308.out, NB308_296.out, NB309_308.out, NB308_309.out, GW309.out, GE309.out, NB296_309.out, NB309_296.out, (by repeat (first | (with_reducible first | exact HB.out | apply ea | apply en | apply ed | refine bs ?_ GE296.out | refine bs ?_ GE309.out | refine bs ?_ GE308.out) | exact HB.out))⟩)
            · skip
              rintro ⟨v302, gb308⟩ w32 ⟨hS_, h0_, h1_, h2_, h3_, h4_, h5_, h6_, h7_⟩
              have n0_ : Aside0 (Kd.V k100 100 w32 w.heap.size (fun k_ => k_ ≠ gb296 ∧ k_ ≠ gb308) v302 t301) := ⟨h0_⟩
              have n1_ : Aside0 (w32.heap[gb296]? = some (.cells #[.string a0_0, .slice A0_1 l0_1.length c0_1, .string a0_2, .slice A0_3 l0_3.length c0_3, .string a0_4, .int .i64 a0_5, .int .i64 a0_6, .int .u64 a0_7] 77 (0, 0))) := ⟨h1_⟩
              have n2_ : Aside0 (w32.heap[gb308]? = some (.cells #[.string (⟨#[]⟩ : ByteArray), .slice none 0 0] 51 (0, 0))) := ⟨h2_⟩
              have n3_ : Aside0 (w.heap.size ≤ gb308) := ⟨h3_⟩
              have n4_ : Aside0 (w.heap.size ≤ gb308) := ⟨h4_⟩
              have n5_ : Aside0 (gb296 ≠ gb308) := ⟨h5_⟩
              have n6_ : Aside0 (gb308 ≠ gb296) := ⟨h6_⟩
              have n7_ : Aside0 (Below w.heap.size w w32) := ⟨h7_⟩
              clear BK296
              clear HB
              clear h0_ h1_ h2_ h3_ h4_ h5_ h6_ h7_
              have HO303 := n0_
              have BK296 := n1_
              have BK308 := n2_
              have GW308 := n3_
              have GE308 := n4_
              have NB296_308 := n5_
              have NB308_296 := n6_
              have HB := n7_
              clear n0_ n1_ n2_ n3_ n4_ n5_ n6_ n7_
              have hHeld : w32.cell? ⟨gb296, 0, none⟩ = some (.string a0_0) ∧ w32.cell? ⟨gb296, 1, none⟩ = some (.slice A0_1 l0_1.length c0_1) ∧ w32.cell? ⟨gb296, 2, none⟩ = some (.string a0_2) ∧ w32.cell? ⟨gb296, 3, none⟩ = some (.slice A0_3 l0_3.length c0_3) ∧ w32.cell? ⟨gb296, 4, none⟩ = some (.string a0_4) ∧ w32.cell? ⟨gb296, 5, none⟩ = some (.int .i64 a0_5) ∧ w32.cell? ⟨gb296, 6, none⟩ = some (.int .i64 a0_6) ∧ w32.cell? ⟨gb296, 7, none⟩ = some (.int .u64 a0_7) := hS_
              refine norm_ (a' := ?_) ?_ ?_
              rotate_left
              · simp only [putAll, Act.put, List.setIfInBounds_toArray, List.set_cons_zero, List.set_cons_succ]
                rfl
              refine two_ (i := 11) (j := 13) (Ni := some 44) (Nj := some 6) #[true, true, true, true, true, true, true, true, true, true, true, true, true, false, false, false] #[true, true, true, true, true, true, true, true, true, true, true, false, true, true, false, false] rfl rfl rfl rfl (two_of HT_.out (by kernel_rfl)) (by decide) (by decide) (fun K hK => ?_) (fun K hK => ?_)
              · skip
                refine goes_ Try.func66 (by kernel_rfl) rfl #[.agg #[.string a0_2, .slice A0_3 l0_3.length c0_3], .int .u64 a1, .string a0_4] (by rfl) rfl rfl (by (try simp only [List.map_toArray, List.map_cons, List.map_nil]); first | done | rfl | (simp only [List.length_drop, List.length_take]; rfl)) ?_
                with_reducible refine (bureauref04_Other.calls kj4 a0_2 (fun k_ => k_ < w.heap.size) _ _ l0_3 a1 a0_4 t304 t305 _ ?side1 A25.out).mono ?_
                (case side1 => exact Kd.V_mk HC0_3.out (Kd.F_below (Kd.C_F k100_heap HR0_3.out) (by repeat (first | (with_reducible first | exact HB.out | apply ea | apply en | apply ed | refine bs ?_ GE296.out | refine bs ?_ GE308.out) | exact HB.out))))
                rintro e w33 ⟨v306, rfl, ho0, hb⟩
                refine ⟨_, rfl, ?_⟩
                have n0_ := aM (Kd.V_below (by (with_reducible repeat (first | apply va | apply vn | apply vd)); exact HO303.out) hb)
                have n1_ := aM (Kd.V_lower (Kd.V_mono (ok' := fun k_ => k_ ≠ gb296 ∧ k_ ≠ gb308) ho0 (fun k_ hk_ => ⟨Or.elim hk_ (fun hs_ => fun e_ => Nat.not_le.2 hs_ (by rw [e_]; exact GW296.out)) (fun hn_ => (Kd.freshB (g := gb296) (o := .cells #[.string a0_0, .slice A0_1 l0_1.length c0_1, .string a0_2, .slice A0_3 l0_3.length c0_3, .string a0_4, .int .i64 a0_5, .int .i64 a0_6, .int .u64 a0_7] 77 (0, 0)) (by (with_reducible repeat (first | refine bn ?_ _ | refine bd ?_ | refine ba ?_ _)); exact BK296.out) k_ hn_)), Or.elim hk_ (fun hs_ => fun e_ => Nat.not_le.2 hs_ (by rw [e_]; exact GW308.out)) (fun hn_ => (Kd.freshB (g := gb308) (o := .cells #[.string (⟨#[]⟩ : ByteArray), .slice none 0 0] 51 (0, 0)) (by (with_reducible repeat (first | refine bn ?_ _ | refine bd ?_ | refine ba ?_ _)); exact BK308.out) k_ hn_))⟩)) (bZ (by repeat (first | (with_reducible first | exact HB.out | apply ea | apply en | apply ed | refine bs ?_ GE296.out | refine bs ?_ GE308.out) | exact HB.out))))
                have n2_ := aM (bB (g := gb296) (o := .cells #[.string a0_0, .slice A0_1 l0_1.length c0_1, .string a0_2, .slice A0_3 l0_3.length c0_3, .string a0_4, .int .i64 a0_5, .int .i64 a0_6, .int .u64 a0_7] 77 (0, 0)) (by (with_reducible repeat (first | refine bn ?_ _ | refine bd ?_ | refine ba ?_ _)); exact BK296.out) hb)
                have n3_ := aM (bB (g := gb308) (o := .cells #[.string (⟨#[]⟩ : ByteArray), .slice none 0 0] 51 (0, 0)) (by (with_reducible repeat (first | refine bn ?_ _ | refine bd ?_ | refine ba ?_ _)); exact BK308.out) hb)
                have n4_ := aM (bP (by repeat (first | (with_reducible first | exact HB.out | apply ea | apply en | apply ed | refine bs ?_ GE296.out | refine bs ?_ GE308.out) | exact HB.out)) hb)
                clear HO303
                clear BK296
                clear BK308
                clear HB
                have HO303 := n0_
                have HO307 := n1_
                have BK296 := n2_
                have BK308 := n3_
                have HB := n4_
                clear n0_ n1_ n2_ n3_ n4_
                (try clear hb)
                (try clear hb2)
                (try clear hk)
                (try clear hi)
                (try clear ho0)
                refine hK.out _ _ ⟨(bC BK296.out 0).trans rfl, (bC BK296.out 1).trans rfl, (bC BK296.out 2).trans rfl, (bC BK296.out 3).trans rfl, (bC BK296.out 4).trans rfl, (bC BK296.out 5).trans rfl, (bC BK296.out 6).trans rfl, (bC BK296.out 7).trans rfl⟩ (fun hHeld => ?_)
                clear hK K
                refine norm_ (a' := ?_) ?_ ?_
                rotate_left
                · show Act.put _ (some 44) _ = _
                  simp only [Act.put, List.setIfInBounds_toArray, List.set_cons_zero, List.set_cons_succ, i64_w, i32_w]
                  rfl
                exact norm_ (by first | (simp only [putAll, Act.put, List.setIfInBounds_toArray, List.set_cons_zero, List.set_cons_succ]; done) | (simp only [putAll, Act.put, List.setIfInBounds_toArray, List.set_cons_zero, List.set_cons_succ]; rfl)) (hJ5_11_12 (v302, v306, gb308) _ ⟨hHeld, (by (with_reducible repeat (first | apply va | apply vn | apply vd)); exact HO303.out), (by (with_reducible repeat (first | apply va | apply vn | apply vd)); exact HO307.out), (by (with_reducible repeat (first | refine bn ?_ _ | refine bd ?_ | refine ba ?_ _)); exact BK296.out), (by (with_reducible repeat (first | refine bn ?_ _ | refine bd ?_ | refine ba ?_ _)); exact BK308.out), GW308.out, GE308.out, NB296_308.out, NB308_296.out, (by repeat (first | (with_reducible first | exact HB.out | apply ea | apply en | apply ed | refine bs ?_ GE296.out | refine bs ?_ GE308.out) | exact HB.out))⟩)
              · skip
                refine box_step ?hg (N := 6) ?hd (cs := #[.string (⟨#[]⟩ : ByteArray), .slice none 0 0]) (t := 51) ?hr ?_; (case hd => rfl); (case hg => rfl); (case hr => first | (go_simp; done) | (go_simp; rfl))
                intro gb309 hg w33 hbox hb
                have n0_ := aM (Kd.V_below (Kd.V_elderB (by (with_reducible repeat (first | apply va | apply vn | apply vd)); exact HO303.out) gb309 (Nat.le_of_eq hg.symm)) hb)
                have n1_ := aM (bB (g := gb296) (o := .cells #[.string a0_0, .slice A0_1 l0_1.length c0_1, .string a0_2, .slice A0_3 l0_3.length c0_3, .string a0_4, .int .i64 a0_5, .int .i64 a0_6, .int .u64 a0_7] 77 (0, 0)) (by (with_reducible repeat (first | refine bn ?_ _ | refine bd ?_ | refine ba ?_ _)); exact BK296.out) hb)
                have n2_ := aM (bB (g := gb308) (o := .cells #[.string (⟨#[]⟩ : ByteArray), .slice none 0 0] 51 (0, 0)) (by (with_reducible repeat (first | refine bn ?_ _ | refine bd ?_ | refine ba ?_ _)); exact BK308.out) hb)
                have n3_ := aM (bP (by repeat (first | (with_reducible first | exact HB.out | apply ea | apply en | apply ed | refine bs ?_ GE296.out | refine bs ?_ GE308.out) | exact HB.out)) hb)
                have n4_ := aM (hbox)
                have n5_ := aM ((by rw [hg]; exact (bZ (by repeat (first | (with_reducible first | exact HB.out | apply ea | apply en | apply ed | refine bs ?_ GE296.out | refine bs ?_ GE308.out) | exact HB.out))) : w.heap.size ≤ gb309))
                have n6_ := aM ((by rw [hg]; exact (bZ (by repeat (first | (with_reducible first | exact HB.out | apply ea | apply en | apply ed | refine bs ?_ GE296.out | refine bs ?_ GE308.out) | exact HB.out))) : w.heap.size ≤ gb309))
                have n7_ := aM ((by rw [hg]; exact Nat.ne_of_lt (blk_lt (g := gb296) (o := .cells #[.string a0_0, .slice A0_1 l0_1.length c0_1, .string a0_2, .slice A0_3 l0_3.length c0_3, .string a0_4, .int .i64 a0_5, .int .i64 a0_6, .int .u64 a0_7] 77 (0, 0)) (by (with_reducible repeat (first | refine bn ?_ _ | refine bd ?_ | refine ba ?_ _)); exact BK296.out)) : gb296 ≠ gb309))
                have n8_ := aM ((by rw [hg]; exact Nat.ne_of_gt (blk_lt (g := gb296) (o := .cells #[.string a0_0, .slice A0_1 l0_1.length c0_1, .string a0_2, .slice A0_3 l0_3.length c0_3, .string a0_4, .int .i64 a0_5, .int .i64 a0_6, .int .u64 a0_7] 77 (0, 0)) (by (with_reducible repeat (first | refine bn ?_ _ | refine bd ?_ | refine ba ?_ _)); exact BK296.out)) : gb309 ≠ gb296))
                have n9_ := aM ((by rw [hg]; exact Nat.ne_of_lt (blk_lt (g := gb308) (o := .cells #[.string (⟨#[]⟩ : ByteArray), .slice none 0 0] 51 (0, 0)) (by (with_reducible repeat (first | refine bn ?_ _ | refine bd ?_ | refine ba ?_ _)); exact BK308.out)) : gb308 ≠ gb309))
                have n10_ := aM ((by rw [hg]; exact Nat.ne_of_gt (blk_lt (g := gb308) (o := .cells #[.string (⟨#[]⟩ : ByteArray), .slice none 0 0] 51 (0, 0)) (by (with_reducible repeat (first | refine bn ?_ _ | refine bd ?_ | refine ba ?_ _)); exact BK308.out)) : gb309 ≠ gb308))
                clear HO303
                clear BK296
                clear BK308
                clear HB
                have HO303 := n0_
                have BK296 := n1_
                have BK308 := n2_
                have HB := n3_
                have BK309 := n4_
                have GW309 := n5_
                have GE309 := n6_
                have NB296_309 := n7_
                have NB309_296 := n8_
                have NB308_309 := n9_
                have NB309_308 := n10_
                clear n0_ n1_ n2_ n3_ n4_ n5_ n6_ n7_ n8_ n9_ n10_
                clear hb hbox hg
                refine hK.out _ _ ⟨(bC BK296.out 0).trans rfl, (bC BK296.out 1).trans rfl, (bC BK296.out 2).trans rfl, (bC BK296.out 3).trans rfl, (bC BK296.out 4).trans rfl, (bC BK296.out 5).trans rfl, (bC BK296.out 6).trans rfl, (bC BK296.out 7).trans rfl⟩ (fun hHeld => ?_)
                clear hK K
                refine norm_ (a' := ?_) ?_ ?_
                rotate_left
                · show Act.put _ (some 6) _ = _
                  simp only [Act.put, List.setIfInBounds_toArray, List.set_cons_zero, List.set_cons_succ, i64_w, i32_w]
                  rfl
                exact norm_ (by first | (simp only [putAll, Act.put, List.setIfInBounds_toArray, List.set_cons_zero, List.set_cons_succ]; done) | (simp only [putAll, Act.put, List.setIfInBounds_toArray, List.set_cons_zero, List.set_cons_succ]; rfl)) (hJ5_12_13 (v302, gb308, gb309) _ ⟨hHeld, (by (with_reducible repeat (first | apply va | apply vn | apply vd)); exact Kd.V_mono HO303.out (fun _ hk => ⟨hk.1.1, ⟨hk.1.2, hk.2⟩⟩)), (by (with_reducible repeat (first | refine bn ?_ _ | refine bd ?_ | refine ba ?_ _)); exact BK296.out), (by (with_reducible repeat (first | refine bn ?_ _ | refine bd ?_ | refine ba ?_ _)); exact BK308.out), (by (with_reducible repeat (first | refine bn ?_ _ | refine bd ?_ | refine ba ?_ _)); exact BK309.out), GW308.out, GE308.out, NB296_308.out, NB308_296.out, NB309_308.out, NB308_309.out, GW309.out, GE309.out, NB296_309.out, NB309_296.out, (by repeat (first | (with_reducible first | exact HB.out | apply ea | apply en | apply ed | refine bs ?_ GE296.out | refine bs ?_ GE308.out | refine bs ?_ GE309.out) | exact HB.out))⟩)
          · skip
            rintro ⟨v302, v306⟩ w32 ⟨hS_, h0_, h1_, h2_, h3_⟩
            have n0_ : Aside0 (Kd.V k100 100 w32 w.heap.size (fun k_ => k_ ≠ gb296) v302 t301) := ⟨h0_⟩
            have n1_ : Aside0 (Kd.V k100 100 w32 w.heap.size (fun k_ => k_ ≠ gb296) v306 t305) := ⟨h1_⟩
            have n2_ : Aside0 (w32.heap[gb296]? = some (.cells #[.string a0_0, .slice A0_1 l0_1.length c0_1, .string a0_2, .slice A0_3 l0_3.length c0_3, .string a0_4, .int .i64 a0_5, .int .i64 a0_6, .int .u64 a0_7] 77 (0, 0))) := ⟨h2_⟩
            have n3_ : Aside0 (Below w.heap.size w w32) := ⟨h3_⟩
            clear BK296
            clear HB
            clear h0_ h1_ h2_ h3_
            have HO303 := n0_
            have HO307 := n1_
            have BK296 := n2_
            have HB := n3_
            clear n0_ n1_ n2_ n3_
            have hHeld : w32.cell? ⟨gb296, 0, none⟩ = some (.string a0_0) ∧ w32.cell? ⟨gb296, 1, none⟩ = some (.slice A0_1 l0_1.length c0_1) ∧ w32.cell? ⟨gb296, 2, none⟩ = some (.string a0_2) ∧ w32.cell? ⟨gb296, 3, none⟩ = some (.slice A0_3 l0_3.length c0_3) ∧ w32.cell? ⟨gb296, 4, none⟩ = some (.string a0_4) ∧ w32.cell? ⟨gb296, 5, none⟩ = some (.int .i64 a0_5) ∧ w32.cell? ⟨gb296, 6, none⟩ = some (.int .i64 a0_6) ∧ w32.cell? ⟨gb296, 7, none⟩ = some (.int .u64 a0_7) := hS_
            refine norm_ (a' := ?_) ?_ ?_
            rotate_left
            · simp only [putAll, Act.put, List.setIfInBounds_toArray, List.set_cons_zero, List.set_cons_succ]
              rfl
            refine two_ (i := 12) (j := 13) (Ni := some 5) (Nj := some 6) #[true, true, true, true, true, true, true, true, true, true, true, true, true, false, false, false] #[true, true, true, true, true, true, true, true, true, true, true, true, false, true, false, false] rfl rfl rfl rfl (two_of HT_.out (by kernel_rfl)) (by decide) (by decide) (fun K hK => ?_) (fun K hK => ?_)
            · skip
              refine box_step ?hg (N := 5) ?hd (cs := #[.string (⟨#[]⟩ : ByteArray), .slice none 0 0]) (t := 51) ?hr ?_; (case hd => rfl); (case hg => rfl); (case hr => first | (go_simp; done) | (go_simp; rfl))
              intro gb308 hg w33 hbox hb
              have n0_ := aM (Kd.V_below (Kd.V_elderB (by (with_reducible repeat (first | apply va | apply vn | apply vd)); exact HO303.out) gb308 (Nat.le_of_eq hg.symm)) hb)
              have n1_ := aM (Kd.V_below (Kd.V_elderB (by (with_reducible repeat (first | apply va | apply vn | apply vd)); exact HO307.out) gb308 (Nat.le_of_eq hg.symm)) hb)
              have n2_ := aM (bB (g := gb296) (o := .cells #[.string a0_0, .slice A0_1 l0_1.length c0_1, .string a0_2, .slice A0_3 l0_3.length c0_3, .string a0_4, .int .i64 a0_5, .int .i64 a0_6, .int .u64 a0_7] 77 (0, 0)) (by (with_reducible repeat (first | refine bn ?_ _ | refine bd ?_ | refine ba ?_ _)); exact BK296.out) hb)
              have n3_ := aM (bP (by repeat (first | (with_reducible first | exact HB.out | apply ea | apply en | apply ed | refine bs ?_ GE296.out) | exact HB.out)) hb)
              have n4_ := aM (hbox)
              have n5_ := aM ((by rw [hg]; exact (bZ (by repeat (first | (with_reducible first | exact HB.out | apply ea | apply en | apply ed | refine bs ?_ GE296.out) | exact HB.out))) : w.heap.size ≤ gb308))
              have n6_ := aM ((by rw [hg]; exact (bZ (by repeat (first | (with_reducible first | exact HB.out | apply ea | apply en | apply ed | refine bs ?_ GE296.out) | exact HB.out))) : w.heap.size ≤ gb308))
              have n7_ := aM ((by rw [hg]; exact Nat.ne_of_lt (blk_lt (g := gb296) (o := .cells #[.string a0_0, .slice A0_1 l0_1.length c0_1, .string a0_2, .slice A0_3 l0_3.length c0_3, .string a0_4, .int .i64 a0_5, .int .i64 a0_6, .int .u64 a0_7] 77 (0, 0)) (by (with_reducible repeat (first | refine bn ?_ _ | refine bd ?_ | refine ba ?_ _)); exact BK296.out)) : gb296 ≠ gb308))
              have n8_ := aM ((by rw [hg]; exact Nat.ne_of_gt (blk_lt (g := gb296) (o := .cells #[.string a0_0, .slice A0_1 l0_1.length c0_1, .string a0_2, .slice A0_3 l0_3.length c0_3, .string a0_4, .int .i64 a0_5, .int .i64 a0_6, .int .u64 a0_7] 77 (0, 0)) (by (with_reducible repeat (first | refine bn ?_ _ | refine bd ?_ | refine ba ?_ _)); exact BK296.out)) : gb308 ≠ gb296))
              clear HO303
              clear HO307
              clear BK296
              clear HB
              have HO303 := n0_
              have HO307 := n1_
              have BK296 := n2_
              have HB := n3_
              have BK308 := n4_
              have GW308 := n5_
              have GE308 := n6_
              have NB296_308 := n7_
              have NB308_296 := n8_
              clear n0_ n1_ n2_ n3_ n4_ n5_ n6_ n7_ n8_
              clear hb hbox hg
              refine hK.out _ _ ⟨(bC BK296.out 0).trans rfl, (bC BK296.out 1).trans rfl, (bC BK296.out 2).trans rfl, (bC BK296.out 3).trans rfl, (bC BK296.out 4).trans rfl, (bC BK296.out 5).trans rfl, (bC BK296.out 6).trans rfl, (bC BK296.out 7).trans rfl⟩ (fun hHeld => ?_)
              clear hK K
              refine norm_ (a' := ?_) ?_ ?_
              rotate_left
              · show Act.put _ (some 5) _ = _
                simp only [Act.put, List.setIfInBounds_toArray, List.set_cons_zero, List.set_cons_succ, i64_w, i32_w]
                rfl
              exact norm_ (by first | (simp only [putAll, Act.put, List.setIfInBounds_toArray, List.set_cons_zero, List.set_cons_succ]; done) | (simp only [putAll, Act.put, List.setIfInBounds_toArray, List.set_cons_zero, List.set_cons_succ]; rfl)) (hJ5_11_12 (v302, v306, gb308) _ ⟨hHeld, (by (with_reducible repeat (first | apply va | apply vn | apply vd)); exact HO303.out), (by (with_reducible repeat (first | apply va | apply vn | apply vd)); exact HO307.out), (by (with_reducible repeat (first | refine bn ?_ _ | refine bd ?_ | refine ba ?_ _)); exact BK296.out), (by (with_reducible repeat (first | refine bn ?_ _ | refine bd ?_ | refine ba ?_ _)); exact BK308.out), GW308.out, GE308.out, NB296_308.out, NB308_296.out, (by repeat (first | (with_reducible first | exact HB.out | apply ea | apply en | apply ed | refine bs ?_ GE296.out | refine bs ?_ GE308.out) | exact HB.out))⟩)
            · skip
              refine box_step ?hg (N := 6) ?hd (cs := #[.string (⟨#[]⟩ : ByteArray), .slice none 0 0]) (t := 51) ?hr ?_; (case hd => rfl); (case hg => rfl); (case hr => first | (go_simp; done) | (go_simp; rfl))
              intro gb309 hg w33 hbox hb
              have n0_ := aM (Kd.V_below (Kd.V_elderB (by (with_reducible repeat (first | apply va | apply vn | apply vd)); exact HO303.out) gb309 (Nat.le_of_eq hg.symm)) hb)
              have n1_ := aM (Kd.V_below (Kd.V_elderB (by (with_reducible repeat (first | apply va | apply vn | apply vd)); exact HO307.out) gb309 (Nat.le_of_eq hg.symm)) hb)
              have n2_ := aM (bB (g := gb296) (o := .cells #[.string a0_0, .slice A0_1 l0_1.length c0_1, .string a0_2, .slice A0_3 l0_3.length c0_3, .string a0_4, .int .i64 a0_5, .int .i64 a0_6, .int .u64 a0_7] 77 (0, 0)) (by (with_reducible repeat (first | refine bn ?_ _ | refine bd ?_ | refine ba ?_ _)); exact BK296.out) hb)
              have n3_ := aM (bP (by repeat (first | (with_reducible first | exact HB.out | apply ea | apply en | apply ed | refine bs ?_ GE296.out) | exact HB.out)) hb)
              have n4_ := aM (hbox)
              have n5_ := aM ((by rw [hg]; exact (bZ (by repeat (first | (with_reducible first | exact HB.out | apply ea | apply en | apply ed | refine bs ?_ GE296.out) | exact HB.out))) : w.heap.size ≤ gb309))
              have n6_ := aM ((by rw [hg]; exact (bZ (by repeat (first | (with_reducible first | exact HB.out | apply ea | apply en | apply ed | refine bs ?_ GE296.out) | exact HB.out))) : w.heap.size ≤ gb309))
              have n7_ := aM ((by rw [hg]; exact Nat.ne_of_lt (blk_lt (g := gb296) (o := .cells #[.string a0_0, .slice A0_1 l0_1.length c0_1, .string a0_2, .slice A0_3 l0_3.length c0_3, .string a0_4, .int .i64 a0_5, .int .i64 a0_6, .int .u64 a0_7] 77 (0, 0)) (by (with_reducible repeat (first | refine bn ?_ _ | refine bd ?_ | refine ba ?_ _)); exact BK296.out)) : gb296 ≠ gb309))
              have n8_ := aM ((by rw [hg]; exact Nat.ne_of_gt (blk_lt (g := gb296) (o := .cells #[.string a0_0, .slice A0_1 l0_1.length c0_1, .string a0_2, .slice A0_3 l0_3.length c0_3, .string a0_4, .int .i64 a0_5, .int .i64 a0_6, .int .u64 a0_7] 77 (0, 0)) (by (with_reducible repeat (first | refine bn ?_ _ | refine bd ?_ | refine ba ?_ _)); exact BK296.out)) : gb309 ≠ gb296))
              clear HO303
              clear HO307
              clear BK296
              clear HB
              have HO303 := n0_
              have HO307 := n1_
              have BK296 := n2_
              have HB := n3_
              have BK309 := n4_
              have GW309 := n5_
              have GE309 := n6_
              have NB296_309 := n7_
              have NB309_296 := n8_
              clear n0_ n1_ n2_ n3_ n4_ n5_ n6_ n7_ n8_
              clear hb hbox hg
              refine hK.out _ _ ⟨(bC BK296.out 0).trans rfl, (bC BK296.out 1).trans rfl, (bC BK296.out 2).trans rfl, (bC BK296.out 3).trans rfl, (bC BK296.out 4).trans rfl, (bC BK296.out 5).trans rfl, (bC BK296.out 6).trans rfl, (bC BK296.out 7).trans rfl⟩ (fun hHeld => ?_)
              clear hK K
              refine norm_ (a' := ?_) ?_ ?_
              rotate_left
              · show Act.put _ (some 6) _ = _
                simp only [Act.put, List.setIfInBounds_toArray, List.set_cons_zero, List.set_cons_succ, i64_w, i32_w]
                rfl
              exact norm_ (by first | (simp only [putAll, Act.put, List.setIfInBounds_toArray, List.set_cons_zero, List.set_cons_succ]; done) | (simp only [putAll, Act.put, List.setIfInBounds_toArray, List.set_cons_zero, List.set_cons_succ]; rfl)) (hJ5_11_13 (v302, v306, gb309) _ ⟨hHeld, (by (with_reducible repeat (first | apply va | apply vn | apply vd)); exact HO303.out), (by (with_reducible repeat (first | apply va | apply vn | apply vd)); exact HO307.out), (by (with_reducible repeat (first | refine bn ?_ _ | refine bd ?_ | refine ba ?_ _)); exact BK296.out), (by (with_reducible repeat (first | refine bn ?_ _ | refine bd ?_ | refine ba ?_ _)); exact BK309.out), GW309.out, GE309.out, NB296_309.out, NB309_296.out, (by repeat (first | (with_reducible first | exact HB.out | apply ea | apply en | apply ed | refine bs ?_ GE296.out | refine bs ?_ GE309.out) | exact HB.out))⟩)
        · skip
          rintro ⟨v302, gb308, gb309⟩ w33 ⟨hS_, h0_, h1_, h2_, h3_, h4_, h5_, h6_, h7_, h8_, h9_, h10_, h11_, h12_, h13_, h14_⟩
          have n0_ : Aside0 (Kd.V k100 100 w33 w.heap.size (fun k_ => k_ ≠ gb296 ∧ k_ ≠ gb308 ∧ k_ ≠ gb309) v302 t301) := ⟨h0_⟩
          have n1_ : Aside0 (w33.heap[gb296]? = some (.cells #[.string a0_0, .slice A0_1 l0_1.length c0_1, .string a0_2, .slice A0_3 l0_3.length c0_3, .string a0_4, .int .i64 a0_5, .int .i64 a0_6, .int .u64 a0_7] 77 (0, 0))) := ⟨h1_⟩
          have n2_ : Aside0 (w33.heap[gb308]? = some (.cells #[.string (⟨#[]⟩ : ByteArray), .slice none 0 0] 51 (0, 0))) := ⟨h2_⟩
          have n3_ : Aside0 (w33.heap[gb309]? = some (.cells #[.string (⟨#[]⟩ : ByteArray), .slice none 0 0] 51 (0, 0))) := ⟨h3_⟩
          have n4_ : Aside0 (w.heap.size ≤ gb308) := ⟨h4_⟩
          have n5_ : Aside0 (w.heap.size ≤ gb308) := ⟨h5_⟩
          have n6_ : Aside0 (gb296 ≠ gb308) := ⟨h6_⟩
          have n7_ : Aside0 (gb308 ≠ gb296) := ⟨h7_⟩
          have n8_ : Aside0 (gb309 ≠ gb308) := ⟨h8_⟩
          have n9_ : Aside0 (gb308 ≠ gb309) := ⟨h9_⟩
          have n10_ : Aside0 (w.heap.size ≤ gb309) := ⟨h10_⟩
          have n11_ : Aside0 (w.heap.size ≤ gb309) := ⟨h11_⟩
          have n12_ : Aside0 (gb296 ≠ gb309) := ⟨h12_⟩
          have n13_ : Aside0 (gb309 ≠ gb296) := ⟨h13_⟩
          have n14_ : Aside0 (Below w.heap.size w w33) := ⟨h14_⟩
          clear BK296
          clear HB
          clear h0_ h1_ h2_ h3_ h4_ h5_ h6_ h7_ h8_ h9_ h10_ h11_ h12_ h13_ h14_
          have HO303 := n0_
          have BK296 := n1_
          have BK308 := n2_
          have BK309 := n3_
          have GW308 := n4_
          have GE308 := n5_
          have NB296_308 := n6_
          have NB308_296 := n7_
          have NB309_308 := n8_
          have NB308_309 := n9_
          have GW309 := n10_
          have GE309 := n11_
          have NB296_309 := n12_
          have NB309_296 := n13_
          have HB := n14_
          clear n0_ n1_ n2_ n3_ n4_ n5_ n6_ n7_ n8_ n9_ n10_ n11_ n12_ n13_ n14_
          have hHeld : w33.cell? ⟨gb296, 0, none⟩ = some (.string a0_0) ∧ w33.cell? ⟨gb296, 1, none⟩ = some (.slice A0_1 l0_1.length c0_1) ∧ w33.cell? ⟨gb296, 2, none⟩ = some (.string a0_2) ∧ w33.cell? ⟨gb296, 3, none⟩ = some (.slice A0_3 l0_3.length c0_3) ∧ w33.cell? ⟨gb296, 4, none⟩ = some (.string a0_4) ∧ w33.cell? ⟨gb296, 5, none⟩ = some (.int .i64 a0_5) ∧ w33.cell? ⟨gb296, 6, none⟩ = some (.int .i64 a0_6) ∧ w33.cell? ⟨gb296, 7, none⟩ = some (.int .u64 a0_7) := hS_
          refine norm_ (a' := ?_) ?_ ?_
          rotate_left
          · simp only [putAll, Act.put, List.setIfInBounds_toArray, List.set_cons_zero, List.set_cons_succ]
            rfl
          refine one_ (i := 11) (N := some 44) #[true, true, true, true, true, true, true, true, true, true, true, true, true, true, false, false] rfl rfl (one_of HT_.out (by kernel_rfl)) (by decide) (fun K hK => ?_)
          refine goes_ Try.func66 (by kernel_rfl) rfl #[.agg #[.string a0_2, .slice A0_3 l0_3.length c0_3], .int .u64 a1, .string a0_4] (by rfl) rfl rfl (by (try simp only [List.map_toArray, List.map_cons, List.map_nil]); first | done | rfl | (simp only [List.length_drop, List.length_take]; rfl)) ?_
          with_reducible refine (bureauref04_Other.calls kj4 a0_2 (fun k_ => k_ < w.heap.size) _ _ l0_3 a1 a0_4 t304 t305 _ ?side1 A25.out).mono ?_
          (case side1 => exact Kd.V_mk HC0_3.out (Kd.F_below (Kd.C_F k100_heap HR0_3.out) (by repeat (first | (with_reducible first | exact HB.out | apply ea | apply en | apply ed | refine bs ?_ GE296.out | refine bs ?_ GE308.out | refine bs ?_ GE309.out) | exact HB.out))))
          rintro e w34 ⟨v306, rfl, ho0, hb⟩
          refine ⟨_, rfl, ?_⟩
          have n0_ := aM (Kd.V_below (by (with_reducible repeat (first | apply va | apply vn | apply vd)); exact HO303.out) hb)
          have n1_ := aM (Kd.V_lower (Kd.V_mono (ok' := fun k_ => k_ ≠ gb296 ∧ k_ ≠ gb308 ∧ k_ ≠ gb309) ho0 (fun k_ hk_ => ⟨Or.elim hk_ (fun hs_ => fun e_ => Nat.not_le.2 hs_ (by rw [e_]; exact GW296.out)) (fun hn_ => (Kd.freshB (g := gb296) (o := .cells #[.string a0_0, .slice A0_1 l0_1.length c0_1, .string a0_2, .slice A0_3 l0_3.length c0_3, .string a0_4, .int .i64 a0_5, .int .i64 a0_6, .int .u64 a0_7] 77 (0, 0)) (by (with_reducible repeat (first | refine bn ?_ _ | refine bd ?_ | refine ba ?_ _)); exact BK296.out) k_ hn_)), Or.elim hk_ (fun hs_ => fun e_ => Nat.not_le.2 hs_ (by rw [e_]; exact GW308.out)) (fun hn_ => (Kd.freshB (g := gb308) (o := .cells #[.string (⟨#[]⟩ : ByteArray), .slice none 0 0] 51 (0, 0)) (by (with_reducible repeat (first | refine bn ?_ _ | refine bd ?_ | refine ba ?_ _)); exact BK308.out) k_ hn_)), Or.elim hk_ (fun hs_ => fun e_ => Nat.not_le.2 hs_ (by rw [e_]; exact GW309.out)) (fun hn_ => (Kd.freshB (g := gb309) (o := .cells #[.string (⟨#[]⟩ : ByteArray), .slice none 0 0] 51 (0, 0)) (by (with_reducible repeat (first | refine bn ?_ _ | refine bd ?_ | refine ba ?_ _)); exact BK309.out) k_ hn_))⟩)) (bZ (by repeat (first | (with_reducible first | exact HB.out | apply ea | apply en | apply ed | refine bs ?_ GE296.out | refine bs ?_ GE308.out | refine bs ?_ GE309.out) | exact HB.out))))
          have n2_ := aM (bB (g := gb296) (o := .cells #[.string a0_0, .slice A0_1 l0_1.length c0_1, .string a0_2, .slice A0_3 l0_3.length c0_3, .string a0_4, .int .i64 a0_5, .int .i64 a0_6, .int .u64 a0_7] 77 (0, 0)) (by (with_reducible repeat (first | refine bn ?_ _ | refine bd ?_ | refine ba ?_ _)); exact BK296.out) hb)
          have n3_ := aM (bB (g := gb308) (o := .cells #[.string (⟨#[]⟩ : ByteArray), .slice none 0 0] 51 (0, 0)) (by (with_reducible repeat (first | refine bn ?_ _ | refine bd ?_ | refine ba ?_ _)); exact BK308.out) hb)
          have n4_ := aM (bB (g := gb309) (o := .cells #[.string (⟨#[]⟩ : ByteArray), .slice none 0 0] 51 (0, 0)) (by (with_reducible repeat (first | refine bn ?_ _ | refine bd ?_ | refine ba ?_ _)); exact BK309.out) hb)
          have n5_ := aM (bP (by repeat (first | (with_reducible first | exact HB.out | apply ea | apply en | apply ed | refine bs ?_ GE296.out | refine bs ?_ GE308.out | refine bs ?_ GE309.out) | exact HB.out)) hb)
          clear HO303
          clear BK296
          clear BK308
          clear BK309
          clear HB
          have HO303 := n0_
          have HO307 := n1_
          have BK296 := n2_
          have BK308 := n3_
          have BK309 := n4_
          have HB := n5_
          clear n0_ n1_ n2_ n3_ n4_ n5_
          (try clear hb)
          (try clear hb2)
          (try clear hk)
          (try clear hi)
          (try clear ho0)
          refine hK.out _ _ ⟨(bC BK296.out 0).trans rfl, (bC BK296.out 1).trans rfl, (bC BK296.out 2).trans rfl, (bC BK296.out 3).trans rfl, (bC BK296.out 4).trans rfl, (bC BK296.out 5).trans rfl, (bC BK296.out 6).trans rfl, (bC BK296.out 7).trans rfl⟩ (fun hHeld => ?_)
          clear hK K
          refine norm_ (a' := ?_) ?_ ?_
          rotate_left
          · show Act.put _ (some 44) _ = _
            simp only [Act.put, List.setIfInBounds_toArray, List.set_cons_zero, List.set_cons_succ, i64_w, i32_w]
            rfl
          exact norm_ (by first | (simp only [putAll, Act.put, List.setIfInBounds_toArray, List.set_cons_zero, List.set_cons_succ]; done) | (simp only [putAll, Act.put, List.setIfInBounds_toArray, List.set_cons_zero, List.set_cons_succ]; rfl)) (hJ5_11_12_13 (v302, v306, gb308, gb309) _ ⟨hHeld, (by (with_reducible repeat (first | apply va | apply vn | apply vd)); exact HO303.out), (by (with_reducible repeat (first | apply va | apply vn | apply vd)); exact HO307.out), (by (with_reducible repeat (first | refine bn ?_ _ | refine bd ?_ | refine ba ?_ _)); exact BK296.out), (by (with_reducible repeat (first | refine bn ?_ _ | refine bd ?_ | refine ba ?_ _)); exact BK308.out), (by (with_reducible repeat (first | refine bn ?_ _ | refine bd ?_ | refine ba ?_ _)); exact BK309.out), GW308.out, GE308.out, NB296_308.out, NB308_296.out, NB309_308.out, NB308_309.out, GW309.out, GE309.out, NB296_309.out, NB309_296.out, (by repeat (first | (with_reducible first | exact HB.out | apply ea | apply en | apply ed | refine bs ?_ GE296.out | refine bs ?_ GE308.out | refine bs ?_ GE309.out) | exact HB.out))⟩)
      · skip
        rintro ⟨v302, v306, gb309⟩ w33 ⟨hS_, h0_, h1_, h2_, h3_, h4_, h5_, h6_, h7_, h8_⟩
        have n0_ : Aside0 (Kd.V k100 100 w33 w.heap.size (fun k_ => k_ ≠ gb296 ∧ k_ ≠ gb309) v302 t301) := ⟨h0_⟩
        have n1_ : Aside0 (Kd.V k100 100 w33 w.heap.size (fun k_ => k_ ≠ gb296 ∧ k_ ≠ gb309) v306 t305) := ⟨h1_⟩
        have n2_ : Aside0 (w33.heap[gb296]? = some (.cells #[.string a0_0, .slice A0_1 l0_1.length c0_1, .string a0_2, .slice A0_3 l0_3.length c0_3, .string a0_4, .int .i64 a0_5, .int .i64 a0_6, .int .u64 a0_7] 77 (0, 0))) := ⟨h2_⟩
        have n3_ : Aside0 (w33.heap[gb309]? = some (.cells #[.string (⟨#[]⟩ : ByteArray), .slice none 0 0] 51 (0, 0))) := ⟨h3_⟩
        have n4_ : Aside0 (w.heap.size ≤ gb309) := ⟨h4_⟩
        have n5_ : Aside0 (w.heap.size ≤ gb309) := ⟨h5_⟩
        have n6_ : Aside0 (gb296 ≠ gb309) := ⟨h6_⟩
        have n7_ : Aside0 (gb309 ≠ gb296) := ⟨h7_⟩
        have n8_ : Aside0 (Below w.heap.size w w33) := ⟨h8_⟩
        clear BK296
        clear HB
        clear h0_ h1_ h2_ h3_ h4_ h5_ h6_ h7_ h8_
        have HO303 := n0_
        have HO307 := n1_
        have BK296 := n2_
        have BK309 := n3_
        have GW309 := n4_
        have GE309 := n5_
        have NB296_309 := n6_
        have NB309_296 := n7_
        have HB := n8_
        clear n0_ n1_ n2_ n3_ n4_ n5_ n6_ n7_ n8_
        have hHeld : w33.cell? ⟨gb296, 0, none⟩ = some (.string a0_0) ∧ w33.cell? ⟨gb296, 1, none⟩ = some (.slice A0_1 l0_1.length c0_1) ∧ w33.cell? ⟨gb296, 2, none⟩ = some (.string a0_2) ∧ w33.cell? ⟨gb296, 3, none⟩ = some (.slice A0_3 l0_3.length c0_3) ∧ w33.cell? ⟨gb296, 4, none⟩ = some (.string a0_4) ∧ w33.cell? ⟨gb296, 5, none⟩ = some (.int .i64 a0_5) ∧ w33.cell? ⟨gb296, 6, none⟩ = some (.int .i64 a0_6) ∧ w33.cell? ⟨gb296, 7, none⟩ = some (.int .u64 a0_7) := hS_
        refine norm_ (a' := ?_) ?_ ?_
        rotate_left
        · simp only [putAll, Act.put, List.setIfInBounds_toArray, List.set_cons_zero, List.set_cons_succ]
          rfl
        refine one_ (i := 12) (N := some 5) #[true, true, true, true, true, true, true, true, true, true, true, true, true, true, false, false] rfl rfl (one_of HT_.out (by kernel_rfl)) (by decide) (fun K hK => ?_)
        refine box_step ?hg (N := 5) ?hd (cs := #[.string (⟨#[]⟩ : ByteArray), .slice none 0 0]) (t := 51) ?hr ?_; (case hd => rfl); (case hg => rfl); (case hr => first | (go_simp; done) | (go_simp; rfl))
        intro gb308 hg w34 hbox hb
        have n0_ := aM (Kd.V_below (Kd.V_elderB (by (with_reducible repeat (first | apply va | apply vn | apply vd)); exact HO303.out) gb308 (Nat.le_of_eq hg.symm)) hb)
        have n1_ := aM (Kd.V_below (Kd.V_elderB (by (with_reducible repeat (first | apply va | apply vn | apply vd)); exact HO307.out) gb308 (Nat.le_of_eq hg.symm)) hb)
        have n2_ := aM (bB (g := gb296) (o := .cells #[.string a0_0, .slice A0_1 l0_1.length c0_1, .string a0_2, .slice A0_3 l0_3.length c0_3, .string a0_4, .int .i64 a0_5, .int .i64 a0_6, .int .u64 a0_7] 77 (0, 0)) (by (with_reducible repeat (first | refine bn ?_ _ | refine bd ?_ | refine ba ?_ _)); exact BK296.out) hb)
        have n3_ := aM (bB (g := gb309) (o := .cells #[.string (⟨#[]⟩ : ByteArray), .slice none 0 0] 51 (0, 0)) (by (with_reducible repeat (first | refine bn ?_ _ | refine bd ?_ | refine ba ?_ _)); exact BK309.out) hb)
        have n4_ := aM (bP (by repeat (first | (with_reducible first | exact HB.out | apply ea | apply en | apply ed | refine bs ?_ GE296.out | refine bs ?_ GE309.out) | exact HB.out)) hb)
        have n5_ := aM (hbox)
        have n6_ := aM ((by rw [hg]; exact (bZ (by repeat (first | (with_reducible first | exact HB.out | apply ea | apply en | apply ed | refine bs ?_ GE296.out | refine bs ?_ GE309.out) | exact HB.out))) : w.heap.size ≤ gb308))
        have n7_ := aM ((by rw [hg]; exact (bZ (by repeat (first | (with_reducible first | exact HB.out | apply ea | apply en | apply ed | refine bs ?_ GE296.out | refine bs ?_ GE309.out) | exact HB.out))) : w.heap.size ≤ gb308))
        have n8_ := aM ((by rw [hg]; exact Nat.ne_of_lt (blk_lt (g := gb296) (o := .cells #[.string a0_0, .slice A0_1 l0_1.length c0_1, .string a0_2, .slice A0_3 l0_3.length c0_3, .string a0_4, .int .i64 a0_5, .int .i64 a0_6, .int .u64 a0_7] 77 (0, 0)) (by (with_reducible repeat (first | refine bn ?_ _ | refine bd ?_ | refine ba ?_ _)); exact BK296.out)) : gb296 ≠ gb308))
        have n9_ := aM ((by rw [hg]; exact Nat.ne_of_gt (blk_lt (g := gb296) (o := .cells #[.string a0_0, .slice A0_1 l0_1.length c0_1, .string a0_2, .slice A0_3 l0_3.length c0_3, .string a0_4, .int .i64 a0_5, .int .i64 a0_6, .int .u64 a0_7] 77 (0, 0)) (by (with_reducible repeat (first | refine bn ?_ _ | refine bd ?_ | refine ba ?_ _)); exact BK296.out)) : gb308 ≠ gb296))
        have n10_ := aM ((by rw [hg]; exact Nat.ne_of_lt (blk_lt (g := gb309) (o := .cells #[.string (⟨#[]⟩ : ByteArray), .slice none 0 0] 51 (0, 0)) (by (with_reducible repeat (first | refine bn ?_ _ | refine bd ?_ | refine ba ?_ _)); exact BK309.out)) : gb309 ≠ gb308))
        have n11_ := aM ((by rw [hg]; exact Nat.ne_of_gt (blk_lt (g := gb309) (o := .cells #[.string (⟨#[]⟩ : ByteArray), .slice none 0 0] 51 (0, 0)) (by (with_reducible repeat (first | refine bn ?_ _ | refine bd ?_ | refine ba ?_ _)); exact BK309.out)) : gb308 ≠ gb309))
        clear HO303
        clear HO307
        clear BK296
        clear BK309
        clear HB
        have HO303 := n0_
        have HO307 := n1_
        have BK296 := n2_
        have BK309 := n3_
        have HB := n4_
        have BK308 := n5_
        have GW308 := n6_
        have GE308 := n7_
        have NB296_308 := n8_
        have NB308_296 := n9_
        have NB309_308 := n10_
        have NB308_309 := n11_
        clear n0_ n1_ n2_ n3_ n4_ n5_ n6_ n7_ n8_ n9_ n10_ n11_
        clear hb hbox hg
        refine hK.out _ _ ⟨(bC BK296.out 0).trans rfl, (bC BK296.out 1).trans rfl, (bC BK296.out 2).trans rfl, (bC BK296.out 3).trans rfl, (bC BK296.out 4).trans rfl, (bC BK296.out 5).trans rfl, (bC BK296.out 6).trans rfl, (bC BK296.out 7).trans rfl⟩ (fun hHeld => ?_)
        clear hK K
        refine norm_ (a' := ?_) ?_ ?_
        rotate_left
        · show Act.put _ (some 5) _ = _
          simp only [Act.put, List.setIfInBounds_toArray, List.set_cons_zero, List.set_cons_succ, i64_w, i32_w]
          rfl
        exact norm_ (by first | (simp only [putAll, Act.put, List.setIfInBounds_toArray, List.set_cons_zero, List.set_cons_succ]; done) | (simp only [putAll, Act.put, List.setIfInBounds_toArray, List.set_cons_zero, List.set_cons_succ]; rfl)) (hJ5_11_12_13 (v302, v306, gb308, gb309) _ ⟨hHeld, (by (with_reducible repeat (first | apply va | apply vn | apply vd)); exact Kd.V_mono HO303.out (fun _ hk => ⟨hk.1.1, ⟨hk.2, hk.1.2⟩⟩)), (by (with_reducible repeat (first | apply va | apply vn | apply vd)); exact Kd.V_mono HO307.out (fun _ hk => ⟨hk.1.1, ⟨hk.2, hk.1.2⟩⟩)), (by (with_reducible repeat (first | refine bn ?_ _ | refine bd ?_ | refine ba ?_ _)); exact BK296.out), (by (with_reducible repeat (first | refine bn ?_ _ | refine bd ?_ | refine ba ?_ _)); exact BK308.out), (by (with_reducible repeat (first | refine bn ?_ _ | refine bd ?_ | refine ba ?_ _)); exact BK309.out), GW308.out, GE308.out, NB296_308.out, NB308_296.out, NB309_308.out, NB308_309.out, GW309.out, GE309.out, NB296_309.out, NB309_296.out, (by repeat (first | (with_reducible first | exact HB.out | apply ea | apply en | apply ed | refine bs ?_ GE296.out | refine bs ?_ GE309.out | refine bs ?_ GE308.out) | exact HB.out))⟩)
    · skip
      rintro ⟨v302, v306, gb308⟩ w33 ⟨hS_, h0_, h1_, h2_, h3_, h4_, h5_, h6_, h7_, h8_⟩
      have n0_ : Aside0 (Kd.V k100 100 w33 w.heap.size (fun k_ => k_ ≠ gb296 ∧ k_ ≠ gb308) v302 t301) := ⟨h0_⟩
      have n1_ : Aside0 (Kd.V k100 100 w33 w.heap.size (fun k_ => k_ ≠ gb296 ∧ k_ ≠ gb308) v306 t305) := ⟨h1_⟩
      have n2_ : Aside0 (w33.heap[gb296]? = some (.cells #[.string a0_0, .slice A0_1 l0_1.length c0_1, .string a0_2, .slice A0_3 l0_3.length c0_3, .string a0_4, .int .i64 a0_5, .int .i64 a0_6, .int .u64 a0_7] 77 (0, 0))) := ⟨h2_⟩
      have n3_ : Aside0 (w33.heap[gb308]? = some (.cells #[.string (⟨#[]⟩ : ByteArray), .slice none 0 0] 51 (0, 0))) := ⟨h3_⟩
      have n4_ : Aside0 (w.heap.size ≤ gb308) := ⟨h4_⟩
      have n5_ : Aside0 (w.heap.size ≤ gb308) := ⟨h5_⟩
      have n6_ : Aside0 (gb296 ≠ gb308) := ⟨h6_⟩
      have n7_ : Aside0 (gb308 ≠ gb296) := ⟨h7_⟩
      have n8_ : Aside0 (Below w.heap.size w w33) := ⟨h8_⟩
      clear BK296
      clear HB
      clear h0_ h1_ h2_ h3_ h4_ h5_ h6_ h7_ h8_
      have HO303 := n0_
      have HO307 := n1_
      have BK296 := n2_
      have BK308 := n3_
      have GW308 := n4_
      have GE308 := n5_
      have NB296_308 := n6_
      have NB308_296 := n7_
      have HB := n8_
      clear n0_ n1_ n2_ n3_ n4_ n5_ n6_ n7_ n8_
      have hHeld : w33.cell? ⟨gb296, 0, none⟩ = some (.string a0_0) ∧ w33.cell? ⟨gb296, 1, none⟩ = some (.slice A0_1 l0_1.length c0_1) ∧ w33.cell? ⟨gb296, 2, none⟩ = some (.string a0_2) ∧ w33.cell? ⟨gb296, 3, none⟩ = some (.slice A0_3 l0_3.length c0_3) ∧ w33.cell? ⟨gb296, 4, none⟩ = some (.string a0_4) ∧ w33.cell? ⟨gb296, 5, none⟩ = some (.int .i64 a0_5) ∧ w33.cell? ⟨gb296, 6, none⟩ = some (.int .i64 a0_6) ∧ w33.cell? ⟨gb296, 7, none⟩ = some (.int .u64 a0_7) := hS_
      refine norm_ (a' := ?_) ?_ ?_
      rotate_left
      · simp only [putAll, Act.put, List.setIfInBounds_toArray, List.set_cons_zero, List.set_cons_succ]
        rfl
      refine one_ (i := 13) (N := some 6) #[true, true, true, true, true, true, true, true, true, true, true, true, true, true, false, false] rfl rfl (one_of HT_.out (by kernel_rfl)) (by decide) (fun K hK => ?_)
      refine box_step ?hg (N := 6) ?hd (cs := #[.string (⟨#[]⟩ : ByteArray), .slice none 0 0]) (t := 51) ?hr ?_; (case hd => rfl); (case hg => rfl); (case hr => first | (go_simp; done) | (go_simp; rfl))
      intro gb309 hg w34 hbox hb
      have n0_ := aM (Kd.V_below (Kd.V_elderB (by (with_reducible repeat (first | apply va | apply vn | apply vd)); exact HO303.out) gb309 (Nat.le_of_eq hg.symm)) hb)
      have n1_ := aM (Kd.V_below (Kd.V_elderB (by (with_reducible repeat (first | apply va | apply vn | apply vd)); exact HO307.out) gb309 (Nat.le_of_eq hg.symm)) hb)
      have n2_ := aM (bB (g := gb296) (o := .cells #[.string a0_0, .slice A0_1 l0_1.length c0_1, .string a0_2, .slice A0_3 l0_3.length c0_3, .string a0_4, .int .i64 a0_5, .int .i64 a0_6, .int .u64 a0_7] 77 (0, 0)) (by (with_reducible repeat (first | refine bn ?_ _ | refine bd ?_ | refine ba ?_ _)); exact BK296.out) hb)
      have n3_ := aM (bB (g := gb308) (o := .cells #[.string (⟨#[]⟩ : ByteArray), .slice none 0 0] 51 (0, 0)) (by (with_reducible repeat (first | refine bn ?_ _ | refine bd ?_ | refine ba ?_ _)); exact BK308.out) hb)
      have n4_ := aM (bP (by repeat (first | (with_reducible first | exact HB.out | apply ea | apply en | apply ed | refine bs ?_ GE296.out | refine bs ?_ GE308.out) | exact HB.out)) hb)
      have n5_ := aM (hbox)
      have n6_ := aM ((by rw [hg]; exact (bZ (by repeat (first | (with_reducible first | exact HB.out | apply ea | apply en | apply ed | refine bs ?_ GE296.out | refine bs ?_ GE308.out) | exact HB.out))) : w.heap.size ≤ gb309))
      have n7_ := aM ((by rw [hg]; exact (bZ (by repeat (first | (with_reducible first | exact HB.out | apply ea | apply en | apply ed | refine bs ?_ GE296.out | refine bs ?_ GE308.out) | exact HB.out))) : w.heap.size ≤ gb309))
      have n8_ := aM ((by rw [hg]; exact Nat.ne_of_lt (blk_lt (g := gb296) (o := .cells #[.string a0_0, .slice A0_1 l0_1.length c0_1, .string a0_2, .slice A0_3 l0_3.length c0_3, .string a0_4, .int .i64 a0_5, .int .i64 a0_6, .int .u64 a0_7] 77 (0, 0)) (by (with_reducible repeat (first | refine bn ?_ _ | refine bd ?_ | refine ba ?_ _)); exact BK296.out)) : gb296 ≠ gb309))
      have n9_ := aM ((by rw [hg]; exact Nat.ne_of_gt (blk_lt (g := gb296) (o := .cells #[.string a0_0, .slice A0_1 l0_1.length c0_1, .string a0_2, .slice A0_3 l0_3.length c0_3, .string a0_4, .int .i64 a0_5, .int .i64 a0_6, .int .u64 a0_7] 77 (0, 0)) (by (with_reducible repeat (first | refine bn ?_ _ | refine bd ?_ | refine ba ?_ _)); exact BK296.out)) : gb309 ≠ gb296))
      have n10_ := aM ((by rw [hg]; exact Nat.ne_of_lt (blk_lt (g := gb308) (o := .cells #[.string (⟨#[]⟩ : ByteArray), .slice none 0 0] 51 (0, 0)) (by (with_reducible repeat (first | refine bn ?_ _ | refine bd ?_ | refine ba ?_ _)); exact BK308.out)) : gb308 ≠ gb309))
      have n11_ := aM ((by rw [hg]; exact Nat.ne_of_gt (blk_lt (g := gb308) (o := .cells #[.string (⟨#[]⟩ : ByteArray), .slice none 0 0] 51 (0, 0)) (by (with_reducible repeat (first | refine bn ?_ _ | refine bd ?_ | refine ba ?_ _)); exact BK308.out)) : gb309 ≠ gb308))
      clear HO303
      clear HO307
      clear BK296
      clear BK308
      clear HB
      have HO303 := n0_
      have HO307 := n1_
      have BK296 := n2_
      have BK308 := n3_
      have HB := n4_
      have BK309 := n5_
      have GW309 := n6_
      have GE309 := n7_
      have NB296_309 := n8_
      have NB309_296 := n9_
      have NB308_309 := n10_
      have NB309_308 := n11_
      clear n0_ n1_ n2_ n3_ n4_ n5_ n6_ n7_ n8_ n9_ n10_ n11_
      clear hb hbox hg
      refine hK.out _ _ ⟨(bC BK296.out 0).trans rfl, (bC BK296.out 1).trans rfl, (bC BK296.out 2).trans rfl, (bC BK296.out 3).trans rfl, (bC BK296.out 4).trans rfl, (bC BK296.out 5).trans rfl, (bC BK296.out 6).trans rfl, (bC BK296.out 7).trans rfl⟩ (fun hHeld => ?_)
      clear hK K
      refine norm_ (a' := ?_) ?_ ?_
      rotate_left
      · show Act.put _ (some 6) _ = _
        simp only [Act.put, List.setIfInBounds_toArray, List.set_cons_zero, List.set_cons_succ, i64_w, i32_w]
        rfl
      exact norm_ (by first | (simp only [putAll, Act.put, List.setIfInBounds_toArray, List.set_cons_zero, List.set_cons_succ]; done) | (simp only [putAll, Act.put, List.setIfInBounds_toArray, List.set_cons_zero, List.set_cons_succ]; rfl)) (hJ5_11_12_13 (v302, v306, gb308, gb309) _ ⟨hHeld, (by (with_reducible repeat (first | apply va | apply vn | apply vd)); exact Kd.V_mono HO303.out (fun _ hk => ⟨hk.1.1, ⟨hk.1.2, hk.2⟩⟩)), (by (with_reducible repeat (first | apply va | apply vn | apply vd)); exact Kd.V_mono HO307.out (fun _ hk => ⟨hk.1.1, ⟨hk.1.2, hk.2⟩⟩)), (by (with_reducible repeat (first | refine bn ?_ _ | refine bd ?_ | refine ba ?_ _)); exact BK296.out), (by (with_reducible repeat (first | refine bn ?_ _ | refine bd ?_ | refine ba ?_ _)); exact BK308.out), (by (with_reducible repeat (first | refine bn ?_ _ | refine bd ?_ | refine ba ?_ _)); exact BK309.out), GW308.out, GE308.out, NB296_308.out, NB308_296.out, NB309_308.out, NB308_309.out, GW309.out, GE309.out, NB296_309.out, NB309_296.out, (by repeat (first | (with_reducible first | exact HB.out | apply ea | apply en | apply ed | refine bs ?_ GE296.out | refine bs ?_ GE308.out | refine bs ?_ GE309.out) | exact HB.out))⟩)
  rintro ⟨v302, v306, gb308, gb309⟩ w34 ⟨hS_, h0_, h1_, h2_, h3_, h4_, h5_, h6_, h7_, h8_, h9_, h10_, h11_, h12_, h13_, h14_, h15_⟩
  have n0_ : Aside0 (Kd.V k100 100 w34 w.heap.size (fun k_ => k_ ≠ gb296 ∧ k_ ≠ gb308 ∧ k_ ≠ gb309) v302 t301) := ⟨h0_⟩
  have n1_ : Aside0 (Kd.V k100 100 w34 w.heap.size (fun k_ => k_ ≠ gb296 ∧ k_ ≠ gb308 ∧ k_ ≠ gb309) v306 t305) := ⟨h1_⟩
  have n2_ : Aside0 (w34.heap[gb296]? = some (.cells #[.string a0_0, .slice A0_1 l0_1.length c0_1, .string a0_2, .slice A0_3 l0_3.length c0_3, .string a0_4, .int .i64 a0_5, .int .i64 a0_6, .int .u64 a0_7] 77 (0, 0))) := ⟨h2_⟩
  have n3_ : Aside0 (w34.heap[gb308]? = some (.cells #[.string (⟨#[]⟩ : ByteArray), .slice none 0 0] 51 (0, 0))) := ⟨h3_⟩
  have n4_ : Aside0 (w34.heap[gb309]? = some (.cells #[.string (⟨#[]⟩ : ByteArray), .slice none 0 0] 51 (0, 0))) := ⟨h4_⟩
  have n5_ : Aside0 (w.heap.size ≤ gb308) := ⟨h5_⟩
  have n6_ : Aside0 (w.heap.size ≤ gb308) := ⟨h6_⟩
  have n7_ : Aside0 (gb296 ≠ gb308) := ⟨h7_⟩
  have n8_ : Aside0 (gb308 ≠ gb296) := ⟨h8_⟩
  have n9_ : Aside0 (gb309 ≠ gb308) := ⟨h9_⟩
  have n10_ : Aside0 (gb308 ≠ gb309) := ⟨h10_⟩
  have n11_ : Aside0 (w.heap.size ≤ gb309) := ⟨h11_⟩
  have n12_ : Aside0 (w.heap.size ≤ gb309) := ⟨h12_⟩
  have n13_ : Aside0 (gb296 ≠ gb309) := ⟨h13_⟩
  have n14_ : Aside0 (gb309 ≠ gb296) := ⟨h14_⟩
  have n15_ : Aside0 (Below w.heap.size w w34) := ⟨h15_⟩
  clear BK296
  clear HB
  clear h0_ h1_ h2_ h3_ h4_ h5_ h6_ h7_ h8_ h9_ h10_ h11_ h12_ h13_ h14_ h15_
  have HO303 := n0_
  have HO307 := n1_
  have BK296 := n2_
  have BK308 := n3_
  have BK309 := n4_
  have GW308 := n5_
  have GE308 := n6_
  have NB296_308 := n7_
  have NB308_296 := n8_
  have NB309_308 := n9_
  have NB308_309 := n10_
  have GW309 := n11_
  have GE309 := n12_
  have NB296_309 := n13_
  have NB309_296 := n14_
  have HB := n15_
  clear n0_ n1_ n2_ n3_ n4_ n5_ n6_ n7_ n8_ n9_ n10_ n11_ n12_ n13_ n14_ n15_
  have hHeld : w34.cell? ⟨gb296, 0, none⟩ = some (.string a0_0) ∧ w34.cell? ⟨gb296, 1, none⟩ = some (.slice A0_1 l0_1.length c0_1) ∧ w34.cell? ⟨gb296, 2, none⟩ = some (.string a0_2) ∧ w34.cell? ⟨gb296, 3, none⟩ = some (.slice A0_3 l0_3.length c0_3) ∧ w34.cell? ⟨gb296, 4, none⟩ = some (.string a0_4) ∧ w34.cell? ⟨gb296, 5, none⟩ = some (.int .i64 a0_5) ∧ w34.cell? ⟨gb296, 6, none⟩ = some (.int .i64 a0_6) ∧ w34.cell? ⟨gb296, 7, none⟩ = some (.int .u64 a0_7) := hS_
  obtain ⟨Ao36, co36, eo36⟩ := Kd.V_slice HO303.out
  (first | subst eo36 | (injection eo36 with f1_ f2_ f3_; have f4_ := f1_.symm; have f5_ := f3_.symm; clear f1_ f2_ f3_; subst f4_; subst f5_))
  obtain ⟨Ao39, co39, eo39⟩ := Kd.V_slice HO307.out
  (first | subst eo39 | (injection eo39 with f1_ f2_ f3_; have f4_ := f1_.symm; have f5_ := f3_.symm; clear f1_ f2_ f3_; subst f4_; subst f5_))
  refine norm_ (a' := ?_) ?_ ?_
  rotate_left
  · simp only [putAll, Act.put, List.setIfInBounds_toArray, List.set_cons_zero, List.set_cons_succ]
    rfl
  refine one_ (i := 14) (N := none) #[true, true, true, true, true, true, true, true, true, true, true, true, true, true, true, false] rfl rfl (one_of HT_.out (by kernel_rfl)) (by decide) (fun K hK => ?_)
  have hs35 : w34.cell? ⟨gb308, 0, none⟩ = some (.string (⟨#[]⟩ : ByteArray)) := (bC BK308.out 0).trans rfl
  have hfs35 := bF BK308.out 0
  have hns35_0 := NB296_308.out
  have hns35_2 := NB309_308.out
  have hms35_0 := NB308_296.out
  have hms35_2 := NB308_309.out
  have hs37 : w34.cell? ⟨gb308, 1, none⟩ = some (.slice none 0 0) := (bC BK308.out 1).trans rfl
  have hfs37 := bF BK308.out 1
  have hns37_0 := NB296_308.out
  have hns37_2 := NB309_308.out
  have hms37_0 := NB308_296.out
  have hms37_2 := NB308_309.out
  refine skip_ (w1 := ?_) (by rfl) rfl ?_ ?_
  rotate_left
  · go_simp
    rfl
  refine hK.out _ _ ⟨((cell_far (p := ⟨gb308, _, none⟩) NB296_308.out _).trans (((cell_far (p := ⟨gb308, _, none⟩) NB296_308.out _).trans (hHeld.1)))), ((cell_far (p := ⟨gb308, _, none⟩) NB296_308.out _).trans (((cell_far (p := ⟨gb308, _, none⟩) NB296_308.out _).trans (hHeld.2.1)))), ((cell_far (p := ⟨gb308, _, none⟩) NB296_308.out _).trans (((cell_far (p := ⟨gb308, _, none⟩) NB296_308.out _).trans (hHeld.2.2.1)))), ((cell_far (p := ⟨gb308, _, none⟩) NB296_308.out _).trans (((cell_far (p := ⟨gb308, _, none⟩) NB296_308.out _).trans (hHeld.2.2.2.1)))), ((cell_far (p := ⟨gb308, _, none⟩) NB296_308.out _).trans (((cell_far (p := ⟨gb308, _, none⟩) NB296_308.out _).trans (hHeld.2.2.2.2.1)))), ((cell_far (p := ⟨gb308, _, none⟩) NB296_308.out _).trans (((cell_far (p := ⟨gb308, _, none⟩) NB296_308.out _).trans (hHeld.2.2.2.2.2.1)))), ((cell_far (p := ⟨gb308, _, none⟩) NB296_308.out _).trans (((cell_far (p := ⟨gb308, _, none⟩) NB296_308.out _).trans (hHeld.2.2.2.2.2.2.1)))), ((cell_far (p := ⟨gb308, _, none⟩) NB296_308.out _).trans (((cell_far (p := ⟨gb308, _, none⟩) NB296_308.out _).trans (hHeld.2.2.2.2.2.2.2))))⟩ (fun hHeld => ?_)
  clear hK K
  refine one_ (i := 15) (N := none) #[true, true, true, true, true, true, true, true, true, true, true, true, true, true, true, true] rfl rfl (one_of HT_.out (by kernel_rfl)) (by decide) (fun K hK => ?_)
  have hs38 : w34.cell? ⟨gb309, 0, none⟩ = some (.string (⟨#[]⟩ : ByteArray)) := (bC BK309.out 0).trans rfl
  have hfs38 := bF BK309.out 0
  have hns38_0 := NB296_309.out
  have hns38_1 := NB308_309.out
  have hms38_0 := NB309_296.out
  have hms38_1 := NB309_308.out
  have hs40 : w34.cell? ⟨gb309, 1, none⟩ = some (.slice none 0 0) := (bC BK309.out 1).trans rfl
  have hfs40 := bF BK309.out 1
  have hns40_0 := NB296_309.out
  have hns40_1 := NB308_309.out
  have hms40_0 := NB309_296.out
  have hms40_1 := NB309_308.out
  refine skip_ (w1 := ?_) (by rfl) rfl ?_ ?_
  rotate_left
  · go_simp
    rfl
  refine hK.out _ _ ⟨((cell_far (p := ⟨gb309, _, none⟩) NB296_309.out _).trans (((cell_far (p := ⟨gb309, _, none⟩) NB296_309.out _).trans (hHeld.1)))), ((cell_far (p := ⟨gb309, _, none⟩) NB296_309.out _).trans (((cell_far (p := ⟨gb309, _, none⟩) NB296_309.out _).trans (hHeld.2.1)))), ((cell_far (p := ⟨gb309, _, none⟩) NB296_309.out _).trans (((cell_far (p := ⟨gb309, _, none⟩) NB296_309.out _).trans (hHeld.2.2.1)))), ((cell_far (p := ⟨gb309, _, none⟩) NB296_309.out _).trans (((cell_far (p := ⟨gb309, _, none⟩) NB296_309.out _).trans (hHeld.2.2.2.1)))), ((cell_far (p := ⟨gb309, _, none⟩) NB296_309.out _).trans (((cell_far (p := ⟨gb309, _, none⟩) NB296_309.out _).trans (hHeld.2.2.2.2.1)))), ((cell_far (p := ⟨gb309, _, none⟩) NB296_309.out _).trans (((cell_far (p := ⟨gb309, _, none⟩) NB296_309.out _).trans (hHeld.2.2.2.2.2.1)))), ((cell_far (p := ⟨gb309, _, none⟩) NB296_309.out _).trans (((cell_far (p := ⟨gb309, _, none⟩) NB296_309.out _).trans (hHeld.2.2.2.2.2.2.1)))), ((cell_far (p := ⟨gb309, _, none⟩) NB296_309.out _).trans (((cell_far (p := ⟨gb309, _, none⟩) NB296_309.out _).trans (hHeld.2.2.2.2.2.2.2))))⟩ (fun hHeld => ?_)
  clear hK K
  refine done_ (done_of HT_.out (by kernel_rfl)) ?_
  have hnb41 := NB296_308.out
  have hnc41 := NB308_296.out
  have hnb42 := NB296_309.out
  have hnc42 := NB309_296.out
  have hcz43_0 : w34.cell? ⟨gb296, 0, none⟩ = some (.string a0_0) := (bC BK296.out 0).trans rfl
  have hcz43_1 : w34.cell? ⟨gb296, 1, none⟩ = some (.slice A0_1 l0_1.length c0_1) := (bC BK296.out 1).trans rfl
  have hcz43_2 : w34.cell? ⟨gb296, 2, none⟩ = some (.string a0_2) := (bC BK296.out 2).trans rfl
  have hcz43_3 : w34.cell? ⟨gb296, 3, none⟩ = some (.slice A0_3 l0_3.length c0_3) := (bC BK296.out 3).trans rfl
  have hcz43_4 : w34.cell? ⟨gb296, 4, none⟩ = some (.string a0_4) := (bC BK296.out 4).trans rfl
  have hcz43_5 : w34.cell? ⟨gb296, 5, none⟩ = some (.int .i64 a0_5) := (bC BK296.out 5).trans rfl
  have hcz43_6 : w34.cell? ⟨gb296, 6, none⟩ = some (.int .i64 a0_6) := (bC BK296.out 6).trans rfl
  have hcz43_7 : w34.cell? ⟨gb296, 7, none⟩ = some (.int .u64 a0_7) := (bC BK296.out 7).trans rfl
  have hfz43_0 := bF BK296.out 0
  have hfz43_1 := bF BK296.out 1
  have hfz43_2 := bF BK296.out 2
  have hfz43_3 := bF BK296.out 3
  have hfz43_4 := bF BK296.out 4
  have hfz43_5 := bF BK296.out 5
  have hfz43_6 := bF BK296.out 6
  have hfz43_7 := bF BK296.out 7
  go_upto_region 8 with (first | ((with_reducible refine gate_callee (f := 56) rfl ?_); refine goesL_ (some 54) rfl rfl Try.func56 (by kernel_rfl) rfl #[.agg #[.string a0_0, .slice A0_1 l0_1.length c0_1], .int .i64 a0_5, .int .i64 a0_6, .agg #[.string a0_2, .slice A0_3 l0_3.length c0_3]] rfl (by (try simp only [List.map_toArray, List.map_cons, List.map_nil]); first | done | rfl | (simp only [List.length_drop, List.length_take]; rfl)) ?_; (with_reducible refine (edit_Of.calls kj4 a0_0 _ _ l0_1 a0_5 a0_6 a0_2 _ _ l0_3 t310 t311 t312 t315 t316 t319 _ ?side1 ?side2 ?side3 ?side4 A26.out).mono ?_); (case side1 => exact cB_ HR0_1.out (by repeat (first | (with_reducible first | exact HB.out | apply ea | apply en | apply ed | refine bs ?_ GE296.out | refine bs ?_ GE308.out | refine bs ?_ GE309.out) | exact HB.out))); (case side2 => exact HC0_1.out); (case side3 => exact cB_ HR0_3.out (by repeat (first | (with_reducible first | exact HB.out | apply ea | apply en | apply ed | refine bs ?_ GE296.out | refine bs ?_ GE308.out | refine bs ?_ GE309.out) | exact HB.out))); (case side4 => exact HC0_3.out); rintro e w44 ⟨v313, v317, rfl, ho0, ho1, hb⟩; refine ⟨_, rfl, ?_⟩; have n0_ := aM (Kd.V_mono (Kd.V_told (Kd.V_told (Kd.V_old (by (with_reducible repeat (first | apply va | apply vn | apply vd)); exact (Kd.V_mono (Kd.V_mono (Kd.V_far (p := ⟨gb309, 1, none⟩) (Kd.V_far (p := ⟨gb309, 0, none⟩) (Kd.V_far (p := ⟨gb308, 1, none⟩) (Kd.V_far (p := ⟨gb308, 0, none⟩) (Kd.V_mono (Kd.V_mono HO303.out (fun k_ hk => (⟨hk, hk.2.1⟩ : _ ∧ k_ ≠ gb308))) (fun k_ hk => (⟨hk, hk.1.2.2⟩ : _ ∧ k_ ≠ gb309))) (fun _ hk => hk.1.2) (.string t300)) (fun _ hk => hk.1.2) (.slice Ao36 t301.length co36)) (fun _ hk => hk.2) (.string t304)) (fun _ hk => hk.2) (.slice Ao39 t305.length co39)) (fun _ h_ => h_.1)) (fun _ h_ => h_.1))) hb) (Kd.R_base ho0)) (Kd.R_base ho1)) (fun _ h_ => h_.1)); have n1_ := aM (Kd.V_mono (Kd.V_told (Kd.V_told (Kd.V_old (by (with_reducible repeat (first | apply va | apply vn | apply vd)); exact (Kd.V_mono (Kd.V_mono (Kd.V_far (p := ⟨gb309, 1, none⟩) (Kd.V_far (p := ⟨gb309, 0, none⟩) (Kd.V_far (p := ⟨gb308, 1, none⟩) (Kd.V_far (p := ⟨gb308, 0, none⟩) (Kd.V_mono (Kd.V_mono HO307.out (fun k_ hk => (⟨hk, hk.2.1⟩ : _ ∧ k_ ≠ gb308))) (fun k_ hk => (⟨hk, hk.1.2.2⟩ : _ ∧ k_ ≠ gb309))) (fun _ hk => hk.1.2) (.string t300)) (fun _ hk => hk.1.2) (.slice Ao36 t301.length co36)) (fun _ hk => hk.2) (.string t304)) (fun _ hk => hk.2) (.slice Ao39 t305.length co39)) (fun _ h_ => h_.1)) (fun _ h_ => h_.1))) hb) (Kd.R_base ho0)) (Kd.R_base ho1)) (fun _ h_ => h_.1)); have n2_ := aM (rL ho0 (bZ (by repeat (first | (with_reducible first | exact HB.out | apply ea | apply en | apply ed | refine bs ?_ GE296.out | refine bs ?_ GE308.out | refine bs ?_ GE309.out) | exact HB.out)))); have n3_ := aM (rL ho1 (bZ (by repeat (first | (with_reducible first | exact HB.out | apply ea | apply en | apply ed | refine bs ?_ GE296.out | refine bs ?_ GE308.out | refine bs ?_ GE309.out) | exact HB.out)))); have n4_ := aM (bB (g := gb296) (o := .cells #[.string a0_0, .slice A0_1 l0_1.length c0_1, .string a0_2, .slice A0_3 l0_3.length c0_3, .string a0_4, .int .i64 a0_5, .int .i64 a0_6, .int .u64 a0_7] 77 (0, 0)) (by (with_reducible repeat (first | refine bn ?_ _ | refine bd ?_ | refine ba ?_ _)); refine bR ?_ NB296_309.out _; (with_reducible repeat (first | refine bn ?_ _ | refine bd ?_ | refine ba ?_ _)); refine bR ?_ NB296_309.out _; (with_reducible repeat (first | refine bn ?_ _ | refine bd ?_ | refine ba ?_ _)); refine bR ?_ NB296_308.out _; (with_reducible repeat (first | refine bn ?_ _ | refine bd ?_ | refine ba ?_ _)); refine bR ?_ NB296_308.out _; (with_reducible repeat (first | refine bn ?_ _ | refine bd ?_ | refine ba ?_ _)); exact BK296.out) hb); have n5_ := aM (bB (g := gb308) (o := .cells #[.string t300, .slice Ao36 t301.length co36] 51 (0, 0)) (by (with_reducible repeat (first | refine bn ?_ _ | refine bd ?_ | refine ba ?_ _)); refine bR ?_ NB308_309.out _; (with_reducible repeat (first | refine bn ?_ _ | refine bd ?_ | refine ba ?_ _)); refine bR ?_ NB308_309.out _; (with_reducible repeat (first | refine bn ?_ _ | refine bd ?_ | refine ba ?_ _)); refine bU (cs := #[.string t300, .slice none 0 0]) ?_ 1 _ rfl; (with_reducible repeat (first | refine bn ?_ _ | refine bd ?_ | refine ba ?_ _)); refine bU (cs := #[.string (⟨#[]⟩ : ByteArray), .slice none 0 0]) ?_ 0 _ rfl; (with_reducible repeat (first | refine bn ?_ _ | refine bd ?_ | refine ba ?_ _)); exact BK308.out) hb); have n6_ := aM (bB (g := gb309) (o := .cells #[.string t304, .slice Ao39 t305.length co39] 51 (0, 0)) (by (with_reducible repeat (first | refine bn ?_ _ | refine bd ?_ | refine ba ?_ _)); refine bU (cs := #[.string t304, .slice none 0 0]) ?_ 1 _ rfl; (with_reducible repeat (first | refine bn ?_ _ | refine bd ?_ | refine ba ?_ _)); refine bU (cs := #[.string (⟨#[]⟩ : ByteArray), .slice none 0 0]) ?_ 0 _ rfl; (with_reducible repeat (first | refine bn ?_ _ | refine bd ?_ | refine ba ?_ _)); refine bR ?_ NB309_308.out _; (with_reducible repeat (first | refine bn ?_ _ | refine bd ?_ | refine ba ?_ _)); refine bR ?_ NB309_308.out _; (with_reducible repeat (first | refine bn ?_ _ | refine bd ?_ | refine ba ?_ _)); exact BK309.out) hb); have n7_ := aM (bP (by repeat (first | (with_reducible first | exact HB.out | apply ea | apply en | apply ed | refine bs ?_ GE296.out | refine bs ?_ GE308.out | refine bs ?_ GE309.out) | exact HB.out)) hb); clear HO303; clear HO307; clear BK296; clear BK308; clear BK309; clear HB; have HO303 := n0_; have HO307 := n1_; have HO314 := n2_; have HO318 := n3_; have BK296 := n4_; have BK308 := n5_; have BK309 := n6_; have HB := n7_; clear n0_ n1_ n2_ n3_ n4_ n5_ n6_ n7_; (try clear hb); (try clear hb2); (try clear hk); (try clear hi); (try clear ho0); (try clear ho1)) | ((with_reducible refine gate_dst (N := 7) rfl ?_); (try (refine gate_guard (by rfl) ?_; dsimp only)); refine box_event ?hg (N := 7) ?hd (cs := #[.int .i64 0, .string (⟨#[]⟩ : ByteArray), .slice none 0 0, .string (⟨#[]⟩ : ByteArray), .slice none 0 0]) (t := 64) ?hr ?_; (case hd => rfl); (case hg => rfl); (case hr => first | (go_simp; done) | (go_simp; rfl)); intro gb320 hg w45 hbox hb; have n0_ := aM (Kd.V_below (Kd.V_elderB (by (with_reducible repeat (first | apply va | apply vn | apply vd)); exact HO303.out) gb320 (Nat.le_of_eq hg.symm)) hb); have n1_ := aM (Kd.V_below (Kd.V_elderB (by (with_reducible repeat (first | apply va | apply vn | apply vd)); exact HO307.out) gb320 (Nat.le_of_eq hg.symm)) hb); have n2_ := aM (Kd.R_below (by (with_reducible repeat (first | apply ra | apply rn | apply rd_)); exact HO314.out) hb); have n3_ := aM (Kd.R_below (by (with_reducible repeat (first | apply ra | apply rn | apply rd_)); exact HO318.out) hb); have n4_ := aM (bB (g := gb296) (o := .cells #[.string a0_0, .slice A0_1 l0_1.length c0_1, .string a0_2, .slice A0_3 l0_3.length c0_3, .string a0_4, .int .i64 a0_5, .int .i64 a0_6, .int .u64 a0_7] 77 (0, 0)) (by (with_reducible repeat (first | refine bn ?_ _ | refine bd ?_ | refine ba ?_ _)); exact BK296.out) hb); have n5_ := aM (bB (g := gb308) (o := .cells #[.string t300, .slice Ao36 t301.length co36] 51 (0, 0)) (by (with_reducible repeat (first | refine bn ?_ _ | refine bd ?_ | refine ba ?_ _)); exact BK308.out) hb); have n6_ := aM (bB (g := gb309) (o := .cells #[.string t304, .slice Ao39 t305.length co39] 51 (0, 0)) (by (with_reducible repeat (first | refine bn ?_ _ | refine bd ?_ | refine ba ?_ _)); exact BK309.out) hb); have n7_ := aM (bP (by repeat (first | (with_reducible first | exact HB.out | apply ea | apply en | apply ed | refine bs ?_ GE296.out | refine bs ?_ GE308.out | refine bs ?_ GE309.out) | exact HB.out)) hb); have n8_ := aM (hbox); have n9_ := aM ((by rw [hg]; exact (bZ (by repeat (first | (with_reducible first | exact HB.out | apply ea | apply en | apply ed | refine bs ?_ GE296.out | refine bs ?_ GE308.out | refine bs ?_ GE309.out) | exact HB.out))) : w.heap.size ≤ gb320)); have n10_ := aM ((by rw [hg]; exact (bZ (by repeat (first | (with_reducible first | exact HB.out | apply ea | apply en | apply ed | refine bs ?_ GE296.out | refine bs ?_ GE308.out | refine bs ?_ GE309.out) | exact HB.out))) : w.heap.size ≤ gb320)); have n11_ := aM ((by rw [hg]; exact Nat.ne_of_lt (blk_lt (g := gb296) (o := .cells #[.string a0_0, .slice A0_1 l0_1.length c0_1, .string a0_2, .slice A0_3 l0_3.length c0_3, .string a0_4, .int .i64 a0_5, .int .i64 a0_6, .int .u64 a0_7] 77 (0, 0)) (by (with_reducible repeat (first | refine bn ?_ _ | refine bd ?_ | refine ba ?_ _)); exact BK296.out)) : gb296 ≠ gb320)); have n12_ := aM ((by rw [hg]; exact Nat.ne_of_gt (blk_lt (g := gb296) (o := .cells #[.string a0_0, .slice A0_1 l0_1.length c0_1, .string a0_2, .slice A0_3 l0_3.length c0_3, .string a0_4, .int .i64 a0_5, .int .i64 a0_6, .int .u64 a0_7] 77 (0, 0)) (by (with_reducible repeat (first | refine bn ?_ _ | refine bd ?_ | refine ba ?_ _)); exact BK296.out)) : gb320 ≠ gb296)); have n13_ := aM ((by rw [hg]; exact Nat.ne_of_lt (blk_lt (g := gb308) (o := .cells #[.string t300, .slice Ao36 t301.length co36] 51 (0, 0)) (by (with_reducible repeat (first | refine bn ?_ _ | refine bd ?_ | refine ba ?_ _)); exact BK308.out)) : gb308 ≠ gb320)); have n14_ := aM ((by rw [hg]; exact Nat.ne_of_gt (blk_lt (g := gb308) (o := .cells #[.string t300, .slice Ao36 t301.length co36] 51 (0, 0)) (by (with_reducible repeat (first | refine bn ?_ _ | refine bd ?_ | refine ba ?_ _)); exact BK308.out)) : gb320 ≠ gb308)); have n15_ := aM ((by rw [hg]; exact Nat.ne_of_lt (blk_lt (g := gb309) (o := .cells #[.string t304, .slice Ao39 t305.length co39] 51 (0, 0)) (by (with_reducible repeat (first | refine bn ?_ _ | refine bd ?_ | refine ba ?_ _)); exact BK309.out)) : gb309 ≠ gb320)); have n16_ := aM ((by rw [hg]; exact Nat.ne_of_gt (blk_lt (g := gb309) (o := .cells #[.string t304, .slice Ao39 t305.length co39] 51 (0, 0)) (by (with_reducible repeat (first | refine bn ?_ _ | refine bd ?_ | refine ba ?_ _)); exact BK309.out)) : gb320 ≠ gb309)); clear HO303; clear HO307; clear HO314; clear HO318; clear BK296; clear BK308; clear BK309; clear HB; have HO303 := n0_; have HO307 := n1_; have HO314 := n2_; have HO318 := n3_; have BK296 := n4_; have BK308 := n5_; have BK309 := n6_; have HB := n7_; have BK320 := n8_; have GW320 := n9_; have GE320 := n10_; have NB296_320 := n11_; have NB320_296 := n12_; have NB308_320 := n13_; have NB320_308 := n14_; have NB309_320 := n15_; have NB320_309 := n16_; clear n0_ n1_ n2_ n3_ n4_ n5_ n6_ n7_ n8_ n9_ n10_ n11_ n12_ n13_ n14_ n15_ n16_; clear hb hbox hg; have hnb46 := NB320_296.out; have hnc46 := NB296_320.out; have hnb47 := NB320_308.out; have hnc47 := NB308_320.out; have hnb48 := NB320_309.out; have hnc48 := NB309_320.out; have hcz49_0 : w45.cell? ⟨gb320, 0, none⟩ = some (.int .i64 0) := (bC BK320.out 0).trans rfl; have hcz49_1 : w45.cell? ⟨gb320, 1, none⟩ = some (.string (⟨#[]⟩ : ByteArray)) := (bC BK320.out 1).trans rfl; have hcz49_2 : w45.cell? ⟨gb320, 2, none⟩ = some (.slice none 0 0) := (bC BK320.out 2).trans rfl; have hcz49_3 : w45.cell? ⟨gb320, 3, none⟩ = some (.string (⟨#[]⟩ : ByteArray)) := (bC BK320.out 3).trans rfl; have hcz49_4 : w45.cell? ⟨gb320, 4, none⟩ = some (.slice none 0 0) := (bC BK320.out 4).trans rfl; have hfz49_0 := bF BK320.out 0; have hfz49_1 := bF BK320.out 1; have hfz49_2 := bF BK320.out 2; have hfz49_3 := bF BK320.out 3; have hfz49_4 := bF BK320.out 4; obtain ⟨Ao50, co50, eo50⟩ := Kd.R_slice HO314.out; subst eo50; obtain ⟨Ao51, co51, eo51⟩ := Kd.R_slice HO318.out; subst eo51; have hnb52 := NB308_309.out; have hnc52 := NB309_308.out; have hcz53_0 : w45.cell? ⟨gb308, 0, none⟩ = some (.string t300) := (bC BK308.out 0).trans rfl; have hcz53_1 : w45.cell? ⟨gb308, 1, none⟩ = some (.slice Ao36 t301.length co36) := (bC BK308.out 1).trans rfl; have hfz53_0 := bF BK308.out 0; have hfz53_1 := bF BK308.out 1; have hcz54_0 : w45.cell? ⟨gb296, 0, none⟩ = some (.string a0_0) := (bC BK296.out 0).trans rfl; have hcz54_1 : w45.cell? ⟨gb296, 1, none⟩ = some (.slice A0_1 l0_1.length c0_1) := (bC BK296.out 1).trans rfl; have hcz54_2 : w45.cell? ⟨gb296, 2, none⟩ = some (.string a0_2) := (bC BK296.out 2).trans rfl; have hcz54_3 : w45.cell? ⟨gb296, 3, none⟩ = some (.slice A0_3 l0_3.length c0_3) := (bC BK296.out 3).trans rfl; have hcz54_4 : w45.cell? ⟨gb296, 4, none⟩ = some (.string a0_4) := (bC BK296.out 4).trans rfl; have hcz54_5 : w45.cell? ⟨gb296, 5, none⟩ = some (.int .i64 a0_5) := (bC BK296.out 5).trans rfl; have hcz54_6 : w45.cell? ⟨gb296, 6, none⟩ = some (.int .i64 a0_6) := (bC BK296.out 6).trans rfl; have hcz54_7 : w45.cell? ⟨gb296, 7, none⟩ = some (.int .u64 a0_7) := (bC BK296.out 7).trans rfl; have hfz54_0 := bF BK296.out 0; have hfz54_1 := bF BK296.out 1; have hfz54_2 := bF BK296.out 2; have hfz54_3 := bF BK296.out 3; have hfz54_4 := bF BK296.out 4; have hfz54_5 := bF BK296.out 5; have hfz54_6 := bF BK296.out 6; have hfz54_7 := bF BK296.out 7; have hcz55_0 : w45.cell? ⟨gb309, 0, none⟩ = some (.string t304) := (bC BK309.out 0).trans rfl; have hcz55_1 : w45.cell? ⟨gb309, 1, none⟩ = some (.slice Ao39 t305.length co39) := (bC BK309.out 1).trans rfl; have hfz55_0 := bF BK309.out 0; have hfz55_1 := bF BK309.out 1) | ((with_reducible refine gate_callee (f := 56) rfl ?_); refine goesL_ (some 64) rfl rfl Try.func56 (by kernel_rfl) rfl #[.agg #[.string t300, .slice Ao36 t301.length co36], .int .i64 a0_5, .int .i64 a0_6, .agg #[.string t304, .slice Ao39 t305.length co39]] rfl (by (try simp only [List.map_toArray, List.map_cons, List.map_nil]); first | done | rfl | (simp only [List.length_drop, List.length_take]; rfl)) ?_; (with_reducible refine (edit_Of.calls kj4 t300 _ _ t301 a0_5 a0_6 t304 _ _ t305 t321 t322 t323 t326 t327 t330 _ ?side1 ?side2 ?side3 ?side4 A27.out).mono ?_); (case side1 => refine (Kd.V_reads' (e := 100) (base := w.heap.size) (ok := fun k_ => ((((k_ ≠ gb296 ∧ (k_ ≠ gb308 ∧ k_ ≠ gb309)) ∧ some k_ ≠ (.slice Ao50 t312.length co50 : Value).ownBlock) ∧ some k_ ≠ (.slice Ao51 t316.length co51 : Value).ownBlock) ∧ k_ ≠ gb320)) (n := t301.length) (c := co36) ?_).2.2; exact (by (with_reducible repeat (first | apply va | apply vn | apply vd)); exact (Kd.V_mono (Kd.V_far (p := ⟨gb320, 4, none⟩) (Kd.V_far (p := ⟨gb320, 3, none⟩) (Kd.V_far (p := ⟨gb320, 2, none⟩) (Kd.V_far (p := ⟨gb320, 1, none⟩) (Kd.V_far (p := ⟨gb320, 0, none⟩) (Kd.V_mono HO303.out (fun k_ hk => (⟨hk, hk.2⟩ : _ ∧ k_ ≠ gb320))) (fun _ hk => hk.2) (.int .i64 t310)) (fun _ hk => hk.2) (.string t311)) (fun _ hk => hk.2) (.slice Ao50 t312.length co50)) (fun _ hk => hk.2) (.string t315)) (fun _ hk => hk.2) (.slice Ao51 t316.length co51)) (fun _ h_ => h_.1)))); (case side2 => exact (Kd.V_reads' HO303.out).2.1); (case side3 => refine (Kd.V_reads' (e := 100) (base := w.heap.size) (ok := fun k_ => ((((k_ ≠ gb296 ∧ (k_ ≠ gb308 ∧ k_ ≠ gb309)) ∧ some k_ ≠ (.slice Ao50 t312.length co50 : Value).ownBlock) ∧ some k_ ≠ (.slice Ao51 t316.length co51 : Value).ownBlock) ∧ k_ ≠ gb320)) (n := t305.length) (c := co39) ?_).2.2; exact (by (with_reducible repeat (first | apply va | apply vn | apply vd)); exact (Kd.V_mono (Kd.V_far (p := ⟨gb320, 4, none⟩) (Kd.V_far (p := ⟨gb320, 3, none⟩) (Kd.V_far (p := ⟨gb320, 2, none⟩) (Kd.V_far (p := ⟨gb320, 1, none⟩) (Kd.V_far (p := ⟨gb320, 0, none⟩) (Kd.V_mono HO307.out (fun k_ hk => (⟨hk, hk.2⟩ : _ ∧ k_ ≠ gb320))) (fun _ hk => hk.2) (.int .i64 t310)) (fun _ hk => hk.2) (.string t311)) (fun _ hk => hk.2) (.slice Ao50 t312.length co50)) (fun _ hk => hk.2) (.string t315)) (fun _ hk => hk.2) (.slice Ao51 t316.length co51)) (fun _ h_ => h_.1)))); (case side4 => exact (Kd.V_reads' HO307.out).2.1); rintro e w56 ⟨v324, v328, rfl, ho0, ho1, hb⟩; refine ⟨_, rfl, ?_⟩; have n0_ := aM (Kd.V_mono (Kd.V_told (Kd.V_told (Kd.V_old (by (with_reducible repeat (first | apply va | apply vn | apply vd)); exact (Kd.V_mono (Kd.V_far (p := ⟨gb320, 4, none⟩) (Kd.V_far (p := ⟨gb320, 3, none⟩) (Kd.V_far (p := ⟨gb320, 2, none⟩) (Kd.V_far (p := ⟨gb320, 1, none⟩) (Kd.V_far (p := ⟨gb320, 0, none⟩) (Kd.V_mono HO303.out (fun k_ hk => (⟨hk, hk.2⟩ : _ ∧ k_ ≠ gb320))) (fun _ hk => hk.2) (.int .i64 t310)) (fun _ hk => hk.2) (.string t311)) (fun _ hk => hk.2) (.slice Ao50 t312.length co50)) (fun _ hk => hk.2) (.string t315)) (fun _ hk => hk.2) (.slice Ao51 t316.length co51)) (fun _ h_ => h_.1))) hb) (Kd.R_base ho0)) (Kd.R_base ho1)) (fun _ h_ => h_.1)); have n1_ := aM (Kd.V_mono (Kd.V_told (Kd.V_told (Kd.V_old (by (with_reducible repeat (first | apply va | apply vn | apply vd)); exact (Kd.V_mono (Kd.V_far (p := ⟨gb320, 4, none⟩) (Kd.V_far (p := ⟨gb320, 3, none⟩) (Kd.V_far (p := ⟨gb320, 2, none⟩) (Kd.V_far (p := ⟨gb320, 1, none⟩) (Kd.V_far (p := ⟨gb320, 0, none⟩) (Kd.V_mono HO307.out (fun k_ hk => (⟨hk, hk.2⟩ : _ ∧ k_ ≠ gb320))) (fun _ hk => hk.2) (.int .i64 t310)) (fun _ hk => hk.2) (.string t311)) (fun _ hk => hk.2) (.slice Ao50 t312.length co50)) (fun _ hk => hk.2) (.string t315)) (fun _ hk => hk.2) (.slice Ao51 t316.length co51)) (fun _ h_ => h_.1))) hb) (Kd.R_base ho0)) (Kd.R_base ho1)) (fun _ h_ => h_.1)); have n2_ := aM (rM (Kd.R_told (Kd.R_told (Kd.R_old (by (with_reducible repeat (first | apply ra | apply rn | apply rd_)); exact (rM (rF (p := ⟨gb320, 4, none⟩) (rF (p := ⟨gb320, 3, none⟩) (rF (p := ⟨gb320, 2, none⟩) (rF (p := ⟨gb320, 1, none⟩) (rF (p := ⟨gb320, 0, none⟩) (rT HO314.out BK320.out (by decide)) (fun _ hk => hk.2) (.int .i64 t310)) (fun _ hk => hk.2) (.string t311)) (fun _ hk => hk.2) (.slice Ao50 t312.length co50)) (fun _ hk => hk.2) (.string t315)) (fun _ hk => hk.2) (.slice Ao51 t316.length co51)) (fun _ h_ => h_.1))) hb) (Kd.R_base ho0)) (Kd.R_base ho1)) (fun _ h_ => h_.1)); have n3_ := aM (rM (Kd.R_told (Kd.R_told (Kd.R_old (by (with_reducible repeat (first | apply ra | apply rn | apply rd_)); exact (rM (rF (p := ⟨gb320, 4, none⟩) (rF (p := ⟨gb320, 3, none⟩) (rF (p := ⟨gb320, 2, none⟩) (rF (p := ⟨gb320, 1, none⟩) (rF (p := ⟨gb320, 0, none⟩) (rT HO318.out BK320.out (by decide)) (fun _ hk => hk.2) (.int .i64 t310)) (fun _ hk => hk.2) (.string t311)) (fun _ hk => hk.2) (.slice Ao50 t312.length co50)) (fun _ hk => hk.2) (.string t315)) (fun _ hk => hk.2) (.slice Ao51 t316.length co51)) (fun _ h_ => h_.1))) hb) (Kd.R_base ho0)) (Kd.R_base ho1)) (fun _ h_ => h_.1)); have n4_ := aM (rL (Kd.R_new' (Kd.R_new' ho0 (Kd.R_lt (by (with_reducible repeat (first | apply ra | apply rn | apply rd_)); exact (rM (rF (p := ⟨gb320, 4, none⟩) (rF (p := ⟨gb320, 3, none⟩) (rF (p := ⟨gb320, 2, none⟩) (rF (p := ⟨gb320, 1, none⟩) (rF (p := ⟨gb320, 0, none⟩) (rT HO314.out BK320.out (by decide)) (fun _ hk => hk.2) (.int .i64 t310)) (fun _ hk => hk.2) (.string t311)) (fun _ hk => hk.2) (.slice Ao50 t312.length co50)) (fun _ hk => hk.2) (.string t315)) (fun _ hk => hk.2) (.slice Ao51 t316.length co51)) (fun _ h_ => h_.1))))) (Kd.R_lt (by (with_reducible repeat (first | apply ra | apply rn | apply rd_)); exact (rM (rF (p := ⟨gb320, 4, none⟩) (rF (p := ⟨gb320, 3, none⟩) (rF (p := ⟨gb320, 2, none⟩) (rF (p := ⟨gb320, 1, none⟩) (rF (p := ⟨gb320, 0, none⟩) (rT HO318.out BK320.out (by decide)) (fun _ hk => hk.2) (.int .i64 t310)) (fun _ hk => hk.2) (.string t311)) (fun _ hk => hk.2) (.slice Ao50 t312.length co50)) (fun _ hk => hk.2) (.string t315)) (fun _ hk => hk.2) (.slice Ao51 t316.length co51)) (fun _ h_ => h_.1))))) (bZ (by repeat (first | (with_reducible first | exact HB.out | apply ea | apply en | apply ed | refine bs ?_ GE296.out | refine bs ?_ GE308.out | refine bs ?_ GE309.out | refine bs ?_ GE320.out) | exact HB.out)))); have n5_ := aM (rL (Kd.R_new' (Kd.R_new' ho1 (Kd.R_lt (by (with_reducible repeat (first | apply ra | apply rn | apply rd_)); exact (rM (rF (p := ⟨gb320, 4, none⟩) (rF (p := ⟨gb320, 3, none⟩) (rF (p := ⟨gb320, 2, none⟩) (rF (p := ⟨gb320, 1, none⟩) (rF (p := ⟨gb320, 0, none⟩) (rT HO314.out BK320.out (by decide)) (fun _ hk => hk.2) (.int .i64 t310)) (fun _ hk => hk.2) (.string t311)) (fun _ hk => hk.2) (.slice Ao50 t312.length co50)) (fun _ hk => hk.2) (.string t315)) (fun _ hk => hk.2) (.slice Ao51 t316.length co51)) (fun _ h_ => h_.1))))) (Kd.R_lt (by (with_reducible repeat (first | apply ra | apply rn | apply rd_)); exact (rM (rF (p := ⟨gb320, 4, none⟩) (rF (p := ⟨gb320, 3, none⟩) (rF (p := ⟨gb320, 2, none⟩) (rF (p := ⟨gb320, 1, none⟩) (rF (p := ⟨gb320, 0, none⟩) (rT HO318.out BK320.out (by decide)) (fun _ hk => hk.2) (.int .i64 t310)) (fun _ hk => hk.2) (.string t311)) (fun _ hk => hk.2) (.slice Ao50 t312.length co50)) (fun _ hk => hk.2) (.string t315)) (fun _ hk => hk.2) (.slice Ao51 t316.length co51)) (fun _ h_ => h_.1))))) (bZ (by repeat (first | (with_reducible first | exact HB.out | apply ea | apply en | apply ed | refine bs ?_ GE296.out | refine bs ?_ GE308.out | refine bs ?_ GE309.out | refine bs ?_ GE320.out) | exact HB.out)))); have n6_ := aM (bB (g := gb296) (o := .cells #[.string a0_0, .slice A0_1 l0_1.length c0_1, .string a0_2, .slice A0_3 l0_3.length c0_3, .string a0_4, .int .i64 a0_5, .int .i64 a0_6, .int .u64 a0_7] 77 (0, 0)) (by (with_reducible repeat (first | refine bn ?_ _ | refine bd ?_ | refine ba ?_ _)); refine bR ?_ NB296_320.out _; (with_reducible repeat (first | refine bn ?_ _ | refine bd ?_ | refine ba ?_ _)); refine bR ?_ NB296_320.out _; (with_reducible repeat (first | refine bn ?_ _ | refine bd ?_ | refine ba ?_ _)); refine bR ?_ NB296_320.out _; (with_reducible repeat (first | refine bn ?_ _ | refine bd ?_ | refine ba ?_ _)); refine bR ?_ NB296_320.out _; (with_reducible repeat (first | refine bn ?_ _ | refine bd ?_ | refine ba ?_ _)); refine bR ?_ NB296_320.out _; (with_reducible repeat (first | refine bn ?_ _ | refine bd ?_ | refine ba ?_ _)); exact BK296.out) hb); have n7_ := aM (bB (g := gb308) (o := .cells #[.string t300, .slice Ao36 t301.length co36] 51 (0, 0)) (by (with_reducible repeat (first | refine bn ?_ _ | refine bd ?_ | refine ba ?_ _)); refine bR ?_ NB308_320.out _; (with_reducible repeat (first | refine bn ?_ _ | refine bd ?_ | refine ba ?_ _)); refine bR ?_ NB308_320.out _; (with_reducible repeat (first | refine bn ?_ _ | refine bd ?_ | refine ba ?_ _)); refine bR ?_ NB308_320.out _; (with_reducible repeat (first | refine bn ?_ _ | refine bd ?_ | refine ba ?_ _)); refine bR ?_ NB308_320.out _; (with_reducible repeat (first | refine bn ?_ _ | refine bd ?_ | refine ba ?_ _)); refine bR ?_ NB308_320.out _; (with_reducible repeat (first | refine bn ?_ _ | refine bd ?_ | refine ba ?_ _)); exact BK308.out) hb); have n8_ := aM (bB (g := gb309) (o := .cells #[.string t304, .slice Ao39 t305.length co39] 51 (0, 0)) (by (with_reducible repeat (first | refine bn ?_ _ | refine bd ?_ | refine ba ?_ _)); refine bR ?_ NB309_320.out _; (with_reducible repeat (first | refine bn ?_ _ | refine bd ?_ | refine ba ?_ _)); refine bR ?_ NB309_320.out _; (with_reducible repeat (first | refine bn ?_ _ | refine bd ?_ | refine ba ?_ _)); refine bR ?_ NB309_320.out _; (with_reducible repeat (first | refine bn ?_ _ | refine bd ?_ | refine ba ?_ _)); refine bR ?_ NB309_320.out _; (with_reducible repeat (first | refine bn ?_ _ | refine bd ?_ | refine ba ?_ _)); refine bR ?_ NB309_320.out _; (with_reducible repeat (first | refine bn ?_ _ | refine bd ?_ | refine ba ?_ _)); exact BK309.out) hb); have n9_ := aM (bB (g := gb320) (o := .cells #[.int .i64 t310, .string t311, .slice Ao50 t312.length co50, .string t315, .slice Ao51 t316.length co51] 64 (0, 0)) (by (with_reducible repeat (first | refine bn ?_ _ | refine bd ?_ | refine ba ?_ _)); refine bU (cs := #[.int .i64 t310, .string t311, .slice Ao50 t312.length co50, .string t315, .slice none 0 0]) ?_ 4 _ rfl; (with_reducible repeat (first | refine bn ?_ _ | refine bd ?_ | refine ba ?_ _)); refine bU (cs := #[.int .i64 t310, .string t311, .slice Ao50 t312.length co50, .string (⟨#[]⟩ : ByteArray), .slice none 0 0]) ?_ 3 _ rfl; (with_reducible repeat (first | refine bn ?_ _ | refine bd ?_ | refine ba ?_ _)); refine bU (cs := #[.int .i64 t310, .string t311, .slice none 0 0, .string (⟨#[]⟩ : ByteArray), .slice none 0 0]) ?_ 2 _ rfl; (with_reducible repeat (first | refine bn ?_ _ | refine bd ?_ | refine ba ?_ _)); refine bU (cs := #[.int .i64 t310, .string (⟨#[]⟩ : ByteArray), .slice none 0 0, .string (⟨#[]⟩ : ByteArray), .slice none 0 0]) ?_ 1 _ rfl; (with_reducible repeat (first | refine bn ?_ _ | refine bd ?_ | refine ba ?_ _)); refine bU (cs := #[.int .i64 0, .string (⟨#[]⟩ : ByteArray), .slice none 0 0, .string (⟨#[]⟩ : ByteArray), .slice none 0 0]) ?_ 0 _ rfl; (with_reducible repeat (first | refine bn ?_ _ | refine bd ?_ | refine ba ?_ _)); exact BK320.out) hb); have n10_ := aM (bP (by repeat (first | (with_reducible first | exact HB.out | apply ea | apply en | apply ed | refine bs ?_ GE296.out | refine bs ?_ GE308.out | refine bs ?_ GE309.out | refine bs ?_ GE320.out) | exact HB.out)) hb); clear HO303; clear HO307; clear HO314; clear HO318; clear BK296; clear BK308; clear BK309; clear BK320; clear HB; have HO303 := n0_; have HO307 := n1_; have HO314 := n2_; have HO318 := n3_; have HO325 := n4_; have HO329 := n5_; have BK296 := n6_; have BK308 := n7_; have BK309 := n8_; have BK320 := n9_; have HB := n10_; clear n0_ n1_ n2_ n3_ n4_ n5_ n6_ n7_ n8_ n9_ n10_; (try clear hb); (try clear hb2); (try clear hk); (try clear hi); (try clear ho0); (try clear ho1)) | ((with_reducible refine gate_dst (N := 9) rfl ?_); (try (refine gate_guard (by rfl) ?_; dsimp only)); refine box_event ?hg (N := 9) ?hd (cs := #[.int .i64 0, .string (⟨#[]⟩ : ByteArray), .slice none 0 0, .string (⟨#[]⟩ : ByteArray), .slice none 0 0]) (t := 64) ?hr ?_; (case hd => rfl); (case hg => rfl); (case hr => first | (go_simp; done) | (go_simp; rfl)); intro gb331 hg w57 hbox hb; have n0_ := aM (Kd.V_below (Kd.V_elderB (by (with_reducible repeat (first | apply va | apply vn | apply vd)); exact HO303.out) gb331 (Nat.le_of_eq hg.symm)) hb); have n1_ := aM (Kd.V_below (Kd.V_elderB (by (with_reducible repeat (first | apply va | apply vn | apply vd)); exact HO307.out) gb331 (Nat.le_of_eq hg.symm)) hb); have n2_ := aM (Kd.R_below (by (with_reducible repeat (first | apply ra | apply rn | apply rd_)); exact HO314.out) hb); have n3_ := aM (Kd.R_below (by (with_reducible repeat (first | apply ra | apply rn | apply rd_)); exact HO318.out) hb); have n4_ := aM (Kd.R_below (by (with_reducible repeat (first | apply ra | apply rn | apply rd_)); exact HO325.out) hb); have n5_ := aM (Kd.R_below (by (with_reducible repeat (first | apply ra | apply rn | apply rd_)); exact HO329.out) hb); have n6_ := aM (bB (g := gb296) (o := .cells #[.string a0_0, .slice A0_1 l0_1.length c0_1, .string a0_2, .slice A0_3 l0_3.length c0_3, .string a0_4, .int .i64 a0_5, .int .i64 a0_6, .int .u64 a0_7] 77 (0, 0)) (by (with_reducible repeat (first | refine bn ?_ _ | refine bd ?_ | refine ba ?_ _)); exact BK296.out) hb); have n7_ := aM (bB (g := gb308) (o := .cells #[.string t300, .slice Ao36 t301.length co36] 51 (0, 0)) (by (with_reducible repeat (first | refine bn ?_ _ | refine bd ?_ | refine ba ?_ _)); exact BK308.out) hb); have n8_ := aM (bB (g := gb309) (o := .cells #[.string t304, .slice Ao39 t305.length co39] 51 (0, 0)) (by (with_reducible repeat (first | refine bn ?_ _ | refine bd ?_ | refine ba ?_ _)); exact BK309.out) hb); have n9_ := aM (bB (g := gb320) (o := .cells #[.int .i64 t310, .string t311, .slice Ao50 t312.length co50, .string t315, .slice Ao51 t316.length co51] 64 (0, 0)) (by (with_reducible repeat (first | refine bn ?_ _ | refine bd ?_ | refine ba ?_ _)); exact BK320.out) hb); have n10_ := aM (bP (by repeat (first | (with_reducible first | exact HB.out | apply ea | apply en | apply ed | refine bs ?_ GE296.out | refine bs ?_ GE308.out | refine bs ?_ GE309.out | refine bs ?_ GE320.out) | exact HB.out)) hb); have n11_ := aM (hbox); have n12_ := aM ((by rw [hg]; exact (bZ (by repeat (first | (with_reducible first | exact HB.out | apply ea | apply en | apply ed | refine bs ?_ GE296.out | refine bs ?_ GE308.out | refine bs ?_ GE309.out | refine bs ?_ GE320.out) | exact HB.out))) : w.heap.size ≤ gb331)); have n13_ := aM ((by rw [hg]; exact (bZ (by repeat (first | (with_reducible first | exact HB.out | apply ea | apply en | apply ed | refine bs ?_ GE296.out | refine bs ?_ GE308.out | refine bs ?_ GE309.out | refine bs ?_ GE320.out) | exact HB.out))) : w.heap.size ≤ gb331)); have n14_ := aM ((by rw [hg]; exact Nat.ne_of_lt (blk_lt (g := gb296) (o := .cells #[.string a0_0, .slice A0_1 l0_1.length c0_1, .string a0_2, .slice A0_3 l0_3.length c0_3, .string a0_4, .int .i64 a0_5, .int .i64 a0_6, .int .u64 a0_7] 77 (0, 0)) (by (with_reducible repeat (first | refine bn ?_ _ | refine bd ?_ | refine ba ?_ _)); exact BK296.out)) : gb296 ≠ gb331)); have n15_ := aM ((by rw [hg]; exact Nat.ne_of_gt (blk_lt (g := gb296) (o := .cells #[.string a0_0, .slice A0_1 l0_1.length c0_1, .string a0_2, .slice A0_3 l0_3.length c0_3, .string a0_4, .int .i64 a0_5, .int .i64 a0_6, .int .u64 a0_7] 77 (0, 0)) (by (with_reducible repeat (first | refine bn ?_ _ | refine bd ?_ | refine ba ?_ _)); exact BK296.out)) : gb331 ≠ gb296)); have n16_ := aM ((by rw [hg]; exact Nat.ne_of_lt (blk_lt (g := gb308) (o := .cells #[.string t300, .slice Ao36 t301.length co36] 51 (0, 0)) (by (with_reducible repeat (first | refine bn ?_ _ | refine bd ?_ | refine ba ?_ _)); exact BK308.out)) : gb308 ≠ gb331)); have n17_ := aM ((by rw [hg]; exact Nat.ne_of_gt (blk_lt (g := gb308) (o := .cells #[.string t300, .slice Ao36 t301.length co36] 51 (0, 0)) (by (with_reducible repeat (first | refine bn ?_ _ | refine bd ?_ | refine ba ?_ _)); exact BK308.out)) : gb331 ≠ gb308)); have n18_ := aM ((by rw [hg]; exact Nat.ne_of_lt (blk_lt (g := gb309) (o := .cells #[.string t304, .slice Ao39 t305.length co39] 51 (0, 0)) (by (with_reducible repeat (first | refine bn ?_ _ | refine bd ?_ | refine ba ?_ _)); exact BK309.out)) : gb309 ≠ gb331)); have n19_ := aM ((by rw [hg]; exact Nat.ne_of_gt (blk_lt (g := gb309) (o := .cells #[.string t304, .slice Ao39 t305.length co39] 51 (0, 0)) (by (with_reducible repeat (first | refine bn ?_ _ | refine bd ?_ | refine ba ?_ _)); exact BK309.out)) : gb331 ≠ gb309)); have n20_ := aM ((by rw [hg]; exact Nat.ne_of_lt (blk_lt (g := gb320) (o := .cells #[.int .i64 t310, .string t311, .slice Ao50 t312.length co50, .string t315, .slice Ao51 t316.length co51] 64 (0, 0)) (by (with_reducible repeat (first | refine bn ?_ _ | refine bd ?_ | refine ba ?_ _)); exact BK320.out)) : gb320 ≠ gb331)); have n21_ := aM ((by rw [hg]; exact Nat.ne_of_gt (blk_lt (g := gb320) (o := .cells #[.int .i64 t310, .string t311, .slice Ao50 t312.length co50, .string t315, .slice Ao51 t316.length co51] 64 (0, 0)) (by (with_reducible repeat (first | refine bn ?_ _ | refine bd ?_ | refine ba ?_ _)); exact BK320.out)) : gb331 ≠ gb320)); clear HO303; clear HO307; clear HO314; clear HO318; clear HO325; clear HO329; clear BK296; clear BK308; clear BK309; clear BK320; clear HB; have HO303 := n0_; have HO307 := n1_; have HO314 := n2_; have HO318 := n3_; have HO325 := n4_; have HO329 := n5_; have BK296 := n6_; have BK308 := n7_; have BK309 := n8_; have BK320 := n9_; have HB := n10_; have BK331 := n11_; have GW331 := n12_; have GE331 := n13_; have NB296_331 := n14_; have NB331_296 := n15_; have NB308_331 := n16_; have NB331_308 := n17_; have NB309_331 := n18_; have NB331_309 := n19_; have NB320_331 := n20_; have NB331_320 := n21_; clear n0_ n1_ n2_ n3_ n4_ n5_ n6_ n7_ n8_ n9_ n10_ n11_ n12_ n13_ n14_ n15_ n16_ n17_ n18_ n19_ n20_ n21_; clear hb hbox hg; have hnb58 := NB331_296.out; have hnc58 := NB296_331.out; have hnb59 := NB331_308.out; have hnc59 := NB308_331.out; have hnb60 := NB331_309.out; have hnc60 := NB309_331.out; have hnb61 := NB331_320.out; have hnc61 := NB320_331.out; have hcz62_0 : w57.cell? ⟨gb331, 0, none⟩ = some (.int .i64 0) := (bC BK331.out 0).trans rfl; have hcz62_1 : w57.cell? ⟨gb331, 1, none⟩ = some (.string (⟨#[]⟩ : ByteArray)) := (bC BK331.out 1).trans rfl; have hcz62_2 : w57.cell? ⟨gb331, 2, none⟩ = some (.slice none 0 0) := (bC BK331.out 2).trans rfl; have hcz62_3 : w57.cell? ⟨gb331, 3, none⟩ = some (.string (⟨#[]⟩ : ByteArray)) := (bC BK331.out 3).trans rfl; have hcz62_4 : w57.cell? ⟨gb331, 4, none⟩ = some (.slice none 0 0) := (bC BK331.out 4).trans rfl; have hfz62_0 := bF BK331.out 0; have hfz62_1 := bF BK331.out 1; have hfz62_2 := bF BK331.out 2; have hfz62_3 := bF BK331.out 3; have hfz62_4 := bF BK331.out 4; obtain ⟨Ao63, co63, eo63⟩ := Kd.R_slice HO325.out; subst eo63; obtain ⟨Ao64, co64, eo64⟩ := Kd.R_slice HO329.out; subst eo64))
  (try simp only [Act.put, List.setIfInBounds_toArray, List.set_cons_zero, List.set_cons_succ])
  go_cut [72] (fun v72 wc => ∃ (kq : Nat) (x72_27 : Bool), v72 = .bool x72_27 ∧ Aside0 (bureaulaw07_EditHides.j1 kq a1 t319 t330 x72_27 a0_0 l0_1 a0_2 l0_3 a0_4 a0_5 a0_6 a0_7 t300 t301 t310 t311 t312 t315 t316 t321 t322 t323 t326 t327 = some r) ∧ Aside0 (kq ≤ kj4) ∧ Aside0 (Kd.V k100 100 wc w.heap.size (fun k_ => some k_ ≠ ((.slice Ao50 t312.length co50) : Value).ownBlock ∧ some k_ ≠ ((.slice Ao51 t316.length co51) : Value).ownBlock ∧ some k_ ≠ ((.slice Ao63 t323.length co63) : Value).ownBlock ∧ some k_ ≠ ((.slice Ao64 t327.length co64) : Value).ownBlock ∧ k_ ≠ gb296 ∧ k_ ≠ gb308 ∧ k_ ≠ gb309 ∧ k_ ≠ gb320 ∧ k_ ≠ gb331) (.slice Ao36 t301.length co36) t301) ∧ Aside0 (Kd.V k100 100 wc w.heap.size (fun k_ => some k_ ≠ ((.slice Ao50 t312.length co50) : Value).ownBlock ∧ some k_ ≠ ((.slice Ao51 t316.length co51) : Value).ownBlock ∧ some k_ ≠ ((.slice Ao63 t323.length co63) : Value).ownBlock ∧ some k_ ≠ ((.slice Ao64 t327.length co64) : Value).ownBlock ∧ k_ ≠ gb296 ∧ k_ ≠ gb308 ∧ k_ ≠ gb309 ∧ k_ ≠ gb320 ∧ k_ ≠ gb331) (.slice Ao39 t305.length co39) t305) ∧ Aside0 (Kd.R k100 100 wc w.heap.size (fun k_ => some k_ ≠ ((.slice Ao51 t316.length co51) : Value).ownBlock ∧ some k_ ≠ ((.slice Ao63 t323.length co63) : Value).ownBlock ∧ some k_ ≠ ((.slice Ao64 t327.length co64) : Value).ownBlock) (.slice Ao50 t312.length co50) t312) ∧ Aside0 (Kd.R k100 100 wc w.heap.size (fun k_ => some k_ ≠ ((.slice Ao50 t312.length co50) : Value).ownBlock ∧ some k_ ≠ ((.slice Ao63 t323.length co63) : Value).ownBlock ∧ some k_ ≠ ((.slice Ao64 t327.length co64) : Value).ownBlock) (.slice Ao51 t316.length co51) t316) ∧ Aside0 (Kd.R k100 100 wc w.heap.size (fun k_ => some k_ ≠ ((.slice Ao50 t312.length co50) : Value).ownBlock ∧ some k_ ≠ ((.slice Ao51 t316.length co51) : Value).ownBlock ∧ some k_ ≠ ((.slice Ao64 t327.length co64) : Value).ownBlock) (.slice Ao63 t323.length co63) t323) ∧ Aside0 (Kd.R k100 100 wc w.heap.size (fun k_ => some k_ ≠ ((.slice Ao50 t312.length co50) : Value).ownBlock ∧ some k_ ≠ ((.slice Ao51 t316.length co51) : Value).ownBlock ∧ some k_ ≠ ((.slice Ao63 t323.length co63) : Value).ownBlock) (.slice Ao64 t327.length co64) t327) ∧ Aside0 (wc.heap[gb296]? = some (.cells #[.string a0_0, (.slice A0_1 l0_1.length c0_1), .string a0_2, (.slice A0_3 l0_3.length c0_3), .string a0_4, .int .i64 a0_5, .int .i64 a0_6, .int .u64 a0_7] 77 (0, 0))) ∧ Aside0 (wc.heap[gb308]? = some (.cells #[.string t300, (.slice Ao36 t301.length co36)] 51 (0, 0))) ∧ Aside0 (wc.heap[gb309]? = some (.cells #[.string t304, (.slice Ao39 t305.length co39)] 51 (0, 0))) ∧ Aside0 (wc.heap[gb320]? = some (.cells #[.int .i64 t310, .string t311, (.slice Ao50 t312.length co50), .string t315, (.slice Ao51 t316.length co51)] 64 (0, 0))) ∧ Aside0 (wc.heap[gb331]? = some (.cells #[.int .i64 t321, .string t322, (.slice Ao63 t323.length co63), .string t326, (.slice Ao64 t327.length co64)] 64 (0, 0))) ∧ Aside0 (Below w.heap.size w wc))
  case first =>
    have H := HC28.out
    clear HC28
    by_cases c65 : t319 = 0
    · rw [if_pos c65] at H
      have c65b0 : (t319 == 0) = true := beq_iff_eq.mpr c65
      have c65b1 : (t319 != 0) = false := bne_eq_false_iff_eq.mpr c65
      clear c65
      (first | rw [c65b0] | (simp only [i64_w, i32_w]; rw [c65b0]) | skip)
      have H' := aM H
      clear H
      go_wp2
      go_meet
      case rel => exact ⟨_, ((t330 != 0)), (by first | rfl | (simp; done) | (simp [*]; done)), H', ⟨by have := HJ4.out; first | omega | exact Nat.le_refl _⟩, ⟨by (with_reducible repeat (first | apply va | apply vn | apply vd)); exact Kd.V_mono (Kd.V_far (p := ⟨gb331, 4, none⟩) (Kd.V_far (p := ⟨gb331, 3, none⟩) (Kd.V_far (p := ⟨gb331, 2, none⟩) (Kd.V_far (p := ⟨gb331, 1, none⟩) (Kd.V_far (p := ⟨gb331, 0, none⟩) (Kd.V_mono HO303.out (fun k_ hk => (⟨hk, hk.2⟩ : _ ∧ k_ ≠ gb331))) (fun _ hk => hk.2) (.int .i64 t321)) (fun _ hk => hk.2) (.string t322)) (fun _ hk => hk.2) (.slice Ao63 t323.length co63)) (fun _ hk => hk.2) (.string t326)) (fun _ hk => hk.2) (.slice Ao64 t327.length co64)) (fun _ hk => ⟨hk.1.1.1.1.1.1.2, ⟨hk.1.1.1.1.1.2, ⟨hk.1.1.1.2, ⟨hk.1.1.2, ⟨hk.1.1.1.1.1.1.1.1, ⟨hk.1.1.1.1.1.1.1.2.1, ⟨hk.1.1.1.1.1.1.1.2.2, ⟨hk.1.1.1.1.2, hk.1.2⟩⟩⟩⟩⟩⟩⟩⟩)⟩, ⟨by (with_reducible repeat (first | apply va | apply vn | apply vd)); exact Kd.V_mono (Kd.V_far (p := ⟨gb331, 4, none⟩) (Kd.V_far (p := ⟨gb331, 3, none⟩) (Kd.V_far (p := ⟨gb331, 2, none⟩) (Kd.V_far (p := ⟨gb331, 1, none⟩) (Kd.V_far (p := ⟨gb331, 0, none⟩) (Kd.V_mono HO307.out (fun k_ hk => (⟨hk, hk.2⟩ : _ ∧ k_ ≠ gb331))) (fun _ hk => hk.2) (.int .i64 t321)) (fun _ hk => hk.2) (.string t322)) (fun _ hk => hk.2) (.slice Ao63 t323.length co63)) (fun _ hk => hk.2) (.string t326)) (fun _ hk => hk.2) (.slice Ao64 t327.length co64)) (fun _ hk => ⟨hk.1.1.1.1.1.1.2, ⟨hk.1.1.1.1.1.2, ⟨hk.1.1.1.2, ⟨hk.1.1.2, ⟨hk.1.1.1.1.1.1.1.1, ⟨hk.1.1.1.1.1.1.1.2.1, ⟨hk.1.1.1.1.1.1.1.2.2, ⟨hk.1.1.1.1.2, hk.1.2⟩⟩⟩⟩⟩⟩⟩⟩)⟩, ⟨by (with_reducible repeat (first | apply ra | apply rn | apply rd_)); exact rM (rF (p := ⟨gb331, 4, none⟩) (rF (p := ⟨gb331, 3, none⟩) (rF (p := ⟨gb331, 2, none⟩) (rF (p := ⟨gb331, 1, none⟩) (rF (p := ⟨gb331, 0, none⟩) (rT HO314.out BK331.out (by decide)) (fun _ hk => hk.2) (.int .i64 t321)) (fun _ hk => hk.2) (.string t322)) (fun _ hk => hk.2) (.slice Ao63 t323.length co63)) (fun _ hk => hk.2) (.string t326)) (fun _ hk => hk.2) (.slice Ao64 t327.length co64)) (fun _ hk => ⟨hk.1.1.1, ⟨hk.1.1.2, hk.1.2⟩⟩)⟩, ⟨by (with_reducible repeat (first | apply ra | apply rn | apply rd_)); exact rM (rF (p := ⟨gb331, 4, none⟩) (rF (p := ⟨gb331, 3, none⟩) (rF (p := ⟨gb331, 2, none⟩) (rF (p := ⟨gb331, 1, none⟩) (rF (p := ⟨gb331, 0, none⟩) (rT HO318.out BK331.out (by decide)) (fun _ hk => hk.2) (.int .i64 t321)) (fun _ hk => hk.2) (.string t322)) (fun _ hk => hk.2) (.slice Ao63 t323.length co63)) (fun _ hk => hk.2) (.string t326)) (fun _ hk => hk.2) (.slice Ao64 t327.length co64)) (fun _ hk => ⟨hk.1.1.1, ⟨hk.1.1.2, hk.1.2⟩⟩)⟩, ⟨by (with_reducible repeat (first | apply ra | apply rn | apply rd_)); exact rM (rF (p := ⟨gb331, 4, none⟩) (rF (p := ⟨gb331, 3, none⟩) (rF (p := ⟨gb331, 2, none⟩) (rF (p := ⟨gb331, 1, none⟩) (rF (p := ⟨gb331, 0, none⟩) (rT HO325.out BK331.out (by decide)) (fun _ hk => hk.2) (.int .i64 t321)) (fun _ hk => hk.2) (.string t322)) (fun _ hk => hk.2) (.slice Ao63 t323.length co63)) (fun _ hk => hk.2) (.string t326)) (fun _ hk => hk.2) (.slice Ao64 t327.length co64)) (fun _ hk => ⟨hk.1.1.2, ⟨hk.1.2, hk.1.1.1⟩⟩)⟩, ⟨by (with_reducible repeat (first | apply ra | apply rn | apply rd_)); exact rM (rF (p := ⟨gb331, 4, none⟩) (rF (p := ⟨gb331, 3, none⟩) (rF (p := ⟨gb331, 2, none⟩) (rF (p := ⟨gb331, 1, none⟩) (rF (p := ⟨gb331, 0, none⟩) (rT HO329.out BK331.out (by decide)) (fun _ hk => hk.2) (.int .i64 t321)) (fun _ hk => hk.2) (.string t322)) (fun _ hk => hk.2) (.slice Ao63 t323.length co63)) (fun _ hk => hk.2) (.string t326)) (fun _ hk => hk.2) (.slice Ao64 t327.length co64)) (fun _ hk => ⟨hk.1.1.2, ⟨hk.1.2, hk.1.1.1⟩⟩)⟩, ⟨by (with_reducible repeat (first | refine bn ?_ _ | refine bd ?_ | refine ba ?_ _)); refine bR ?_ NB296_331.out _; (with_reducible repeat (first | refine bn ?_ _ | refine bd ?_ | refine ba ?_ _)); refine bR ?_ NB296_331.out _; (with_reducible repeat (first | refine bn ?_ _ | refine bd ?_ | refine ba ?_ _)); refine bR ?_ NB296_331.out _; (with_reducible repeat (first | refine bn ?_ _ | refine bd ?_ | refine ba ?_ _)); refine bR ?_ NB296_331.out _; (with_reducible repeat (first | refine bn ?_ _ | refine bd ?_ | refine ba ?_ _)); refine bR ?_ NB296_331.out _; (with_reducible repeat (first | refine bn ?_ _ | refine bd ?_ | refine ba ?_ _)); exact BK296.out⟩, ⟨by (with_reducible repeat (first | refine bn ?_ _ | refine bd ?_ | refine ba ?_ _)); refine bR ?_ NB308_331.out _; (with_reducible repeat (first | refine bn ?_ _ | refine bd ?_ | refine ba ?_ _)); refine bR ?_ NB308_331.out _; (with_reducible repeat (first | refine bn ?_ _ | refine bd ?_ | refine ba ?_ _)); refine bR ?_ NB308_331.out _; (with_reducible repeat (first | refine bn ?_ _ | refine bd ?_ | refine ba ?_ _)); refine bR ?_ NB308_331.out _; (with_reducible repeat (first | refine bn ?_ _ | refine bd ?_ | refine ba ?_ _)); refine bR ?_ NB308_331.out _; (with_reducible repeat (first | refine bn ?_ _ | refine bd ?_ | refine ba ?_ _)); exact BK308.out⟩, ⟨by (with_reducible repeat (first | refine bn ?_ _ | refine bd ?_ | refine ba ?_ _)); refine bR ?_ NB309_331.out _; (with_reducible repeat (first | refine bn ?_ _ | refine bd ?_ | refine ba ?_ _)); refine bR ?_ NB309_331.out _; (with_reducible repeat (first | refine bn ?_ _ | refine bd ?_ | refine ba ?_ _)); refine bR ?_ NB309_331.out _; (with_reducible repeat (first | refine bn ?_ _ | refine bd ?_ | refine ba ?_ _)); refine bR ?_ NB309_331.out _; (with_reducible repeat (first | refine bn ?_ _ | refine bd ?_ | refine ba ?_ _)); refine bR ?_ NB309_331.out _; (with_reducible repeat (first | refine bn ?_ _ | refine bd ?_ | refine ba ?_ _)); exact BK309.out⟩, ⟨by (with_reducible repeat (first | refine bn ?_ _ | refine bd ?_ | refine ba ?_ _)); refine bR ?_ NB320_331.out _; (with_reducible repeat (first | refine bn ?_ _ | refine bd ?_ | refine ba ?_ _)); refine bR ?_ NB320_331.out _; (with_reducible repeat (first | refine bn ?_ _ | refine bd ?_ | refine ba ?_ _)); refine bR ?_ NB320_331.out _; (with_reducible repeat (first | refine bn ?_ _ | refine bd ?_ | refine ba ?_ _)); refine bR ?_ NB320_331.out _; (with_reducible repeat (first | refine bn ?_ _ | refine bd ?_ | refine ba ?_ _)); refine bR ?_ NB320_331.out _; (with_reducible repeat (first | refine bn ?_ _ | refine bd ?_ | refine ba ?_ _)); exact BK320.out⟩, ⟨by (with_reducible repeat (first | refine bn ?_ _ | refine bd ?_ | refine ba ?_ _)); refine bU (cs := #[.int .i64 t321, .string t322, .slice Ao63 t323.length co63, .string t326, .slice none 0 0]) ?_ 4 _ rfl; (with_reducible repeat (first | refine bn ?_ _ | refine bd ?_ | refine ba ?_ _)); refine bU (cs := #[.int .i64 t321, .string t322, .slice Ao63 t323.length co63, .string (⟨#[]⟩ : ByteArray), .slice none 0 0]) ?_ 3 _ rfl; (with_reducible repeat (first | refine bn ?_ _ | refine bd ?_ | refine ba ?_ _)); refine bU (cs := #[.int .i64 t321, .string t322, .slice none 0 0, .string (⟨#[]⟩ : ByteArray), .slice none 0 0]) ?_ 2 _ rfl; (with_reducible repeat (first | refine bn ?_ _ | refine bd ?_ | refine ba ?_ _)); refine bU (cs := #[.int .i64 t321, .string (⟨#[]⟩ : ByteArray), .slice none 0 0, .string (⟨#[]⟩ : ByteArray), .slice none 0 0]) ?_ 1 _ rfl; (with_reducible repeat (first | refine bn ?_ _ | refine bd ?_ | refine ba ?_ _)); refine bU (cs := #[.int .i64 0, .string (⟨#[]⟩ : ByteArray), .slice none 0 0, .string (⟨#[]⟩ : ByteArray), .slice none 0 0]) ?_ 0 _ rfl; (with_reducible repeat (first | refine bn ?_ _ | refine bd ?_ | refine ba ?_ _)); exact BK331.out⟩, ⟨by repeat (first | (with_reducible first | exact HB.out | apply ea | apply en | apply ed | refine bs ?_ GE296.out | refine bs ?_ GE308.out | refine bs ?_ GE309.out | refine bs ?_ GE320.out | refine bs ?_ GE331.out) | exact HB.out)⟩⟩
    · rw [if_neg c65] at H
      have c65b0 : (t319 == 0) = false := beq_eq_false_iff_ne.mpr c65
      have c65b1 : (t319 != 0) = true := bne_iff_ne.mpr c65
      (first | rw [c65b0] | (simp only [i64_w, i32_w]; rw [c65b0]) | skip)
      have H' := aM H
      clear H
      go_wp2
      go_meet
      case rel => exact ⟨_, (true), (by first | rfl | (simp; done) | (simp [*]; done)), H', ⟨by have := HJ4.out; first | omega | exact Nat.le_refl _⟩, ⟨by (with_reducible repeat (first | apply va | apply vn | apply vd)); exact Kd.V_mono (Kd.V_far (p := ⟨gb331, 4, none⟩) (Kd.V_far (p := ⟨gb331, 3, none⟩) (Kd.V_far (p := ⟨gb331, 2, none⟩) (Kd.V_far (p := ⟨gb331, 1, none⟩) (Kd.V_far (p := ⟨gb331, 0, none⟩) (Kd.V_mono HO303.out (fun k_ hk => (⟨hk, hk.2⟩ : _ ∧ k_ ≠ gb331))) (fun _ hk => hk.2) (.int .i64 t321)) (fun _ hk => hk.2) (.string t322)) (fun _ hk => hk.2) (.slice Ao63 t323.length co63)) (fun _ hk => hk.2) (.string t326)) (fun _ hk => hk.2) (.slice Ao64 t327.length co64)) (fun _ hk => ⟨hk.1.1.1.1.1.1.2, ⟨hk.1.1.1.1.1.2, ⟨hk.1.1.1.2, ⟨hk.1.1.2, ⟨hk.1.1.1.1.1.1.1.1, ⟨hk.1.1.1.1.1.1.1.2.1, ⟨hk.1.1.1.1.1.1.1.2.2, ⟨hk.1.1.1.1.2, hk.1.2⟩⟩⟩⟩⟩⟩⟩⟩)⟩, ⟨by (with_reducible repeat (first | apply va | apply vn | apply vd)); exact Kd.V_mono (Kd.V_far (p := ⟨gb331, 4, none⟩) (Kd.V_far (p := ⟨gb331, 3, none⟩) (Kd.V_far (p := ⟨gb331, 2, none⟩) (Kd.V_far (p := ⟨gb331, 1, none⟩) (Kd.V_far (p := ⟨gb331, 0, none⟩) (Kd.V_mono HO307.out (fun k_ hk => (⟨hk, hk.2⟩ : _ ∧ k_ ≠ gb331))) (fun _ hk => hk.2) (.int .i64 t321)) (fun _ hk => hk.2) (.string t322)) (fun _ hk => hk.2) (.slice Ao63 t323.length co63)) (fun _ hk => hk.2) (.string t326)) (fun _ hk => hk.2) (.slice Ao64 t327.length co64)) (fun _ hk => ⟨hk.1.1.1.1.1.1.2, ⟨hk.1.1.1.1.1.2, ⟨hk.1.1.1.2, ⟨hk.1.1.2, ⟨hk.1.1.1.1.1.1.1.1, ⟨hk.1.1.1.1.1.1.1.2.1, ⟨hk.1.1.1.1.1.1.1.2.2, ⟨hk.1.1.1.1.2, hk.1.2⟩⟩⟩⟩⟩⟩⟩⟩)⟩, ⟨by (with_reducible repeat (first | apply ra | apply rn | apply rd_)); exact rM (rF (p := ⟨gb331, 4, none⟩) (rF (p := ⟨gb331, 3, none⟩) (rF (p := ⟨gb331, 2, none⟩) (rF (p := ⟨gb331, 1, none⟩) (rF (p := ⟨gb331, 0, none⟩) (rT HO314.out BK331.out (by decide)) (fun _ hk => hk.2) (.int .i64 t321)) (fun _ hk => hk.2) (.string t322)) (fun _ hk => hk.2) (.slice Ao63 t323.length co63)) (fun _ hk => hk.2) (.string t326)) (fun _ hk => hk.2) (.slice Ao64 t327.length co64)) (fun _ hk => ⟨hk.1.1.1, ⟨hk.1.1.2, hk.1.2⟩⟩)⟩, ⟨by (with_reducible repeat (first | apply ra | apply rn | apply rd_)); exact rM (rF (p := ⟨gb331, 4, none⟩) (rF (p := ⟨gb331, 3, none⟩) (rF (p := ⟨gb331, 2, none⟩) (rF (p := ⟨gb331, 1, none⟩) (rF (p := ⟨gb331, 0, none⟩) (rT HO318.out BK331.out (by decide)) (fun _ hk => hk.2) (.int .i64 t321)) (fun _ hk => hk.2) (.string t322)) (fun _ hk => hk.2) (.slice Ao63 t323.length co63)) (fun _ hk => hk.2) (.string t326)) (fun _ hk => hk.2) (.slice Ao64 t327.length co64)) (fun _ hk => ⟨hk.1.1.1, ⟨hk.1.1.2, hk.1.2⟩⟩)⟩, ⟨by (with_reducible repeat (first | apply ra | apply rn | apply rd_)); exact rM (rF (p := ⟨gb331, 4, none⟩) (rF (p := ⟨gb331, 3, none⟩) (rF (p := ⟨gb331, 2, none⟩) (rF (p := ⟨gb331, 1, none⟩) (rF (p := ⟨gb331, 0, none⟩) (rT HO325.out BK331.out (by decide)) (fun _ hk => hk.2) (.int .i64 t321)) (fun _ hk => hk.2) (.string t322)) (fun _ hk => hk.2) (.slice Ao63 t323.length co63)) (fun _ hk => hk.2) (.string t326)) (fun _ hk => hk.2) (.slice Ao64 t327.length co64)) (fun _ hk => ⟨hk.1.1.2, ⟨hk.1.2, hk.1.1.1⟩⟩)⟩, ⟨by (with_reducible repeat (first | apply ra | apply rn | apply rd_)); exact rM (rF (p := ⟨gb331, 4, none⟩) (rF (p := ⟨gb331, 3, none⟩) (rF (p := ⟨gb331, 2, none⟩) (rF (p := ⟨gb331, 1, none⟩) (rF (p := ⟨gb331, 0, none⟩) (rT HO329.out BK331.out (by decide)) (fun _ hk => hk.2) (.int .i64 t321)) (fun _ hk => hk.2) (.string t322)) (fun _ hk => hk.2) (.slice Ao63 t323.length co63)) (fun _ hk => hk.2) (.string t326)) (fun _ hk => hk.2) (.slice Ao64 t327.length co64)) (fun _ hk => ⟨hk.1.1.2, ⟨hk.1.2, hk.1.1.1⟩⟩)⟩, ⟨by (with_reducible repeat (first | refine bn ?_ _ | refine bd ?_ | refine ba ?_ _)); refine bR ?_ NB296_331.out _; (with_reducible repeat (first | refine bn ?_ _ | refine bd ?_ | refine ba ?_ _)); refine bR ?_ NB296_331.out _; (with_reducible repeat (first | refine bn ?_ _ | refine bd ?_ | refine ba ?_ _)); refine bR ?_ NB296_331.out _; (with_reducible repeat (first | refine bn ?_ _ | refine bd ?_ | refine ba ?_ _)); refine bR ?_ NB296_331.out _; (with_reducible repeat (first | refine bn ?_ _ | refine bd ?_ | refine ba ?_ _)); refine bR ?_ NB296_331.out _; (with_reducible repeat (first | refine bn ?_ _ | refine bd ?_ | refine ba ?_ _)); exact BK296.out⟩, ⟨by (with_reducible repeat (first | refine bn ?_ _ | refine bd ?_ | refine ba ?_ _)); refine bR ?_ NB308_331.out _; (with_reducible repeat (first | refine bn ?_ _ | refine bd ?_ | refine ba ?_ _)); refine bR ?_ NB308_331.out _; (with_reducible repeat (first | refine bn ?_ _ | refine bd ?_ | refine ba ?_ _)); refine bR ?_ NB308_331.out _; (with_reducible repeat (first | refine bn ?_ _ | refine bd ?_ | refine ba ?_ _)); refine bR ?_ NB308_331.out _; (with_reducible repeat (first | refine bn ?_ _ | refine bd ?_ | refine ba ?_ _)); refine bR ?_ NB308_331.out _; (with_reducible repeat (first | refine bn ?_ _ | refine bd ?_ | refine ba ?_ _)); exact BK308.out⟩, ⟨by (with_reducible repeat (first | refine bn ?_ _ | refine bd ?_ | refine ba ?_ _)); refine bR ?_ NB309_331.out _; (with_reducible repeat (first | refine bn ?_ _ | refine bd ?_ | refine ba ?_ _)); refine bR ?_ NB309_331.out _; (with_reducible repeat (first | refine bn ?_ _ | refine bd ?_ | refine ba ?_ _)); refine bR ?_ NB309_331.out _; (with_reducible repeat (first | refine bn ?_ _ | refine bd ?_ | refine ba ?_ _)); refine bR ?_ NB309_331.out _; (with_reducible repeat (first | refine bn ?_ _ | refine bd ?_ | refine ba ?_ _)); refine bR ?_ NB309_331.out _; (with_reducible repeat (first | refine bn ?_ _ | refine bd ?_ | refine ba ?_ _)); exact BK309.out⟩, ⟨by (with_reducible repeat (first | refine bn ?_ _ | refine bd ?_ | refine ba ?_ _)); refine bR ?_ NB320_331.out _; (with_reducible repeat (first | refine bn ?_ _ | refine bd ?_ | refine ba ?_ _)); refine bR ?_ NB320_331.out _; (with_reducible repeat (first | refine bn ?_ _ | refine bd ?_ | refine ba ?_ _)); refine bR ?_ NB320_331.out _; (with_reducible repeat (first | refine bn ?_ _ | refine bd ?_ | refine ba ?_ _)); refine bR ?_ NB320_331.out _; (with_reducible repeat (first | refine bn ?_ _ | refine bd ?_ | refine ba ?_ _)); refine bR ?_ NB320_331.out _; (with_reducible repeat (first | refine bn ?_ _ | refine bd ?_ | refine ba ?_ _)); exact BK320.out⟩, ⟨by (with_reducible repeat (first | refine bn ?_ _ | refine bd ?_ | refine ba ?_ _)); refine bU (cs := #[.int .i64 t321, .string t322, .slice Ao63 t323.length co63, .string t326, .slice none 0 0]) ?_ 4 _ rfl; (with_reducible repeat (first | refine bn ?_ _ | refine bd ?_ | refine ba ?_ _)); refine bU (cs := #[.int .i64 t321, .string t322, .slice Ao63 t323.length co63, .string (⟨#[]⟩ : ByteArray), .slice none 0 0]) ?_ 3 _ rfl; (with_reducible repeat (first | refine bn ?_ _ | refine bd ?_ | refine ba ?_ _)); refine bU (cs := #[.int .i64 t321, .string t322, .slice none 0 0, .string (⟨#[]⟩ : ByteArray), .slice none 0 0]) ?_ 2 _ rfl; (with_reducible repeat (first | refine bn ?_ _ | refine bd ?_ | refine ba ?_ _)); refine bU (cs := #[.int .i64 t321, .string (⟨#[]⟩ : ByteArray), .slice none 0 0, .string (⟨#[]⟩ : ByteArray), .slice none 0 0]) ?_ 1 _ rfl; (with_reducible repeat (first | refine bn ?_ _ | refine bd ?_ | refine ba ?_ _)); refine bU (cs := #[.int .i64 0, .string (⟨#[]⟩ : ByteArray), .slice none 0 0, .string (⟨#[]⟩ : ByteArray), .slice none 0 0]) ?_ 0 _ rfl; (with_reducible repeat (first | refine bn ?_ _ | refine bd ?_ | refine ba ?_ _)); exact BK331.out⟩, ⟨by repeat (first | (with_reducible first | exact HB.out | apply ea | apply en | apply ed | refine bs ?_ GE296.out | refine bs ?_ GE308.out | refine bs ?_ GE309.out | refine bs ?_ GE320.out | refine bs ?_ GE331.out) | exact HB.out)⟩⟩
  case rest =>
    clear HC28
    try clear p2
    try clear c4
    try clear c5
    try clear c6
    try clear c41
    try clear c42
    try clear c46
    try clear c47
    try clear c48
    try clear c52
    try clear c56
    try clear c58
    try clear c59
    try clear c60
    try clear c61
    try clear c65
    try clear c65b0
    try clear c65b1
    try clear hcz43_0
    try clear hcz43_1
    try clear hcz43_2
    try clear hcz43_3
    try clear hcz43_4
    try clear hcz43_5
    try clear hcz43_6
    try clear hcz43_7
    try clear hcz49_0
    try clear hcz49_1
    try clear hcz49_2
    try clear hcz49_3
    try clear hcz49_4
    try clear hcz53_0
    try clear hcz53_1
    try clear hcz54_0
    try clear hcz54_1
    try clear hcz54_2
    try clear hcz54_3
    try clear hcz54_4
    try clear hcz54_5
    try clear hcz54_6
    try clear hcz54_7
    try clear hcz55_0
    try clear hcz55_1
    try clear hcz62_0
    try clear hcz62_1
    try clear hcz62_2
    try clear hcz62_3
    try clear hcz62_4
    try clear hfz43_0
    try clear hfz43_1
    try clear hfz43_2
    try clear hfz43_3
    try clear hfz43_4
    try clear hfz43_5
    try clear hfz43_6
    try clear hfz43_7
    try clear hfz49_0
    try clear hfz49_1
    try clear hfz49_2
    try clear hfz49_3
    try clear hfz49_4
    try clear hfz53_0
    try clear hfz53_1
    try clear hfz54_0
    try clear hfz54_1
    try clear hfz54_2
    try clear hfz54_3
    try clear hfz54_4
    try clear hfz54_5
    try clear hfz54_6
    try clear hfz54_7
    try clear hfz55_0
    try clear hfz55_1
    try clear hfz62_0
    try clear hfz62_1
    try clear hfz62_2
    try clear hfz62_3
    try clear hfz62_4
    obtain ⟨kq, x72_27, rfl, HA, HJ27, HO_309001, HO_310001, HO_321002, HO_321004, HO_332002, HO_332004, BK296, BK308, BK309, BK320, BK331, HB⟩ := hcut
    cases kq with
    | zero => exact absurd HA.out (by simp [bureaulaw07_EditHides.j1])
    | succ kj27 =>
      have H := HA.out
      clear HA
      simp only [bureaulaw07_EditHides.j1] at H
      by_cases c66 : x72_27 = true
      · subst c66
        have H1 : (some (t319 == t330)) = some r := by rw [if_pos rfl] at H; exact H
        clear H
        have H := H1
        clear H1
        obtain rfl := Option.some.inj H
        go_wp2
        go_ret
        exact ⟨by first | rfl | (simp [errW_none, errW_some] <;> rfl) | (simp [*, errW_none, errW_some] <;> rfl), by repeat (first | (with_reducible first | exact HB.out | apply ea | apply en | apply ed | refine bs ?_ GE296.out | refine bs ?_ GE308.out | refine bs ?_ GE309.out | refine bs ?_ GE320.out | refine bs ?_ GE331.out) | exact HB.out)⟩
      · replace c66 := Bool.eq_false_iff.mpr c66
        subst c66
        have H1 : ((edit_Apply.f kj27 a0_0 l0_1 t310 t311 t312 t315 t316).bind fun bt332 => ((edit_Apply.f kj27 t300 t301 t321 t322 t323 t326 t327).bind fun bt338 => (if bt332.2.2 = 0 then (if bt338.2.2 = 0 then ((bureauref04_Low.f kj27 bt332.1 bt332.2.1 bt338.1 bt338.2.1 a1).bind fun t344 => (if t344 = true then ((bureauref04_Low.f kj27 t311 t312 t322 t323 a1).bind fun t345 => (some t345)) else (some false))) else (some false)) else (some false)))) = some r := by rw [if_neg (show ¬ (false = true) by decide)] at H; exact H
        clear H
        have H := H1
        clear H1
        replace H := Option.bind_eq_some_iff.mp H
        obtain ⟨⟨t332, t333, t336⟩, A670, H⟩ := H
        replace H : ((edit_Apply.f kj27 t300 t301 t321 t322 t323 t326 t327).bind fun bt338 => (if t336 = 0 then (if bt338.2.2 = 0 then ((bureauref04_Low.f kj27 t332 t333 bt338.1 bt338.2.1 a1).bind fun t344 => (if t344 = true then ((bureauref04_Low.f kj27 t311 t312 t322 t323 a1).bind fun t345 => (some t345)) else (some false))) else (some false)) else (some false))) = some r := H
        have A67 := aM A670
        clear A670
        replace H := Option.bind_eq_some_iff.mp H
        obtain ⟨⟨t338, t339, t342⟩, A680, H⟩ := H
        replace H : (if t336 = 0 then (if t342 = 0 then ((bureauref04_Low.f kj27 t332 t333 t338 t339 a1).bind fun t344 => (if t344 = true then ((bureauref04_Low.f kj27 t311 t312 t322 t323 a1).bind fun t345 => (some t345)) else (some false))) else (some false)) else (some false)) = some r := H
        have A68 := aM A680
        clear A680
        have hnb74 := NB296_308.out
        have hnc74 := NB308_296.out
        have hnb75 := NB296_309.out
        have hnc75 := NB309_296.out
        have hnb76 := NB296_320.out
        have hnc76 := NB320_296.out
        have hnb77 := NB296_331.out
        have hnc77 := NB331_296.out
        have hcz78_0 : wc.cell? ⟨gb296, 0, none⟩ = some (.string a0_0) := (bC BK296.out 0).trans rfl
        have hcz78_1 : wc.cell? ⟨gb296, 1, none⟩ = some (.slice A0_1 l0_1.length c0_1) := (bC BK296.out 1).trans rfl
        have hcz78_2 : wc.cell? ⟨gb296, 2, none⟩ = some (.string a0_2) := (bC BK296.out 2).trans rfl
        have hcz78_3 : wc.cell? ⟨gb296, 3, none⟩ = some (.slice A0_3 l0_3.length c0_3) := (bC BK296.out 3).trans rfl
        have hcz78_4 : wc.cell? ⟨gb296, 4, none⟩ = some (.string a0_4) := (bC BK296.out 4).trans rfl
        have hcz78_5 : wc.cell? ⟨gb296, 5, none⟩ = some (.int .i64 a0_5) := (bC BK296.out 5).trans rfl
        have hcz78_6 : wc.cell? ⟨gb296, 6, none⟩ = some (.int .i64 a0_6) := (bC BK296.out 6).trans rfl
        have hcz78_7 : wc.cell? ⟨gb296, 7, none⟩ = some (.int .u64 a0_7) := (bC BK296.out 7).trans rfl
        have hfz78_0 := bF BK296.out 0
        have hfz78_1 := bF BK296.out 1
        have hfz78_2 := bF BK296.out 2
        have hfz78_3 := bF BK296.out 3
        have hfz78_4 := bF BK296.out 4
        have hfz78_5 := bF BK296.out 5
        have hfz78_6 := bF BK296.out 6
        have hfz78_7 := bF BK296.out 7
        have hnb79 := NB320_308.out
        have hnc79 := NB308_320.out
        have hnb80 := NB320_309.out
        have hnc80 := NB309_320.out
        have hnb81 := NB320_331.out
        have hnc81 := NB331_320.out
        have hcz82_0 : wc.cell? ⟨gb320, 0, none⟩ = some (.int .i64 t310) := (bC BK320.out 0).trans rfl
        have hcz82_1 : wc.cell? ⟨gb320, 1, none⟩ = some (.string t311) := (bC BK320.out 1).trans rfl
        have hcz82_2 : wc.cell? ⟨gb320, 2, none⟩ = some (.slice Ao50 t312.length co50) := (bC BK320.out 2).trans rfl
        have hcz82_3 : wc.cell? ⟨gb320, 3, none⟩ = some (.string t315) := (bC BK320.out 3).trans rfl
        have hcz82_4 : wc.cell? ⟨gb320, 4, none⟩ = some (.slice Ao51 t316.length co51) := (bC BK320.out 4).trans rfl
        have hfz82_0 := bF BK320.out 0
        have hfz82_1 := bF BK320.out 1
        have hfz82_2 := bF BK320.out 2
        have hfz82_3 := bF BK320.out 3
        have hfz82_4 := bF BK320.out 4
        go_upto_region 12 with (first | ((with_reducible refine gate_callee (f := 65) rfl ?_); refine goesL_ (some 80) rfl rfl Try.func65 (by kernel_rfl) rfl #[.agg #[.string a0_0, .slice A0_1 l0_1.length c0_1], .agg #[.int .i64 t310, .string t311, .slice Ao50 t312.length co50, .string t315, .slice Ao51 t316.length co51]] rfl (by (try simp only [List.map_toArray, List.map_cons, List.map_nil]); first | done | rfl | (simp only [List.length_drop, List.length_take]; rfl)) ?_; (with_reducible refine (edit_Apply.calls kj27 a0_0 _ _ l0_1 t310 t311 _ _ t312 t315 _ _ t316 t332 t333 t336 _ ?side1 ?side2 ?side3 ?side4 ?side5 ?side6 A67.out).mono ?_); (case side1 => repeat (first | exact (cB_ HR0_1.out HB.out) | (with_reducible refine Kd.C_alloc ?_ _) | (with_reducible refine Kd.C_drewN ?_ _) | (with_reducible refine Kd.C_drew ?_))); (case side2 => exact HC0_1.out); (case side3 => repeat (first | exact (rR HO_321002.out).2.2 | (with_reducible refine Kd.C_alloc ?_ _) | (with_reducible refine Kd.C_drewN ?_ _) | (with_reducible refine Kd.C_drew ?_))); (case side4 => exact (rR HO_321002.out).2.1); (case side5 => repeat (first | exact (rR HO_321004.out).2.2 | (with_reducible refine Kd.C_alloc ?_ _) | (with_reducible refine Kd.C_drewN ?_ _) | (with_reducible refine Kd.C_drew ?_))); (case side6 => exact (rR HO_321004.out).2.1); rintro e w83 ⟨v334, rfl, ho0, hb⟩; refine ⟨_, rfl, ?_⟩; have n0_ := aM (Kd.V_elder' (by (with_reducible repeat (first | apply va | apply vn | apply vd)); exact HO_309001.out) (Kd.R_base ho0) hb); have n1_ := aM (Kd.V_elder' (by (with_reducible repeat (first | apply va | apply vn | apply vd)); exact HO_310001.out) (Kd.R_base ho0) hb); have n2_ := aM (rE (by (with_reducible repeat (first | apply ra | apply rn | apply rd_)); exact HO_321002.out) (Kd.R_base ho0) hb); have n3_ := aM (rE (by (with_reducible repeat (first | apply ra | apply rn | apply rd_)); exact HO_321004.out) (Kd.R_base ho0) hb); have n4_ := aM (rE (by (with_reducible repeat (first | apply ra | apply rn | apply rd_)); exact HO_332002.out) (Kd.R_base ho0) hb); have n5_ := aM (rE (by (with_reducible repeat (first | apply ra | apply rn | apply rd_)); exact HO_332004.out) (Kd.R_base ho0) hb); have n6_ := aM (rL (Kd.R_new' (Kd.R_new' (Kd.R_new' (Kd.R_new' ho0 (Kd.R_lt (by (with_reducible repeat (first | apply ra | apply rn | apply rd_)); exact HO_321002.out))) (Kd.R_lt (by (with_reducible repeat (first | apply ra | apply rn | apply rd_)); exact HO_321004.out))) (Kd.R_lt (by (with_reducible repeat (first | apply ra | apply rn | apply rd_)); exact HO_332002.out))) (Kd.R_lt (by (with_reducible repeat (first | apply ra | apply rn | apply rd_)); exact HO_332004.out))) (bZ (by repeat (first | (with_reducible first | exact HB.out | apply ea | apply en | apply ed | refine bs ?_ GE296.out | refine bs ?_ GE308.out | refine bs ?_ GE309.out | refine bs ?_ GE320.out | refine bs ?_ GE331.out) | exact HB.out)))); have n7_ := aM (bB (g := gb296) (o := .cells #[.string a0_0, .slice A0_1 l0_1.length c0_1, .string a0_2, .slice A0_3 l0_3.length c0_3, .string a0_4, .int .i64 a0_5, .int .i64 a0_6, .int .u64 a0_7] 77 (0, 0)) (by (with_reducible repeat (first | refine bn ?_ _ | refine bd ?_ | refine ba ?_ _)); exact BK296.out) hb); have n8_ := aM (bB (g := gb308) (o := .cells #[.string t300, .slice Ao36 t301.length co36] 51 (0, 0)) (by (with_reducible repeat (first | refine bn ?_ _ | refine bd ?_ | refine ba ?_ _)); exact BK308.out) hb); have n9_ := aM (bB (g := gb309) (o := .cells #[.string t304, .slice Ao39 t305.length co39] 51 (0, 0)) (by (with_reducible repeat (first | refine bn ?_ _ | refine bd ?_ | refine ba ?_ _)); exact BK309.out) hb); have n10_ := aM (bB (g := gb320) (o := .cells #[.int .i64 t310, .string t311, .slice Ao50 t312.length co50, .string t315, .slice Ao51 t316.length co51] 64 (0, 0)) (by (with_reducible repeat (first | refine bn ?_ _ | refine bd ?_ | refine ba ?_ _)); exact BK320.out) hb); have n11_ := aM (bB (g := gb331) (o := .cells #[.int .i64 t321, .string t322, .slice Ao63 t323.length co63, .string t326, .slice Ao64 t327.length co64] 64 (0, 0)) (by (with_reducible repeat (first | refine bn ?_ _ | refine bd ?_ | refine ba ?_ _)); exact BK331.out) hb); have n12_ := aM (bP (by repeat (first | (with_reducible first | exact HB.out | apply ea | apply en | apply ed | refine bs ?_ GE296.out | refine bs ?_ GE308.out | refine bs ?_ GE309.out | refine bs ?_ GE320.out | refine bs ?_ GE331.out) | exact HB.out)) hb); clear HO_309001; clear HO_310001; clear HO_321002; clear HO_321004; clear HO_332002; clear HO_332004; clear BK296; clear BK308; clear BK309; clear BK320; clear BK331; clear HB; have HO_309001 := n0_; have HO_310001 := n1_; have HO_321002 := n2_; have HO_321004 := n3_; have HO_332002 := n4_; have HO_332004 := n5_; have HO335 := n6_; have BK296 := n7_; have BK308 := n8_; have BK309 := n9_; have BK320 := n10_; have BK331 := n11_; have HB := n12_; clear n0_ n1_ n2_ n3_ n4_ n5_ n6_ n7_ n8_ n9_ n10_ n11_ n12_; (try clear hb); (try clear hb2); (try clear hk); (try clear hi); (try clear ho0)) | ((with_reducible refine gate_dst (N := 11) rfl ?_); (try (refine gate_guard (by rfl) ?_; dsimp only)); refine box_event ?hg (N := 11) ?hd (cs := #[.string (⟨#[]⟩ : ByteArray), .slice none 0 0]) (t := 51) ?hr ?_; (case hd => rfl); (case hg => rfl); (case hr => first | (go_simp; done) | (go_simp; rfl)); intro gb337 hg w84 hbox hb; have n0_ := aM (Kd.V_below (Kd.V_elderB (by (with_reducible repeat (first | apply va | apply vn | apply vd)); exact HO_309001.out) gb337 (Nat.le_of_eq hg.symm)) hb); have n1_ := aM (Kd.V_below (Kd.V_elderB (by (with_reducible repeat (first | apply va | apply vn | apply vd)); exact HO_310001.out) gb337 (Nat.le_of_eq hg.symm)) hb); have n2_ := aM (Kd.R_below (by (with_reducible repeat (first | apply ra | apply rn | apply rd_)); exact HO_321002.out) hb); have n3_ := aM (Kd.R_below (by (with_reducible repeat (first | apply ra | apply rn | apply rd_)); exact HO_321004.out) hb); have n4_ := aM (Kd.R_below (by (with_reducible repeat (first | apply ra | apply rn | apply rd_)); exact HO_332002.out) hb); have n5_ := aM (Kd.R_below (by (with_reducible repeat (first | apply ra | apply rn | apply rd_)); exact HO_332004.out) hb); have n6_ := aM (Kd.R_below (by (with_reducible repeat (first | apply ra | apply rn | apply rd_)); exact HO335.out) hb); have n7_ := aM (bB (g := gb296) (o := .cells #[.string a0_0, .slice A0_1 l0_1.length c0_1, .string a0_2, .slice A0_3 l0_3.length c0_3, .string a0_4, .int .i64 a0_5, .int .i64 a0_6, .int .u64 a0_7] 77 (0, 0)) (by (with_reducible repeat (first | refine bn ?_ _ | refine bd ?_ | refine ba ?_ _)); exact BK296.out) hb); have n8_ := aM (bB (g := gb308) (o := .cells #[.string t300, .slice Ao36 t301.length co36] 51 (0, 0)) (by (with_reducible repeat (first | refine bn ?_ _ | refine bd ?_ | refine ba ?_ _)); exact BK308.out) hb); have n9_ := aM (bB (g := gb309) (o := .cells #[.string t304, .slice Ao39 t305.length co39] 51 (0, 0)) (by (with_reducible repeat (first | refine bn ?_ _ | refine bd ?_ | refine ba ?_ _)); exact BK309.out) hb); have n10_ := aM (bB (g := gb320) (o := .cells #[.int .i64 t310, .string t311, .slice Ao50 t312.length co50, .string t315, .slice Ao51 t316.length co51] 64 (0, 0)) (by (with_reducible repeat (first | refine bn ?_ _ | refine bd ?_ | refine ba ?_ _)); exact BK320.out) hb); have n11_ := aM (bB (g := gb331) (o := .cells #[.int .i64 t321, .string t322, .slice Ao63 t323.length co63, .string t326, .slice Ao64 t327.length co64] 64 (0, 0)) (by (with_reducible repeat (first | refine bn ?_ _ | refine bd ?_ | refine ba ?_ _)); exact BK331.out) hb); have n12_ := aM (bP (by repeat (first | (with_reducible first | exact HB.out | apply ea | apply en | apply ed | refine bs ?_ GE296.out | refine bs ?_ GE308.out | refine bs ?_ GE309.out | refine bs ?_ GE320.out | refine bs ?_ GE331.out) | exact HB.out)) hb); have n13_ := aM (hbox); have n14_ := aM ((by rw [hg]; exact (bZ (by repeat (first | (with_reducible first | exact HB.out | apply ea | apply en | apply ed | refine bs ?_ GE296.out | refine bs ?_ GE308.out | refine bs ?_ GE309.out | refine bs ?_ GE320.out | refine bs ?_ GE331.out) | exact HB.out))) : w.heap.size ≤ gb337)); have n15_ := aM ((by rw [hg]; exact (bZ (by repeat (first | (with_reducible first | exact HB.out | apply ea | apply en | apply ed | refine bs ?_ GE296.out | refine bs ?_ GE308.out | refine bs ?_ GE309.out | refine bs ?_ GE320.out | refine bs ?_ GE331.out) | exact HB.out))) : w.heap.size ≤ gb337)); have n16_ := aM ((by rw [hg]; exact Nat.ne_of_lt (blk_lt (g := gb296) (o := .cells #[.string a0_0, .slice A0_1 l0_1.length c0_1, .string a0_2, .slice A0_3 l0_3.length c0_3, .string a0_4, .int .i64 a0_5, .int .i64 a0_6, .int .u64 a0_7] 77 (0, 0)) (by (with_reducible repeat (first | refine bn ?_ _ | refine bd ?_ | refine ba ?_ _)); exact BK296.out)) : gb296 ≠ gb337)); have n17_ := aM ((by rw [hg]; exact Nat.ne_of_gt (blk_lt (g := gb296) (o := .cells #[.string a0_0, .slice A0_1 l0_1.length c0_1, .string a0_2, .slice A0_3 l0_3.length c0_3, .string a0_4, .int .i64 a0_5, .int .i64 a0_6, .int .u64 a0_7] 77 (0, 0)) (by (with_reducible repeat (first | refine bn ?_ _ | refine bd ?_ | refine ba ?_ _)); exact BK296.out)) : gb337 ≠ gb296)); have n18_ := aM ((by rw [hg]; exact Nat.ne_of_lt (blk_lt (g := gb308) (o := .cells #[.string t300, .slice Ao36 t301.length co36] 51 (0, 0)) (by (with_reducible repeat (first | refine bn ?_ _ | refine bd ?_ | refine ba ?_ _)); exact BK308.out)) : gb308 ≠ gb337)); have n19_ := aM ((by rw [hg]; exact Nat.ne_of_gt (blk_lt (g := gb308) (o := .cells #[.string t300, .slice Ao36 t301.length co36] 51 (0, 0)) (by (with_reducible repeat (first | refine bn ?_ _ | refine bd ?_ | refine ba ?_ _)); exact BK308.out)) : gb337 ≠ gb308)); have n20_ := aM ((by rw [hg]; exact Nat.ne_of_lt (blk_lt (g := gb309) (o := .cells #[.string t304, .slice Ao39 t305.length co39] 51 (0, 0)) (by (with_reducible repeat (first | refine bn ?_ _ | refine bd ?_ | refine ba ?_ _)); exact BK309.out)) : gb309 ≠ gb337)); have n21_ := aM ((by rw [hg]; exact Nat.ne_of_gt (blk_lt (g := gb309) (o := .cells #[.string t304, .slice Ao39 t305.length co39] 51 (0, 0)) (by (with_reducible repeat (first | refine bn ?_ _ | refine bd ?_ | refine ba ?_ _)); exact BK309.out)) : gb337 ≠ gb309)); have n22_ := aM ((by rw [hg]; exact Nat.ne_of_lt (blk_lt (g := gb320) (o := .cells #[.int .i64 t310, .string t311, .slice Ao50 t312.length co50, .string t315, .slice Ao51 t316.length co51] 64 (0, 0)) (by (with_reducible repeat (first | refine bn ?_ _ | refine bd ?_ | refine ba ?_ _)); exact BK320.out)) : gb320 ≠ gb337)); have n23_ := aM ((by rw [hg]; exact Nat.ne_of_gt (blk_lt (g := gb320) (o := .cells #[.int .i64 t310, .string t311, .slice Ao50 t312.length co50, .string t315, .slice Ao51 t316.length co51] 64 (0, 0)) (by (with_reducible repeat (first | refine bn ?_ _ | refine bd ?_ | refine ba ?_ _)); exact BK320.out)) : gb337 ≠ gb320)); have n24_ := aM ((by rw [hg]; exact Nat.ne_of_lt (blk_lt (g := gb331) (o := .cells #[.int .i64 t321, .string t322, .slice Ao63 t323.length co63, .string t326, .slice Ao64 t327.length co64] 64 (0, 0)) (by (with_reducible repeat (first | refine bn ?_ _ | refine bd ?_ | refine ba ?_ _)); exact BK331.out)) : gb331 ≠ gb337)); have n25_ := aM ((by rw [hg]; exact Nat.ne_of_gt (blk_lt (g := gb331) (o := .cells #[.int .i64 t321, .string t322, .slice Ao63 t323.length co63, .string t326, .slice Ao64 t327.length co64] 64 (0, 0)) (by (with_reducible repeat (first | refine bn ?_ _ | refine bd ?_ | refine ba ?_ _)); exact BK331.out)) : gb337 ≠ gb331)); clear HO_309001; clear HO_310001; clear HO_321002; clear HO_321004; clear HO_332002; clear HO_332004; clear HO335; clear BK296; clear BK308; clear BK309; clear BK320; clear BK331; clear HB; have HO_309001 := n0_; have HO_310001 := n1_; have HO_321002 := n2_; have HO_321004 := n3_; have HO_332002 := n4_; have HO_332004 := n5_; have HO335 := n6_; have BK296 := n7_; have BK308 := n8_; have BK309 := n9_; have BK320 := n10_; have BK331 := n11_; have HB := n12_; have BK337 := n13_; have GW337 := n14_; have GE337 := n15_; have NB296_337 := n16_; have NB337_296 := n17_; have NB308_337 := n18_; have NB337_308 := n19_; have NB309_337 := n20_; have NB337_309 := n21_; have NB320_337 := n22_; have NB337_320 := n23_; have NB331_337 := n24_; have NB337_331 := n25_; clear n0_ n1_ n2_ n3_ n4_ n5_ n6_ n7_ n8_ n9_ n10_ n11_ n12_ n13_ n14_ n15_ n16_ n17_ n18_ n19_ n20_ n21_ n22_ n23_ n24_ n25_; clear hb hbox hg; have hnb85 := NB337_296.out; have hnc85 := NB296_337.out; have hnb86 := NB337_308.out; have hnc86 := NB308_337.out; have hnb87 := NB337_309.out; have hnc87 := NB309_337.out; have hnb88 := NB337_320.out; have hnc88 := NB320_337.out; have hnb89 := NB337_331.out; have hnc89 := NB331_337.out; have hcz90_0 : w84.cell? ⟨gb337, 0, none⟩ = some (.string (⟨#[]⟩ : ByteArray)) := (bC BK337.out 0).trans rfl; have hcz90_1 : w84.cell? ⟨gb337, 1, none⟩ = some (.slice none 0 0) := (bC BK337.out 1).trans rfl; have hfz90_0 := bF BK337.out 0; have hfz90_1 := bF BK337.out 1; obtain ⟨Ao91, co91, eo91⟩ := Kd.R_slice HO335.out; subst eo91; have hnb92 := NB308_309.out; have hnc92 := NB309_308.out; have hnb93 := NB308_331.out; have hnc93 := NB331_308.out; have hcz94_0 : w84.cell? ⟨gb308, 0, none⟩ = some (.string t300) := (bC BK308.out 0).trans rfl; have hcz94_1 : w84.cell? ⟨gb308, 1, none⟩ = some (.slice Ao36 t301.length co36) := (bC BK308.out 1).trans rfl; have hfz94_0 := bF BK308.out 0; have hfz94_1 := bF BK308.out 1; have hnb95 := NB331_309.out; have hnc95 := NB309_331.out; have hcz96_0 : w84.cell? ⟨gb331, 0, none⟩ = some (.int .i64 t321) := (bC BK331.out 0).trans rfl; have hcz96_1 : w84.cell? ⟨gb331, 1, none⟩ = some (.string t322) := (bC BK331.out 1).trans rfl; have hcz96_2 : w84.cell? ⟨gb331, 2, none⟩ = some (.slice Ao63 t323.length co63) := (bC BK331.out 2).trans rfl; have hcz96_3 : w84.cell? ⟨gb331, 3, none⟩ = some (.string t326) := (bC BK331.out 3).trans rfl; have hcz96_4 : w84.cell? ⟨gb331, 4, none⟩ = some (.slice Ao64 t327.length co64) := (bC BK331.out 4).trans rfl; have hfz96_0 := bF BK331.out 0; have hfz96_1 := bF BK331.out 1; have hfz96_2 := bF BK331.out 2; have hfz96_3 := bF BK331.out 3; have hfz96_4 := bF BK331.out 4) | ((with_reducible refine gate_callee (f := 65) rfl ?_); refine goesL_ (some 86) rfl rfl Try.func65 (by kernel_rfl) rfl #[.agg #[.string t300, .slice Ao36 t301.length co36], .agg #[.int .i64 t321, .string t322, .slice Ao63 t323.length co63, .string t326, .slice Ao64 t327.length co64]] rfl (by (try simp only [List.map_toArray, List.map_cons, List.map_nil]); first | done | rfl | (simp only [List.length_drop, List.length_take]; rfl)) ?_; (with_reducible refine (edit_Apply.calls kj27 t300 _ _ t301 t321 t322 _ _ t323 t326 _ _ t327 t338 t339 t342 _ ?side1 ?side2 ?side3 ?side4 ?side5 ?side6 A68.out).mono ?_); (case side1 => refine (Kd.V_reads' (e := 100) (base := w.heap.size) (ok := fun k_ => (((some k_ ≠ (.slice Ao50 t312.length co50 : Value).ownBlock ∧ (some k_ ≠ (.slice Ao51 t316.length co51 : Value).ownBlock ∧ (some k_ ≠ (.slice Ao63 t323.length co63 : Value).ownBlock ∧ (some k_ ≠ (.slice Ao64 t327.length co64 : Value).ownBlock ∧ (k_ ≠ gb296 ∧ (k_ ≠ gb308 ∧ (k_ ≠ gb309 ∧ (k_ ≠ gb320 ∧ k_ ≠ gb331)))))))) ∧ some k_ ≠ (.slice Ao91 t333.length co91 : Value).ownBlock) ∧ k_ ≠ gb337)) (n := t301.length) (c := co36) ?_).2.2; exact (by (with_reducible repeat (first | apply va | apply vn | apply vd)); exact (Kd.V_mono (Kd.V_far (p := ⟨gb337, 1, none⟩) (Kd.V_far (p := ⟨gb337, 0, none⟩) (Kd.V_mono HO_309001.out (fun k_ hk => (⟨hk, hk.2⟩ : _ ∧ k_ ≠ gb337))) (fun _ hk => hk.2) (.string t332)) (fun _ hk => hk.2) (.slice Ao91 t333.length co91)) (fun _ h_ => h_.1)))); (case side2 => exact (Kd.V_reads' HO_309001.out).2.1); (case side3 => refine (rR (e := 100) (base := w.heap.size) (ok := fun k_ => ((some k_ ≠ (.slice Ao50 t312.length co50 : Value).ownBlock ∧ (some k_ ≠ (.slice Ao51 t316.length co51 : Value).ownBlock ∧ some k_ ≠ (.slice Ao64 t327.length co64 : Value).ownBlock)) ∧ some k_ ≠ (.slice Ao91 t333.length co91 : Value).ownBlock)) (n := t323.length) (c := co63) ?_).2.2; exact (by (with_reducible repeat (first | apply ra | apply rn | apply rd_)); exact (rM (rF (p := ⟨gb337, 1, none⟩) (rF (p := ⟨gb337, 0, none⟩) (rT HO_332002.out BK337.out (by decide)) (fun _ hk => hk.2) (.string t332)) (fun _ hk => hk.2) (.slice Ao91 t333.length co91)) (fun _ h_ => h_.1)))); (case side4 => exact (rR HO_332002.out).2.1); (case side5 => refine (rR (e := 100) (base := w.heap.size) (ok := fun k_ => ((some k_ ≠ (.slice Ao50 t312.length co50 : Value).ownBlock ∧ (some k_ ≠ (.slice Ao51 t316.length co51 : Value).ownBlock ∧ some k_ ≠ (.slice Ao63 t323.length co63 : Value).ownBlock)) ∧ some k_ ≠ (.slice Ao91 t333.length co91 : Value).ownBlock)) (n := t327.length) (c := co64) ?_).2.2; exact (by (with_reducible repeat (first | apply ra | apply rn | apply rd_)); exact (rM (rF (p := ⟨gb337, 1, none⟩) (rF (p := ⟨gb337, 0, none⟩) (rT HO_332004.out BK337.out (by decide)) (fun _ hk => hk.2) (.string t332)) (fun _ hk => hk.2) (.slice Ao91 t333.length co91)) (fun _ h_ => h_.1)))); (case side6 => exact (rR HO_332004.out).2.1); rintro e w97 ⟨v340, rfl, ho0, hb⟩; refine ⟨_, rfl, ?_⟩; have n0_ := aM (Kd.V_elder' (by (with_reducible repeat (first | apply va | apply vn | apply vd)); exact (Kd.V_mono (Kd.V_far (p := ⟨gb337, 1, none⟩) (Kd.V_far (p := ⟨gb337, 0, none⟩) (Kd.V_mono HO_309001.out (fun k_ hk => (⟨hk, hk.2⟩ : _ ∧ k_ ≠ gb337))) (fun _ hk => hk.2) (.string t332)) (fun _ hk => hk.2) (.slice Ao91 t333.length co91)) (fun _ h_ => h_.1))) (Kd.R_base ho0) hb); have n1_ := aM (Kd.V_elder' (by (with_reducible repeat (first | apply va | apply vn | apply vd)); exact (Kd.V_mono (Kd.V_far (p := ⟨gb337, 1, none⟩) (Kd.V_far (p := ⟨gb337, 0, none⟩) (Kd.V_mono HO_310001.out (fun k_ hk => (⟨hk, hk.2⟩ : _ ∧ k_ ≠ gb337))) (fun _ hk => hk.2) (.string t332)) (fun _ hk => hk.2) (.slice Ao91 t333.length co91)) (fun _ h_ => h_.1))) (Kd.R_base ho0) hb); have n2_ := aM (rE (by (with_reducible repeat (first | apply ra | apply rn | apply rd_)); exact (rM (rF (p := ⟨gb337, 1, none⟩) (rF (p := ⟨gb337, 0, none⟩) (rT HO_321002.out BK337.out (by decide)) (fun _ hk => hk.2) (.string t332)) (fun _ hk => hk.2) (.slice Ao91 t333.length co91)) (fun _ h_ => h_.1))) (Kd.R_base ho0) hb); have n3_ := aM (rE (by (with_reducible repeat (first | apply ra | apply rn | apply rd_)); exact (rM (rF (p := ⟨gb337, 1, none⟩) (rF (p := ⟨gb337, 0, none⟩) (rT HO_321004.out BK337.out (by decide)) (fun _ hk => hk.2) (.string t332)) (fun _ hk => hk.2) (.slice Ao91 t333.length co91)) (fun _ h_ => h_.1))) (Kd.R_base ho0) hb); have n4_ := aM (rE (by (with_reducible repeat (first | apply ra | apply rn | apply rd_)); exact (rM (rF (p := ⟨gb337, 1, none⟩) (rF (p := ⟨gb337, 0, none⟩) (rT HO_332002.out BK337.out (by decide)) (fun _ hk => hk.2) (.string t332)) (fun _ hk => hk.2) (.slice Ao91 t333.length co91)) (fun _ h_ => h_.1))) (Kd.R_base ho0) hb); have n5_ := aM (rE (by (with_reducible repeat (first | apply ra | apply rn | apply rd_)); exact (rM (rF (p := ⟨gb337, 1, none⟩) (rF (p := ⟨gb337, 0, none⟩) (rT HO_332004.out BK337.out (by decide)) (fun _ hk => hk.2) (.string t332)) (fun _ hk => hk.2) (.slice Ao91 t333.length co91)) (fun _ h_ => h_.1))) (Kd.R_base ho0) hb); have n6_ := aM (rE (by (with_reducible repeat (first | apply ra | apply rn | apply rd_)); exact (rM (rF (p := ⟨gb337, 1, none⟩) (rF (p := ⟨gb337, 0, none⟩) (rT HO335.out BK337.out (by decide)) (fun _ hk => hk.2) (.string t332)) (fun _ hk => hk.2) (.slice Ao91 t333.length co91)) (fun _ h_ => h_.1))) (Kd.R_base ho0) hb); have n7_ := aM (rL (Kd.R_new' (Kd.R_new' (Kd.R_new' (Kd.R_new' (Kd.R_new' ho0 (Kd.R_lt (by (with_reducible repeat (first | apply ra | apply rn | apply rd_)); exact (rM (rF (p := ⟨gb337, 1, none⟩) (rF (p := ⟨gb337, 0, none⟩) (rT HO_321002.out BK337.out (by decide)) (fun _ hk => hk.2) (.string t332)) (fun _ hk => hk.2) (.slice Ao91 t333.length co91)) (fun _ h_ => h_.1))))) (Kd.R_lt (by (with_reducible repeat (first | apply ra | apply rn | apply rd_)); exact (rM (rF (p := ⟨gb337, 1, none⟩) (rF (p := ⟨gb337, 0, none⟩) (rT HO_321004.out BK337.out (by decide)) (fun _ hk => hk.2) (.string t332)) (fun _ hk => hk.2) (.slice Ao91 t333.length co91)) (fun _ h_ => h_.1))))) (Kd.R_lt (by (with_reducible repeat (first | apply ra | apply rn | apply rd_)); exact (rM (rF (p := ⟨gb337, 1, none⟩) (rF (p := ⟨gb337, 0, none⟩) (rT HO_332002.out BK337.out (by decide)) (fun _ hk => hk.2) (.string t332)) (fun _ hk => hk.2) (.slice Ao91 t333.length co91)) (fun _ h_ => h_.1))))) (Kd.R_lt (by (with_reducible repeat (first | apply ra | apply rn | apply rd_)); exact (rM (rF (p := ⟨gb337, 1, none⟩) (rF (p := ⟨gb337, 0, none⟩) (rT HO_332004.out BK337.out (by decide)) (fun _ hk => hk.2) (.string t332)) (fun _ hk => hk.2) (.slice Ao91 t333.length co91)) (fun _ h_ => h_.1))))) (Kd.R_lt (by (with_reducible repeat (first | apply ra | apply rn | apply rd_)); exact (rM (rF (p := ⟨gb337, 1, none⟩) (rF (p := ⟨gb337, 0, none⟩) (rT HO335.out BK337.out (by decide)) (fun _ hk => hk.2) (.string t332)) (fun _ hk => hk.2) (.slice Ao91 t333.length co91)) (fun _ h_ => h_.1))))) (bZ (by repeat (first | (with_reducible first | exact HB.out | apply ea | apply en | apply ed | refine bs ?_ GE296.out | refine bs ?_ GE308.out | refine bs ?_ GE309.out | refine bs ?_ GE320.out | refine bs ?_ GE331.out | refine bs ?_ GE337.out) | exact HB.out)))); have n8_ := aM (bB (g := gb296) (o := .cells #[.string a0_0, .slice A0_1 l0_1.length c0_1, .string a0_2, .slice A0_3 l0_3.length c0_3, .string a0_4, .int .i64 a0_5, .int .i64 a0_6, .int .u64 a0_7] 77 (0, 0)) (by (with_reducible repeat (first | refine bn ?_ _ | refine bd ?_ | refine ba ?_ _)); refine bR ?_ NB296_337.out _; (with_reducible repeat (first | refine bn ?_ _ | refine bd ?_ | refine ba ?_ _)); refine bR ?_ NB296_337.out _; (with_reducible repeat (first | refine bn ?_ _ | refine bd ?_ | refine ba ?_ _)); exact BK296.out) hb); have n9_ := aM (bB (g := gb308) (o := .cells #[.string t300, .slice Ao36 t301.length co36] 51 (0, 0)) (by (with_reducible repeat (first | refine bn ?_ _ | refine bd ?_ | refine ba ?_ _)); refine bR ?_ NB308_337.out _; (with_reducible repeat (first | refine bn ?_ _ | refine bd ?_ | refine ba ?_ _)); refine bR ?_ NB308_337.out _; (with_reducible repeat (first | refine bn ?_ _ | refine bd ?_ | refine ba ?_ _)); exact BK308.out) hb); have n10_ := aM (bB (g := gb309) (o := .cells #[.string t304, .slice Ao39 t305.length co39] 51 (0, 0)) (by (with_reducible repeat (first | refine bn ?_ _ | refine bd ?_ | refine ba ?_ _)); refine bR ?_ NB309_337.out _; (with_reducible repeat (first | refine bn ?_ _ | refine bd ?_ | refine ba ?_ _)); refine bR ?_ NB309_337.out _; (with_reducible repeat (first | refine bn ?_ _ | refine bd ?_ | refine ba ?_ _)); exact BK309.out) hb); have n11_ := aM (bB (g := gb320) (o := .cells #[.int .i64 t310, .string t311, .slice Ao50 t312.length co50, .string t315, .slice Ao51 t316.length co51] 64 (0, 0)) (by (with_reducible repeat (first | refine bn ?_ _ | refine bd ?_ | refine ba ?_ _)); refine bR ?_ NB320_337.out _; (with_reducible repeat (first | refine bn ?_ _ | refine bd ?_ | refine ba ?_ _)); refine bR ?_ NB320_337.out _; (with_reducible repeat (first | refine bn ?_ _ | refine bd ?_ | refine ba ?_ _)); exact BK320.out) hb); have n12_ := aM (bB (g := gb331) (o := .cells #[.int .i64 t321, .string t322, .slice Ao63 t323.length co63, .string t326, .slice Ao64 t327.length co64] 64 (0, 0)) (by (with_reducible repeat (first | refine bn ?_ _ | refine bd ?_ | refine ba ?_ _)); refine bR ?_ NB331_337.out _; (with_reducible repeat (first | refine bn ?_ _ | refine bd ?_ | refine ba ?_ _)); refine bR ?_ NB331_337.out _; (with_reducible repeat (first | refine bn ?_ _ | refine bd ?_ | refine ba ?_ _)); exact BK331.out) hb); have n13_ := aM (bB (g := gb337) (o := .cells #[.string t332, .slice Ao91 t333.length co91] 51 (0, 0)) (by (with_reducible repeat (first | refine bn ?_ _ | refine bd ?_ | refine ba ?_ _)); refine bU (cs := #[.string t332, .slice none 0 0]) ?_ 1 _ rfl; (with_reducible repeat (first | refine bn ?_ _ | refine bd ?_ | refine ba ?_ _)); refine bU (cs := #[.string (⟨#[]⟩ : ByteArray), .slice none 0 0]) ?_ 0 _ rfl; (with_reducible repeat (first | refine bn ?_ _ | refine bd ?_ | refine ba ?_ _)); exact BK337.out) hb); have n14_ := aM (bP (by repeat (first | (with_reducible first | exact HB.out | apply ea | apply en | apply ed | refine bs ?_ GE296.out | refine bs ?_ GE308.out | refine bs ?_ GE309.out | refine bs ?_ GE320.out | refine bs ?_ GE331.out | refine bs ?_ GE337.out) | exact HB.out)) hb); clear HO_309001; clear HO_310001; clear HO_321002; clear HO_321004; clear HO_332002; clear HO_332004; clear HO335; clear BK296; clear BK308; clear BK309; clear BK320; clear BK331; clear BK337; clear HB; have HO_309001 := n0_; have HO_310001 := n1_; have HO_321002 := n2_; have HO_321004 := n3_; have HO_332002 := n4_; have HO_332004 := n5_; have HO335 := n6_; have HO341 := n7_; have BK296 := n8_; have BK308 := n9_; have BK309 := n10_; have BK320 := n11_; have BK331 := n12_; have BK337 := n13_; have HB := n14_; clear n0_ n1_ n2_ n3_ n4_ n5_ n6_ n7_ n8_ n9_ n10_ n11_ n12_ n13_ n14_; (try clear hb); (try clear hb2); (try clear hk); (try clear hi); (try clear ho0)) | ((with_reducible refine gate_dst (N := 13) rfl ?_); (try (refine gate_guard (by rfl) ?_; dsimp only)); refine box_event ?hg (N := 13) ?hd (cs := #[.string (⟨#[]⟩ : ByteArray), .slice none 0 0]) (t := 51) ?hr ?_; (case hd => rfl); (case hg => rfl); (case hr => first | (go_simp; done) | (go_simp; rfl)); intro gb343 hg w98 hbox hb; have n0_ := aM (Kd.V_below (Kd.V_elderB (by (with_reducible repeat (first | apply va | apply vn | apply vd)); exact HO_309001.out) gb343 (Nat.le_of_eq hg.symm)) hb); have n1_ := aM (Kd.V_below (Kd.V_elderB (by (with_reducible repeat (first | apply va | apply vn | apply vd)); exact HO_310001.out) gb343 (Nat.le_of_eq hg.symm)) hb); have n2_ := aM (Kd.R_below (by (with_reducible repeat (first | apply ra | apply rn | apply rd_)); exact HO_321002.out) hb); have n3_ := aM (Kd.R_below (by (with_reducible repeat (first | apply ra | apply rn | apply rd_)); exact HO_321004.out) hb); have n4_ := aM (Kd.R_below (by (with_reducible repeat (first | apply ra | apply rn | apply rd_)); exact HO_332002.out) hb); have n5_ := aM (Kd.R_below (by (with_reducible repeat (first | apply ra | apply rn | apply rd_)); exact HO_332004.out) hb); have n6_ := aM (Kd.R_below (by (with_reducible repeat (first | apply ra | apply rn | apply rd_)); exact HO335.out) hb); have n7_ := aM (Kd.R_below (by (with_reducible repeat (first | apply ra | apply rn | apply rd_)); exact HO341.out) hb); have n8_ := aM (bB (g := gb296) (o := .cells #[.string a0_0, .slice A0_1 l0_1.length c0_1, .string a0_2, .slice A0_3 l0_3.length c0_3, .string a0_4, .int .i64 a0_5, .int .i64 a0_6, .int .u64 a0_7] 77 (0, 0)) (by (with_reducible repeat (first | refine bn ?_ _ | refine bd ?_ | refine ba ?_ _)); exact BK296.out) hb); have n9_ := aM (bB (g := gb308) (o := .cells #[.string t300, .slice Ao36 t301.length co36] 51 (0, 0)) (by (with_reducible repeat (first | refine bn ?_ _ | refine bd ?_ | refine ba ?_ _)); exact BK308.out) hb); have n10_ := aM (bB (g := gb309) (o := .cells #[.string t304, .slice Ao39 t305.length co39] 51 (0, 0)) (by (with_reducible repeat (first | refine bn ?_ _ | refine bd ?_ | refine ba ?_ _)); exact BK309.out) hb); have n11_ := aM (bB (g := gb320) (o := .cells #[.int .i64 t310, .string t311, .slice Ao50 t312.length co50, .string t315, .slice Ao51 t316.length co51] 64 (0, 0)) (by (with_reducible repeat (first | refine bn ?_ _ | refine bd ?_ | refine ba ?_ _)); exact BK320.out) hb); have n12_ := aM (bB (g := gb331) (o := .cells #[.int .i64 t321, .string t322, .slice Ao63 t323.length co63, .string t326, .slice Ao64 t327.length co64] 64 (0, 0)) (by (with_reducible repeat (first | refine bn ?_ _ | refine bd ?_ | refine ba ?_ _)); exact BK331.out) hb); have n13_ := aM (bB (g := gb337) (o := .cells #[.string t332, .slice Ao91 t333.length co91] 51 (0, 0)) (by (with_reducible repeat (first | refine bn ?_ _ | refine bd ?_ | refine ba ?_ _)); exact BK337.out) hb); have n14_ := aM (bP (by repeat (first | (with_reducible first | exact HB.out | apply ea | apply en | apply ed | refine bs ?_ GE296.out | refine bs ?_ GE308.out | refine bs ?_ GE309.out | refine bs ?_ GE320.out | refine bs ?_ GE331.out | refine bs ?_ GE337.out) | exact HB.out)) hb); have n15_ := aM (hbox); have n16_ := aM ((by rw [hg]; exact (bZ (by repeat (first | (with_reducible first | exact HB.out | apply ea | apply en | apply ed | refine bs ?_ GE296.out | refine bs ?_ GE308.out | refine bs ?_ GE309.out | refine bs ?_ GE320.out | refine bs ?_ GE331.out | refine bs ?_ GE337.out) | exact HB.out))) : w.heap.size ≤ gb343)); have n17_ := aM ((by rw [hg]; exact (bZ (by repeat (first | (with_reducible first | exact HB.out | apply ea | apply en | apply ed | refine bs ?_ GE296.out | refine bs ?_ GE308.out | refine bs ?_ GE309.out | refine bs ?_ GE320.out | refine bs ?_ GE331.out | refine bs ?_ GE337.out) | exact HB.out))) : w.heap.size ≤ gb343)); have n18_ := aM ((by rw [hg]; exact Nat.ne_of_lt (blk_lt (g := gb296) (o := .cells #[.string a0_0, .slice A0_1 l0_1.length c0_1, .string a0_2, .slice A0_3 l0_3.length c0_3, .string a0_4, .int .i64 a0_5, .int .i64 a0_6, .int .u64 a0_7] 77 (0, 0)) (by (with_reducible repeat (first | refine bn ?_ _ | refine bd ?_ | refine ba ?_ _)); exact BK296.out)) : gb296 ≠ gb343)); have n19_ := aM ((by rw [hg]; exact Nat.ne_of_gt (blk_lt (g := gb296) (o := .cells #[.string a0_0, .slice A0_1 l0_1.length c0_1, .string a0_2, .slice A0_3 l0_3.length c0_3, .string a0_4, .int .i64 a0_5, .int .i64 a0_6, .int .u64 a0_7] 77 (0, 0)) (by (with_reducible repeat (first | refine bn ?_ _ | refine bd ?_ | refine ba ?_ _)); exact BK296.out)) : gb343 ≠ gb296)); have n20_ := aM ((by rw [hg]; exact Nat.ne_of_lt (blk_lt (g := gb308) (o := .cells #[.string t300, .slice Ao36 t301.length co36] 51 (0, 0)) (by (with_reducible repeat (first | refine bn ?_ _ | refine bd ?_ | refine ba ?_ _)); exact BK308.out)) : gb308 ≠ gb343)); have n21_ := aM ((by rw [hg]; exact Nat.ne_of_gt (blk_lt (g := gb308) (o := .cells #[.string t300, .slice Ao36 t301.length co36] 51 (0, 0)) (by (with_reducible repeat (first | refine bn ?_ _ | refine bd ?_ | refine ba ?_ _)); exact BK308.out)) : gb343 ≠ gb308)); have n22_ := aM ((by rw [hg]; exact Nat.ne_of_lt (blk_lt (g := gb309) (o := .cells #[.string t304, .slice Ao39 t305.length co39] 51 (0, 0)) (by (with_reducible repeat (first | refine bn ?_ _ | refine bd ?_ | refine ba ?_ _)); exact BK309.out)) : gb309 ≠ gb343)); have n23_ := aM ((by rw [hg]; exact Nat.ne_of_gt (blk_lt (g := gb309) (o := .cells #[.string t304, .slice Ao39 t305.length co39] 51 (0, 0)) (by (with_reducible repeat (first | refine bn ?_ _ | refine bd ?_ | refine ba ?_ _)); exact BK309.out)) : gb343 ≠ gb309)); have n24_ := aM ((by rw [hg]; exact Nat.ne_of_lt (blk_lt (g := gb320) (o := .cells #[.int .i64 t310, .string t311, .slice Ao50 t312.length co50, .string t315, .slice Ao51 t316.length co51] 64 (0, 0)) (by (with_reducible repeat (first | refine bn ?_ _ | refine bd ?_ | refine ba ?_ _)); exact BK320.out)) : gb320 ≠ gb343)); have n25_ := aM ((by rw [hg]; exact Nat.ne_of_gt (blk_lt (g := gb320) (o := .cells #[.int .i64 t310, .string t311, .slice Ao50 t312.length co50, .string t315, .slice Ao51 t316.length co51] 64 (0, 0)) (by (with_reducible repeat (first | refine bn ?_ _ | refine bd ?_ | refine ba ?_ _)); exact BK320.out)) : gb343 ≠ gb320)); have n26_ := aM ((by rw [hg]; exact Nat.ne_of_lt (blk_lt (g := gb331) (o := .cells #[.int .i64 t321, .string t322, .slice Ao63 t323.length co63, .string t326, .slice Ao64 t327.length co64] 64 (0, 0)) (by (with_reducible repeat (first | refine bn ?_ _ | refine bd ?_ | refine ba ?_ _)); exact BK331.out)) : gb331 ≠ gb343)); have n27_ := aM ((by rw [hg]; exact Nat.ne_of_gt (blk_lt (g := gb331) (o := .cells #[.int .i64 t321, .string t322, .slice Ao63 t323.length co63, .string t326, .slice Ao64 t327.length co64] 64 (0, 0)) (by (with_reducible repeat (first | refine bn ?_ _ | refine bd ?_ | refine ba ?_ _)); exact BK331.out)) : gb343 ≠ gb331)); have n28_ := aM ((by rw [hg]; exact Nat.ne_of_lt (blk_lt (g := gb337) (o := .cells #[.string t332, .slice Ao91 t333.length co91] 51 (0, 0)) (by (with_reducible repeat (first | refine bn ?_ _ | refine bd ?_ | refine ba ?_ _)); exact BK337.out)) : gb337 ≠ gb343)); have n29_ := aM ((by rw [hg]; exact Nat.ne_of_gt (blk_lt (g := gb337) (o := .cells #[.string t332, .slice Ao91 t333.length co91] 51 (0, 0)) (by (with_reducible repeat (first | refine bn ?_ _ | refine bd ?_ | refine ba ?_ _)); exact BK337.out)) : gb343 ≠ gb337)); clear HO_309001; clear HO_310001; clear HO_321002; clear HO_321004; clear HO_332002; clear HO_332004; clear HO335; clear HO341; clear BK296; clear BK308; clear BK309; clear BK320; clear BK331; clear BK337; clear HB; have HO_309001 := n0_; have HO_310001 := n1_; have HO_321002 := n2_; have HO_321004 := n3_; have HO_332002 := n4_; have HO_332004 := n5_; have HO335 := n6_; have HO341 := n7_; have BK296 := n8_; have BK308 := n9_; have BK309 := n10_; have BK320 := n11_; have BK331 := n12_; have BK337 := n13_; have HB := n14_; have BK343 := n15_; have GW343 := n16_; have GE343 := n17_; have NB296_343 := n18_; have NB343_296 := n19_; have NB308_343 := n20_; have NB343_308 := n21_; have NB309_343 := n22_; have NB343_309 := n23_; have NB320_343 := n24_; have NB343_320 := n25_; have NB331_343 := n26_; have NB343_331 := n27_; have NB337_343 := n28_; have NB343_337 := n29_; clear n0_ n1_ n2_ n3_ n4_ n5_ n6_ n7_ n8_ n9_ n10_ n11_ n12_ n13_ n14_ n15_ n16_ n17_ n18_ n19_ n20_ n21_ n22_ n23_ n24_ n25_ n26_ n27_ n28_ n29_; clear hb hbox hg; have hnb99 := NB343_296.out; have hnc99 := NB296_343.out; have hnb100 := NB343_308.out; have hnc100 := NB308_343.out; have hnb101 := NB343_309.out; have hnc101 := NB309_343.out; have hnb102 := NB343_320.out; have hnc102 := NB320_343.out; have hnb103 := NB343_331.out; have hnc103 := NB331_343.out; have hnb104 := NB343_337.out; have hnc104 := NB337_343.out; have hcz105_0 : w98.cell? ⟨gb343, 0, none⟩ = some (.string (⟨#[]⟩ : ByteArray)) := (bC BK343.out 0).trans rfl; have hcz105_1 : w98.cell? ⟨gb343, 1, none⟩ = some (.slice none 0 0) := (bC BK343.out 1).trans rfl; have hfz105_0 := bF BK343.out 0; have hfz105_1 := bF BK343.out 1; obtain ⟨Ao106, co106, eo106⟩ := Kd.R_slice HO341.out; subst eo106; have hcz107_0 : w98.cell? ⟨gb337, 0, none⟩ = some (.string t332) := (bC BK337.out 0).trans rfl; have hcz107_1 : w98.cell? ⟨gb337, 1, none⟩ = some (.slice Ao91 t333.length co91) := (bC BK337.out 1).trans rfl; have hfz107_0 := bF BK337.out 0; have hfz107_1 := bF BK337.out 1))
        by_cases c69 : t336 = 0
        · rw [if_pos c69] at H
          have c69b0 : (t336 == 0) = true := beq_iff_eq.mpr c69
          have c69b1 : (t336 != 0) = false := bne_eq_false_iff_eq.mpr c69
          clear c69
          by_cases c70 : t342 = 0
          · rw [if_pos c70] at H
            have c70b0 : (t342 == 0) = true := beq_iff_eq.mpr c70
            have c70b1 : (t342 != 0) = false := bne_eq_false_iff_eq.mpr c70
            clear c70
            replace H := Option.bind_eq_some_iff.mp H
            obtain ⟨t344, A710, H⟩ := H
            replace H : (if t344 = true then ((bureauref04_Low.f kj27 t311 t312 t322 t323 a1).bind fun t345 => (some t345)) else (some false)) = some r := H
            have A71 := aM A710
            clear A710
            by_cases c72 : t344 = true
            · subst c72
              have H1 : ((bureauref04_Low.f kj27 t311 t312 t322 t323 a1).bind fun t345 => (some t345)) = some r := by rw [if_pos rfl] at H; exact H
              clear H
              have H := H1
              clear H1
              replace H := Option.bind_eq_some_iff.mp H
              obtain ⟨t345, A730, H⟩ := H
              replace H : (some t345) = some r := H
              have A73 := aM A730
              clear A730
              obtain rfl := Option.some.inj H
              go_wp2_with (first | (go_at_call 67; (with_reducible refine (bureauref04_Low.calls kj27 t332 _ _ t333 t338 _ _ t339 a1 true _ ?side1 ?side2 ?side3 ?side4 A71.out).mono ?_); (case side1 => refine (rR (e := 100) (base := w.heap.size) (ok := fun k_ => (((((True ∧ some k_ ≠ (.slice Ao50 t312.length co50 : Value).ownBlock) ∧ some k_ ≠ (.slice Ao51 t316.length co51 : Value).ownBlock) ∧ some k_ ≠ (.slice Ao63 t323.length co63 : Value).ownBlock) ∧ some k_ ≠ (.slice Ao64 t327.length co64 : Value).ownBlock) ∧ some k_ ≠ (.slice Ao106 t339.length co106 : Value).ownBlock)) (n := t333.length) (c := co91) ?_).2.2; exact (by (with_reducible repeat (first | apply ra | apply rn | apply rd_)); exact (rM (rF (p := ⟨gb343, 1, none⟩) (rF (p := ⟨gb343, 0, none⟩) (rT HO335.out BK343.out (by decide)) (fun _ hk => hk.2) (.string t338)) (fun _ hk => hk.2) (.slice Ao106 t339.length co106)) (fun _ h_ => h_.1)))); (case side2 => exact (rR HO335.out).2.1); (case side3 => refine (rR (e := 100) (base := w.heap.size) (ok := fun k_ => (((((True ∧ some k_ ≠ (.slice Ao50 t312.length co50 : Value).ownBlock) ∧ some k_ ≠ (.slice Ao51 t316.length co51 : Value).ownBlock) ∧ some k_ ≠ (.slice Ao63 t323.length co63 : Value).ownBlock) ∧ some k_ ≠ (.slice Ao64 t327.length co64 : Value).ownBlock) ∧ some k_ ≠ (.slice Ao91 t333.length co91 : Value).ownBlock)) (n := t339.length) (c := co106) ?_).2.2; exact (by (with_reducible repeat (first | apply ra | apply rn | apply rd_)); exact (rM (rF (p := ⟨gb343, 1, none⟩) (rF (p := ⟨gb343, 0, none⟩) (rT HO341.out BK343.out (by decide)) (fun _ hk => hk.2) (.string t338)) (fun _ hk => hk.2) (.slice Ao106 t339.length co106)) (fun _ h_ => h_.1)))); (case side4 => exact (rR HO341.out).2.1); rintro e w108 ⟨rfl, hb⟩; have n0_ := aM (Kd.V_below (by (with_reducible repeat (first | apply va | apply vn | apply vd)); exact (Kd.V_mono (Kd.V_far (p := ⟨gb343, 1, none⟩) (Kd.V_far (p := ⟨gb343, 0, none⟩) (Kd.V_mono HO_309001.out (fun k_ hk => (⟨hk, hk.2⟩ : _ ∧ k_ ≠ gb343))) (fun _ hk => hk.2) (.string t338)) (fun _ hk => hk.2) (.slice Ao106 t339.length co106)) (fun _ h_ => h_.1))) hb); have n1_ := aM (Kd.V_below (by (with_reducible repeat (first | apply va | apply vn | apply vd)); exact (Kd.V_mono (Kd.V_far (p := ⟨gb343, 1, none⟩) (Kd.V_far (p := ⟨gb343, 0, none⟩) (Kd.V_mono HO_310001.out (fun k_ hk => (⟨hk, hk.2⟩ : _ ∧ k_ ≠ gb343))) (fun _ hk => hk.2) (.string t338)) (fun _ hk => hk.2) (.slice Ao106 t339.length co106)) (fun _ h_ => h_.1))) hb); have n2_ := aM (Kd.R_below (by (with_reducible repeat (first | apply ra | apply rn | apply rd_)); exact (rM (rF (p := ⟨gb343, 1, none⟩) (rF (p := ⟨gb343, 0, none⟩) (rT HO_321002.out BK343.out (by decide)) (fun _ hk => hk.2) (.string t338)) (fun _ hk => hk.2) (.slice Ao106 t339.length co106)) (fun _ h_ => h_.1))) hb); have n3_ := aM (Kd.R_below (by (with_reducible repeat (first | apply ra | apply rn | apply rd_)); exact (rM (rF (p := ⟨gb343, 1, none⟩) (rF (p := ⟨gb343, 0, none⟩) (rT HO_321004.out BK343.out (by decide)) (fun _ hk => hk.2) (.string t338)) (fun _ hk => hk.2) (.slice Ao106 t339.length co106)) (fun _ h_ => h_.1))) hb); have n4_ := aM (Kd.R_below (by (with_reducible repeat (first | apply ra | apply rn | apply rd_)); exact (rM (rF (p := ⟨gb343, 1, none⟩) (rF (p := ⟨gb343, 0, none⟩) (rT HO_332002.out BK343.out (by decide)) (fun _ hk => hk.2) (.string t338)) (fun _ hk => hk.2) (.slice Ao106 t339.length co106)) (fun _ h_ => h_.1))) hb); have n5_ := aM (Kd.R_below (by (with_reducible repeat (first | apply ra | apply rn | apply rd_)); exact (rM (rF (p := ⟨gb343, 1, none⟩) (rF (p := ⟨gb343, 0, none⟩) (rT HO_332004.out BK343.out (by decide)) (fun _ hk => hk.2) (.string t338)) (fun _ hk => hk.2) (.slice Ao106 t339.length co106)) (fun _ h_ => h_.1))) hb); have n6_ := aM (Kd.R_below (by (with_reducible repeat (first | apply ra | apply rn | apply rd_)); exact (rM (rF (p := ⟨gb343, 1, none⟩) (rF (p := ⟨gb343, 0, none⟩) (rT HO335.out BK343.out (by decide)) (fun _ hk => hk.2) (.string t338)) (fun _ hk => hk.2) (.slice Ao106 t339.length co106)) (fun _ h_ => h_.1))) hb); have n7_ := aM (Kd.R_below (by (with_reducible repeat (first | apply ra | apply rn | apply rd_)); exact (rM (rF (p := ⟨gb343, 1, none⟩) (rF (p := ⟨gb343, 0, none⟩) (rT HO341.out BK343.out (by decide)) (fun _ hk => hk.2) (.string t338)) (fun _ hk => hk.2) (.slice Ao106 t339.length co106)) (fun _ h_ => h_.1))) hb); have n8_ := aM (bB (g := gb296) (o := .cells #[.string a0_0, .slice A0_1 l0_1.length c0_1, .string a0_2, .slice A0_3 l0_3.length c0_3, .string a0_4, .int .i64 a0_5, .int .i64 a0_6, .int .u64 a0_7] 77 (0, 0)) (by (with_reducible repeat (first | refine bn ?_ _ | refine bd ?_ | refine ba ?_ _)); refine bR ?_ NB296_343.out _; (with_reducible repeat (first | refine bn ?_ _ | refine bd ?_ | refine ba ?_ _)); refine bR ?_ NB296_343.out _; (with_reducible repeat (first | refine bn ?_ _ | refine bd ?_ | refine ba ?_ _)); exact BK296.out) hb); have n9_ := aM (bB (g := gb308) (o := .cells #[.string t300, .slice Ao36 t301.length co36] 51 (0, 0)) (by (with_reducible repeat (first | refine bn ?_ _ | refine bd ?_ | refine ba ?_ _)); refine bR ?_ NB308_343.out _; (with_reducible repeat (first | refine bn ?_ _ | refine bd ?_ | refine ba ?_ _)); refine bR ?_ NB308_343.out _; (with_reducible repeat (first | refine bn ?_ _ | refine bd ?_ | refine ba ?_ _)); exact BK308.out) hb); have n10_ := aM (bB (g := gb309) (o := .cells #[.string t304, .slice Ao39 t305.length co39] 51 (0, 0)) (by (with_reducible repeat (first | refine bn ?_ _ | refine bd ?_ | refine ba ?_ _)); refine bR ?_ NB309_343.out _; (with_reducible repeat (first | refine bn ?_ _ | refine bd ?_ | refine ba ?_ _)); refine bR ?_ NB309_343.out _; (with_reducible repeat (first | refine bn ?_ _ | refine bd ?_ | refine ba ?_ _)); exact BK309.out) hb); have n11_ := aM (bB (g := gb320) (o := .cells #[.int .i64 t310, .string t311, .slice Ao50 t312.length co50, .string t315, .slice Ao51 t316.length co51] 64 (0, 0)) (by (with_reducible repeat (first | refine bn ?_ _ | refine bd ?_ | refine ba ?_ _)); refine bR ?_ NB320_343.out _; (with_reducible repeat (first | refine bn ?_ _ | refine bd ?_ | refine ba ?_ _)); refine bR ?_ NB320_343.out _; (with_reducible repeat (first | refine bn ?_ _ | refine bd ?_ | refine ba ?_ _)); exact BK320.out) hb); have n12_ := aM (bB (g := gb331) (o := .cells #[.int .i64 t321, .string t322, .slice Ao63 t323.length co63, .string t326, .slice Ao64 t327.length co64] 64 (0, 0)) (by (with_reducible repeat (first | refine bn ?_ _ | refine bd ?_ | refine ba ?_ _)); refine bR ?_ NB331_343.out _; (with_reducible repeat (first | refine bn ?_ _ | refine bd ?_ | refine ba ?_ _)); refine bR ?_ NB331_343.out _; (with_reducible repeat (first | refine bn ?_ _ | refine bd ?_ | refine ba ?_ _)); exact BK331.out) hb); have n13_ := aM (bB (g := gb337) (o := .cells #[.string t332, .slice Ao91 t333.length co91] 51 (0, 0)) (by (with_reducible repeat (first | refine bn ?_ _ | refine bd ?_ | refine ba ?_ _)); refine bR ?_ NB337_343.out _; (with_reducible repeat (first | refine bn ?_ _ | refine bd ?_ | refine ba ?_ _)); refine bR ?_ NB337_343.out _; (with_reducible repeat (first | refine bn ?_ _ | refine bd ?_ | refine ba ?_ _)); exact BK337.out) hb); have n14_ := aM (bB (g := gb343) (o := .cells #[.string t338, .slice Ao106 t339.length co106] 51 (0, 0)) (by (with_reducible repeat (first | refine bn ?_ _ | refine bd ?_ | refine ba ?_ _)); refine bU (cs := #[.string t338, .slice none 0 0]) ?_ 1 _ rfl; (with_reducible repeat (first | refine bn ?_ _ | refine bd ?_ | refine ba ?_ _)); refine bU (cs := #[.string (⟨#[]⟩ : ByteArray), .slice none 0 0]) ?_ 0 _ rfl; (with_reducible repeat (first | refine bn ?_ _ | refine bd ?_ | refine ba ?_ _)); exact BK343.out) hb); have n15_ := aM (bP (by repeat (first | (with_reducible first | exact HB.out | apply ea | apply en | apply ed | refine bs ?_ GE296.out | refine bs ?_ GE308.out | refine bs ?_ GE309.out | refine bs ?_ GE320.out | refine bs ?_ GE331.out | refine bs ?_ GE337.out | refine bs ?_ GE343.out) | exact HB.out)) hb); clear HO_309001; clear HO_310001; clear HO_321002; clear HO_321004; clear HO_332002; clear HO_332004; clear HO335; clear HO341; clear BK296; clear BK308; clear BK309; clear BK320; clear BK331; clear BK337; clear BK343; clear HB; have HO_309001 := n0_; have HO_310001 := n1_; have HO_321002 := n2_; have HO_321004 := n3_; have HO_332002 := n4_; have HO_332004 := n5_; have HO335 := n6_; have HO341 := n7_; have BK296 := n8_; have BK308 := n9_; have BK309 := n10_; have BK320 := n11_; have BK331 := n12_; have BK337 := n13_; have BK343 := n14_; have HB := n15_; clear n0_ n1_ n2_ n3_ n4_ n5_ n6_ n7_ n8_ n9_ n10_ n11_ n12_ n13_ n14_ n15_; (try clear hb); (try clear hb2); (try clear hk); (try clear hi); have hcz109_0 : w108.cell? ⟨gb320, 0, none⟩ = some (.int .i64 t310) := (bC BK320.out 0).trans rfl; have hcz109_1 : w108.cell? ⟨gb320, 1, none⟩ = some (.string t311) := (bC BK320.out 1).trans rfl; have hcz109_2 : w108.cell? ⟨gb320, 2, none⟩ = some (.slice Ao50 t312.length co50) := (bC BK320.out 2).trans rfl; have hcz109_3 : w108.cell? ⟨gb320, 3, none⟩ = some (.string t315) := (bC BK320.out 3).trans rfl; have hcz109_4 : w108.cell? ⟨gb320, 4, none⟩ = some (.slice Ao51 t316.length co51) := (bC BK320.out 4).trans rfl; have hfz109_0 := bF BK320.out 0; have hfz109_1 := bF BK320.out 1; have hfz109_2 := bF BK320.out 2; have hfz109_3 := bF BK320.out 3; have hfz109_4 := bF BK320.out 4; have hcz110_0 : w108.cell? ⟨gb331, 0, none⟩ = some (.int .i64 t321) := (bC BK331.out 0).trans rfl; have hcz110_1 : w108.cell? ⟨gb331, 1, none⟩ = some (.string t322) := (bC BK331.out 1).trans rfl; have hcz110_2 : w108.cell? ⟨gb331, 2, none⟩ = some (.slice Ao63 t323.length co63) := (bC BK331.out 2).trans rfl; have hcz110_3 : w108.cell? ⟨gb331, 3, none⟩ = some (.string t326) := (bC BK331.out 3).trans rfl; have hcz110_4 : w108.cell? ⟨gb331, 4, none⟩ = some (.slice Ao64 t327.length co64) := (bC BK331.out 4).trans rfl; have hfz110_0 := bF BK331.out 0; have hfz110_1 := bF BK331.out 1; have hfz110_2 := bF BK331.out 2; have hfz110_3 := bF BK331.out 3; have hfz110_4 := bF BK331.out 4) | (go_at_call 67; (with_reducible refine (bureauref04_Low.calls kj27 t311 _ _ t312 t322 _ _ t323 a1 t345 _ ?side1 ?side2 ?side3 ?side4 A73.out).mono ?_); (case side1 => repeat (first | exact (rR HO_321002.out).2.2 | (with_reducible refine Kd.C_alloc ?_ _) | (with_reducible refine Kd.C_drewN ?_ _) | (with_reducible refine Kd.C_drew ?_))); (case side2 => exact (rR HO_321002.out).2.1); (case side3 => repeat (first | exact (rR HO_332002.out).2.2 | (with_reducible refine Kd.C_alloc ?_ _) | (with_reducible refine Kd.C_drewN ?_ _) | (with_reducible refine Kd.C_drew ?_))); (case side4 => exact (rR HO_332002.out).2.1); rintro e w111 ⟨rfl, hb⟩; have n0_ := aM (Kd.V_below (by (with_reducible repeat (first | apply va | apply vn | apply vd)); exact HO_309001.out) hb); have n1_ := aM (Kd.V_below (by (with_reducible repeat (first | apply va | apply vn | apply vd)); exact HO_310001.out) hb); have n2_ := aM (Kd.R_below (by (with_reducible repeat (first | apply ra | apply rn | apply rd_)); exact HO_321002.out) hb); have n3_ := aM (Kd.R_below (by (with_reducible repeat (first | apply ra | apply rn | apply rd_)); exact HO_321004.out) hb); have n4_ := aM (Kd.R_below (by (with_reducible repeat (first | apply ra | apply rn | apply rd_)); exact HO_332002.out) hb); have n5_ := aM (Kd.R_below (by (with_reducible repeat (first | apply ra | apply rn | apply rd_)); exact HO_332004.out) hb); have n6_ := aM (Kd.R_below (by (with_reducible repeat (first | apply ra | apply rn | apply rd_)); exact HO335.out) hb); have n7_ := aM (Kd.R_below (by (with_reducible repeat (first | apply ra | apply rn | apply rd_)); exact HO341.out) hb); have n8_ := aM (bB (g := gb296) (o := .cells #[.string a0_0, .slice A0_1 l0_1.length c0_1, .string a0_2, .slice A0_3 l0_3.length c0_3, .string a0_4, .int .i64 a0_5, .int .i64 a0_6, .int .u64 a0_7] 77 (0, 0)) (by (with_reducible repeat (first | refine bn ?_ _ | refine bd ?_ | refine ba ?_ _)); exact BK296.out) hb); have n9_ := aM (bB (g := gb308) (o := .cells #[.string t300, .slice Ao36 t301.length co36] 51 (0, 0)) (by (with_reducible repeat (first | refine bn ?_ _ | refine bd ?_ | refine ba ?_ _)); exact BK308.out) hb); have n10_ := aM (bB (g := gb309) (o := .cells #[.string t304, .slice Ao39 t305.length co39] 51 (0, 0)) (by (with_reducible repeat (first | refine bn ?_ _ | refine bd ?_ | refine ba ?_ _)); exact BK309.out) hb); have n11_ := aM (bB (g := gb320) (o := .cells #[.int .i64 t310, .string t311, .slice Ao50 t312.length co50, .string t315, .slice Ao51 t316.length co51] 64 (0, 0)) (by (with_reducible repeat (first | refine bn ?_ _ | refine bd ?_ | refine ba ?_ _)); exact BK320.out) hb); have n12_ := aM (bB (g := gb331) (o := .cells #[.int .i64 t321, .string t322, .slice Ao63 t323.length co63, .string t326, .slice Ao64 t327.length co64] 64 (0, 0)) (by (with_reducible repeat (first | refine bn ?_ _ | refine bd ?_ | refine ba ?_ _)); exact BK331.out) hb); have n13_ := aM (bB (g := gb337) (o := .cells #[.string t332, .slice Ao91 t333.length co91] 51 (0, 0)) (by (with_reducible repeat (first | refine bn ?_ _ | refine bd ?_ | refine ba ?_ _)); exact BK337.out) hb); have n14_ := aM (bB (g := gb343) (o := .cells #[.string t338, .slice Ao106 t339.length co106] 51 (0, 0)) (by (with_reducible repeat (first | refine bn ?_ _ | refine bd ?_ | refine ba ?_ _)); exact BK343.out) hb); have n15_ := aM (bP (by repeat (first | (with_reducible first | exact HB.out | apply ea | apply en | apply ed | refine bs ?_ GE296.out | refine bs ?_ GE308.out | refine bs ?_ GE309.out | refine bs ?_ GE320.out | refine bs ?_ GE331.out | refine bs ?_ GE337.out | refine bs ?_ GE343.out) | exact HB.out)) hb); clear HO_309001; clear HO_310001; clear HO_321002; clear HO_321004; clear HO_332002; clear HO_332004; clear HO335; clear HO341; clear BK296; clear BK308; clear BK309; clear BK320; clear BK331; clear BK337; clear BK343; clear HB; have HO_309001 := n0_; have HO_310001 := n1_; have HO_321002 := n2_; have HO_321004 := n3_; have HO_332002 := n4_; have HO_332004 := n5_; have HO335 := n6_; have HO341 := n7_; have BK296 := n8_; have BK308 := n9_; have BK309 := n10_; have BK320 := n11_; have BK331 := n12_; have BK337 := n13_; have BK343 := n14_; have HB := n15_; clear n0_ n1_ n2_ n3_ n4_ n5_ n6_ n7_ n8_ n9_ n10_ n11_ n12_ n13_ n14_ n15_; (try clear hb); (try clear hb2); (try clear hk); (try clear hi)))
              go_ret
              exact ⟨by first | rfl | (simp [errW_none, errW_some] <;> rfl) | (simp [*, errW_none, errW_some] <;> rfl), by repeat (first | (with_reducible first | exact HB.out | apply ea | apply en | apply ed | refine bs ?_ GE296.out | refine bs ?_ GE308.out | refine bs ?_ GE309.out | refine bs ?_ GE320.out | refine bs ?_ GE331.out | refine bs ?_ GE337.out | refine bs ?_ GE343.out) | exact HB.out)⟩
            · replace c72 := Bool.eq_false_iff.mpr c72
              subst c72
              have H1 : (some false) = some r := by rw [if_neg (show ¬ (false = true) by decide)] at H; exact H
              clear H
              have H := H1
              clear H1
              obtain rfl := Option.some.inj H
              go_wp2_with (first | (go_at_call 67; (with_reducible refine (bureauref04_Low.calls kj27 t332 _ _ t333 t338 _ _ t339 a1 true _ ?side1 ?side2 ?side3 ?side4 A71.out).mono ?_); (case side1 => refine (rR (e := 100) (base := w.heap.size) (ok := fun k_ => (((((True ∧ some k_ ≠ (.slice Ao50 t312.length co50 : Value).ownBlock) ∧ some k_ ≠ (.slice Ao51 t316.length co51 : Value).ownBlock) ∧ some k_ ≠ (.slice Ao63 t323.length co63 : Value).ownBlock) ∧ some k_ ≠ (.slice Ao64 t327.length co64 : Value).ownBlock) ∧ some k_ ≠ (.slice Ao106 t339.length co106 : Value).ownBlock)) (n := t333.length) (c := co91) ?_).2.2; exact (by (with_reducible repeat (first | apply ra | apply rn | apply rd_)); exact (rM (rF (p := ⟨gb343, 1, none⟩) (rF (p := ⟨gb343, 0, none⟩) (rT HO335.out BK343.out (by decide)) (fun _ hk => hk.2) (.string t338)) (fun _ hk => hk.2) (.slice Ao106 t339.length co106)) (fun _ h_ => h_.1)))); (case side2 => exact (rR HO335.out).2.1); (case side3 => refine (rR (e := 100) (base := w.heap.size) (ok := fun k_ => (((((True ∧ some k_ ≠ (.slice Ao50 t312.length co50 : Value).ownBlock) ∧ some k_ ≠ (.slice Ao51 t316.length co51 : Value).ownBlock) ∧ some k_ ≠ (.slice Ao63 t323.length co63 : Value).ownBlock) ∧ some k_ ≠ (.slice Ao64 t327.length co64 : Value).ownBlock) ∧ some k_ ≠ (.slice Ao91 t333.length co91 : Value).ownBlock)) (n := t339.length) (c := co106) ?_).2.2; exact (by (with_reducible repeat (first | apply ra | apply rn | apply rd_)); exact (rM (rF (p := ⟨gb343, 1, none⟩) (rF (p := ⟨gb343, 0, none⟩) (rT HO341.out BK343.out (by decide)) (fun _ hk => hk.2) (.string t338)) (fun _ hk => hk.2) (.slice Ao106 t339.length co106)) (fun _ h_ => h_.1)))); (case side4 => exact (rR HO341.out).2.1); rintro e w108 ⟨rfl, hb⟩; have n0_ := aM (Kd.V_below (by (with_reducible repeat (first | apply va | apply vn | apply vd)); exact (Kd.V_mono (Kd.V_far (p := ⟨gb343, 1, none⟩) (Kd.V_far (p := ⟨gb343, 0, none⟩) (Kd.V_mono HO_309001.out (fun k_ hk => (⟨hk, hk.2⟩ : _ ∧ k_ ≠ gb343))) (fun _ hk => hk.2) (.string t338)) (fun _ hk => hk.2) (.slice Ao106 t339.length co106)) (fun _ h_ => h_.1))) hb); have n1_ := aM (Kd.V_below (by (with_reducible repeat (first | apply va | apply vn | apply vd)); exact (Kd.V_mono (Kd.V_far (p := ⟨gb343, 1, none⟩) (Kd.V_far (p := ⟨gb343, 0, none⟩) (Kd.V_mono HO_310001.out (fun k_ hk => (⟨hk, hk.2⟩ : _ ∧ k_ ≠ gb343))) (fun _ hk => hk.2) (.string t338)) (fun _ hk => hk.2) (.slice Ao106 t339.length co106)) (fun _ h_ => h_.1))) hb); have n2_ := aM (Kd.R_below (by (with_reducible repeat (first | apply ra | apply rn | apply rd_)); exact (rM (rF (p := ⟨gb343, 1, none⟩) (rF (p := ⟨gb343, 0, none⟩) (rT HO_321002.out BK343.out (by decide)) (fun _ hk => hk.2) (.string t338)) (fun _ hk => hk.2) (.slice Ao106 t339.length co106)) (fun _ h_ => h_.1))) hb); have n3_ := aM (Kd.R_below (by (with_reducible repeat (first | apply ra | apply rn | apply rd_)); exact (rM (rF (p := ⟨gb343, 1, none⟩) (rF (p := ⟨gb343, 0, none⟩) (rT HO_321004.out BK343.out (by decide)) (fun _ hk => hk.2) (.string t338)) (fun _ hk => hk.2) (.slice Ao106 t339.length co106)) (fun _ h_ => h_.1))) hb); have n4_ := aM (Kd.R_below (by (with_reducible repeat (first | apply ra | apply rn | apply rd_)); exact (rM (rF (p := ⟨gb343, 1, none⟩) (rF (p := ⟨gb343, 0, none⟩) (rT HO_332002.out BK343.out (by decide)) (fun _ hk => hk.2) (.string t338)) (fun _ hk => hk.2) (.slice Ao106 t339.length co106)) (fun _ h_ => h_.1))) hb); have n5_ := aM (Kd.R_below (by (with_reducible repeat (first | apply ra | apply rn | apply rd_)); exact (rM (rF (p := ⟨gb343, 1, none⟩) (rF (p := ⟨gb343, 0, none⟩) (rT HO_332004.out BK343.out (by decide)) (fun _ hk => hk.2) (.string t338)) (fun _ hk => hk.2) (.slice Ao106 t339.length co106)) (fun _ h_ => h_.1))) hb); have n6_ := aM (Kd.R_below (by (with_reducible repeat (first | apply ra | apply rn | apply rd_)); exact (rM (rF (p := ⟨gb343, 1, none⟩) (rF (p := ⟨gb343, 0, none⟩) (rT HO335.out BK343.out (by decide)) (fun _ hk => hk.2) (.string t338)) (fun _ hk => hk.2) (.slice Ao106 t339.length co106)) (fun _ h_ => h_.1))) hb); have n7_ := aM (Kd.R_below (by (with_reducible repeat (first | apply ra | apply rn | apply rd_)); exact (rM (rF (p := ⟨gb343, 1, none⟩) (rF (p := ⟨gb343, 0, none⟩) (rT HO341.out BK343.out (by decide)) (fun _ hk => hk.2) (.string t338)) (fun _ hk => hk.2) (.slice Ao106 t339.length co106)) (fun _ h_ => h_.1))) hb); have n8_ := aM (bB (g := gb296) (o := .cells #[.string a0_0, .slice A0_1 l0_1.length c0_1, .string a0_2, .slice A0_3 l0_3.length c0_3, .string a0_4, .int .i64 a0_5, .int .i64 a0_6, .int .u64 a0_7] 77 (0, 0)) (by (with_reducible repeat (first | refine bn ?_ _ | refine bd ?_ | refine ba ?_ _)); refine bR ?_ NB296_343.out _; (with_reducible repeat (first | refine bn ?_ _ | refine bd ?_ | refine ba ?_ _)); refine bR ?_ NB296_343.out _; (with_reducible repeat (first | refine bn ?_ _ | refine bd ?_ | refine ba ?_ _)); exact BK296.out) hb); have n9_ := aM (bB (g := gb308) (o := .cells #[.string t300, .slice Ao36 t301.length co36] 51 (0, 0)) (by (with_reducible repeat (first | refine bn ?_ _ | refine bd ?_ | refine ba ?_ _)); refine bR ?_ NB308_343.out _; (with_reducible repeat (first | refine bn ?_ _ | refine bd ?_ | refine ba ?_ _)); refine bR ?_ NB308_343.out _; (with_reducible repeat (first | refine bn ?_ _ | refine bd ?_ | refine ba ?_ _)); exact BK308.out) hb); have n10_ := aM (bB (g := gb309) (o := .cells #[.string t304, .slice Ao39 t305.length co39] 51 (0, 0)) (by (with_reducible repeat (first | refine bn ?_ _ | refine bd ?_ | refine ba ?_ _)); refine bR ?_ NB309_343.out _; (with_reducible repeat (first | refine bn ?_ _ | refine bd ?_ | refine ba ?_ _)); refine bR ?_ NB309_343.out _; (with_reducible repeat (first | refine bn ?_ _ | refine bd ?_ | refine ba ?_ _)); exact BK309.out) hb); have n11_ := aM (bB (g := gb320) (o := .cells #[.int .i64 t310, .string t311, .slice Ao50 t312.length co50, .string t315, .slice Ao51 t316.length co51] 64 (0, 0)) (by (with_reducible repeat (first | refine bn ?_ _ | refine bd ?_ | refine ba ?_ _)); refine bR ?_ NB320_343.out _; (with_reducible repeat (first | refine bn ?_ _ | refine bd ?_ | refine ba ?_ _)); refine bR ?_ NB320_343.out _; (with_reducible repeat (first | refine bn ?_ _ | refine bd ?_ | refine ba ?_ _)); exact BK320.out) hb); have n12_ := aM (bB (g := gb331) (o := .cells #[.int .i64 t321, .string t322, .slice Ao63 t323.length co63, .string t326, .slice Ao64 t327.length co64] 64 (0, 0)) (by (with_reducible repeat (first | refine bn ?_ _ | refine bd ?_ | refine ba ?_ _)); refine bR ?_ NB331_343.out _; (with_reducible repeat (first | refine bn ?_ _ | refine bd ?_ | refine ba ?_ _)); refine bR ?_ NB331_343.out _; (with_reducible repeat (first | refine bn ?_ _ | refine bd ?_ | refine ba ?_ _)); exact BK331.out) hb); have n13_ := aM (bB (g := gb337) (o := .cells #[.string t332, .slice Ao91 t333.length co91] 51 (0, 0)) (by (with_reducible repeat (first | refine bn ?_ _ | refine bd ?_ | refine ba ?_ _)); refine bR ?_ NB337_343.out _; (with_reducible repeat (first | refine bn ?_ _ | refine bd ?_ | refine ba ?_ _)); refine bR ?_ NB337_343.out _; (with_reducible repeat (first | refine bn ?_ _ | refine bd ?_ | refine ba ?_ _)); exact BK337.out) hb); have n14_ := aM (bB (g := gb343) (o := .cells #[.string t338, .slice Ao106 t339.length co106] 51 (0, 0)) (by (with_reducible repeat (first | refine bn ?_ _ | refine bd ?_ | refine ba ?_ _)); refine bU (cs := #[.string t338, .slice none 0 0]) ?_ 1 _ rfl; (with_reducible repeat (first | refine bn ?_ _ | refine bd ?_ | refine ba ?_ _)); refine bU (cs := #[.string (⟨#[]⟩ : ByteArray), .slice none 0 0]) ?_ 0 _ rfl; (with_reducible repeat (first | refine bn ?_ _ | refine bd ?_ | refine ba ?_ _)); exact BK343.out) hb); have n15_ := aM (bP (by repeat (first | (with_reducible first | exact HB.out | apply ea | apply en | apply ed | refine bs ?_ GE296.out | refine bs ?_ GE308.out | refine bs ?_ GE309.out | refine bs ?_ GE320.out | refine bs ?_ GE331.out | refine bs ?_ GE337.out | refine bs ?_ GE343.out) | exact HB.out)) hb); clear HO_309001; clear HO_310001; clear HO_321002; clear HO_321004; clear HO_332002; clear HO_332004; clear HO335; clear HO341; clear BK296; clear BK308; clear BK309; clear BK320; clear BK331; clear BK337; clear BK343; clear HB; have HO_309001 := n0_; have HO_310001 := n1_; have HO_321002 := n2_; have HO_321004 := n3_; have HO_332002 := n4_; have HO_332004 := n5_; have HO335 := n6_; have HO341 := n7_; have BK296 := n8_; have BK308 := n9_; have BK309 := n10_; have BK320 := n11_; have BK331 := n12_; have BK337 := n13_; have BK343 := n14_; have HB := n15_; clear n0_ n1_ n2_ n3_ n4_ n5_ n6_ n7_ n8_ n9_ n10_ n11_ n12_ n13_ n14_ n15_; (try clear hb); (try clear hb2); (try clear hk); (try clear hi); have hcz109_0 : w108.cell? ⟨gb320, 0, none⟩ = some (.int .i64 t310) := (bC BK320.out 0).trans rfl; have hcz109_1 : w108.cell? ⟨gb320, 1, none⟩ = some (.string t311) := (bC BK320.out 1).trans rfl; have hcz109_2 : w108.cell? ⟨gb320, 2, none⟩ = some (.slice Ao50 t312.length co50) := (bC BK320.out 2).trans rfl; have hcz109_3 : w108.cell? ⟨gb320, 3, none⟩ = some (.string t315) := (bC BK320.out 3).trans rfl; have hcz109_4 : w108.cell? ⟨gb320, 4, none⟩ = some (.slice Ao51 t316.length co51) := (bC BK320.out 4).trans rfl; have hfz109_0 := bF BK320.out 0; have hfz109_1 := bF BK320.out 1; have hfz109_2 := bF BK320.out 2; have hfz109_3 := bF BK320.out 3; have hfz109_4 := bF BK320.out 4; have hcz110_0 : w108.cell? ⟨gb331, 0, none⟩ = some (.int .i64 t321) := (bC BK331.out 0).trans rfl; have hcz110_1 : w108.cell? ⟨gb331, 1, none⟩ = some (.string t322) := (bC BK331.out 1).trans rfl; have hcz110_2 : w108.cell? ⟨gb331, 2, none⟩ = some (.slice Ao63 t323.length co63) := (bC BK331.out 2).trans rfl; have hcz110_3 : w108.cell? ⟨gb331, 3, none⟩ = some (.string t326) := (bC BK331.out 3).trans rfl; have hcz110_4 : w108.cell? ⟨gb331, 4, none⟩ = some (.slice Ao64 t327.length co64) := (bC BK331.out 4).trans rfl; have hfz110_0 := bF BK331.out 0; have hfz110_1 := bF BK331.out 1; have hfz110_2 := bF BK331.out 2; have hfz110_3 := bF BK331.out 3; have hfz110_4 := bF BK331.out 4))
              go_ret
              exact ⟨by first | rfl | (simp [errW_none, errW_some] <;> rfl) | (simp [*, errW_none, errW_some] <;> rfl), by repeat (first | (with_reducible first | exact HB.out | apply ea | apply en | apply ed | refine bs ?_ GE296.out | refine bs ?_ GE308.out | refine bs ?_ GE309.out | refine bs ?_ GE320.out | refine bs ?_ GE331.out | refine bs ?_ GE337.out | refine bs ?_ GE343.out) | exact HB.out)⟩
          · rw [if_neg c70] at H
            have c70b0 : (t342 == 0) = false := beq_eq_false_iff_ne.mpr c70
            have c70b1 : (t342 != 0) = true := bne_iff_ne.mpr c70
            obtain rfl := Option.some.inj H
            go_wp2
            go_ret
            exact ⟨by first | rfl | (simp [errW_none, errW_some] <;> rfl) | (simp [*, errW_none, errW_some] <;> rfl), by repeat (first | (with_reducible first | exact HB.out | apply ea | apply en | apply ed | refine bs ?_ GE296.out | refine bs ?_ GE308.out | refine bs ?_ GE309.out | refine bs ?_ GE320.out | refine bs ?_ GE331.out | refine bs ?_ GE337.out | refine bs ?_ GE343.out) | exact HB.out)⟩
        · rw [if_neg c69] at H
          have c69b0 : (t336 == 0) = false := beq_eq_false_iff_ne.mpr c69
          have c69b1 : (t336 != 0) = true := bne_iff_ne.mpr c69
          obtain rfl := Option.some.inj H
          go_wp2
          go_ret
          exact ⟨by first | rfl | (simp [errW_none, errW_some] <;> rfl) | (simp [*, errW_none, errW_some] <;> rfl), by repeat (first | (with_reducible first | exact HB.out | apply ea | apply en | apply ed | refine bs ?_ GE296.out | refine bs ?_ GE308.out | refine bs ?_ GE309.out | refine bs ?_ GE320.out | refine bs ?_ GE331.out | refine bs ?_ GE337.out | refine bs ?_ GE343.out) | exact HB.out)⟩
end Go.Proofs.Ythpjagblnddjaaa.PB
end
