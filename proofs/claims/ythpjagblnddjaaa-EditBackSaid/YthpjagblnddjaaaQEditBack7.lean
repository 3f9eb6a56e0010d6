/- The row of a law out of its contract and its pure theorem. No condition. -/
import Derived.Test.YthpjagblnddjaaaRows
import Derived.ProofKit
import Derived.ShutString
import Derived.ChangeOld
import Derived.Carry
import Derived.Test.YthpjagblnddjaaaQEditBack6
section
namespace Go.Proofs.Ythpjagblnddjaaa.PB
open Go.RowKit Go.Proofs.YthpjagblnddjaaaW.PrintWords
set_option linter.unusedVariables false
theorem alive7 : bureaulaw07_alive.f 60 = some true := by decide +kernel
theorem alive7_ev : Ev (fun k => bureaulaw07_alive.f k) true := Ev.of (bureaulaw07_alive.mono) alive7
def fitE (o : ByteArray) (ol : List S100) (n : ByteArray) (nl : List S100) : Prop := (o.size ≤ 5000 ∧ ol.length ≤ 5000) ∧ (n.size ≤ 5000 ∧ nl.length ≤ 5000)
instance (o : ByteArray) (ol : List S100) (n : ByteArray) (nl : List S100) : Decidable (fitE o ol n nl) := inferInstanceAs (Decidable (_ ∧ _))
theorem fits7_eq (a : Int) (o : ByteArray) (ol : List S100) (n : ByteArray) (nl : List S100) : bureaulaw07_Fits.f a o ol n nl = some (decide (fitE o ol n nl)) := by
  unfold bureaulaw07_Fits.f
  rw [fits_eq, fits_eq]
  by_cases h : o.size ≤ 5000 ∧ ol.length ≤ 5000
  · rw [decide_eq_true h, Option.bind_some, if_pos rfl, Option.bind_some]
    congr 1
    rw [Bool.eq_iff_iff, decide_eq_true_iff, decide_eq_true_iff]
    exact ⟨fun h2 => ⟨h, h2⟩, fun h2 => h2.2⟩
  · rw [decide_eq_false h, Option.bind_some, if_neg (by simp)]
    rw [decide_eq_false (fun h2 : fitE o ol n nl => h h2.1)]
theorem EditBack_pure (t : S51) (e : S64) (wt : wf51 t) (we : wf64 e) : ∃ k, bureaulaw07_EditBack.f k t.f0 t.f1 e.f0 e.f1.f0 e.f1.f1 e.f2.f0 e.f2.f1 = some true := by
  refine Ev.rounds (g := fun k => bureaulaw07_EditBack.f k t.f0 t.f1 e.f0 e.f1.f0 e.f1.f1 e.f2.f0 e.f2.f1) ?_
  generalize e.f0 = a at *
  generalize e.f1.f0 = o at *
  generalize e.f1.f1 = ol at *
  generalize e.f2.f0 = n at *
  generalize e.f2.f1 = nl at *
  generalize t.f0 = s at *
  generalize t.f1 = l at *
  unfold bureaulaw07_EditBack.f
  refine Ev.bind alive7_ev (Ev.pos rfl ?_)
  rw [fits7_eq, fits_eq]
  have out : Ev (fun k => bureaulaw07_EditBack.j0 k true s l a o ol n nl) true := by
    refine Ev.step (fun k => by simp only [bureaulaw07_EditBack.j0]; rfl) ?_
    exact Ev.pos (by simp) (Ev.now _)
  refine Ev.bind (Ev.now _) (Ev.ite' (fun hfs => ?_) (fun _ => out))
  have hls := fits_big (of_decide_eq_true hfs)
  refine Ev.bind (Ev.now _) ?_
  by_cases hf : fitE o ol n nl
  · rw [decide_eq_true hf]
    have hl := fits_big hf.1
    have hm := fits_big hf.2
    refine Ev.step (fun k => by simp only [bureaulaw07_EditBack.j0]; rfl) ?_
    refine Ev.neg (by simp) (Ev.bind (apply_ev s l hls a o ol n nl hl hm) ?_)
    by_cases hok : (applyT s l a o ol n nl).2.2 = 0
    · refine Ev.pos hok ?_
      rw [invert_eq a o ol n nl hl hm]
      refine Ev.bind (Ev.now _) ?_
      obtain ⟨P, Q, X, Z, rfl, rfl, rfl, hX, hZ, hg, h1, h2, he⟩ := applyT_ok hok
      obtain ⟨e1, e2, e3, e4⟩ := goodE_iff.1 hg
      obtain ⟨o1, o2, o3, o4, o5⟩ := goodT_facts e1
      obtain ⟨n1, n2, n3, n4, n5⟩ := goodT_facts e2
      have hp := pack_len (X ++ bytes nl ++ Z)
      simp only [List.length_append] at hp
      rw [he]
      refine Ev.bind (apply_ev _ _ (len_big (by show (pack _).length ≤ 20000; omega)) _ n nl o ol hm hl) ?_
      have hb := applyT_mid P n Q o X (bytes nl) Z (bytes ol) hX n3 hZ o3 h2 h1
      rw [← good_pack_bytes e1, ← good_pack_bytes e2] at hb
      rw [hb]
      exact Ev.pos rfl (Ev.bind (rsame4_ev _ _ _ _ hls) (ev_val (Ev.now _) (sameT_self _ _)))
    · refine Ev.neg hok ?_
      obtain ⟨b1, b2⟩ := applyT_bad hok
      rw [b1, b2]
      exact Ev.bind (rsame4_ev _ _ _ _ (by simp [big])) (ev_val (Ev.now _) (sameT_self _ _))
  · rw [decide_eq_false hf]
    exact out
end Go.Proofs.Ythpjagblnddjaaa.PB
end

section
namespace Go.Proofs.Ythpjagblnddjaaa.PB
open Go.ChangeShapes Go.WideShapes Go.ChangeAt Go.RowKit Go.Proofs.YthpjagblnddjaaaW.PrintWords
open Go.ChangeMaps (open_string shut_string)
set_option linter.unusedVariables false
namespace editBack
open Go.Proofs.Ythpjagblnddjaaa
theorem own : ownKnob Try.prog.godebug = none := by kernel_rfl
theorem laidOut : laidOutB Try.prog = true := by kernel_rfl
set_option maxRecDepth 100000 in
theorem lifted (os : Os) (started : os.Started) (H : Type) (enc : TypeId × Value → H) :
    ReturnsInHanded {} Try.checked os 15 .any (Rows.editBackSpec.pre6 enc Try.prog Try.f15 Rows.editBackRow.domain false) (Rows.editBackSpec.post enc Try.prog Try.f15 false true false false) := by
  refine returnsInHanded_of_change_sized (C := Try.checked) own started (by kernel_rfl) Try.func15
    (ChangeSpec.witness6 (enc := enc) (C := Try.checked) false ⟨#[], #[.agg #[.string ByteArray.empty, .slice none 0 0], .agg #[.int .i64 0, .string ByteArray.empty, .slice none 0 0, .string ByteArray.empty, .slice none 0 0]], []⟩ 8 (by kernel_rfl) (by kernel_rfl) (by kernel_rfl) (by kernel_rfl)) ?_
  intro W base args ds gs before hval0 hW hcnd hsz0 _
  have hsz : (DataW.weightsEach Try.prog (Try.f15.params.toList ++ Rows.editBackSpec.plain.varTypes Try.prog) (ds ++ gs)).all (· ≤ reachBytes) = true := hsz0
  have hval : ∀ (j : Nat) t v, Try.f15.params[j]? = some t → args[j]? = some v → Value.okWide Try.prog W .any base t v := hval0
  have hW' := hW
  obtain ⟨p, q, hA0, hV, rfl, hfz, hnd⟩ := hW
  have hA : DataW.TrodAll enc Try.prog W 0 (fun _ => true) true Try.f15.params.toList args.toList ds p := hA0
  rw [Try.params15] at hA hval hsz
  obtain ⟨v0, vs0, d0, ds0, p0, q0, hargs, rfl, rfl, h0, r0⟩ := trodAll_cons hA
  obtain ⟨v1, vs1, d1, ds1, p1, q1, rfl, rfl, rfl, h1, r1⟩ := trodAll_cons r0
  obtain ⟨rfl, rfl, rfl⟩ := trodAll_nil r1
  obtain rfl : args = #[v0, v1] := by cases args; simp_all
  obtain ⟨rfl, rfl⟩ := trodVars_none hV
  have hz0 : ∀ n ∈ d0.weights Try.prog 51, n ≤ reachBytes := fun n hn => by have z := List.all_eq_true.1 hsz n (DataW.weights_mem_each (j := 0) rfl rfl n hn); simpa using z
  have kk0 := h0
  have lt0 : ∀ x ∈ p0, x.block < W.heap.size := by obtain ⟨m, hm⟩ := kk0; exact DataW.trod_lt m _ _ _ hm
  obtain ⟨cs0, rfl, cz0⟩ := okWide_struct Try.underlying51 (hval 0 51 v0 rfl rfl)
  obtain ⟨x0, hK0, w0⟩ : ∃ x : S51, k51.K W x cs0.toList ∧ wf51 x := by
    obtain ⟨fuel, hf⟩ := h0
    exact opn51 H enc _ _ _ fuel _ _ hf hz0
  obtain ⟨A0_1, c0_1, hcs0, hc0_1, hr0_1⟩ := k51_open hK0
  obtain rfl : cs0 = #[.string x0.f0, .slice A0_1 x0.f1.length c0_1] := Array.toList_inj.1 hcs0
  have hz1 : ∀ n ∈ d1.weights Try.prog 64, n ≤ reachBytes := fun n hn => by have z := List.all_eq_true.1 hsz n (DataW.weights_mem_each (j := 1) rfl rfl n hn); simpa using z
  have kk1 := h1
  have lt1 : ∀ x ∈ p1, x.block < W.heap.size := by obtain ⟨m, hm⟩ := kk1; exact DataW.trod_lt m _ _ _ hm
  obtain ⟨cs1, rfl, cz1⟩ := okWide_struct Try.underlying64 (hval 1 64 v1 rfl rfl)
  obtain ⟨x1, hK1, w1⟩ : ∃ x : S64, k64.K W x cs1.toList ∧ wf64 x := by
    obtain ⟨fuel, hf⟩ := h1
    exact opn64 H enc _ _ _ fuel _ _ hf hz1
  obtain ⟨A1_2, c1_2, A1_4, c1_4, hcs1, hc1_2, hr1_2, hc1_4, hr1_4⟩ := k64_open hK1
  obtain rfl : cs1 = #[.int .i64 x1.f0, .string x1.f1.f0, .slice A1_2 x1.f1.f1.length c1_2, .string x1.f2.f0, .slice A1_4 x1.f2.f1.length c1_4] := Array.toList_inj.1 hcs1
  clear hA0 hval0 hsz0 hsz
  obtain ⟨k, hk⟩ := EditBack_pure x0 x1 w0 w1
  refine (bureaulaw07_EditBack.calls k x0.f0 _ _ x0.f1 x1.f0 x1.f1.f0 _ _ x1.f1.f1 x1.f2.f0 _ _ x1.f2.f1 true W hr0_1 hc0_1 hr1_2 hc1_2 hr1_4 hc1_4 hk).mono fun e W' ⟨he, bel⟩ => ?_
  subst he
  exact ⟨_, rfl, _, _, _, [], _, [], hW', trodAll_mk1 (shut_bool Try.underlying4 _), (trodAll_cons_mk (Below.trod laidOut (by kernel_rfl) (of_decide_eq_true (by kernel_rfl)) kk0 bel lt0) (trodAll_cons_mk (Below.trod laidOut (by kernel_rfl) (of_decide_eq_true (by kernel_rfl)) kk1 bel lt1) trodAll_mk0)), rfl, bel.frame _, fun h => by cases h⟩
theorem over : Rows.editBackRow.holds Try.pinned (OpenSpec.ofChange Rows.editBackSpec) :=
  OpenClaim.holds_of_wide 15 Try.f15 rfl rfl rfl rfl rfl rfl rfl ⟨rfl, rfl, rfl, rfl, rfl⟩ rfl rfl rfl rfl rfl (by kernel_rfl) Try.func15 (by kernel_rfl)
    (of_decide_eq_true (by kernel_rfl)) (by unfold Func.isWrapper; first | (rw [if_pos (by decide +kernel)]; kernel_rfl) | (rw [if_neg (by decide +kernel)]; exact ⟨rfl, rfl⟩))
    (fun os started H enc _ => lifted os started H enc)
theorem proved : Rows.EditBackSaid := over
end editBack
end Go.Proofs.Ythpjagblnddjaaa.PB
namespace Go.Proofs.Ythpjagblnddjaaa
theorem editBack_holds : Rows.EditBackSaid := PB.editBack.proved
#print axioms editBack_holds
end Go.Proofs.Ythpjagblnddjaaa
end
