/- The row of a law out of its contract and its pure theorem. No condition. -/
import Derived.Test.YtnbdldpjiofafaaRows
import Derived.ProofKit
import Derived.ShutString
import Derived.ChangeOld
import Derived.Carry
import Derived.HandedShaped
import Derived.Test.YtnbdldpjiofafaaQSubstItself6
section
namespace Go.Proofs.Ytnbdldpjiofafaa.PB
open Go.RowKit Go.Proofs.YtnbdldpjiofafaaW.PrintWords
set_option linter.unusedVariables false
set_option maxHeartbeats 1000000
theorem has10 (pat : ByteArray) : strings_Contains.f pat ⟨#[10]⟩ = some (decide ((10 : UInt8) ∈ pat.data.toList)) := by
  unfold strings_Contains.f
  rw [if_pos (show (⟨#[10]⟩ : ByteArray).size = 1 from rfl)]
  congr 1
  rw [decide_eq_decide]
  rw [show (⟨#[10]⟩ : ByteArray).data.toList.getD 0 0 = 10 from rfl]
  rcases ib_cases pat.data.toList with ⟨h, hn⟩ | ⟨o, h, ho, h1, h2⟩
  · rw [h]
    exact ⟨fun q => absurd q (by decide), fun q => absurd rfl (hn _ q)⟩
  · rw [h]
    exact ⟨fun _ => List.mem_of_getElem? h1, fun _ => by omega⟩
def mayD (v : ByteArray) (A B : Int) (pat rep : ByteArray) : Bool :=
  decide (0 ≤ A) && (decide (A ≤ B) && (decide (B < ((ends v).length : Int)) && (decide (1 ≤ pat.size) && (!decide ((10 : UInt8) ∈ pat.data.toList) && decide (rep.size ≤ 4096)))))
theorem mayD_iff {v : ByteArray} {A B : Int} {pat rep : ByteArray} : mayD v A B pat rep = true ↔ 0 ≤ A ∧ A ≤ B ∧ B < ((ends v).length : Int) ∧ 1 ≤ pat.size ∧ ¬ (10 : UInt8) ∈ pat.data.toList ∧ rep.size ≤ 4096 := by simp [mayD]
def doG (s : ByteArray) (l : List S51) (y : Int) (v : ByteArray) (A B : Nat) (pat rep : ByteArray) (every : Bool) : DX :=
  tailD s l y (lineFrom v A) (lineTo v B) (allP (lineP v s pat l y every) A (B + 1 - A)) pat rep
def doD (s : ByteArray) (l : List S51) (y A B : Int) (pat rep : ByteArray) (every : Bool) : DX :=
  if goodT s l = true ∧ mayD (viewS s l y).1 A B pat rep = true then doG s l y (viewS s l y).1 A.toNat B.toNat pat rep every else badD 2
theorem view_size {s : ByteArray} {l : List S51} {y : Int} (h : goodT s l = true) : (viewS s l y).1.size = s.size ∧ (viewS s l y).2 = 0 := by
  obtain ⟨g1, g2, g3, g4, g5⟩ := goodT_facts h
  unfold viewS
  rw [if_pos h]
  refine ⟨?_, rfl⟩
  show (strOfNums _).size = _
  rw [strOfNums_size, hideAll_len, bytesOf_len, g3, Nat.min_self]
theorem sub_may_ev {s : ByteArray} {l : List S51} {y : Int} (h : Fine s l y) (v pat rep : ByteArray) (every : Bool) (hv : v.size = s.size) (hp4 : pat.size ≤ 5000) (A B : Int) (hm : mayD v A B pat rep = true) :
    Ev (fun k => subst_Do.j0 k y v false s l A B pat rep every) (doG s l y v A.toNat B.toNat pat rep every) := by
  obtain ⟨h1, h2, h3, h4, h5, h6⟩ := mayD_iff.1 hm
  obtain ⟨a, rfl⟩ := Int.eq_ofNat_of_zero_le h1
  obtain ⟨b, rfl⟩ := Int.eq_ofNat_of_zero_le (show 0 ≤ B by omega)
  have hb : b < (ends v).length := by omega
  have hab : a ≤ b := by omega
  have hsp := (allP_spaced v s pat l y every h4 (b - a) a (by omega)).1
  rw [show a + (b - a) = b by omega, show b - a + 1 = b + 1 - a by omega] at hsp
  refine Ev.step (fun k => by simp only [subst_Do.j0]; rfl) (Ev.neg (by simp) ?_)
  rw [Int.toNat_natCast, Int.toNat_natCast]
  exact sub_lines_ev h v pat rep every hv h4 (a : Int) b hb _ (b + 1 - a) a [] (by omega) (by simp) (by rw [List.nil_append]; exact sub_tail_ev h v pat rep every hv h4 hp4 h6 a b hab hb _ hsp)
theorem do_ev (s : ByteArray) (l : List S51) (y A B : Int) (pat rep : ByteArray) (every : Bool) (hl : l.length ≤ big) (hw : ∀ r ∈ l, 0 ≤ r.f0 ∧ r.f0 < 18446744073709551616) (hy : 0 ≤ y ∧ y < 18446744073709551616) (hp4 : pat.size ≤ 5000) :
    Ev (fun k => subst_Do.f k s l y A B pat rep every) (doD s l y A B pat rep every) := by
  have bad : ∀ v, Ev (fun k => subst_Do.j0 k y v true s l A B pat rep every) (badD 2) := fun v => Ev.step (fun k => by simp only [subst_Do.j0]; rfl) (Ev.pos (c := true = true) rfl (Ev.now _))
  unfold subst_Do.f doD
  refine Ev.bind (view_ev s l hl y) ?_
  by_cases hg : goodT s l = true
  case neg =>
    rw [if_neg (fun q => hg q.1)]
    refine Ev.neg ?_ (bad _)
    unfold viewS
    rw [if_neg hg]
    decide
  obtain ⟨hv, hv2⟩ := view_size (y := y) hg
  refine Ev.pos hv2 ?_
  have hF : Fine s l y := ⟨hg, hl, hw, hy⟩
  have hend := ends_len_le (viewS s l y).1
  have h4 := hF.size.1
  have hcnt := count_ev (viewS s l y).1 (by omega)
  have hgo := sub_may_ev hF (viewS s l y).1 pat rep every hv hp4 A B
  generalize (viewS s l y).1 = v at *
  clear hv2
  by_cases hm : mayD v A B pat rep = true
  · rw [if_pos ⟨hg, hm⟩]
    obtain ⟨m1, m2, m3, m4, m5, m6⟩ := mayD_iff.1 hm
    refine Ev.neg (by omega) (Ev.neg (by omega) ?_)
    rw [hcnt, has10, decide_eq_false m5, decide_eq_false (show ¬ ((rep.size : Int) > 4096) by omega)]
    refine Ev.bind (Ev.now _) (Ev.neg (by omega) (Ev.neg ?_ (Ev.bind (Ev.now _) (Ev.neg (by simp) (hgo hm)))))
    rw [toList_data]
    intro q
    have hz := (Lib.size_eq pat).trans (congrArg List.length q)
    rw [List.length_nil] at hz
    omega
  · rw [if_neg (fun q => hm q.2)]
    refine Ev.ite' (fun _ => bad _) (fun m1 => Ev.ite' (fun _ => bad _) (fun m2 => ?_))
    rw [hcnt, has10]
    refine Ev.bind (Ev.now _) (Ev.ite' (fun _ => bad _) (fun m3 => Ev.ite' (fun _ => bad _) (fun m4 => Ev.bind (Ev.now _) (Ev.ite' (fun _ => bad _) (fun m5 => ?_)))))
    have : decide ((rep.size : Int) > 4096) = true := by
      rw [decide_eq_true_eq]
      refine Int.not_le.1 (fun q => hm (mayD_iff.2 ⟨by omega, by omega, by omega, ?_, by simpa using m5, by omega⟩))
      rcases Nat.eq_zero_or_pos pat.size with z | z
      · refine absurd ?_ m4
        rw [toList_data]
        rw [Lib.size_eq] at z
        exact List.eq_nil_of_length_eq_zero z
      · exact z
    rw [this]
    exact bad _
end Go.Proofs.Ytnbdldpjiofafaa.PB
end

section
namespace Go.Proofs.Ytnbdldpjiofafaa.PB
open Go.RowKit Go.Proofs.YtnbdldpjiofafaaW.PrintWords
set_option linter.unusedVariables false
set_option maxHeartbeats 1000000
theorem doD_cases (s : ByteArray) (l : List S51) (y A B : Int) (pat rep : ByteArray) (every : Bool) (v : ByteArray) (hv : v = (viewS s l y).1) :
    (∃ c : Int, c ≠ 0 ∧ doD s l y A B pat rep every = badD c) ∨
    ∃ (a b : Nat) (ps : List Nat) (fr e : Nat), A = a ∧ B = b ∧ a ≤ b ∧ b < (ends v).length ∧ goodT s l = true ∧ mayD v A B pat rep = true ∧ ps = allP (lineP v s pat l y every) a (b + 1 - a) ∧ fr = lineFrom v a ∧ e = lineTo v b ∧
      spaced pat.size fr ps e ∧ fr ≤ e ∧ e ≤ s.size ∧ 1 ≤ ps.length ∧ ¬ (s.size : Int) + (((ps.length * rep.size : Nat) : Int) - ((ps.length * pat.size : Nat) : Int)) > 4096 ∧
      doD s l y A B pat rep every = okD s l fr e (bld s rep pat.size fr ps e) (buildS (bytes l) (List.replicate rep.size y) pat.size fr ps e) (ps.length : Int) := by
  subst hv
  unfold doD
  by_cases h : goodT s l = true ∧ mayD (viewS s l y).1 A B pat rep = true
  case neg => exact .inl ⟨2, by decide, by rw [if_neg h]⟩
  rw [if_pos h]
  obtain ⟨hg, hm⟩ := h
  have hv := (view_size (y := y) hg).1
  generalize (viewS s l y).1 = v at *
  obtain ⟨h1, h2, h3, h4, h5, h6⟩ := mayD_iff.1 hm
  obtain ⟨a, rfl⟩ := Int.eq_ofNat_of_zero_le h1
  obtain ⟨b, rfl⟩ := Int.eq_ofNat_of_zero_le (show 0 ≤ B by omega)
  have hb : b < (ends v).length := by omega
  have hab : a ≤ b := by omega
  have hsp := (allP_spaced v s pat l y every h4 (b - a) a (by omega)).1
  rw [show a + (b - a) = b by omega, show b - a + 1 = b + 1 - a by omega] at hsp
  have hle := spaced_le hsp
  have hr := (line_range v b hb).2
  unfold doG
  rw [Int.toNat_natCast, Int.toNat_natCast]
  generalize hps : allP (lineP v s pat l y every) a (b + 1 - a) = ps at *
  unfold tailD
  by_cases h0 : ps.length = 0
  · exact .inl ⟨6, by decide, by rw [if_pos h0]⟩
  rw [if_neg h0]
  by_cases hc : (s.size : Int) + (((ps.length * rep.size : Nat) : Int) - ((ps.length * pat.size : Nat) : Int)) > 4096
  · exact .inl ⟨3, by decide, by rw [if_pos hc]⟩
  rw [if_neg hc]
  exact .inr ⟨a, b, ps, lineFrom v a, lineTo v b, rfl, rfl, hab, hb, hg, hm, hps.symm, rfl, rfl, hsp, hle, by omega, by omega, hc, rfl⟩
theorem bld_lab (s rep : ByteArray) (l : List S51) (y : Int) (m fr e : Nat) (ps : List Nat) (hs : spaced m fr ps e) (he : e ≤ s.size) (hL : (bytes l).length = s.size) :
    (buildS (bytes l) (List.replicate rep.size y) m fr ps e).length = (bld s rep m fr ps e).size := by
  have h1 := build_len s.data.toList rep.data.toList m ps fr e (by rw [← Lib.size_eq]; exact he) hs
  have h2 := build_len (bytes l) (List.replicate rep.size y) m ps fr e (by omega) hs
  rw [← bld_size, ← Lib.size_eq] at h1
  rw [List.length_replicate] at h2
  generalize ps.length * rep.size = x at *
  generalize ps.length * m = z at *
  omega
section
variable {s : ByteArray} {l : List S51} {y : Int}
theorem splice_is (h : Fine s l y) (fr e : Nat) (T : ByteArray) (D : List Int) (h1 : fr ≤ e) (h2 : e ≤ s.size) (hD : D.length = T.size) (hT : T.size ≤ 4096) (hz : (s.size : Int) - ((e : Int) - (fr : Int)) + (T.size : Int) ≤ 4096) :
    spliceT s l (fr : Int) (e : Int) T (pack D) = (s.extract 0 fr ++ T ++ s.extract e s.size, pack ((bytes l).take fr ++ D ++ (bytes l).drop e), 0) := by
  unfold spliceT
  rw [if_pos (withinT_iff.2 ⟨h.good, by omega, by omega, by omega⟩), if_pos (goodT_pack hD hT), if_neg (by omega), Int.toNat_natCast, Int.toNat_natCast, pack_bytes]
theorem apply_sums (n fr e m o : Nat) (h1 : fr ≤ e) (h2 : e ≤ n) (h4 : n ≤ 4096) (hT : m ≤ 4096) (hz : (n : Int) - ((e : Int) - (fr : Int)) + (m : Int) ≤ 4096) (ho : o = e - fr) :
    wrap64 ((fr : Int) + (o : Int)) = (e : Int) ∧ decide (wrap64 ((n : Int) - (fr : Int)) < (o : Int)) = false ∧ ¬ wrap64 (wrap64 ((n : Int) - (o : Int)) + (m : Int)) > 4096 := by
  subst ho
  refine ⟨?_, ?_, ?_⟩
  · rw [wadd fr (e - fr) (by omega)]; omega
  · rw [decide_eq_false_iff_not, show wrap64 ((n : Int) - (fr : Int)) = (n : Int) - (fr : Int) by unfold wrap64; omega]
    omega
  · rw [show wrap64 ((n : Int) - ((e - fr : Nat) : Int)) = ((n - (e - fr) : Nat) : Int) by unfold wrap64; omega, wadd _ _ (by omega)]
    omega
theorem rapply_ok (h : Fine s l y) (fr e : Nat) (T : ByteArray) (D : List Int) (h1 : fr ≤ e) (h2 : e ≤ s.size) (hD : D.length = T.size) (hT : T.size ≤ 4096) (hz : (s.size : Int) - ((e : Int) - (fr : Int)) + (T.size : Int) ≤ 4096) :
    Ev (fun k => bureauref07_Apply.f k s l (fr : Int) (s.extract fr e) (pack (((bytes l).take e).drop fr)) T (pack D)) (s.extract 0 fr ++ T ++ s.extract e s.size, pack ((bytes l).take fr ++ D ++ (bytes l).drop e), 0) := by
  have h4 := h.size.1
  have hL := h.size.2
  have hz1 : (s.extract fr e).size = e - fr := by rw [ByteArray.size_extract]; omega
  have hb : (((bytes l).take e).drop fr).length = (s.extract fr e).size := by rw [hz1, List.length_drop, List.length_take]; omega
  have hbp := packBig hb (by omega)
  have hbd := packBig hD (by omega)
  have hgE : goodE (fr : Int) (s.extract fr e) (pack (((bytes l).take e).drop fr)) T (pack D) = true := goodE_iff.2 ⟨goodT_pack hb (by omega), goodT_pack hD hT, by omega, by omega⟩
  have hcut := ev_val (rcut_ev s l h.len (fr : Int) (e : Int)) (cut_ok h fr e h1 h2)
  have hsame := rsame4_ev (s.extract fr e) (pack (((bytes l).take e).drop fr)) (s.extract fr e) (pack (((bytes l).take e).drop fr)) hbp
  have hspl := ev_val (rsplice4_ev s l h.len (fr : Int) (e : Int) T (pack D) hbd) (splice_is h fr e T D h1 h2 hD hT hz)
  have hgo := rgoodE_ev (fr : Int) (s.extract fr e) (pack (((bytes l).take e).drop fr)) T (pack D) hbp hbd
  rw [hgE] at hgo
  rw [sameT_self] at hsame
  have hgd := rgoodT_ev s l h.len
  rw [h.good] at hgd
  obtain ⟨hsum, hd, hf⟩ := apply_sums s.size fr e T.size (s.extract fr e).size h1 h2 h4 hT hz hz1
  unfold bureauref07_Apply.f bureauref07_Check.f
  rw [hsum, hd]
  refine Ev.bind (Ev.bind hgd (Ev.pos rfl (Ev.bind hgo (Ev.pos rfl ?_)))) (Ev.pos rfl (Ev.bind hspl (Ev.now _)))
  refine Ev.step (fun k => by simp only [bureauref07_Check.j0]; rfl) (Ev.neg (by simp) ?_)
  rw [hsum]
  exact Ev.bind hcut (Ev.bind hsame (Ev.pos rfl (Ev.neg hf (Ev.now _))))
end
end Go.Proofs.Ytnbdldpjiofafaa.PB
end

section
namespace Go.Proofs.Ytnbdldpjiofafaa.PB
open Go.RowKit Go.Proofs.YtnbdldpjiofafaaW.PrintWords
set_option linter.unusedVariables false
set_option maxHeartbeats 1000000
theorem alive15 : bureaulaw15_alive.f 80 = some true := by decide +kernel
theorem alive15_ev : Ev (fun k => bureaulaw15_alive.f k) true := Ev.of (bureaulaw15_alive.mono) alive15
def fitD (s : ByteArray) (l : List S51) (pat rep : ByteArray) : Prop := s.size ≤ 1024 ∧ l.length ≤ 5000 ∧ pat.size ≤ 5000 ∧ rep.size ≤ 5000
instance (s : ByteArray) (l : List S51) (pat rep : ByteArray) : Decidable (fitD s l pat rep) := inferInstanceAs (Decidable (_ ∧ _))
theorem fits15_eq (s : ByteArray) (l : List S51) (A B : Int) (pat rep : ByteArray) (every : Bool) : bureaulaw15_fits.f s l A B pat rep every = some (decide (fitD s l pat rep)) := by
  unfold bureaulaw15_fits.f bureaulaw14_Fits.f
  by_cases h1 : s.size ≤ 1024
  · rw [if_pos (by omega), Option.bind_some]
    by_cases h2 : l.length ≤ 5000
    · rw [if_pos (by rw [decide_eq_true_eq]; omega)]
      by_cases h3 : pat.size ≤ 5000
      · rw [if_pos (by omega)]
        congr 1
        rw [decide_eq_decide]
        unfold fitD
        omega
      · rw [if_neg (by omega)]
        congr 1
        symm
        rw [decide_eq_false_iff_not]
        exact fun q => h3 q.2.2.1
    · rw [if_neg (by rw [decide_eq_true_eq]; omega)]
      congr 1
      symm
      rw [decide_eq_false_iff_not]
      exact fun q => h2 q.2.1
  · rw [if_neg (by omega), Option.bind_some, if_neg (by decide)]
    congr 1
    symm
    rw [decide_eq_false_iff_not]
    exact fun q => h1 q.1
theorem fitBig {s : ByteArray} {l : List S51} {pat rep : ByteArray} (h : fitD s l pat rep) : l.length ≤ big := by have := h.2.1; unfold big; omega
theorem pieces (s : ByteArray) (fr e : Nat) (h1 : fr ≤ e) (h2 : e ≤ s.size) : s.extract 0 fr ++ s.extract fr e ++ s.extract e s.size = s := (ext_split s fr e h1 h2).symm
theorem bld_self (s pat : ByteArray) (fr e : Nat) (ps : List Nat) (hs : spaced pat.size fr ps e) (hp : ∀ p ∈ ps, (s.data.toList.drop p).take pat.data.toList.length = pat.data.toList) : bld s pat pat.size fr ps e = s.extract fr e := by
  refine data_inj ?_
  rw [bld_list, ext_list]
  refine build_self _ _ _ ps fr e hs (fun p hm => ?_)
  rw [List.drop_take, Nat.add_sub_cancel_left, Lib.size_eq]
  exact hp p hm
theorem hits_of {v s pat : ByteArray} {l : List S51} {y : Int} {every : Bool} {a b : Nat} (hp : 1 ≤ pat.size) (hab : a ≤ b) (hb : b < (ends v).length) : ∀ p ∈ allP (lineP v s pat l y every) a (b + 1 - a), (s.data.toList.drop p).take pat.data.toList.length = pat.data.toList := by
  intro p hm
  rw [show b + 1 - a = b - a + 1 by omega] at hm
  obtain ⟨q, _, _, _, hh⟩ := (allP_spaced v s pat l y every hp (b - a) a (by omega)).2 p hm
  exact (hitS_iff.1 hh).2.1
theorem SubstItself_pure (t : S24) (y : Int) (j : S28) (wt : wf24 t) (wy : (Lit.int .u64 y).wf = true) (wj : wf28 j) : ∃ k, bureaulaw15_SubstItself.f k t.f0 t.f1 y j.f0 j.f1 j.f2 j.f3 j.f4 = some true := by
  refine Ev.rounds (g := fun k => bureaulaw15_SubstItself.f k t.f0 t.f1 y j.f0 j.f1 j.f2 j.f3 j.f4) ?_
  have hw := wfT wt
  have hy := wf_u64 wy
  generalize t.f0 = s at *
  generalize t.f1 = l at *
  generalize j.f0 = A at *
  generalize j.f1 = B at *
  generalize j.f2 = pat at *
  generalize j.f3 = rep at *
  generalize j.f4 = every at *
  clear wt wy wj
  unfold bureaulaw15_SubstItself.f
  refine Ev.bind alive15_ev (Ev.pos rfl ?_)
  rw [fits15_eq]
  refine Ev.bind (Ev.now _) (Ev.ite' (fun hf => ?_) (fun _ => Ev.now _))
  have hf := of_decide_eq_true hf
  have hl := fitBig hf
  refine Ev.bind (do_ev s l y A B pat pat every hl hw hy hf.2.2.1) ?_
  rcases doD_cases s l y A B pat pat every _ rfl with ⟨c, hc, e⟩ | ⟨a, b, ps, fr, e, rfl, rfl, hab, hb, hg, hm, hps, hfr, he, hsp, hfe, hes, h1, hn, ed⟩
  · rw [e]
    exact Ev.neg hc (Ev.now _)
  · rw [ed]
    have hF : Fine s l y := ⟨hg, hl, hw, hy⟩
    have hr := bld_room s pat pat.size fr e ps hsp hes hF.size.1 hn
    refine Ev.pos rfl (Ev.bind (rapply_ok hF fr e _ _ hfe hes (bld_lab s pat l y pat.size fr e ps hsp hes hF.size.2) hr.1 (Int.le_trans (Int.le_of_eq hr.2) (Int.not_lt.1 hn))) (Ev.pos rfl (ev_val (Ev.now _) ?_)))
    show ((s.extract 0 fr ++ bld s pat pat.size fr ps e ++ s.extract e s.size).toList == s.toList) = true
    rw [bld_self s pat fr e ps hsp (by rw [hps]; exact hits_of (mayD_iff.1 hm).2.2.2.1 hab hb), pieces s fr e hfe hes]
    exact beq_self_eq_true _
end Go.Proofs.Ytnbdldpjiofafaa.PB
end

section
namespace Go.Proofs.Ytnbdldpjiofafaa.PB
open Go.ChangeShapes Go.WideShapes Go.ChangeAt Go.RowKit Go.Proofs.YtnbdldpjiofafaaW.PrintWords
open Go.ChangeMaps (open_string shut_string)
set_option linter.unusedVariables false
namespace substItself
open Go.Proofs.Ytnbdldpjiofafaa
theorem own : ownKnob Try.prog.godebug = none := by kernel_rfl
theorem laidOut : laidOutB Try.prog = true := by kernel_rfl
set_option maxRecDepth 100000 in
theorem lifted (os : Os) (started : os.Started) (H : Type) (enc : TypeId × Value → H) :
    ReturnsInHanded {} Try.checked os 6 .any (Rows.substItselfSpec.pre6 enc Try.prog Try.f6 Rows.substItselfRow.domain false) (Rows.substItselfSpec.post enc Try.prog Try.f6 false true false false) := by
  refine returnsInHanded_of_change_shaped (C := Try.checked) own started (by kernel_rfl) Try.func6
    (ChangeSpec.witness6 (enc := enc) (C := Try.checked) false ⟨#[], #[.agg #[.string ByteArray.empty, .slice none 0 0], .int .u64 0, .agg #[.int .i64 0, .int .i64 0, .string ByteArray.empty, .string ByteArray.empty, .bool false]], []⟩ 8 (by kernel_rfl) (by kernel_rfl) (by kernel_rfl) (by kernel_rfl)) ?_
  intro W base args ds gs before hval0 hW hcnd hsz0 hsh _
  have hsz : (DataW.weightsEach Try.prog (Try.f6.params.toList ++ Rows.substItselfSpec.plain.varTypes Try.prog) (ds ++ gs)).all (· ≤ reachBytes) = true := hsz0
  have hval : ∀ (j : Nat) t v, Try.f6.params[j]? = some t → args[j]? = some v → Value.okWide Try.prog W .any base t v := hval0
  have hW' := hW
  obtain ⟨p, q, hA0, hV, rfl, hfz, hnd⟩ := hW
  have hA : DataW.TrodAll enc Try.prog W 0 (fun _ => true) true Try.f6.params.toList args.toList ds p := hA0
  rw [Try.params6] at hA hval hsz
  obtain ⟨v0, vs0, d0, ds0, p0, q0, hargs, rfl, rfl, h0, r0⟩ := trodAll_cons hA
  obtain ⟨v1, vs1, d1, ds1, p1, q1, rfl, rfl, rfl, h1, r1⟩ := trodAll_cons r0
  obtain ⟨v2, vs2, d2, ds2, p2, q2, rfl, rfl, rfl, h2, r2⟩ := trodAll_cons r1
  obtain ⟨rfl, rfl, rfl⟩ := trodAll_nil r2
  obtain rfl : args = #[v0, v1, v2] := by cases args; simp_all
  obtain ⟨rfl, rfl⟩ := trodVars_none hV
  have hz0 : ∀ n ∈ d0.weights Try.prog 24, n ≤ reachBytes := fun n hn => by have z := List.all_eq_true.1 hsz n (DataW.weights_mem_each (j := 0) rfl rfl n hn); simpa using z
  have kk0 := h0
  have lt0 : ∀ x ∈ p0, x.block < W.heap.size := by obtain ⟨m, hm⟩ := kk0; exact DataW.trod_lt m _ _ _ hm
  obtain ⟨cs0, rfl, cz0⟩ := okWide_struct Try.underlying24 (hval 0 24 v0 rfl rfl)
  obtain ⟨x0, hK0, w0⟩ : ∃ x : S24, k24.K W x cs0.toList ∧ wf24 x := by
    obtain ⟨fuel, hf⟩ := h0
    exact opn24 H enc _ _ _ fuel _ _ hf hz0
  obtain ⟨A0_1, c0_1, hcs0, hc0_1, hr0_1⟩ := k24_open hK0
  obtain rfl : cs0 = #[.string x0.f0, .slice A0_1 x0.f1.length c0_1] := Array.toList_inj.1 hcs0
  obtain ⟨a1, rfl, rfl, rfl, w1⟩ := open_int Try.underlying26 (hval 1 26 v1 rfl rfl) h1
  have hz2 : ∀ n ∈ d2.weights Try.prog 28, n ≤ reachBytes := fun n hn => by have z := List.all_eq_true.1 hsz n (DataW.weights_mem_each (j := 2) rfl rfl n hn); simpa using z
  have kk2 := h2
  have lt2 : ∀ x ∈ p2, x.block < W.heap.size := by obtain ⟨m, hm⟩ := kk2; exact DataW.trod_lt m _ _ _ hm
  obtain ⟨cs2, rfl, cz2⟩ := okWide_struct Try.underlying28 (hval 2 28 v2 rfl rfl)
  obtain ⟨x2, hK2, w2⟩ : ∃ x : S28, k28.K W x cs2.toList ∧ wf28 x := by
    obtain ⟨fuel, hf⟩ := h2
    exact opn28 H enc _ _ _ fuel _ _ hf hz2
  obtain hcs2 := k28_open hK2
  obtain rfl : cs2 = #[.int .i64 x2.f0, .int .i64 x2.f1, .string x2.f2, .string x2.f3, .bool x2.f4] := Array.toList_inj.1 hcs2
  clear hA0 hval0 hsz0 hsz
  obtain ⟨k, hk⟩ := SubstItself_pure x0 a1 x2 w0 w1 w2
  refine (bureaulaw15_SubstItself.calls k x0.f0 _ _ x0.f1 a1 x2.f0 x2.f1 x2.f2 x2.f3 x2.f4 true W (Try.laysM143.s1_3 W hsh) hr0_1 hc0_1 hk).mono fun e W' ⟨he, bel⟩ => ?_
  subst he
  exact ⟨_, rfl, _, _, _, [], _, [], hW', trodAll_mk1 (shut_bool Try.underlying4 _), (trodAll_cons_mk (Below.trod laidOut (by kernel_rfl) (of_decide_eq_true (by kernel_rfl)) kk0 bel lt0) (trodAll_cons_mk (shut_int Try.underlying26 w1) (trodAll_cons_mk (Below.trod laidOut (by kernel_rfl) (of_decide_eq_true (by kernel_rfl)) kk2 bel lt2) trodAll_mk0))), rfl, bel.frame _, fun h => by cases h⟩
theorem over : Rows.substItselfRow.holds Try.pinned (OpenSpec.ofChange Rows.substItselfSpec) :=
  OpenClaim.holds_of_wide 6 Try.f6 rfl rfl rfl rfl rfl rfl rfl ⟨rfl, rfl, rfl, rfl, rfl⟩ rfl rfl rfl rfl rfl (by kernel_rfl) Try.func6 (by kernel_rfl)
    (of_decide_eq_true (by kernel_rfl)) (by unfold Func.isWrapper; first | (rw [if_pos (by decide +kernel)]; kernel_rfl) | (rw [if_neg (by decide +kernel)]; exact ⟨rfl, rfl⟩))
    (fun os started H enc _ => lifted os started H enc)
theorem proved : Rows.SubstItselfSaid := over
end substItself
end Go.Proofs.Ytnbdldpjiofafaa.PB
namespace Go.Proofs.Ytnbdldpjiofafaa
theorem substItself_holds : Rows.SubstItselfSaid := PB.substItself.proved
#print axioms substItself_holds
end Go.Proofs.Ytnbdldpjiofafaa
end
