/- The row of a law out of its contract and its pure theorem. No condition. -/
import Derived.Shelf.Strings.SlTrimAscii
import Derived.Laws.Cover4
import Derived.Test.YtjkfkiebhgkolaaGreatDoorRows
import Derived.Lib.LaidU8
import Derived.MakeChecks
import Derived.Test.YtjkfkiebhgkolaaGreatDoorRows
import Derived.Test.YtjkfkiebhgkolaaGreatDoorTie
import Derived.Test.YtjkfkiebhgkolaaGreatDoorCards
import Derived.LaidMore
import Derived.Lay
import Derived.Stop.Joined
import Derived.SevenTiedAt
import Derived.ProofKit
import Derived.ShutString
import Derived.ChangeOld
import Derived.Carry
import Derived.Test.YtjkfkiebhgkolaaGreatDoorQOperSwaps5
section
namespace Go.Proofs.YtjkfkiebhgkolaaGreatDoor.PB
open Go.RowKit Go.Maps Go.Proofs.YtjkfkiebhgkolaaGreatDoorW.PrintWords Go.Proofs.YtjkfkiebhgkolaaGreatDoorW.PrintLast Go.Proofs.YtjkfkiebhgkolaaGreatDoorW.PrintMore
set_option maxRecDepth 100000
set_option linter.unusedVariables false
set_option linter.unusedSimpArgs false
theorem view_small (s : ByteArray) (l : List S68) (y : Int) : (viewS s l y).1.size ≤ 4096 := by
 unfold viewS
 split
 ·rename_i h
  obtain ⟨g1, g2, g3, g4, g5⟩ := goodT_facts h
  show (strOfNums _).size ≤ _
  rw [strOfNums_size, hideAll_len, bytesOf_len, g3, Nat.min_self]
  exact g4
 ·exact Nat.zero_le _
theorem turnD_small (s : ByteArray) (l : List S68) (y : Int) (d : TX) (a b : Int) : (turnD s l y d a b).2.size ≤ 4096 := by
 unfold turnD
 split
 ·split
  ·exact view_small _ _ _
  ·exact Nat.zero_le _
 ·exact Nat.zero_le _
section
variable {w0 : World} {g : Nat} {A : Option Addr} {c : Nat} {ov : Value} {w W : World} {s : ByteArray} {l : List S68} {v : ByteArray} {y : Int} {d : TX}
set_option maxHeartbeats 2000000 in
theorem take_true (h : DeskAt w0 g A c ov w s l v y d0) (hv : v.size ≤ 100000) (hM : NumOk w) (op f t : Int) :
  Calls Tryz.prog 31 #[.pointer (some ⟨g, 0, none⟩), .int .i32 op, .agg #[.int .i64 f, .int .i64 t, .bool true]] w fun e w' => Out3 w w' e (takeD s l y v op f t true) := by
 have HD := aM h
 have HS := aM h.size
 have HM := aM hM
 unfold takeD
 generalize hbd : bytesD v f t true = bd
 obtain ⟨a, b⟩ := bd
 dsimp only
 rw [Bool.true_or]
 obtain ⟨k1, hk1⟩ := (cut_ev s l h.hl a b).rounds
 obtain ⟨k2, hk2⟩ := (whole_ev v hv f t).rounds
 generalize hxx : cutS s l a b = x at hk1 ⊢
 obtain ⟨x1, x2, x3⟩ := x
 dsimp only
 generalize hww : wholeS v f t = q at hk2 ⊢
 obtain ⟨q1, q2, q3⟩ := q
 dsimp only
 have hz2 := turnD_small s l y d0 q1 q2
 generalize hu : turnD s l y d0 a b = u
 obtain ⟨⟨u1, u2, u3, u4, u5, u6⟩, u7⟩ := u
 generalize hu2 : turnD s l y d0 q1 q2 = z at hz2 ⊢
 obtain ⟨⟨z1, z2, z3, z4, z5, z6⟩, z7⟩ := z
 dsimp only at hz2 ⊢
 have HU := aM hu
 have HU2 := aM hu2
 have HF1 := aM hk1
 have HF2 := aM hk2
 have HF3 := aM (show line_First.f z7 f = some (firstS z7 f : Int) from if_pos (by omega))
 clear hk1 hk2 hxx hu hu2 hww hz2
 generalize hR : (if op = 121 then _ else _) = r
 go_enter Tryz.func31, Tryz.ntmps31
 go_wp2_with (first
  | (refine gB 5 #[.int .i64 f, .int .i64 t, .bool true] 28 (fun gr hg W1 BR hb => ?_); have Ggr := g0 hg; replace HD := tl hb HD; have HB := aM hb; clear hb hg)
  | (refine gB 6 #[.int .i64 0, .string ⟨#[]⟩, .slice none 0 0, .string ⟨#[]⟩, .slice none 0 0, .string ⟨#[]⟩, .slice none 0 0, .bool false, .bool false, .int .i64 0] 38 (fun go hg W2 BO hb => ?_); have Ggo := gG hg HB; have Ngogr := gN hg BR; replace HD := tl hb HD; replace HB := tl hb HB; replace BR := tl hb BR; clear hb hg; replace hr0 := zC BR.out 0 (.int .i64 f); replace hr1 := zC BR.out 1 (.int .i64 t); replace hr2 := zC BR.out 2 (.bool true))
  | (refine gC (some 22) Tryz.func73 #[.pointer (some ⟨g, 0, none⟩), .agg #[.int .i64 f, .int .i64 t, .bool true]] ?_; (with_reducible refine (bytes_ok HD.out hv f t true).mono ?_); rintro e W3 ⟨hE, hb⟩; replace HD := tl hb HD; replace HB := tl hb HB; replace BR := tl hb BR; replace BO := tl hb BO; rw [hbd] at hE; obtain rfl := hE; refine ⟨_, rfl, ?_⟩; clear hb; replace hd0 := zC HD.out.hg 0 (.string s); replace hd1 := zC HD.out.hg 1 (.slice A l.length c); replace hr0 := zC BR.out 0 (.int .i64 f); replace hr1 := zC BR.out 1 (.int .i64 t); replace hr2 := zC BR.out 2 (.bool true))
  | (refine gC (some 32) Tryz.func74 #[.agg #[.string s, .slice A l.length c], .int .i64 a, .int .i64 b] ?_; (with_reducible refine (strip_Cut.calls k1 s A c l a b x1 x2 x3 _ HD.out.hC HD.out.hc HF1.out).mono ?_); rintro e W4 ⟨vx, rfl, ho, hb⟩; have HX := aM (rL ho HB.out.size); replace HD := tl hb HD; replace HB := tl hb HB; replace BR := tl hb BR; replace BO := tl hb BO; clear ho; refine ⟨_, rfl, ?_⟩; clear hb; replace hd0 := zC HD.out.hg 0 (.string s); replace hd1 := zC HD.out.hg 1 (.slice A l.length c); obtain ⟨Ax, cx, rfl⟩ := Kd.R_slice HX.out)
  | (refine gB 10 #[.string ⟨#[]⟩, .slice none 0 0] 24 (fun gx hg W5 BX hb => ?_); have Ggx := gG hg HB; have Ngxgr := gN hg BR; have Ngxgo := gN hg BO; replace HD := tl hb HD; replace HB := tl hb HB; replace BR := tl hb BR; replace BO := tl hb BO; replace HX := tl hb HX; clear hb hg)
  | (refine gS BX 0 [.string x1, .slice Ax x2.length cx] (fun W6 hP => ?_); replace HD := sD hP BX HS Ggx HD; replace HB := sW hP Ggx HB; replace BR := sB hP BX BR; replace BO := sB hP BX BO; replace HX := sR hP BX HX; replace BX := sX hP BX; clear hP)
  )
 have hb := below_drew1 (Below.refl W6.heap.size W6)
 replace HD := tl hb HD
 replace HB := tl hb HB
 replace BR := tl hb BR
 replace BO := tl hb BO
 replace HX := tl hb HX
 replace BX := tl hb BX
 clear hb
 refine oS1 22 (fun W => W.cell? ⟨gx, 0, none⟩ = some (.string x1) ∧ W.cell? ⟨gx, 1, none⟩ = some (.slice Ax x2.length cx) ∧ W.cell? ⟨gr, 2, none⟩ = some (.bool true)) [21] ⟨zC BX.out 0 _, zC BX.out 1 _, zC BR.out 2 _⟩ (fun hHeld => ?_)
 generalize W6.drew = W7 at HD HB BR BO HX BX hHeld ⊢
 refine sv 0 35 (z 22 1) ?_
 refine sv 1 36 (z 22 3) ?_
 refine sv 3 38 (z 22 11) ?_
 refine sv 6 41 (z 22 75) ?_
 refine sv 18 53 (z 22 262219) ?_
 refine st 2 37 (z 22 262223) hHeld ?_
 refine st 4 39 (z 22 262239) hHeld ?_
 refine sv 5 40 (z 22 262271) ?_
 refine st 7 42 (z 22 262399) hHeld ?_
 refine sv 8 43 (z 22 262655) ?_
 refine sv 9 44 (z 22 263167) ?_ (hy := by exact Or.inr ⟨by rfl, rfl⟩)
 refine sv 10 45 (z 22 264191) ?_ (hy := by exact Or.inr ⟨by rfl, rfl⟩)
 refine sv 11 46 (z 22 266239) ?_ (hy := by exact Or.inr ⟨by rfl, rfl⟩)
 refine sv 12 47 (z 22 270335) ?_ (hy := by exact Or.inr ⟨by rfl, rfl⟩)
 refine sv 13 48 (z 22 278527) ?_ (hy := by exact Or.inr ⟨by rfl, rfl⟩)
 refine sv 14 49 (z 22 294911) ?_ (hy := by exact Or.inr ⟨by rfl, rfl⟩)
 refine sv 15 50 (z 22 327679) ?_ (hy := by exact Or.inr ⟨by rfl, rfl⟩)
 refine join_ (σ := Nat) 1 (z 22 2097151) (fun s_ => [(51, undef), (12, .pointer (some ⟨s_, 0, none⟩)), (52, .bool true), (53, .int .i64 a), (54, .agg #[.int .i64 a, .string ⟨#[]⟩, .slice none 0 0, .string ⟨#[]⟩, .slice none 0 0, .string x1, .slice Ax x2.length cx, .bool true, .bool true, .int .i64 a])]) (fun s_ W => (W.cell? ⟨gx, 0, none⟩ = some (.string x1) ∧ W.cell? ⟨gx, 1, none⟩ = some (.slice Ax x2.length cx) ∧ W.cell? ⟨gr, 2, none⟩ = some (.bool true)) ∧ W.heap[go]? = some (.cells #[.int .i64 0, .string ⟨#[]⟩, .slice none 0 0, .string ⟨#[]⟩, .slice none 0 0, .string ⟨#[]⟩, .slice none 0 0, .bool false, .bool false, .int .i64 0] 38 (0, 0)) ∧ W.heap[s_]? = some (.cells #[.int .i64 0, .string ⟨#[]⟩, .slice none 0 0, .string ⟨#[]⟩, .slice none 0 0, .string ⟨#[]⟩, .slice none 0 0, .bool false, .bool false, .int .i64 0] 38 (0, 0)) ∧ W.heap[gr]? = some (.cells #[.int .i64 f, .int .i64 t, .bool true] 28 (0, 0)) ∧ W.heap[gx]? = some (.cells #[.string x1, .slice Ax x2.length cx] 24 (0, 0)) ∧ Below w.heap.size w W ∧ DeskAt w0 g A c ov W s l v y d0 ∧ Kd.R k68 68 W w.heap.size (fun _ => True) (.slice Ax x2.length cx : Value) x2 ∧ w.heap.size ≤ s_ ∧ s_ ≠ go ∧ s_ ≠ gr ∧ s_ ≠ gx) ?_ ?_
 rotate_left
 ·intro hCont
  refine two_ (i := 16) (j := 20) (Ni := some 51) (Nj := some 12) (z 22 393215) (z 22 1376255) rfl rfl rfl rfl (by kernel_rfl) (by decide) (by decide) (fun K hK => ?_) (fun K hK => ?_)
  ·refine off_ (by rfl) (hK.out _ _ ⟨zC BX.out 0 _, zC BX.out 1 _, zC BR.out 2 _⟩ (fun hHeld => ?_))
   clear hK K
   refine norm_ (a' := ?_) ?_ ?_
   rotate_left
   ·show Act.put _ (some 51) _ = _
    simp only [Act.put, List.setIfInBounds_toArray, List.set_cons_zero, List.set_cons_succ, i64_w, i32_w]
    rfl
   refine sv 17 52 (z 22 524287) ?_
   refine sv 19 54 (z 22 1048575) ?_
   refine one_ (i := 20) (N := some 12) (z 22 2097151) rfl rfl (by kernel_rfl) (by decide) (fun K hK => ?_)
   refine box_step ?hg (N := 12) ?hd (cs := #[.int .i64 0, .string ⟨#[]⟩, .slice none 0 0, .string ⟨#[]⟩, .slice none 0 0, .string ⟨#[]⟩, .slice none 0 0, .bool false, .bool false, .int .i64 0]) (t := 38) ?hr ?_; (case hd => rfl); (case hg => rfl); (case hr => first | (go_simp; done) | (go_simp; rfl))
   clear hHeld
   intro gp hg W8 hbox hb
   have Ggp := gG hg HB
   have Ngpgr := gN hg BR
   have Ngpgo := gN hg BO
   have Ngpgx := gN hg BX
   replace HD := tl hb HD
   replace HB := tl hb HB
   replace BR := tl hb BR
   replace BO := tl hb BO
   replace HX := tl hb HX
   replace BX := tl hb BX
   have BP := aM hbox
   refine hK.out _ _ ⟨zC BX.out 0 _, zC BX.out 1 _, zC BR.out 2 _⟩ (fun hHeld => ?_)
   clear hK K hb hbox hg
   refine norm_ (a' := ?_) ?_ ?_
   rotate_left
   ·show Act.put _ (some 12) _ = _
    simp only [Act.put, List.setIfInBounds_toArray, List.set_cons_zero, List.set_cons_succ, i64_w, i32_w]
    rfl
   exact norm_ (by simp only [Go.Proofs.YtjkfkiebhgkolaaGreatDoorW.PrintLast.putAll, Act.put, List.setIfInBounds_toArray, List.set_cons_zero, List.set_cons_succ]) (hCont gp _ ⟨hHeld, BO.out, BP.out, BR.out, BX.out, HB.out, HD.out, HX.out, Ggp.out, Ngpgo.out, Ngpgr.out, Ngpgx.out⟩)
  ·refine box_step ?hg (N := 12) ?hd (cs := #[.int .i64 0, .string ⟨#[]⟩, .slice none 0 0, .string ⟨#[]⟩, .slice none 0 0, .string ⟨#[]⟩, .slice none 0 0, .bool false, .bool false, .int .i64 0]) (t := 38) ?hr ?_; (case hd => rfl); (case hg => rfl); (case hr => first | (go_simp; done) | (go_simp; rfl))
   clear hHeld
   intro gp hg W8 hbox hb
   have Ggp := gG hg HB
   have Ngpgr := gN hg BR
   have Ngpgo := gN hg BO
   have Ngpgx := gN hg BX
   replace HD := tl hb HD
   replace HB := tl hb HB
   replace BR := tl hb BR
   replace BO := tl hb BO
   replace HX := tl hb HX
   replace BX := tl hb BX
   have BP := aM hbox
   refine hK.out _ _ ⟨zC BX.out 0 _, zC BX.out 1 _, zC BR.out 2 _⟩ (fun hHeld => ?_)
   clear hK K hb hbox hg
   refine norm_ (a' := ?_) ?_ ?_
   rotate_left
   ·show Act.put _ (some 12) _ = _
    simp only [Act.put, List.setIfInBounds_toArray, List.set_cons_zero, List.set_cons_succ, i64_w, i32_w]
    rfl
   refine one_ (i := 16) (N := some 51) (z 22 1441791) rfl rfl (by kernel_rfl) (by decide) (fun K hK => ?_)
   refine off_ (by rfl) (hK.out _ _ ⟨zC BX.out 0 _, zC BX.out 1 _, zC BR.out 2 _⟩ (fun hHeld => ?_))
   clear hK K
   refine norm_ (a' := ?_) ?_ ?_
   rotate_left
   ·show Act.put _ (some 51) _ = _
    simp only [Act.put, List.setIfInBounds_toArray, List.set_cons_zero, List.set_cons_succ, i64_w, i32_w]
    rfl
   refine sv 17 52 (z 22 1572863) ?_
   refine sv 19 54 (z 22 2097151) ?_
   exact norm_ (by simp only [Go.Proofs.YtjkfkiebhgkolaaGreatDoorW.PrintLast.putAll, Act.put, List.setIfInBounds_toArray, List.set_cons_zero, List.set_cons_succ]) (hCont gp _ ⟨hHeld, BO.out, BP.out, BR.out, BX.out, HB.out, HD.out, HX.out, Ggp.out, Ngpgo.out, Ngpgr.out, Ngpgx.out⟩)
 clear hHeld HD HB BR BO HX BX
 rintro gp W9 ⟨hHeld, x_0, x_1, x_2, x_3, x_4, x_5, x_6, x_7, x_8, x_9, x_10⟩
 try dsimp only at x_0 x_1 x_2 x_3 x_4 x_5 x_6 x_7 x_8 x_9 x_10
 have BO := aM x_0
 have BP := aM x_1
 have BR := aM x_2
 have BX := aM x_3
 have HB := aM x_4
 have HD := aM x_5
 have HX := aM x_6
 have Ggp := aM x_7
 have Ngpgo := aM x_8
 have Ngpgr := aM x_9
 have Ngpgx := aM x_10
 clear x_0 x_1 x_2 x_3 x_4 x_5 x_6 x_7 x_8 x_9 x_10
 refine norm_ (a' := ?_) ?_ ?_
 rotate_left
 ·simp only [Go.Proofs.YtjkfkiebhgkolaaGreatDoorW.PrintLast.putAll, Act.put, List.setIfInBounds_toArray, List.set_cons_zero, List.set_cons_succ, i64_w, i32_w]
  rfl
 refine lS 21 (z 22 4194303) BP 0 [.int .i64 a, .string ⟨#[]⟩, .slice none 0 0, .string ⟨#[]⟩, .slice none 0 0, .string x1, .slice Ax x2.length cx, .bool true, .bool true, .int .i64 a] (fun W10 hP => ?_)
 clear hHeld
 replace BO := sN hP Ngpgo BO
 replace BR := sB hP BP BR
 replace BX := sB hP BP BX
 replace HB := sW hP Ggp HB
 replace HD := sD hP BP HS Ggp HD
 replace HX := sR hP BP HX
 replace BP := sX hP BP
 clear hP
 refine done_ (by kernel_rfl) ?_
 by_cases h1 : op = 121
 ·have b1 : (op == 121) = true := beq_iff_eq.2 h1
  rw [if_pos h1] at hR
  subst hR
  replace hp0 := zC BP.out 0 (.int .i64 a)
  replace hp1 := zC BP.out 1 (.string ⟨#[]⟩)
  replace hp2 := zC BP.out 2 (.slice none 0 0)
  replace hp3 := zC BP.out 3 (.string ⟨#[]⟩)
  replace hp4 := zC BP.out 4 (.slice none 0 0)
  replace hp5 := zC BP.out 5 (.string x1)
  replace hp6 := zC BP.out 6 (.slice Ax x2.length cx)
  replace hp7 := zC BP.out 7 (.bool true)
  replace hp8 := zC BP.out 8 (.bool true)
  replace hp9 := zC BP.out 9 (.int .i64 a)
  go_wp2_with (first
   | (refine gS BO 0 [.int .i64 a, .string ⟨#[]⟩, .slice none 0 0, .string ⟨#[]⟩, .slice none 0 0, .string x1, .slice Ax x2.length cx, .bool true, .bool true, .int .i64 a] (fun W11 hP => ?_); replace BP := sM hP Ngpgo BP; replace BR := sB hP BO BR; replace BX := sB hP BO BX; replace HB := sW hP Ggo HB; replace HD := sD hP BO HS Ggo HD; replace HX := sR hP BO HX; replace BO := sX hP BO; clear hP)
   )
  refine bodyPost_ret (results_ct rfl _ _ go 38 #[.int .i64 a, .string ⟨#[]⟩, .slice none 0 0, .string ⟨#[]⟩, .slice none 0 0, .string x1, .slice Ax x2.length cx, .bool true, .bool true, .int .i64 a] (0, 0) _ rfl BO.out Tryz.underlying38 rfl (by kernel_rfl)) rfl ?_
  exact ⟨_, _, _, rfl, Kd.R_nil _ _ _ _ _, Kd.R_nil _ _ _ _ _, R_nil2 HX.out, HB.out⟩
 ·have b1 : (op == 121) = false := beq_eq_false_iff_ne.2 h1
  rw [if_neg h1] at hR
  by_cases h2 : op = 100
  ·have b2 : (op == 100) = true := beq_iff_eq.2 h2
   rw [if_pos ⟨h2, trivial⟩] at hR
   subst hR
   replace hr2 := zC BR.out 2 (.bool true)
   go_wp2
   clear hr2
   have hb := below_drew1 (Below.refl W10.heap.size W10)
   replace BO := tl hb BO
   replace BP := tl hb BP
   replace BR := tl hb BR
   replace BX := tl hb BX
   replace HB := tl hb HB
   replace HD := tl hb HD
   replace HX := tl hb HX
   clear hb
   refine oS1 16 (fun W => W.cell? ⟨g, 2, none⟩ = some (.string v) ∧ W.cell? ⟨gr, 0, none⟩ = some (.int .i64 f) ∧ W.cell? ⟨gr, 1, none⟩ = some (.int .i64 t)) [] ⟨zC HD.out.hg 2 _, zC BR.out 0 _, zC BR.out 1 _⟩ (fun hHeld => ?_)
   generalize W10.drew = W11 at BO BP BR BX HB HD HX hHeld ⊢
   refine sv 0 75 (z 16 1) ?_
   refine sv 1 76 (z 16 3) ?_
   refine sv 2 77 (z 16 7) ?_
   refine sv 4 79 (z 16 23) ?_
   refine sv 6 81 (z 16 87) ?_
   refine st 3 78 (z 16 95) hHeld ?_
   refine st 5 80 (z 16 127) hHeld ?_
   refine st 7 82 (z 16 255) hHeld ?_
   refine oC 8 (some 83) (z 16 511) Tryz.func76 #[.string v, .int .i64 f, .int .i64 t] ?_
   clear hHeld
   (with_reducible refine (line_Whole.calls k2 v f t q1 q2 q3 _ HF2.out).mono ?_)
   rintro e W12 ⟨rfl, hb⟩
   replace BO := tl hb BO
   replace BP := tl hb BP
   replace BR := tl hb BR
   replace BX := tl hb BX
   replace HB := tl hb HB
   replace HD := tl hb HD
   replace HX := tl hb HX
   refine ⟨_, rfl, ⟨zC HD.out.hg 2 _, zC BR.out 0 _, zC BR.out 1 _⟩, fun hHeld => nm ?_⟩
   clear hb
   refine sv 9 74 (z 16 1023) ?_
   refine sv 10 84 (z 16 2047) ?_
   refine sv 11 85 (z 16 4095) ?_
   refine sv 12 86 (z 16 8191) ?_
   refine sv 13 13 (z 16 16383) ?_
   refine sv 14 14 (z 16 32767) ?_
   refine sv 15 15 (z 16 65535) ?_
   refine done_ (by kernel_rfl) ?_
   clear hHeld
   go_wp2_with (first
    | (refine gC (some 91) Tryz.func50 #[.pointer (some ⟨g, 0, none⟩), .int .i64 q1, .int .i64 q2] ?_; (with_reducible refine (turn_at HD.out q1 q2 HU2.out).mono ?_); rintro e W13 ⟨vo, vn, rfl, ho, hn, hb⟩; have HO := aM (rL (Kd.R_new' ho (Kd.R_lt HX.out)) HB.out.size); have HN := aM (rL (Kd.R_new' hn (Kd.R_lt HX.out)) HB.out.size); have HY := aM (R_elder2 HX.out (Kd.R_base ho) (Kd.R_base hn) hb); clear HX; replace BO := tl hb BO; replace BP := tl hb BP; replace BR := tl hb BR; replace BX := tl hb BX; replace HB := tl hb HB; replace HD := tl hb HD; clear ho hn; refine ⟨_, rfl, ?_⟩; clear hb; obtain ⟨Ao, co, rfl⟩ := Kd.R_slice HO.out; obtain ⟨An, cn, rfl⟩ := Kd.R_slice HN.out)
    | (refine gB 16 #[.int .i64 0, .string ⟨#[]⟩, .slice none 0 0, .string ⟨#[]⟩, .slice none 0 0] 36 (fun gt hg W14 BT hb => ?_); have Ggt := gG hg HB; have Ngtgr := gN hg BR; have Ngtgo := gN hg BO; have Ngtgx := gN hg BX; have Ngtgp := gN hg BP; replace BO := tl hb BO; replace BP := tl hb BP; replace BR := tl hb BR; replace BX := tl hb BX; replace HB := tl hb HB; replace HD := tl hb HD; replace HO := tl hb HO; replace HN := tl hb HN; replace HY := tl hb HY; clear hb hg)
    | (refine gS BT 0 [.int .i64 z1, .string z2, .slice Ao z3.length co, .string z4, .slice An z5.length cn] (fun W15 hP => ?_); replace BO := sB hP BT BO; replace BP := sB hP BT BP; replace BR := sB hP BT BR; replace BX := sB hP BT BX; replace HB := sW hP Ggt HB; replace HD := sD hP BT HS Ggt HD; replace HO := sR hP BT HO; replace HN := sR hP BT HN; replace HY := sR hP BT HY; replace BT := sX hP BT; clear hP)
    )
   have hb := below_drew1 (Below.refl W15.heap.size W15)
   replace BO := tl hb BO
   replace BP := tl hb BP
   replace BR := tl hb BR
   replace BX := tl hb BX
   replace HB := tl hb HB
   replace HD := tl hb HD
   replace HO := tl hb HO
   replace HN := tl hb HN
   replace HY := tl hb HY
   replace BT := tl hb BT
   clear hb
   refine oS1 9 (fun W => W.cell? ⟨gt, 0, none⟩ = some (.int .i64 z1) ∧ W.cell? ⟨gt, 1, none⟩ = some (.string z2) ∧ W.cell? ⟨gt, 2, none⟩ = some (.slice Ao z3.length co) ∧ W.cell? ⟨gt, 3, none⟩ = some (.string z4) ∧ W.cell? ⟨gt, 4, none⟩ = some (.slice An z5.length cn) ∧ W.cell? ⟨gr, 0, none⟩ = some (.int .i64 f)) [] ⟨zC BT.out 0 _, zC BT.out 1 _, zC BT.out 2 _, zC BT.out 3 _, zC BT.out 4 _, zC BR.out 0 _⟩ (fun hHeld => ?_)
   generalize W15.drew = W16 at BO BP BR BX HB HD HO HN HY BT hHeld ⊢
   refine sv 1 96 (z 9 2) ?_
   refine sv 2 97 (z 9 6) ?_
   refine st 0 95 (z 9 7) hHeld ?_
   refine sv 5 100 (z 9 39) ?_
   refine st 3 98 (z 9 47) hHeld ?_
   refine oC 4 (some 99) (z 9 63) Tryz.func77 #[.string z7, .int .i64 f] ?_
   clear hHeld
   (with_reducible refine (line_First.calls z7 f _ _ (HM.out.below HB.out) HF3.out).mono ?_)
   rintro e W17 ⟨rfl, hb⟩
   replace BO := tl hb BO
   replace BP := tl hb BP
   replace BR := tl hb BR
   replace BX := tl hb BX
   replace HB := tl hb HB
   replace HD := tl hb HD
   replace HO := tl hb HO
   replace HN := tl hb HN
   replace HY := tl hb HY
   replace BT := tl hb BT
   refine ⟨_, rfl, ⟨zC BT.out 0 _, zC BT.out 1 _, zC BT.out 2 _, zC BT.out 3 _, zC BT.out 4 _, zC BR.out 0 _⟩, fun hHeld => nm ?_⟩
   clear hb
   refine oS 6 (z 9 127) BP 0 [.int .i64 z1, .string z2, .slice Ao z3.length co, .string z4, .slice An z5.length cn] (fun W18 hP => ?_)
   clear hHeld
   replace BO := sN hP Ngpgo BO
   replace BR := sB hP BP BR
   replace BX := sB hP BP BX
   replace HB := sW hP Ggp HB
   replace HD := sD hP BP HS Ggp HD
   replace HO := sR hP BP HO
   replace HN := sR hP BP HN
   replace HY := sR hP BP HY
   replace BT := sB hP BP BT
   replace BP := sX hP BP
   clear hP
   refine ⟨⟨zC BT.out 0 _, zC BT.out 1 _, zC BT.out 2 _, zC BT.out 3 _, zC BT.out 4 _, zC BR.out 0 _⟩, fun hHeld => ?_⟩
   refine sv 7 101 (z 9 255) ?_
   refine oS 8 (z 9 511) BP 9 [.int .i64 (firstS z7 f : Int)] (fun W19 hP => ?_)
   clear hHeld
   replace BO := sN hP Ngpgo BO
   replace BR := sB hP BP BR
   replace BX := sB hP BP BX
   replace HB := sW hP Ggp HB
   replace HD := sD hP BP HS Ggp HD
   replace HO := sR hP BP HO
   replace HN := sR hP BP HN
   replace HY := sR hP BP HY
   replace BT := sB hP BP BT
   replace BP := sX hP BP
   clear hP
   refine ⟨⟨zC BT.out 0 _, zC BT.out 1 _, zC BT.out 2 _, zC BT.out 3 _, zC BT.out 4 _, zC BR.out 0 _⟩, fun hHeld => ?_⟩
   refine done_ (by kernel_rfl) ?_
   clear hHeld
   replace hp0 := zC BP.out 0 (.int .i64 z1)
   replace hp1 := zC BP.out 1 (.string z2)
   replace hp2 := zC BP.out 2 (.slice Ao z3.length co)
   replace hp3 := zC BP.out 3 (.string z4)
   replace hp4 := zC BP.out 4 (.slice An z5.length cn)
   replace hp5 := zC BP.out 5 (.string x1)
   replace hp6 := zC BP.out 6 (.slice Ax x2.length cx)
   replace hp7 := zC BP.out 7 (.bool true)
   replace hp8 := zC BP.out 8 (.bool true)
   replace hp9 := zC BP.out 9 (.int .i64 (firstS z7 f : Int))
   go_wp2_with (first
    | (refine gS BO 0 [.int .i64 z1, .string z2, .slice Ao z3.length co, .string z4, .slice An z5.length cn, .string x1, .slice Ax x2.length cx, .bool true, .bool true, .int .i64 (firstS z7 f : Int)] (fun W20 hP => ?_); replace BP := sM hP Ngpgo BP; replace BR := sB hP BO BR; replace BX := sB hP BO BX; replace HB := sW hP Ggo HB; replace HD := sD hP BO HS Ggo HD; replace HO := sR hP BO HO; replace HN := sR hP BO HN; replace HY := sR hP BO HY; replace BT := sB hP BO BT; replace BO := sX hP BO; clear hP)
    )
   refine bodyPost_ret (results_ct rfl _ _ go 38 #[.int .i64 z1, .string z2, .slice Ao z3.length co, .string z4, .slice An z5.length cn, .string x1, .slice Ax x2.length cx, .bool true, .bool true, .int .i64 (firstS z7 f : Int)] (0, 0) _ rfl BO.out Tryz.underlying38 rfl (by kernel_rfl)) rfl ?_
   exact ⟨_, _, _, rfl, HO.out, HN.out, HY.out, HB.out⟩
  ·have b2 : (op == 100) = false := beq_eq_false_iff_ne.2 h2
   rw [if_neg (fun hh => h2 hh.1)] at hR
   subst hR
   replace hr2 := zC BR.out 2 (.bool true)
   go_wp2_with (first
    | (refine gC (some 59) Tryz.func50 #[.pointer (some ⟨g, 0, none⟩), .int .i64 a, .int .i64 b] ?_; (with_reducible refine (turn_at HD.out a b HU.out).mono ?_); rintro e W11 ⟨vo, vn, rfl, ho, hn, hb⟩; have HO := aM (rL (Kd.R_new' ho (Kd.R_lt HX.out)) HB.out.size); have HN := aM (rL (Kd.R_new' hn (Kd.R_lt HX.out)) HB.out.size); have HY := aM (R_elder2 HX.out (Kd.R_base ho) (Kd.R_base hn) hb); clear HX; replace BO := tl hb BO; replace BP := tl hb BP; replace BR := tl hb BR; replace BX := tl hb BX; replace HB := tl hb HB; replace HD := tl hb HD; clear ho hn; refine ⟨_, rfl, ?_⟩; clear hb; obtain ⟨Ao, co, rfl⟩ := Kd.R_slice HO.out; obtain ⟨An, cn, rfl⟩ := Kd.R_slice HN.out)
    | (refine gS BP 0 [.int .i64 u1, .string u2, .slice Ao u3.length co, .string u4, .slice An u5.length cn] (fun W12 hP => ?_); replace BO := sN hP Ngpgo BO; replace BR := sB hP BP BR; replace BX := sB hP BP BX; replace HB := sW hP Ggp HB; replace HD := sD hP BP HS Ggp HD; replace HO := sR hP BP HO; replace HN := sR hP BP HN; replace HY := sR hP BP HY; replace BP := sX hP BP; clear hP; replace hp0 := zC BP.out 0 (.int .i64 u1); replace hp1 := zC BP.out 1 (.string u2); replace hp2 := zC BP.out 2 (.slice Ao u3.length co); replace hp3 := zC BP.out 3 (.string u4); replace hp4 := zC BP.out 4 (.slice An u5.length cn); replace hp5 := zC BP.out 5 (.string x1); replace hp6 := zC BP.out 6 (.slice Ax x2.length cx); replace hp7 := zC BP.out 7 (.bool true); replace hp8 := zC BP.out 8 (.bool true); replace hp9 := zC BP.out 9 (.int .i64 a))
    | (refine gS BO 0 [.int .i64 u1, .string u2, .slice Ao u3.length co, .string u4, .slice An u5.length cn, .string x1, .slice Ax x2.length cx, .bool true, .bool true, .int .i64 a] (fun W13 hP => ?_); replace BP := sM hP Ngpgo BP; replace BR := sB hP BO BR; replace BX := sB hP BO BX; replace HB := sW hP Ggo HB; replace HD := sD hP BO HS Ggo HD; replace HO := sR hP BO HO; replace HN := sR hP BO HN; replace HY := sR hP BO HY; replace BO := sX hP BO; clear hP)
    )
   refine bodyPost_ret (results_ct rfl _ _ go 38 #[.int .i64 u1, .string u2, .slice Ao u3.length co, .string u4, .slice An u5.length cn, .string x1, .slice Ax x2.length cx, .bool true, .bool true, .int .i64 a] (0, 0) _ rfl BO.out Tryz.underlying38 rfl (by kernel_rfl)) rfl ?_
   exact ⟨_, _, _, rfl, HO.out, HN.out, HY.out, HB.out⟩
end
end Go.Proofs.YtjkfkiebhgkolaaGreatDoor.PB
end

section
namespace Go.Proofs.YtjkfkiebhgkolaaGreatDoor.PB
open Go.RowKit Go.Proofs.YtjkfkiebhgkolaaGreatDoorW.PrintWords
set_option linter.unusedVariables false
theorem trim_ok (s : ByteArray) (w : World) :
  Calls Tryz.prog 80 #[.string s, .string ⟨#[32, 9]⟩] w fun e w' => e = .returned (.string ⟨(Lib.trimLeftS s.data.toList [32, 9]).toArray⟩) ∧ Below w.heap.size w w' :=
 Go.Proofs.Any.strings_TrimLeft_laid Tryz.lays161 (by kernel_rfl) s ⟨#[32, 9]⟩ w (by decide) (fun j b h => by
  match j, h with
  | 0, h => cases h; decide
  | 1, h => cases h; decide
  | j + 2, h => cases h)
end Go.Proofs.YtjkfkiebhgkolaaGreatDoor.PB
end

section
namespace Go.Proofs.YtjkfkiebhgkolaaGreatDoor.PB
open Go.RowKit Go.Maps Go.Proofs.YtjkfkiebhgkolaaGreatDoorW.PrintWords Go.Proofs.YtjkfkiebhgkolaaGreatDoorW.PrintLast Go.Proofs.YtjkfkiebhgkolaaGreatDoorW.PrintMore
set_option maxRecDepth 100000
set_option linter.unusedVariables false
set_option linter.unusedSimpArgs false
attribute [local go_sem] max_two min_two
def Out4 (w0 : World) (g : Nat) (w w' : World) (e : Ending) (r : OX) : Prop := ∃ v2 v4 v6 : Value, e = .returned (.tuple #[.agg #[.int .i64 r.1, .string r.2.1, v2, .string r.2.2.2.1, v4, .string r.2.2.2.2.2.1, v6, .bool r.2.2.2.2.2.2.2.1, .bool r.2.2.2.2.2.2.2.2.1, .int .i64 r.2.2.2.2.2.2.2.2.2.1], .int .i64 r.2.2.2.2.2.2.2.2.2.2]) ∧
 Kd.R k68 68 w' w0.heap.size (fun k_ => some k_ ≠ (v4 : Value).ownBlock ∧ some k_ ≠ (v6 : Value).ownBlock) v2 r.2.2.1 ∧ Kd.R k68 68 w' w0.heap.size (fun k_ => some k_ ≠ (v2 : Value).ownBlock ∧ some k_ ≠ (v6 : Value).ownBlock) v4 r.2.2.2.2.1 ∧ Kd.R k68 68 w' w0.heap.size (fun k_ => some k_ ≠ (v2 : Value).ownBlock ∧ some k_ ≠ (v4 : Value).ownBlock) v6 r.2.2.2.2.2.2.1 ∧ Turn w0.heap.size (fun k => k = g) w w'
theorem Out3.four {w0 w w' : World} {e : Ending} {r : OX} (h : Out3 w w' e r) (hs : w0.heap.size ≤ w.heap.size) (g : Nat) : Out4 w0 g w w' e r := by
 obtain ⟨v2, v4, v6, h1, h2, h3, h4, h5⟩ := h
 exact ⟨v2, v4, v6, h1, rL h2 hs, rL h3 hs, rL h4 hs, Turn.of_below h5 hs⟩
theorem R_andnil {α : Type} {d : Kd α} {e base : Nat} {w : World} {u z : Value} {xs : List α} (h : d.R e w base (fun k => some k ≠ z.ownBlock) u xs) : d.R e w base (fun k => some k ≠ z.ownBlock ∧ some k ≠ (Value.slice none 0 0).ownBlock) u xs := rM h (fun k hk => ⟨hk, by simp [Value.ownBlock]⟩)
theorem wrap_small {x : Int} (h0 : 0 ≤ x) (h1 : x < 1000000000) : wrap64 x = x := by unfold wrap64; omega
theorem max_at (b a : Nat) : (if (b : Int) < (a : Int) then (a : Int) else (b : Int)) = ((max b a : Nat) : Int) := by
 split <;> omega
theorem trim_at (v : ByteArray) (n : Nat) (h : n < (ends v).length) : ∃ z : ByteArray, z.size + trimL v n = lineTo v n ∧ ∀ w : World, Calls Tryz.prog 80 #[.string (v.extract (lineFrom v n) (lineTo v n)), .string ⟨#[32, 9]⟩] w fun e w' => e = .returned (.string z) ∧ Below w.heap.size w w' :=
 ⟨_, trim_size h, fun w => trim_ok _ w⟩
section
variable {w0 : World} {g : Nat} {A : Option Addr} {c : Nat} {ov : Value} {w W : World} {s : ByteArray} {l : List S68} {v : ByteArray} {y : Int} {d : TX}
set_option maxHeartbeats 1000000 in
theorem join_ok (h : DeskAt w0 g A c ov w s l v y d0) (hv : v.size ≤ 100000) (f t : Int) (ln : Bool) (hr : rightD v f t ln = true) (ht : t ≤ 1000000) :
  Calls Tryz.prog 34 #[.pointer (some ⟨g, 0, none⟩), .agg #[.int .i64 f, .int .i64 t, .bool ln]] w fun e w' => Out4 w0 g w w' e (joinD s l y v f t ln) := by
 have HD := aM h
 have HS := aM h.size
 have HT := aM (Turn.refl w0.heap.size (fun k => k = g) w)
 have hrf := right_facts hr
 obtain ⟨a, b, hab, ha, hb0⟩ := linesD_nat hr
 have hnn := ends_len_le v
 have HCT := aM (count_ev v hv)
 unfold joinD
 rw [hab]
 dsimp only
 rw [Int.toNat_natCast, Int.toNat_natCast]
 obtain ⟨a1, ha1⟩ : ∃ a1 : Nat, a1 = a + 1 := ⟨_, rfl⟩
 rw [← ha1]
 obtain ⟨B, hB⟩ : ∃ B : Nat, B = max b a1 := ⟨_, rfl⟩
 rw [← hB]
 have E1 := aM (show wrap64 ((a : Int) + 1) = (a1 : Int) from by rw [ha1]; exact w1n (n := 200000) (by omega) (by omega))
 have HMM := aM (show Builtin.max2 (.int .i64 (b : Int)) (.int .i64 (a1 : Int)) = pure (.int .i64 (B : Int)) from by rw [max2_int, hB, max_at b a1])
 have HAB := aM hab
 have HTT := aM (show 0 ≤ t ∧ t ≤ 1000000 from ⟨by omega, ht⟩)
 have HN := aM hnn
 have HV := aM hv
 have HBB := aM (show a1 ≤ B ∧ B < 200000 ∧ a1 = a + 1 from ⟨by rw [hB]; omega, by rw [hB]; omega, ha1⟩)
 have HA := aM ha
 clear h hab hrf ht hnn hv hB ha1 hb0
 by_cases hc : (ends v).length ≤ B
 ·rw [if_pos hc]
  have p1 : ((B : Int) ≥ ((ends v).length : Int)) = True := eq_true (by omega)
  have p2 : (((ends v).length : Int) ≤ (B : Int)) = True := eq_true (by omega)
  have p3 : ((ends v).length ≤ B) = True := eq_true hc
  have e1 := E1.out
  have hm := HMM.out
  go_enter Tryz.func34, Tryz.ntmps34
  go_wp2_with (first
   | (refine gB 3 #[.int .i64 f, .int .i64 t, .bool ln] 28 (fun gr hg W1 BR hb => ?_); have Ggr := gT hg HT; replace HT := tU hb HD HT; replace HD := tl hb HD; clear hb hg)
   | (refine gB 4 #[.int .i64 0, .string ⟨#[]⟩, .slice none 0 0, .string ⟨#[]⟩, .slice none 0 0, .string ⟨#[]⟩, .slice none 0 0, .bool false, .bool false, .int .i64 0] 38 (fun go hg W2 BO hb => ?_); have Ggo := gT hg HT; have Ngogr := gN hg BR; replace HT := tU hb HD HT; replace HD := tl hb HD; replace BR := tl hb BR; clear hb hg; replace hr0 := zC BR.out 0 (.int .i64 f); replace hr1 := zC BR.out 1 (.int .i64 t); replace hr2 := zC BR.out 2 (.bool ln))
   | (refine gC (some 22) Tryz.func78 #[.pointer (some ⟨g, 0, none⟩), .agg #[.int .i64 f, .int .i64 t, .bool ln]] ?_; (with_reducible refine (lines_ok HD.out f t HTT.out ln).mono ?_); rintro e W3 ⟨hE, hb⟩; replace HT := tU hb HD HT; replace HD := tl hb HD; replace BR := tl hb BR; replace BO := tl hb BO; rw [HAB.out] at hE; obtain rfl := hE; refine ⟨_, rfl, ?_⟩; clear hb; replace hd2 := zC HD.out.hg 2 (.string v))
   | (refine gC (some 34) Tryz.func72 #[.string v] ?_; (with_reducible refine (line_Count.calls v _ _ HCT.out).mono ?_); rintro e W4 ⟨rfl, hb⟩; replace HT := tU hb HD HT; replace HD := tl hb HD; replace BR := tl hb BR; replace BO := tl hb BO; refine ⟨_, rfl, ?_⟩; clear hb; replace hd2 := zC HD.out.hg 2 (.string v))
   | (refine gS BO 0 [.int .i64 0, .string ⟨#[]⟩, .slice none 0 0, .string ⟨#[]⟩, .slice none 0 0, .string ⟨#[]⟩, .slice none 0 0, .bool false, .bool false, .int .i64 0] (fun W5 hP => ?_); replace HT := sT hP HS Ggo HT; replace HD := sD hP BO HS Ggo HD; replace BR := sB hP BO BR; replace BO := sX hP BO; clear hP; replace hd2 := zC HD.out.hg 2 (.string v))
   )
  refine bodyPost_ret (results_ct rfl _ _ go 38 #[.int .i64 0, .string ⟨#[]⟩, .slice none 0 0, .string ⟨#[]⟩, .slice none 0 0, .string ⟨#[]⟩, .slice none 0 0, .bool false, .bool false, .int .i64 0] (0, 0) _ rfl BO.out Tryz.underlying38 rfl (by kernel_rfl)) rfl ?_
  exact ⟨_, _, _, rfl, Kd.R_nil _ _ _ _ _, Kd.R_nil _ _ _ _ _, Kd.R_nil _ _ _ _ _, HT.out⟩
 ·rw [if_neg hc]
  have p1 : ((B : Int) ≥ ((ends v).length : Int)) = False := eq_false (by omega)
  have p2 : (((ends v).length : Int) ≤ (B : Int)) = False := eq_false (by omega)
  have p3 : ((ends v).length ≤ B) = False := eq_false hc
  have HC := aM hc
  generalize hR : joinL s l y v (B - a) a1 (keepD s l d0 (lineFrom v a : Int) (lineTo v a : Int)) 0 = R
  have HR := aM hR
  generalize hu : turnD s l y R.1 (lineFrom v a : Int) (lineTo v B : Int) = u
  have HU := aM hu
  obtain ⟨⟨u1, u2, u3, u4, u5, u6⟩, u7⟩ := u
  obtain ⟨k1, hk1⟩ := (bounds_ev v HV.out a (by omega)).rounds
  have HF1 := aM hk1
  clear hR hu hk1 hc
  unfold turnO
  dsimp only
  generalize hX : (if u6 = 0 then _ else _) = r
  have HX := aM hX
  clear hX
  have e1 := E1.out
  have hm := HMM.out
  go_enter Tryz.func34, Tryz.ntmps34
  go_wp2_with (first
   | (refine gB 3 #[.int .i64 f, .int .i64 t, .bool ln] 28 (fun gr hg W1 BR hb => ?_); have Ggr := gT hg HT; replace HT := tU hb HD HT; replace HD := tl hb HD; clear hb hg)
   | (refine gB 4 #[.int .i64 0, .string ⟨#[]⟩, .slice none 0 0, .string ⟨#[]⟩, .slice none 0 0, .string ⟨#[]⟩, .slice none 0 0, .bool false, .bool false, .int .i64 0] 38 (fun go hg W2 BO hb => ?_); have Ggo := gT hg HT; have Ngogr := gN hg BR; replace HT := tU hb HD HT; replace HD := tl hb HD; replace BR := tl hb BR; clear hb hg; replace hr0 := zC BR.out 0 (.int .i64 f); replace hr1 := zC BR.out 1 (.int .i64 t); replace hr2 := zC BR.out 2 (.bool ln))
   | (refine gC (some 22) Tryz.func78 #[.pointer (some ⟨g, 0, none⟩), .agg #[.int .i64 f, .int .i64 t, .bool ln]] ?_; (with_reducible refine (lines_ok HD.out f t HTT.out ln).mono ?_); rintro e W3 ⟨hE, hb⟩; replace HT := tU hb HD HT; replace HD := tl hb HD; replace BR := tl hb BR; replace BO := tl hb BO; rw [HAB.out] at hE; obtain rfl := hE; refine ⟨_, rfl, ?_⟩; clear hb; replace hd2 := zC HD.out.hg 2 (.string v))
   | (refine gC (some 34) Tryz.func72 #[.string v] ?_; (with_reducible refine (line_Count.calls v _ _ HCT.out).mono ?_); rintro e W4 ⟨rfl, hb⟩; replace HT := tU hb HD HT; replace HD := tl hb HD; replace BR := tl hb BR; replace BO := tl hb BO; refine ⟨_, rfl, ?_⟩; clear hb; replace hd2 := zC HD.out.hg 2 (.string v))
   | (refine gC (some 43) Tryz.func44 #[.string v, .int .i64 (a : Int)] ?_; (with_reducible refine (line_Bounds.calls k1 v (a : Int) _ _ _ _ HF1.out).mono ?_); rintro e W5 ⟨rfl, hb⟩; replace HT := tU hb HD HT; replace HD := tl hb HD; replace BR := tl hb BR; replace BO := tl hb BO; refine ⟨_, rfl, ?_⟩; clear hb; replace hd2 := zC HD.out.hg 2 (.string v))
   | (refine gC (some 50) Tryz.func79 #[.pointer (some ⟨g, 0, none⟩), .int .i64 (lineFrom v a : Int), .int .i64 (lineTo v a : Int)] ?_; (with_reducible refine (keep_ok HD.out (lineFrom v a : Int) (lineTo v a : Int)).mono ?_); rintro e W6 ⟨rfl, ov6, hD, hT⟩; replace HT := dT hT HT; replace BR := dB hT HD BR; replace BO := dB hT HD BO; replace HD := aM hD; refine ⟨_, rfl, ?_⟩; clear hD hT; replace hd2 := zC HD.out.hg 2 (.string v))
   )
  have HS1 := aM (show (keepD s l d0 (lineFrom v a : Int) (lineTo v a : Int)).1.size ≤ 4096 from keepD_small (Nat.zero_le _))
  try simp only [e1]
  go_loopg [9, 11, 12] (B - a) (fun kq v9 v11 v12 w' => ∃ (n q : Nat) (x : Int) (ov' : Value) (d' : TX), v9 = .int .i64 (lineTo v (n - 1) : Int) ∧ v11 = .int .i64 x ∧ Aside0 (x = ((lineFrom v a + q : Nat) : Int)) ∧ v12 = .int .i64 (n : Int) ∧ Aside0 (kq + n = B + 1) ∧ Aside0 (a1 ≤ n) ∧ Aside0 (q ≤ 4096) ∧ Aside0 (d'.1.size ≤ 4096) ∧ Aside0 (joinL s l y v kq n d' q = R) ∧ Aside0 (Turn w0.heap.size (fun k => k = g) w w') ∧ Aside0 (DeskAt w0 g A c ov' w' s l v y d') ∧ Aside0 (w'.heap[go]? = some (.cells #[.int .i64 0, .string ⟨#[]⟩, .slice none 0 0, .string ⟨#[]⟩, .slice none 0 0, .string ⟨#[]⟩, .slice none 0 0, .bool false, .bool false, .int .i64 0] 38 (0, 0))))
  case atStart => exact ⟨a1, 0, _, _, _, by rw [HBB.out.2.2]; rfl, rfl, ⟨rfl⟩, rfl, ⟨by have := HBB.out; omega⟩, ⟨Nat.le_refl _⟩, ⟨by omega⟩, HS1, HR, HT, HD, BO⟩
  case round =>
   clear HT HD BO BR e1 hm
   obtain ⟨n, q, x, ov', d', rfl, rfl, HXQ, rfl, HQ, HN1, HQ2, HDS, HR, HT, HD, BO⟩ := hrel
   cases gk with
   | zero =>
    have hn : n = B + 1 := by have := HQ.out; omega
    subst hn
    have pr1 : (((B + 1 : Nat) : Int) ≤ (B : Int)) = False := eq_false (by omega)
    have pr2 : (B + 1 ≤ B) = False := eq_false (by omega)
    have pr3 : ((B : Int) + 1 ≤ (B : Int)) = False := eq_false (by omega)
    have hRR := HR.out
    rw [show joinL s l y v 0 (B + 1) d' q = (d', q) from rfl] at hRR
    subst hRR
    dsimp only at HU HX
    by_cases h6 : u6 = 0
    ·subst h6
     have hX := HX.out
     rw [if_pos rfl, ← HXQ.out] at hX
     subst hX
     clear HX
     go_wp2_with (first
      | (refine gC (some 102) Tryz.func50 #[.pointer (some ⟨g, 0, none⟩), .int .i64 (lineFrom v a : Int), .int .i64 (lineTo v B : Int)] ?_; (with_reducible refine (turn_at HD.out (lineFrom v a : Int) (lineTo v B : Int) HU.out).mono ?_); rintro e W8 ⟨vo, vn, rfl, ho, hn, hb⟩; have HO := aM (rL ho HD.out.size); have HN := aM (rL hn HD.out.size); replace HT := tU hb HD HT; replace HD := tl hb HD; replace BO := tl hb BO; clear ho hn; refine ⟨_, rfl, ?_⟩; clear hb; obtain ⟨Ao, co, rfl⟩ := Kd.R_slice HO.out; obtain ⟨An, cn, rfl⟩ := Kd.R_slice HN.out)
      | (refine gB 16 #[.int .i64 0, .string ⟨#[]⟩, .slice none 0 0, .string ⟨#[]⟩, .slice none 0 0] 36 (fun gt hg W9 BT hb => ?_); have Ggt := gT hg HT; have Ngtgo := gN hg BO; replace HT := tU hb HD HT; replace HD := tl hb HD; replace BO := tl hb BO; replace HO := tl hb HO; replace HN := tl hb HN; clear hb hg)
      | (refine gS BT 0 [.int .i64 u1, .string u2, .slice Ao u3.length co, .string u4, .slice An u5.length cn] (fun W10 hP => ?_); replace HT := sT hP HS Ggt HT; replace HD := sD hP BT HS Ggt HD; replace BO := sB hP BT BO; replace HO := sR hP BT HO; replace HN := sR hP BT HN; replace BT := sX hP BT; clear hP; replace ht0 := zC BT.out 0 (.int .i64 u1); replace ht1 := zC BT.out 1 (.string u2); replace ht2 := zC BT.out 2 (.slice Ao u3.length co); replace ht3 := zC BT.out 3 (.string u4); replace ht4 := zC BT.out 4 (.slice An u5.length cn))
      | (refine gS BO 0 [.int .i64 u1, .string u2, .slice Ao u3.length co, .string u4, .slice An u5.length cn, .string ⟨#[]⟩, .slice none 0 0, .bool false, .bool false, .int .i64 x] (fun W11 hP => ?_); replace HT := sT hP HS Ggo HT; replace HD := sD hP BO HS Ggo HD; replace HO := sR hP BO HO; replace HN := sR hP BO HN; replace BT := sB hP BO BT; replace BO := sX hP BO; clear hP)
      )
     refine bodyPost_ret (results_ct rfl _ _ go 38 #[.int .i64 u1, .string u2, .slice Ao u3.length co, .string u4, .slice An u5.length cn, .string ⟨#[]⟩, .slice none 0 0, .bool false, .bool false, .int .i64 x] (0, 0) _ rfl BO.out Tryz.underlying38 rfl (by kernel_rfl)) rfl ?_
     exact ⟨_, _, _, rfl, R_andnil HO.out, R_andnil HN.out, Kd.R_nil _ _ _ _ _, HT.out⟩
    ·have b3 : (u6 != 0) = true := bne_iff_ne.2 h6
     have b4 : (u6 == 0) = false := beq_eq_false_iff_ne.2 h6
     have hX := HX.out
     rw [if_neg h6] at hX
     subst hX
     clear HX h6
     go_wp2_with (first
      | (refine gC (some 102) Tryz.func50 #[.pointer (some ⟨g, 0, none⟩), .int .i64 (lineFrom v a : Int), .int .i64 (lineTo v B : Int)] ?_; (with_reducible refine (turn_at HD.out (lineFrom v a : Int) (lineTo v B : Int) HU.out).mono ?_); rintro e W8 ⟨vo, vn, rfl, ho, hn, hb⟩; have HO := aM (rL ho HD.out.size); have HN := aM (rL hn HD.out.size); replace HT := tU hb HD HT; replace HD := tl hb HD; replace BO := tl hb BO; clear ho hn; refine ⟨_, rfl, ?_⟩; clear hb; obtain ⟨Ao, co, rfl⟩ := Kd.R_slice HO.out; obtain ⟨An, cn, rfl⟩ := Kd.R_slice HN.out)
      | (refine gB 16 #[.int .i64 0, .string ⟨#[]⟩, .slice none 0 0, .string ⟨#[]⟩, .slice none 0 0] 36 (fun gt hg W9 BT hb => ?_); have Ggt := gT hg HT; have Ngtgo := gN hg BO; replace HT := tU hb HD HT; replace HD := tl hb HD; replace BO := tl hb BO; replace HO := tl hb HO; replace HN := tl hb HN; clear hb hg)
      | (refine gS BT 0 [.int .i64 u1, .string u2, .slice Ao u3.length co, .string u4, .slice An u5.length cn] (fun W10 hP => ?_); replace HT := sT hP HS Ggt HT; replace HD := sD hP BT HS Ggt HD; replace BO := sB hP BT BO; replace HO := sR hP BT HO; replace HN := sR hP BT HN; replace BT := sX hP BT; clear hP; replace ht0 := zC BT.out 0 (.int .i64 u1); replace ht1 := zC BT.out 1 (.string u2); replace ht2 := zC BT.out 2 (.slice Ao u3.length co); replace ht3 := zC BT.out 3 (.string u4); replace ht4 := zC BT.out 4 (.slice An u5.length cn))
      | (refine gS BO 0 [.int .i64 0, .string ⟨#[]⟩, .slice none 0 0, .string ⟨#[]⟩, .slice none 0 0, .string ⟨#[]⟩, .slice none 0 0, .bool false, .bool false, .int .i64 0] (fun W11 hP => ?_); replace HT := sT hP HS Ggo HT; replace HD := sD hP BO HS Ggo HD; replace HO := sR hP BO HO; replace HN := sR hP BO HN; replace BT := sB hP BO BT; replace BO := sX hP BO; clear hP)
      )
     refine bodyPost_ret (results_ct rfl _ _ go 38 #[.int .i64 0, .string ⟨#[]⟩, .slice none 0 0, .string ⟨#[]⟩, .slice none 0 0, .string ⟨#[]⟩, .slice none 0 0, .bool false, .bool false, .int .i64 0] (0, 0) _ rfl BO.out Tryz.underlying38 rfl (by kernel_rfl)) rfl ?_
     exact ⟨_, _, _, rfl, Kd.R_nil _ _ _ _ _, Kd.R_nil _ _ _ _ _, Kd.R_nil _ _ _ _ _, HT.out⟩
   | succ k1 =>
    have hnB : n ≤ B := by have := HQ.out; omega
    have hnE : n < (ends v).length := by have := HC.out; omega
    obtain ⟨z, hz, HZ⟩ := trim_at v n hnE
    have hlr := line_range v n hnE
    have htr := trimL_range hnE
    obtain ⟨kb, hkb⟩ := (bounds_ev v HV.out n hnE).rounds
    have HKB := aM hkb
    have hla := line_range v a HA.out
    have E2 := aM (show wrap64 ((lineTo v n : Int) - (z.size : Int)) = (trimL v n : Int) from by have := HV.out; rw [show (lineTo v n : Int) - (z.size : Int) = (trimL v n : Int) from by omega]; exact wrap_small (by omega) (by omega))
    have E3 := aM (show wrap64 ((lineFrom v a : Int) + (d'.1.size : Int)) = ((lineFrom v a + d'.1.size : Nat) : Int) from by have := HV.out; have := HDS.out; rw [← Int.natCast_add]; exact wrap_small (by omega) (by omega))
    have E4 := aM (show wrap64 ((n : Int) + 1) = ((n + 1 : Nat) : Int) from w1n (n := 200000) (by have := HBB.out; omega) (by omega))
    have pr1 : ((n : Int) ≤ (B : Int)) = True := eq_true (by omega)
    have pr2 : (n ≤ B) = True := eq_true hnB
    have q1 : (0 ≤ (lineFrom v n : Int)) = True := eq_true (by omega)
    have q2 : ((lineFrom v n : Int) ≤ (lineTo v n : Int)) = True := eq_true (by omega)
    have q3 : ((lineTo v n : Int) ≤ (v.size : Int)) = True := eq_true (by omega)
    have q4 : (lineFrom v n ≤ lineTo v n) = True := eq_true (by omega)
    have q5 : (lineTo v n ≤ v.size) = True := eq_true (by omega)
    by_cases htl : trimL v n < lineTo v n
    ·have r1 : ((trimL v n : Int) < (lineTo v n : Int)) = True := eq_true (by omega)
     have r2 : (trimL v n < lineTo v n) = True := eq_true htl
     have e2 := E2.out
     have e3 := E3.out
     have e4 := E4.out
     replace hd2 := zC HD.out.hg 2 (.string v)
     replace hd4 := zC HD.out.hg 4 (.string d'.1)
     clear hlr htr hla hkb hz
     go_wp2_with (first
      | (refine gC (some 65) Tryz.func44 #[.string v, .int .i64 (n : Int)] ?_; (with_reducible refine (line_Bounds.calls kb v (n : Int) _ _ _ _ HKB.out).mono ?_); rintro e W8 ⟨rfl, hb⟩; replace HT := tU hb HD HT; replace HD := tl hb HD; replace BO := tl hb BO; refine ⟨_, rfl, ?_⟩; clear hb; replace hd2 := zC HD.out.hg 2 (.string v); replace hd4 := zC HD.out.hg 4 (.string d'.1))
      | (refine gC (some 77) Tryz.func80 #[.string (v.extract (lineFrom v n) (lineTo v n)), .string ⟨#[32, 9]⟩] ?_; (with_reducible refine (HZ _).mono ?_); rintro e W9 ⟨rfl, hb⟩; replace HT := tU hb HD HT; replace HD := tl hb HD; replace BO := tl hb BO; refine ⟨_, rfl, ?_⟩; clear hb; replace hd2 := zC HD.out.hg 2 (.string v); replace hd4 := zC HD.out.hg 4 (.string d'.1))
      | (refine gC (some 92) Tryz.func48 #[.pointer (some ⟨g, 0, none⟩), .string ⟨#[32]⟩] ?_; (with_reducible refine (write_ok HD.out ⟨#[32]⟩).mono ?_); rintro e W10 ⟨rfl, ov10, hD, hT⟩; replace HT := dT hT HT; replace BO := dB hT HD BO; replace HD := aM hD; refine ⟨_, rfl, ?_⟩; clear hD hT)
      | (refine gC (some 96) Tryz.func79 #[.pointer (some ⟨g, 0, none⟩), .int .i64 (trimL v n : Int), .int .i64 (lineTo v n : Int)] ?_ (hargs := by (try simp only [List.map_toArray, List.map_cons, List.map_nil]); first | done | rfl | (rw [← E2.out]; rfl)); (with_reducible refine (keep_ok HD.out (trimL v n : Int) (lineTo v n : Int)).mono ?_); rintro e W11 ⟨rfl, ov11, hD, hT⟩; replace HT := dT hT HT; replace BO := dB hT HD BO; replace HD := aM hD; refine ⟨_, rfl, ?_⟩; clear hD hT)
      )
     go_roundg k1
     case measure => exact Nat.lt_succ_self k1
     case rel =>
      clear e2 e3 e4
      refine ⟨n + 1, d'.1.size, _, _, _, rfl, rfl, ⟨?_⟩, congrArg (Value.int IntKind.i64) E4.out, ⟨by have := HQ.out; omega⟩, ⟨by have := HN1.out; omega⟩, HDS, ⟨keepD_small (writeD_small HDS.out)⟩, ⟨?_⟩, HT, HD, BO⟩
      ·first | exact E3.out | exact (Int.natCast_add _ _).symm | rfl
      rw [← HR.out]
      show _ = joinL s l y v k1 (n + 1) (joinOne s l y v n d') d'.1.size
      unfold joinOne
      rw [if_pos htl]
    ·have r1 : ((trimL v n : Int) < (lineTo v n : Int)) = False := eq_false (by omega)
     have r2 : (trimL v n < lineTo v n) = False := eq_false htl
     have e2 := E2.out
     have e3 := E3.out
     have e4 := E4.out
     replace hd2 := zC HD.out.hg 2 (.string v)
     replace hd4 := zC HD.out.hg 4 (.string d'.1)
     clear hlr htr hla hkb hz
     go_wp2_with (first
      | (refine gC (some 65) Tryz.func44 #[.string v, .int .i64 (n : Int)] ?_; (with_reducible refine (line_Bounds.calls kb v (n : Int) _ _ _ _ HKB.out).mono ?_); rintro e W8 ⟨rfl, hb⟩; replace HT := tU hb HD HT; replace HD := tl hb HD; replace BO := tl hb BO; refine ⟨_, rfl, ?_⟩; clear hb; replace hd2 := zC HD.out.hg 2 (.string v); replace hd4 := zC HD.out.hg 4 (.string d'.1))
      | (refine gC (some 77) Tryz.func80 #[.string (v.extract (lineFrom v n) (lineTo v n)), .string ⟨#[32, 9]⟩] ?_; (with_reducible refine (HZ _).mono ?_); rintro e W9 ⟨rfl, hb⟩; replace HT := tU hb HD HT; replace HD := tl hb HD; replace BO := tl hb BO; refine ⟨_, rfl, ?_⟩; clear hb; replace hd2 := zC HD.out.hg 2 (.string v); replace hd4 := zC HD.out.hg 4 (.string d'.1))
      | (refine gC (some 96) Tryz.func79 #[.pointer (some ⟨g, 0, none⟩), .int .i64 (trimL v n : Int), .int .i64 (lineTo v n : Int)] ?_ (hargs := by (try simp only [List.map_toArray, List.map_cons, List.map_nil]); first | done | rfl | (rw [← E2.out]; rfl)); (with_reducible refine (keep_ok HD.out (trimL v n : Int) (lineTo v n : Int)).mono ?_); rintro e W10 ⟨rfl, ov10, hD, hT⟩; replace HT := dT hT HT; replace BO := dB hT HD BO; replace HD := aM hD; refine ⟨_, rfl, ?_⟩; clear hD hT)
      )
     go_roundg k1
     case measure => exact Nat.lt_succ_self k1
     case rel =>
      clear e2 e3 e4
      refine ⟨n + 1, d'.1.size, _, _, _, rfl, rfl, ⟨?_⟩, congrArg (Value.int IntKind.i64) E4.out, ⟨by have := HQ.out; omega⟩, ⟨by have := HN1.out; omega⟩, HDS, ⟨keepD_small HDS.out⟩, ⟨?_⟩, HT, HD, BO⟩
      ·first | exact E3.out | exact (Int.natCast_add _ _).symm | rfl
      rw [← HR.out]
      show _ = joinL s l y v k1 (n + 1) (joinOne s l y v n d') d'.1.size
      unfold joinOne
      rw [if_neg htl]
end
end Go.Proofs.YtjkfkiebhgkolaaGreatDoor.PB
end

section
namespace Go.Proofs.YtjkfkiebhgkolaaGreatDoor.PB
open Go.RowKit Go.Proofs.YtjkfkiebhgkolaaGreatDoorW.PrintWords Go.Proofs.YtjkfkiebhgkolaaGreatDoorW.PrintLast Go.Proofs.YtjkfkiebhgkolaaGreatDoorW.PrintMore
attribute [local go_sem] max2_int min2_int max_two min_two max_three min_three max_four min_four   
set_option linter.unusedVariables false
set_option linter.unusedSimpArgs false
def keys_May.f (a0 : Int) : Option (Bool) := if a0 ≥ 1 then (if a0 ≤ 27 then (some true) else (if a0 ≥ 32 then (if a0 = 127 then (some false) else ((utf8_ValidRune.f a0).bind fun t206 => (some t206))) else (some false))) else (if a0 ≥ 32 then (if a0 = 127 then (some false) else ((utf8_ValidRune.f a0).bind fun t207 => (some t207))) else (some false))
set_option maxHeartbeats 8000000 in
set_option maxRecDepth 100000 in
theorem keys_May.calls (a0 : Int) (r : Bool) (w : World) (h : keys_May.f a0 = some r) :
  Calls Tryz.prog 42 #[.int .i32 a0] w fun e w' => e = .returned (.bool r) ∧ Below w.heap.size w w' := by
 have HB := aM (Below.refl w.heap.size w)
 have H : (if a0 ≥ 1 then (if a0 ≤ 27 then (some true) else (if a0 ≥ 32 then (if a0 = 127 then (some false) else ((utf8_ValidRune.f a0).bind fun t206 => (some t206))) else (some false))) else (if a0 ≥ 32 then (if a0 = 127 then (some false) else ((utf8_ValidRune.f a0).bind fun t207 => (some t207))) else (some false))) = some r := h
 clear h
 by_cases c2 : a0 ≥ 1
 ·rw [if_pos c2] at H
  have c2b0 : decide (1 ≤ a0) = true := decide_eq_true c2
  clear c2
  by_cases c3 : a0 ≤ 27
  ·rw [if_pos c3] at H
   have c3b0 : decide (a0 ≤ 27) = true := decide_eq_true c3
   clear c3
   obtain rfl := Option.some.inj H
   go_enter Tryz.func42, Tryz.ntmps42
   go_wp2
   go_ret
   exact ⟨ye, by exact ey HB.out⟩
  ·rw [if_neg c3] at H
   have c3b0 : decide (a0 ≤ 27) = false := decide_eq_false c3
   clear c3
   by_cases c4 : a0 ≥ 32
   ·rw [if_pos c4] at H
    have c4b0 : decide (32 ≤ a0) = true := decide_eq_true c4
    clear c4
    by_cases c5 : a0 = 127
    ·rw [if_pos c5] at H
     have c5b0 : (a0 == 127) = true := beq_iff_eq.mpr c5
     have c5b1 : (a0 != 127) = false := bne_eq_false_iff_eq.mpr c5
     clear c5
     obtain rfl := Option.some.inj H
     go_enter Tryz.func42, Tryz.ntmps42
     go_wp2
     go_ret
     exact ⟨ye, by exact ey HB.out⟩
    ·rw [if_neg c5] at H
     have c5b0 : (a0 == 127) = false := beq_eq_false_iff_ne.mpr c5
     have c5b1 : (a0 != 127) = true := bne_iff_ne.mpr c5
     replace H := Option.bind_eq_some_iff.mp H
     obtain ⟨t206, A60, H⟩ := H
     replace H : (some t206) = some r := H
     have A6 := aM A60
     clear A60
     obtain rfl := Option.some.inj H
     go_enter Tryz.func42, Tryz.ntmps42
     go_wp2_with (first | (go_at_call 91; (with_reducible refine (utf8_ValidRune.calls a0 t206 _ A6.out).mono ?_); rintro e w7 ⟨rfl, hb⟩; replace HB := yP w hb; clear hb))
     go_ret
     exact ⟨ye, by exact ey HB.out⟩
   ·rw [if_neg c4] at H
    have c4b0 : decide (32 ≤ a0) = false := decide_eq_false c4
    clear c4
    obtain rfl := Option.some.inj H
    go_enter Tryz.func42, Tryz.ntmps42
    go_wp2
    go_ret
    exact ⟨ye, by exact ey HB.out⟩
 ·rw [if_neg c2] at H
  have c2b0 : decide (1 ≤ a0) = false := decide_eq_false c2
  clear c2
  by_cases c8 : a0 ≥ 32
  ·rw [if_pos c8] at H
   have c8b0 : decide (32 ≤ a0) = true := decide_eq_true c8
   clear c8
   by_cases c9 : a0 = 127
   ·rw [if_pos c9] at H
    have c9b0 : (a0 == 127) = true := beq_iff_eq.mpr c9
    have c9b1 : (a0 != 127) = false := bne_eq_false_iff_eq.mpr c9
    clear c9
    obtain rfl := Option.some.inj H
    go_enter Tryz.func42, Tryz.ntmps42
    go_wp2
    go_ret
    exact ⟨ye, by exact ey HB.out⟩
   ·rw [if_neg c9] at H
    have c9b0 : (a0 == 127) = false := beq_eq_false_iff_ne.mpr c9
    have c9b1 : (a0 != 127) = true := bne_iff_ne.mpr c9
    replace H := Option.bind_eq_some_iff.mp H
    obtain ⟨t207, A100, H⟩ := H
    replace H : (some t207) = some r := H
    have A10 := aM A100
    clear A100
    obtain rfl := Option.some.inj H
    go_enter Tryz.func42, Tryz.ntmps42
    go_wp2_with (first | (go_at_call 91; (with_reducible refine (utf8_ValidRune.calls a0 t207 _ A10.out).mono ?_); rintro e w11 ⟨rfl, hb⟩; replace HB := yP w hb; clear hb))
    go_ret
    exact ⟨ye, by exact ey HB.out⟩
  ·rw [if_neg c8] at H
   have c8b0 : decide (32 ≤ a0) = false := decide_eq_false c8
   clear c8
   obtain rfl := Option.some.inj H
   go_enter Tryz.func42, Tryz.ntmps42
   go_wp2
   go_ret
   exact ⟨ye, by exact ey HB.out⟩
def oper_often.f (a0 : Int) : Option (Int) := some (mn (mx a0 1) 999)
set_option maxHeartbeats 8000000 in
set_option maxRecDepth 100000 in
theorem oper_often.calls (a0 : Int) (r : Int) (w : World) (h : oper_often.f a0 = some r) :
  Calls Tryz.prog 46 #[.int .i64 a0] w fun e w' => e = .returned (.int .i64 r) ∧ Below w.heap.size w w' := by
 have HB := aM (Below.refl w.heap.size w)
 have H : (some (mn (mx a0 1) 999)) = some r := h
 clear h
 obtain ⟨ji2, hji2⟩ : ∃ j_ : Int, (mx a0 1) = j_ := ⟨_, rfl⟩
 replace H : (some (mn (ji2) 999)) = some r := by first | (rw [hji2] at H; exact H) | (simp only [hji2] at H ⊢; exact H)
 (try (have hji2l : 1 ≤ ji2 := by (rw [← hji2]; unfold mx; (repeat' split) <;> omega)))
 (try (have hji2m : 0 ≤ ji2 := by omega))
 have hji2_ : (if a0 < 1 then 1 else a0) = ji2 := hji2
 obtain ⟨ji3, hji3⟩ : ∃ j_ : Int, (mn (ji2) 999) = j_ := ⟨_, rfl⟩
 replace H : (some ji3) = some r := by first | (rw [hji3] at H; exact H) | (simp only [hji3] at H ⊢; exact H)
 have hji3_ : (if 999 < (ji2) then 999 else (ji2)) = ji3 := hji3
 obtain rfl := Option.some.inj H
 go_enter Tryz.func46, Tryz.ntmps46
 go_wp2
 go_ret
 exact ⟨by first | rfl | (simp [errW_none, errW_some] <;> rfl) | (simp only [← hji2, ← hji3]; first | rfl | (simp [errW_none, errW_some] <;> rfl)) | (simp [*, errW_none, errW_some] <;> rfl), by exact ey HB.out⟩
end Go.Proofs.YtjkfkiebhgkolaaGreatDoor.PB
end

section
namespace Go.Proofs.YtjkfkiebhgkolaaGreatDoor.PB
open Go.RowKit Go.Maps Go.Proofs.YtjkfkiebhgkolaaGreatDoorW.PrintWords Go.Proofs.YtjkfkiebhgkolaaGreatDoorW.PrintLast Go.Proofs.YtjkfkiebhgkolaaGreatDoorW.PrintMore
set_option maxRecDepth 100000
set_option linter.unusedVariables false
set_option linter.unusedSimpArgs false
theorem often_eq (n : Int) : oper_often.f n = some (oftenN n : Int) := by
 unfold oper_often.f
 congr 1
 unfold mn mx oftenN
 omega
theorem often_range (n : Int) : 1 ≤ oftenN n ∧ oftenN n ≤ 999 := by unfold oftenN; omega
def mayB (k : Int) : Bool := decide ((1 ≤ k ∧ k ≤ 27) ∨ (32 ≤ k ∧ k ≠ 127 ∧ Lib.validRune k = true))
theorem may_eq (k : Int) : keys_May.f k = some (mayB k) := by
 unfold keys_May.f mayB utf8_ValidRune.f
 by_cases h1 : k ≥ 1
 ·rw [if_pos h1]
  by_cases h2 : k ≤ 27
  ·rw [if_pos h2, decide_eq_true (.inl ⟨h1, h2⟩)]
  ·rw [if_neg h2]
   by_cases h3 : k ≥ 32
   ·rw [if_pos h3]
    by_cases h4 : k = 127
    ·rw [if_pos h4, decide_eq_false (by rintro (h | h); exact h2 h.2; exact h.2.1 h4)]
    ·rw [if_neg h4]
     show some (Lib.validRune k) = _
     cases hv : Lib.validRune k with
     | true => rw [decide_eq_true (.inr ⟨h3, h4, rfl⟩)]
     | false => rw [decide_eq_false (by rintro (h | h); exact h2 h.2; exact absurd h.2.2 (by simp))]
   ·rw [if_neg h3, decide_eq_false (by rintro (h | h); exact h2 h.2; exact h3 h.1)]
 ·rw [if_neg h1, if_neg (by omega), decide_eq_false (by rintro (h | h) <;> omega)]
theorem mayK_iff (k : Int) : mayK k = true ↔ mayB k = true ∧ 32 ≤ k := by
 unfold mayK mayB
 simp only [Bool.and_eq_true, decide_eq_true_eq]
 constructor
 ·rintro ⟨h1, h2, h3⟩
  exact ⟨.inr ⟨h1, h2, h3⟩, h1⟩
 ·rintro ⟨h | h, h2⟩
  ·omega
  ·exact ⟨h2, h.2.1, h.2.2⟩
def oper_Swap.f (a0_0 : ByteArray) (l0_1 : List S68) (a1 a2 a3 a4 : Int) : Option OX := if l0_1.length ≤ big then some (swapS a0_0 l0_1 a1 a2 a3 a4) else none
set_option maxHeartbeats 2000000 in
theorem oper_Swap.calls (s : ByteArray) (A : Option Addr) (c : Nat) (l : List S68) (y at_ n k : Int) (r1 : Int) (r2 : ByteArray) (r3 : List S68) (r4 : ByteArray) (r5 : List S68) (r6 : ByteArray) (r7 : List S68) (r8 r9 : Bool) (r10 r11 : Int) (w : World) (hMX : NumOk w) (hr : Kd.C k68 w A l.length l) (hc : l.length ≤ c) (h : oper_Swap.f s l y at_ n k = some (r1, r2, r3, r4, r5, r6, r7, r8, r9, r10, r11)) :
  Calls Tryz.prog 15 #[.agg #[.string s, .slice A l.length c], .int .u64 y, .int .i64 at_, .int .i64 n, .int .i32 k] w fun e w' => ∃ v2 v4 v6 : Value, e = .returned (.tuple #[.agg #[.int .i64 r1, .string r2, v2, .string r4, v4, .string r6, v6, .bool r8, .bool r9, .int .i64 r10], .int .i64 r11]) ∧ Kd.R k68 68 w' w.heap.size (fun k_ => some k_ ≠ (v4 : Value).ownBlock ∧ some k_ ≠ (v6 : Value).ownBlock) v2 r3 ∧ Kd.R k68 68 w' w.heap.size (fun k_ => some k_ ≠ (v2 : Value).ownBlock ∧ some k_ ≠ (v6 : Value).ownBlock) v4 r5 ∧ Kd.R k68 68 w' w.heap.size (fun k_ => some k_ ≠ (v2 : Value).ownBlock ∧ some k_ ≠ (v4 : Value).ownBlock) v6 r7 ∧ Below w.heap.size w w' := by
 unfold oper_Swap.f at h
 split at h
 case isFalse => cases h
 rename_i hl
 have hD := Option.some.inj h
 have hvz := view_small s l y
 obtain ⟨kv, hk⟩ := (view_ev s l hl y).rounds
 unfold swapS at hD
 generalize viewS s l y = vv at hk hD hvz
 obtain ⟨v, er⟩ := vv
 dsimp only at hD hvz
 have HRC := aM hr
 have HCC := aM hc
 have HL := aM hl
 have HF := aM hk
 have HM := aM hMX
 have HV := aM hvz
 clear h hr hc hl hk hMX hvz
 by_cases he : er = 0
 ·subst he
  have HMB := aM (may_eq k)
  cases hmb : mayB k with
  | false =>
   rw [if_neg (fun hh => by have := ((mayK_iff k).1 hh.2).1; rw [hmb] at this; cases this)] at hD
   rw [hmb] at HMB
   unfold noO at hD
   simp only [Prod.mk.injEq] at hD
   obtain ⟨rfl, rfl, rfl, rfl, rfl, rfl, rfl, rfl, rfl, rfl, rfl⟩ := hD
   go_enter Tryz.func15, Tryz.ntmps15
   go_wp2_with (first
    | (refine gB 5 #[.string s, .slice A l.length c] 24 (fun gx hg W1 BX hb => ?_); have Ggx := g0 hg; have HB := aM hb; clear hb hg)
    | (refine gB 10 #[.int .i64 0, .string ⟨#[]⟩, .slice none 0 0, .string ⟨#[]⟩, .slice none 0 0, .string ⟨#[]⟩, .slice none 0 0, .bool false, .bool false, .int .i64 0] 38 (fun go hg W2 BO hb => ?_); have Ggo := gG hg HB; have Ngogx := gN hg BX; replace HB := tl hb HB; replace BX := tl hb BX; clear hb hg; replace hx0 := zC BX.out 0 (.string s); replace hx1 := zC BX.out 1 (.slice A l.length c))
    | (refine gC (some 26) Tryz.func29 #[.agg #[.string s, .slice A l.length c], .int .u64 y] ?_; (with_reducible refine (open_ok kv HL.out (cB_ HRC.out HB.out) HCC.out 0 HF.out).mono ?_); rintro e W3 ⟨g, rfl, hD0, hb⟩; have HD := aM (hD0); have LW := aM (HB.out.size); replace HB := tl hb HB; replace BX := tl hb BX; replace BO := tl hb BO; refine ⟨_, rfl, ?_⟩; clear hb; )
    | ((with_reducible refine gate_callee (f := 42) rfl ?_); refine gate_guard (by rfl) ?_; refine gC (some 33) Tryz.func42 #[.int .i32 k] ?_; (with_reducible refine (keys_May.calls k false _ HMB.out).mono ?_); rintro e W4 ⟨rfl, hb⟩; replace HB := tl hb HB; replace BX := tl hb BX; replace BO := tl hb BO; replace HD := tl hb HD; refine ⟨_, rfl, ?_⟩; clear hb)
    | (refine gS BO 0 [.int .i64 0, .string ⟨#[]⟩, .slice none 0 0, .string ⟨#[]⟩, .slice none 0 0, .string ⟨#[]⟩, .slice none 0 0, .bool false, .bool false, .int .i64 0] (fun W5 hP => ?_); replace HB := sW hP Ggo HB; replace BX := sB hP BO BX; replace BO := sX hP BO; clear hP)
    )
   refine bodyPost_ret (results_ct rfl _ _ go 38 #[.int .i64 0, .string ⟨#[]⟩, .slice none 0 0, .string ⟨#[]⟩, .slice none 0 0, .string ⟨#[]⟩, .slice none 0 0, .bool false, .bool false, .int .i64 0] (0, 0) _ rfl BO.out Tryz.underlying38 rfl (by kernel_rfl)) rfl ?_
   exact ⟨_, _, _, rfl, Kd.R_nil _ _ _ _ _, Kd.R_nil _ _ _ _ _, Kd.R_nil _ _ _ _ _, HB.out⟩
  | true =>
   rw [hmb] at HMB
   by_cases hk : k < 32
   ·rw [if_neg (fun hh => by have := ((mayK_iff k).1 hh.2).2; omega)] at hD
    have q1 : (k < 32) = True := eq_true hk
    unfold noO at hD
    simp only [Prod.mk.injEq] at hD
    obtain ⟨rfl, rfl, rfl, rfl, rfl, rfl, rfl, rfl, rfl, rfl, rfl⟩ := hD
    go_enter Tryz.func15, Tryz.ntmps15
    go_wp2_with (first
     | (refine gB 5 #[.string s, .slice A l.length c] 24 (fun gx hg W1 BX hb => ?_); have Ggx := g0 hg; have HB := aM hb; clear hb hg)
     | (refine gB 10 #[.int .i64 0, .string ⟨#[]⟩, .slice none 0 0, .string ⟨#[]⟩, .slice none 0 0, .string ⟨#[]⟩, .slice none 0 0, .bool false, .bool false, .int .i64 0] 38 (fun go hg W2 BO hb => ?_); have Ggo := gG hg HB; have Ngogx := gN hg BX; replace HB := tl hb HB; replace BX := tl hb BX; clear hb hg; replace hx0 := zC BX.out 0 (.string s); replace hx1 := zC BX.out 1 (.slice A l.length c))
     | (refine gC (some 26) Tryz.func29 #[.agg #[.string s, .slice A l.length c], .int .u64 y] ?_; (with_reducible refine (open_ok kv HL.out (cB_ HRC.out HB.out) HCC.out 0 HF.out).mono ?_); rintro e W3 ⟨g, rfl, hD0, hb⟩; have HD := aM (hD0); have LW := aM (HB.out.size); replace HB := tl hb HB; replace BX := tl hb BX; replace BO := tl hb BO; refine ⟨_, rfl, ?_⟩; clear hb; )
     | ((with_reducible refine gate_callee (f := 42) rfl ?_); refine gate_guard (by rfl) ?_; refine gC (some 33) Tryz.func42 #[.int .i32 k] ?_; (with_reducible refine (keys_May.calls k true _ HMB.out).mono ?_); rintro e W4 ⟨rfl, hb⟩; replace HB := tl hb HB; replace BX := tl hb BX; replace BO := tl hb BO; replace HD := tl hb HD; refine ⟨_, rfl, ?_⟩; clear hb)
     | (refine gS BO 0 [.int .i64 0, .string ⟨#[]⟩, .slice none 0 0, .string ⟨#[]⟩, .slice none 0 0, .string ⟨#[]⟩, .slice none 0 0, .bool false, .bool false, .int .i64 0] (fun W5 hP => ?_); replace HB := sW hP Ggo HB; replace BX := sB hP BO BX; replace BO := sX hP BO; clear hP)
     )
    refine bodyPost_ret (results_ct rfl _ _ go 38 #[.int .i64 0, .string ⟨#[]⟩, .slice none 0 0, .string ⟨#[]⟩, .slice none 0 0, .string ⟨#[]⟩, .slice none 0 0, .bool false, .bool false, .int .i64 0] (0, 0) _ rfl BO.out Tryz.underlying38 rfl (by kernel_rfl)) rfl ?_
    exact ⟨_, _, _, rfl, Kd.R_nil _ _ _ _ _, Kd.R_nil _ _ _ _ _, Kd.R_nil _ _ _ _ _, HB.out⟩
   ·rw [if_pos ⟨rfl, (mayK_iff k).2 ⟨hmb, by omega⟩⟩] at hD
    have q1 : (k < 32) = False := eq_false hk
    have HFR := aM (alignS_le v at_)
    obtain ⟨ka, hka⟩ := (galign_ev v (by have := HV.out; omega) at_).rounds
    have HKA := aM hka
    clear hka
    generalize alignS v at_ = fr at hD HKA HFR
    have HOL := aM (ofL_f v (fr : Int))
    have HLT := aM (ofL_lt v (fr : Int))
    generalize ofL v (fr : Int) = ln at hD HOL HLT
    obtain ⟨kb, hkb⟩ := (bounds_ev v (by have := HV.out; omega) ln HLT.out).rounds
    have HKB := aM hkb
    clear hkb
    have HOF := aM (often_eq n)
    have HOR := aM (often_range n)
    generalize oftenN n = m at hD HOF HOR
    generalize hS : stepsN v (lineTo v ln) m fr = R0 at hD
    have HSS := aM hS
    have HDD := aM hD
    clear hD hS
    go_enter Tryz.func15, Tryz.ntmps15
    go_wp2_with (first
     | (refine gB 5 #[.string s, .slice A l.length c] 24 (fun gx hg W1 BX hb => ?_); have Ggx := g0 hg; have HB := aM hb; clear hb hg)
     | (refine gB 10 #[.int .i64 0, .string ⟨#[]⟩, .slice none 0 0, .string ⟨#[]⟩, .slice none 0 0, .string ⟨#[]⟩, .slice none 0 0, .bool false, .bool false, .int .i64 0] 38 (fun go hg W2 BO hb => ?_); have Ggo := gG hg HB; have Ngogx := gN hg BX; replace HB := tl hb HB; replace BX := tl hb BX; clear hb hg; replace hx0 := zC BX.out 0 (.string s); replace hx1 := zC BX.out 1 (.slice A l.length c))
     | (refine gC (some 26) Tryz.func29 #[.agg #[.string s, .slice A l.length c], .int .u64 y] ?_; (with_reducible refine (open_ok kv HL.out (cB_ HRC.out HB.out) HCC.out 0 HF.out).mono ?_); rintro e W3 ⟨g, rfl, hD0, hb⟩; have HD := aM (hD0); have LW := aM (HB.out.size); replace HB := tl hb HB; replace BX := tl hb BX; replace BO := tl hb BO; refine ⟨_, rfl, ?_⟩; clear hb)
     | ((with_reducible refine gate_callee (f := 42) rfl ?_); refine gate_guard (by rfl) ?_; refine gC (some 33) Tryz.func42 #[.int .i32 k] ?_; (with_reducible refine (keys_May.calls k true _ HMB.out).mono ?_); rintro e W4 ⟨rfl, hb⟩; replace HB := tl hb HB; replace BX := tl hb BX; replace BO := tl hb BO; replace HD := tl hb HD; refine ⟨_, rfl, ?_⟩; clear hb; replace hd2 := zC HD.out.hg 2 (.string v))
     | (refine gC (some 46) Tryz.func43 #[.string v, .int .i64 at_] ?_; (with_reducible refine (glyph_Align.calls ka v at_ _ _ (HM.out.below HB.out) HKA.out).mono ?_); rintro e W5 ⟨rfl, hb⟩; replace HB := tl hb HB; replace BX := tl hb BX; replace BO := tl hb BO; replace HD := tl hb HD; refine ⟨_, rfl, ?_⟩; clear hb; replace hd2 := zC HD.out.hg 2 (.string v))
     )
    clear BX hd2
    have hb := below_drew1 (Below.refl W5.heap.size W5)
    replace HB := tl hb HB
    replace BO := tl hb BO
    replace HD := tl hb HD
    clear hb
    refine oS1 18 (fun W => W.cell? ⟨g, 2, none⟩ = some (.string v) ∧ W.cell? ⟨g, 2, none⟩ = some (.string v)) [] ⟨zC HD.out.hg 2 _, zC HD.out.hg 2 _⟩ (fun hHeld => ?_)
    generalize W5.drew = W6 at HB BO HD hHeld ⊢
    refine sv 0 48 (z 18 1) ?_
    refine sv 1 49 (z 18 3) ?_
    refine sv 2 50 (z 18 7) ?_
    refine sv 4 52 (z 18 23) ?_
    refine sv 5 53 (z 18 55) ?_
    refine sv 6 54 (z 18 119) ?_
    refine sv 8 56 (z 18 375) ?_
    refine st 3 51 (z 18 383) hHeld ?_
    refine st 7 55 (z 18 511) hHeld ?_
    refine oC 9 (some 57) (z 18 1023) Tryz.func45 #[.string v, .int .i64 (fr : Int)] ?_
    clear hHeld
    (with_reducible refine (line_Of.calls v (fr : Int) _ _ HOL.out).mono ?_)
    rintro e W7 ⟨rfl, hb⟩
    replace HB := tl hb HB
    replace BO := tl hb BO
    replace HD := tl hb HD
    refine ⟨_, rfl, ⟨zC HD.out.hg 2 _, zC HD.out.hg 2 _⟩, fun hHeld => nm ?_⟩
    clear hb
    refine oC 10 (some 58) (z 18 2047) Tryz.func44 #[.string v, .int .i64 (ln : Int)] ?_
    clear hHeld
    (with_reducible refine (line_Bounds.calls kb v (ln : Int) _ _ _ _ HKB.out).mono ?_)
    rintro e W8 ⟨rfl, hb⟩
    replace HB := tl hb HB
    replace BO := tl hb BO
    replace HD := tl hb HD
    refine ⟨_, rfl, ⟨zC HD.out.hg 2 _, zC HD.out.hg 2 _⟩, fun hHeld => nm ?_⟩
    clear hb
    refine sv 11 47 (z 18 4095) ?_
    refine sv 12 59 (z 18 8191) ?_
    refine sv 13 60 (z 18 16383) ?_
    refine sv 14 61 (z 18 32767) ?_
    refine sv 15 15 (z 18 65535) ?_
    refine sv 16 16 (z 18 131071) ?_
    refine sv 17 17 (z 18 262143) ?_
    refine done_ (by kernel_rfl) ?_
    clear hHeld
    go_wp2_with (first
     | (refine gC (some 64) Tryz.func46 #[.int .i64 n] ?_; (with_reducible refine (oper_often.calls n _ _ HOF.out).mono ?_); rintro e W9 ⟨rfl, hb⟩; replace HB := tl hb HB; replace BO := tl hb BO; replace HD := tl hb HD; refine ⟨_, rfl, ?_⟩; clear hb)
     )
    go_loopg [18, 65] m (fun kq v18 v65 w' => ∃ (p i : Nat), v18 = .int .i64 (p : Int) ∧ v65 = .int .i64 (i : Int) ∧ Aside0 (kq + i = m) ∧ Aside0 (stepsN v (lineTo v ln) kq p = R0) ∧ Aside0 (DeskAt W2 g A c (.slice none 0 0) w' s l v y d0) ∧ Aside0 (Below w.heap.size w w') ∧ Aside0 (w'.heap[go]? = some (.cells #[.int .i64 0, .string ⟨#[]⟩, .slice none 0 0, .string ⟨#[]⟩, .slice none 0 0, .string ⟨#[]⟩, .slice none 0 0, .bool false, .bool false, .int .i64 0] 38 (0, 0))))
    case atStart => exact ⟨fr, 0, rfl, rfl, ⟨by omega⟩, HSS, HD, HB, BO⟩
    case round =>
     clear HD HB BO
     obtain ⟨p, i, rfl, rfl, HQ, HST, HD, HB, BO⟩ := hrel
     cases gk with
     | zero =>
      have him : i = m := by have := HQ.out; omega
      subst him
      have pr1 : ((i : Int) < (i : Int)) = False := eq_false (by omega)
      have pr2 : (i < i) = False := eq_false (by omega)
      have hSS := HST.out
      rw [show stepsN v (lineTo v ln) 0 p = some p from rfl] at hSS
      subst hSS
      have hD := HDD.out
      dsimp only at hD
      generalize hu : turnD s l y (writeD y d0 (repB (Utf8.encode k) i)) (fr : Int) (p : Int) = u at hD
      have HU := aM hu
      obtain ⟨⟨u1, u2, u3, u4, u5, u6⟩, u7⟩ := u
      have hez := encode_size_le k
      have HRZ := aM (show (Utf8.encode k).size * i ≤ 140737488355328 from by have := HOR.out; exact Nat.le_trans (Nat.mul_le_mul hez this.2) (by decide))
      clear hu HST
      unfold turnO at hD
      dsimp only at hD
      by_cases h6 : u6 = 0
      ·subst h6
       rw [if_pos rfl] at hD
       simp only [Prod.mk.injEq] at hD
       obtain ⟨rfl, rfl, rfl, rfl, rfl, rfl, rfl, rfl, rfl, hat, rfl⟩ := hD
       obtain ⟨m1, hm1, hm2⟩ : ∃ m1 : Nat, wrap64 ((i : Int) - 1) = (m1 : Int) ∧ m1 = i - 1 := ⟨i - 1, by have := HOR.out; rw [show (i : Int) - 1 = ((i - 1 : Nat) : Int) from by omega]; exact wrap_small (by omega) (by omega), rfl⟩
       obtain ⟨q1, hq1, hq2⟩ : ∃ q1 : Nat, wrap64 (((Utf8.encode k).size : Int) * (m1 : Int)) = (q1 : Int) ∧ q1 = (Utf8.encode k).size * m1 := ⟨_, by have := HOR.out; have hh : (Utf8.encode k).size * m1 ≤ 4 * 998 := Nat.mul_le_mul hez (by omega); rw [← Int.natCast_mul]; exact wrap_small (by omega) (by omega), rfl⟩
       obtain ⟨z1, hz1, hz2⟩ : ∃ z1 : Nat, wrap64 ((fr : Int) + (q1 : Int)) = (z1 : Int) ∧ z1 = fr + q1 := ⟨_, by have := HOR.out; have := HFR.out; have := HV.out; have hh : (Utf8.encode k).size * m1 ≤ 4 * 998 := Nat.mul_le_mul hez (by omega); rw [← Int.natCast_add]; exact wrap_small (by omega) (by omega), rfl⟩
       rw [← hm2, ← hq2, ← hz2] at hat
       subst hat
       have E1 := aM hm1
       have E2 := aM hq1
       have E3 := aM hz1
       clear hm1 hm2 hq1 hq2 hz1 hz2 hez
       go_wp2_with (first
        | (refine gC (some 83) Tryz.func46 #[.int .i64 n] ?_; (with_reducible refine (oper_often.calls n _ _ HOF.out).mono ?_); rintro e W11 ⟨rfl, hb⟩; replace HD := tl hb HD; replace HB := tl hb HB; replace BO := tl hb BO; refine ⟨_, rfl, ?_⟩; clear hb)
        | (refine gC (some 84) Tryz.func49 #[.string (Utf8.encode k), .int .i64 (i : Int)] ?_; (with_reducible refine (Tryz.strings_Repeat (Utf8.encode k) i _ (by have := HOR.out; omega) HRZ.out).mono ?_); rintro e W12 ⟨rfl, hb⟩; replace HD := tl hb HD; replace HB := tl hb HB; replace BO := tl hb BO; refine ⟨_, rfl, ?_⟩; clear hb)
        | (refine gC (some 85) Tryz.func48 #[.pointer (some ⟨g, 0, none⟩), .string (repB (Utf8.encode k) i)] ?_; (with_reducible refine (write_ok HD.out (repB (Utf8.encode k) i)).mono ?_); rintro e W13 ⟨rfl, ov13, hD, hT⟩; replace HB := dW hT LW HB; replace BO := dB hT HD BO; replace HD := aM hD; refine ⟨_, rfl, ?_⟩; clear hD hT)
        | (refine gC (some 90) Tryz.func50 #[.pointer (some ⟨g, 0, none⟩), .int .i64 (fr : Int), .int .i64 (p : Int)] ?_; (with_reducible refine (turn_at HD.out (fr : Int) (p : Int) HU.out).mono ?_); rintro e W14 ⟨vo, vn, rfl, ho, hn, hb⟩; have HO := aM (rL ho (Nat.le_trans LW.out HD.out.size)); have HN := aM (rL hn (Nat.le_trans LW.out HD.out.size)); clear HD; replace HB := tl hb HB; replace BO := tl hb BO; clear ho hn; refine ⟨_, rfl, ?_⟩; clear hb; obtain ⟨Ao, co, rfl⟩ := Kd.R_slice HO.out; obtain ⟨An, cn, rfl⟩ := Kd.R_slice HN.out)
        | (refine gB 20 #[.int .i64 0, .string ⟨#[]⟩, .slice none 0 0, .string ⟨#[]⟩, .slice none 0 0] 36 (fun gt hg W15 BT hb => ?_); have Ggt := gG hg HB; have Ngtgo := gN hg BO; replace HB := tl hb HB; replace BO := tl hb BO; replace HO := tl hb HO; replace HN := tl hb HN; clear hb hg)
        | (refine gS BT 0 [.int .i64 u1, .string u2, .slice Ao u3.length co, .string u4, .slice An u5.length cn] (fun W16 hP => ?_); replace HB := sW hP Ggt HB; replace BO := sB hP BT BO; replace HO := sR hP BT HO; replace HN := sR hP BT HN; replace BT := sX hP BT; clear hP)
        )
       have e1 := E1.out
       have e2 := E2.out
       have e3 := E3.out
       go_wp2
       have hb := below_drew1 (Below.refl W16.heap.size W16)
       replace HB := tl hb HB
       replace BO := tl hb BO
       replace HO := tl hb HO
       replace HN := tl hb HN
       replace BT := tl hb BT
       clear hb
       refine oS1 12 (fun W => W.cell? ⟨gt, 0, none⟩ = some (.int .i64 u1) ∧ W.cell? ⟨gt, 1, none⟩ = some (.string u2) ∧ W.cell? ⟨gt, 2, none⟩ = some (.slice Ao u3.length co) ∧ W.cell? ⟨gt, 3, none⟩ = some (.string u4) ∧ W.cell? ⟨gt, 4, none⟩ = some (.slice An u5.length cn)) [10] ⟨zC BT.out 0 _, zC BT.out 1 _, zC BT.out 2 _, zC BT.out 3 _, zC BT.out 4 _⟩ (fun hHeld => ?_)
       generalize W16.drew = W17 at HB BO HO HN BT hHeld ⊢
       refine sv 1 99 (z 12 2) ?_
       refine sv 2 100 (z 12 6) ?_
       refine sv 3 101 (z 12 14) ?_
       refine sv 4 102 (z 12 30) ?_
       refine st 0 98 (z 12 31) hHeld ?_
       refine oC 5 (some 103) (z 12 63) Tryz.func46 #[.int .i64 n] ?_
       clear hHeld
       (with_reducible refine (oper_often.calls n _ _ HOF.out).mono ?_)
       rintro e W18 ⟨rfl, hb⟩
       replace HB := tl hb HB
       replace BO := tl hb BO
       replace HO := tl hb HO
       replace HN := tl hb HN
       replace BT := tl hb BT
       refine ⟨_, rfl, ⟨zC BT.out 0 _, zC BT.out 1 _, zC BT.out 2 _, zC BT.out 3 _, zC BT.out 4 _⟩, fun hHeld => nm ?_⟩
       clear hb
       refine sv 6 104 (z 12 127) ?_
       refine sv 7 105 (z 12 255) ?_
       refine sv 8 106 (z 12 511) ?_
       refine sv 9 107 (z 12 1023) ?_
       refine lS 10 (z 12 2047) BO 0 [.int .i64 u1, .string u2, .slice Ao u3.length co, .string u4, .slice An u5.length cn, .string ⟨#[]⟩, .slice none 0 0, .bool false, .bool false, .int .i64 (z1 : Int)] (fun W19 hP => ?_)
       clear hHeld
       replace HB := sW hP Ggo HB
       replace HO := sR hP BO HO
       replace HN := sR hP BO HN
       replace BT := sB hP BO BT
       replace BO := sX hP BO
       clear hP
       refine sv 11 11 (z 12 4095) ?_
       refine done_ (by kernel_rfl) ?_
       go_wp2
       refine bodyPost_ret (results_ct rfl _ _ go 38 #[.int .i64 u1, .string u2, .slice Ao u3.length co, .string u4, .slice An u5.length cn, .string ⟨#[]⟩, .slice none 0 0, .bool false, .bool false, .int .i64 (z1 : Int)] (0, 0) _ rfl BO.out Tryz.underlying38 rfl (by kernel_rfl)) rfl ?_
       exact ⟨_, _, _, rfl, R_andnil HO.out, R_andnil HN.out, Kd.R_nil _ _ _ _ _, HB.out⟩
      ·rw [if_neg h6] at hD
       unfold noO at hD
       simp only [Prod.mk.injEq] at hD
       obtain ⟨rfl, rfl, rfl, rfl, rfl, rfl, rfl, rfl, rfl, rfl, rfl⟩ := hD
       have b3 : (u6 != 0) = true := bne_iff_ne.2 h6
       have b4 : (u6 == 0) = false := beq_eq_false_iff_ne.2 h6
       clear h6 hez
       go_wp2_with (first
        | (refine gC (some 83) Tryz.func46 #[.int .i64 n] ?_; (with_reducible refine (oper_often.calls n _ _ HOF.out).mono ?_); rintro e W11 ⟨rfl, hb⟩; replace HD := tl hb HD; replace HB := tl hb HB; replace BO := tl hb BO; refine ⟨_, rfl, ?_⟩; clear hb)
        | (refine gC (some 84) Tryz.func49 #[.string (Utf8.encode k), .int .i64 (i : Int)] ?_; (with_reducible refine (Tryz.strings_Repeat (Utf8.encode k) i _ (by have := HOR.out; omega) HRZ.out).mono ?_); rintro e W12 ⟨rfl, hb⟩; replace HD := tl hb HD; replace HB := tl hb HB; replace BO := tl hb BO; refine ⟨_, rfl, ?_⟩; clear hb)
        | (refine gC (some 85) Tryz.func48 #[.pointer (some ⟨g, 0, none⟩), .string (repB (Utf8.encode k) i)] ?_; (with_reducible refine (write_ok HD.out (repB (Utf8.encode k) i)).mono ?_); rintro e W13 ⟨rfl, ov13, hD, hT⟩; replace HB := dW hT LW HB; replace BO := dB hT HD BO; replace HD := aM hD; refine ⟨_, rfl, ?_⟩; clear hD hT)
        | (refine gC (some 90) Tryz.func50 #[.pointer (some ⟨g, 0, none⟩), .int .i64 (fr : Int), .int .i64 (p : Int)] ?_; (with_reducible refine (turn_at HD.out (fr : Int) (p : Int) HU.out).mono ?_); rintro e W14 ⟨vo, vn, rfl, ho, hn, hb⟩; have HO := aM (rL ho (Nat.le_trans LW.out HD.out.size)); have HN := aM (rL hn (Nat.le_trans LW.out HD.out.size)); clear HD; replace HB := tl hb HB; replace BO := tl hb BO; clear ho hn; refine ⟨_, rfl, ?_⟩; clear hb; obtain ⟨Ao, co, rfl⟩ := Kd.R_slice HO.out; obtain ⟨An, cn, rfl⟩ := Kd.R_slice HN.out)
        | (refine gB 20 #[.int .i64 0, .string ⟨#[]⟩, .slice none 0 0, .string ⟨#[]⟩, .slice none 0 0] 36 (fun gt hg W15 BT hb => ?_); have Ggt := gG hg HB; have Ngtgo := gN hg BO; replace HB := tl hb HB; replace BO := tl hb BO; replace HO := tl hb HO; replace HN := tl hb HN; clear hb hg)
        | (refine gS BT 0 [.int .i64 u1, .string u2, .slice Ao u3.length co, .string u4, .slice An u5.length cn] (fun W16 hP => ?_); replace HB := sW hP Ggt HB; replace BO := sB hP BT BO; replace HO := sR hP BT HO; replace HN := sR hP BT HN; replace BT := sX hP BT; clear hP)
        | (refine gS BO 0 [.int .i64 0, .string ⟨#[]⟩, .slice none 0 0, .string ⟨#[]⟩, .slice none 0 0, .string ⟨#[]⟩, .slice none 0 0, .bool false, .bool false, .int .i64 0] (fun W17 hP => ?_); replace HB := sW hP Ggo HB; replace HO := sR hP BO HO; replace HN := sR hP BO HN; replace BT := sB hP BO BT; replace BO := sX hP BO; clear hP)
        )
       refine bodyPost_ret (results_ct rfl _ _ go 38 #[.int .i64 0, .string ⟨#[]⟩, .slice none 0 0, .string ⟨#[]⟩, .slice none 0 0, .string ⟨#[]⟩, .slice none 0 0, .bool false, .bool false, .int .i64 0] (0, 0) _ rfl BO.out Tryz.underlying38 rfl (by kernel_rfl)) rfl ?_
       exact ⟨_, _, _, rfl, Kd.R_nil _ _ _ _ _, Kd.R_nil _ _ _ _ _, Kd.R_nil _ _ _ _ _, HB.out⟩
     | succ k1 =>
      have pr1 : ((i : Int) < (m : Int)) = True := eq_true (by have := HQ.out; omega)
      have pr2 : (i < m) = True := eq_true (by have := HQ.out; omega)
      have hst := HST.out
      unfold stepsN at hst
      by_cases hpe : p < lineTo v ln
      ·rw [if_pos hpe] at hst
       have pr3 : ((p : Int) ≥ (lineTo v ln : Int)) = False := eq_false (by omega)
       have pr4 : ((lineTo v ln : Int) ≤ (p : Int)) = False := eq_false (by omega)
       have pr5 : (lineTo v ln ≤ p) = False := eq_false (by omega)
       obtain ⟨kn, hkn⟩ := (gnext_ev v (by have := HV.out; omega) (p : Int)).rounds
       have HKN := aM hkn
       have HST2 := aM hst
       have E4 := aM (show wrap64 ((i : Int) + 1) = ((i + 1 : Nat) : Int) from w1n (n := 200000) (by have := HQ.out; have := HOR.out; omega) (by omega))
       clear hkn hst
       replace hd2 := zC HD.out.hg 2 (.string v)
       go_wp2_with (first
        | (refine gC (some 76) Tryz.func47 #[.string v, .int .i64 (p : Int)] ?_; (with_reducible refine (glyph_Next.calls kn v (p : Int) _ _ (HM.out.below HB.out) HKN.out).mono ?_); rintro e W11 ⟨rfl, hb⟩; replace HD := tl hb HD; replace HB := tl hb HB; replace BO := tl hb BO; refine ⟨_, rfl, ?_⟩; clear hb; replace hd2 := zC HD.out.hg 2 (.string v))
        )
       go_roundg k1
       case measure => exact Nat.lt_succ_self k1
       case rel => exact ⟨_, i + 1, rfl, congrArg (Value.int IntKind.i64) E4.out, ⟨by have := HQ.out; omega⟩, HST2, HD, HB, BO⟩
      ·rw [if_neg hpe] at hst
       subst hst
       have hD := HDD.out
       dsimp only at hD
       unfold noO at hD
       simp only [Prod.mk.injEq] at hD
       obtain ⟨rfl, rfl, rfl, rfl, rfl, rfl, rfl, rfl, rfl, rfl, rfl⟩ := hD
       have pr3 : ((p : Int) ≥ (lineTo v ln : Int)) = True := eq_true (by omega)
       have pr4 : ((lineTo v ln : Int) ≤ (p : Int)) = True := eq_true (by omega)
       have pr5 : (lineTo v ln ≤ p) = True := eq_true (by omega)
       go_wp2_with (first
        | (refine gS BO 0 [.int .i64 0, .string ⟨#[]⟩, .slice none 0 0, .string ⟨#[]⟩, .slice none 0 0, .string ⟨#[]⟩, .slice none 0 0, .bool false, .bool false, .int .i64 0] (fun W11 hP => ?_); replace HB := sW hP Ggo HB; replace BO := sX hP BO; clear hP)
        )
       refine bodyPost_ret (results_ct rfl _ _ go 38 #[.int .i64 0, .string ⟨#[]⟩, .slice none 0 0, .string ⟨#[]⟩, .slice none 0 0, .string ⟨#[]⟩, .slice none 0 0, .bool false, .bool false, .int .i64 0] (0, 0) _ rfl BO.out Tryz.underlying38 rfl (by kernel_rfl)) rfl ?_
       exact ⟨_, _, _, rfl, Kd.R_nil _ _ _ _ _, Kd.R_nil _ _ _ _ _, Kd.R_nil _ _ _ _ _, HB.out⟩
 ·rw [if_neg (fun hh => he hh.1)] at hD
  have b3 : (er != 0) = true := bne_iff_ne.2 he
  have b4 : (er == 0) = false := beq_eq_false_iff_ne.2 he
  unfold noO at hD
  simp only [Prod.mk.injEq] at hD
  obtain ⟨rfl, rfl, rfl, rfl, rfl, rfl, rfl, rfl, rfl, rfl, rfl⟩ := hD
  go_enter Tryz.func15, Tryz.ntmps15
  go_wp2_with (first
   | (refine gB 5 #[.string s, .slice A l.length c] 24 (fun gx hg W1 BX hb => ?_); have Ggx := g0 hg; have HB := aM hb; clear hb hg)
   | (refine gB 10 #[.int .i64 0, .string ⟨#[]⟩, .slice none 0 0, .string ⟨#[]⟩, .slice none 0 0, .string ⟨#[]⟩, .slice none 0 0, .bool false, .bool false, .int .i64 0] 38 (fun go hg W2 BO hb => ?_); have Ggo := gG hg HB; have Ngogx := gN hg BX; replace HB := tl hb HB; replace BX := tl hb BX; clear hb hg; replace hx0 := zC BX.out 0 (.string s); replace hx1 := zC BX.out 1 (.slice A l.length c))
   | (refine gC (some 26) Tryz.func29 #[.agg #[.string s, .slice A l.length c], .int .u64 y] ?_; (with_reducible refine (open_ok kv HL.out (cB_ HRC.out HB.out) HCC.out er HF.out).mono ?_); rintro e W3 ⟨g, rfl, hD0, hb⟩; have HD := aM (hD0); have LW := aM (HB.out.size); replace HB := tl hb HB; replace BX := tl hb BX; replace BO := tl hb BO; refine ⟨_, rfl, ?_⟩; clear hb; )
   | (refine gS BO 0 [.int .i64 0, .string ⟨#[]⟩, .slice none 0 0, .string ⟨#[]⟩, .slice none 0 0, .string ⟨#[]⟩, .slice none 0 0, .bool false, .bool false, .int .i64 0] (fun W4 hP => ?_); replace HB := sW hP Ggo HB; replace BX := sB hP BO BX; replace BO := sX hP BO; clear hP)
   )
  refine bodyPost_ret (results_ct rfl _ _ go 38 #[.int .i64 0, .string ⟨#[]⟩, .slice none 0 0, .string ⟨#[]⟩, .slice none 0 0, .string ⟨#[]⟩, .slice none 0 0, .bool false, .bool false, .int .i64 0] (0, 0) _ rfl BO.out Tryz.underlying38 rfl (by kernel_rfl)) rfl ?_
  exact ⟨_, _, _, rfl, Kd.R_nil _ _ _ _ _, Kd.R_nil _ _ _ _ _, Kd.R_nil _ _ _ _ _, HB.out⟩
end Go.Proofs.YtjkfkiebhgkolaaGreatDoor.PB
end

section
namespace Go.Proofs.YtjkfkiebhgkolaaGreatDoor.PB
open Go.RowKit Go.Maps Go.Proofs.YtjkfkiebhgkolaaGreatDoorW.PrintWords Go.Proofs.YtjkfkiebhgkolaaGreatDoorW.PrintLast Go.Proofs.YtjkfkiebhgkolaaGreatDoorW.PrintMore
set_option maxRecDepth 100000
set_option linter.unusedVariables false
set_option linter.unusedSimpArgs false
attribute [local go_sem] max_two min_two
def OutC (w w' : World) (e : Ending) (r1 : Int) (r2 : ByteArray) (r3 : List S68) (r4 : ByteArray) (r5 : List S68) (r6 : ByteArray) (r7 : List S68) (r8 r9 : Bool) (r10 r11 : Int) : Prop := ∃ v2 v4 v6 : Value,
 e = .returned (.tuple #[.agg #[.int .i64 r1, .string r2, v2, .string r4, v4, .string r6, v6, .bool r8, .bool r9, .int .i64 r10], .int .i64 r11]) ∧
 Kd.R k68 68 w' w.heap.size (fun _ => True) v2 r3 ∧ Kd.R k68 68 w' w.heap.size (fun _ => True) v4 r5 ∧ Kd.R k68 68 w' w.heap.size (fun _ => True) v6 r7 ∧ Below w.heap.size w w'
theorem turnD_new {s : ByteArray} {l : List S68} {y a b : Int} {x : ByteArray} {m : List S68} {er u1 : Int} {u2 : ByteArray} {u3 : List S68} {u4 : ByteArray} {u5 : List S68} {u6 : Int} {u7 : ByteArray} (h : turnD s l y (x, m, er) a b = ((u1, u2, u3, u4, u5, u6), u7)) : (u6 = 0 → u5 = m) ∧ (er ≠ 0 → u6 = er) := by
 unfold turnD at h
 by_cases he : er = 0
 ·rw [if_pos he] at h
  refine ⟨fun h6 => ?_, fun hh => absurd he hh⟩
  by_cases hq : (ofS s l a b x m).2.2.2.2.2 = 0
  ·rw [if_pos hq] at h
   have h5 : (ofS s l a b x m).2.2.2.2.1 = m := by
    unfold ofS at hq ⊢
    split
    ·rfl
    ·rename_i h0; rw [if_neg h0] at hq; exact absurd hq h0
   simp only [Prod.mk.injEq] at h
   rw [← h5, h.1]
  ·rw [if_neg hq] at h
   simp only [Prod.mk.injEq] at h
   omega
 ·rw [if_neg he] at h
  simp only [Prod.mk.injEq] at h
  exact ⟨fun h6 => by omega, fun _ => h.1.2.2.2.2.2.symm⟩
theorem rmay_eq (k : Int) : bureauref10_May.f k = some (mayB k) := by
 have hm : ∀ h : k ≥ 32, (bureauref02_May.f k).bind (fun t => some t) = some (Lib.validRune k) := fun h => by
  obtain ⟨r, rfl⟩ : ∃ r : Nat, k = r := ⟨k.toNat, by omega⟩
  rw [may_f]
  show some _ = some (Lib.validRune (r : Int))
  unfold Lib.validRune
  refine congrArg some (decide_eq_decide.2 ?_)
  constructor
  ·rintro ⟨h1, h2⟩
   by_cases h3 : r < 55296
   ·exact .inl ⟨by omega, by omega⟩
   ·exact .inr ⟨by omega, by omega⟩
  ·rintro (⟨h1, h2⟩ | ⟨h1, h2⟩)
   ·exact ⟨by omega, by omega⟩
   ·exact ⟨by omega, by omega⟩
 unfold bureauref10_May.f mayB
 by_cases h1 : k ≥ 1
 ·rw [if_pos h1]
  by_cases h2 : k ≤ 27
  ·rw [if_pos h2, decide_eq_true (.inl ⟨h1, h2⟩)]
  ·rw [if_neg h2]
   by_cases h3 : k ≥ 32
   ·rw [if_pos h3]
    by_cases h4 : k = 127
    ·rw [if_pos h4, decide_eq_false (by rintro (h | h); exact h2 h.2; exact h.2.1 h4)]
    ·rw [if_neg h4, hm h3]
     cases hv : Lib.validRune k with
     | true => rw [decide_eq_true (.inr ⟨h3, h4, rfl⟩)]
     | false => rw [decide_eq_false (by rintro (h | h); exact h2 h.2; exact absurd h.2.2 (by simp))]
   ·rw [if_neg h3, decide_eq_false (by rintro (h | h); exact h2 h.2; exact h3 h.1)]
 ·rw [if_neg h1, if_neg (by omega), decide_eq_false (by rintro (h | h) <;> omega)]
theorem rmay_at (k : Int) {b : Bool} (w : World) (h : bureauref10_May.f k = some b) : Calls Tryz.prog 51 #[.int .i64 k] w fun e w' => e = .returned (.bool b) ∧ Below w.heap.size w w' := (bureauref10_May.calls k b w h).mono fun e w' hh => ⟨hh.1, hh.2.below⟩
theorem rofl_at (k : Nat) (v : ByteArray) (a : Int) {b : Int} (w : World) (h : bureauref06_Of.f k v a = some b) : Calls Tryz.prog 54 #[.string v, .int .i64 a] w fun e w' => e = .returned (.int .i64 b) ∧ Below w.heap.size w w' := (bureauref06_Of.calls k v a b w h).mono fun e w' hh => ⟨hh.1, hh.2.below⟩
theorem rbytes_eq {k : Int} (h : mayB k = true) (h32 : ¬ k < 32) : bureauref02_Bytes.f k = some (Utf8.encode k) := by
 have hv : Lib.validRune k = true := by
  unfold mayB at h
  rcases of_decide_eq_true h with h | h
  ·omega
  ·exact h.2.2
 unfold Lib.validRune at hv
 have hv := of_decide_eq_true hv
 obtain ⟨r, rfl⟩ : ∃ r : Nat, k = r := ⟨k.toNat, by omega⟩
 rw [bytes_f r (by omega)]
 have hval : Utf8.valid (r : Int) = true := by
  unfold Utf8.valid
  simp only [Bool.or_eq_true, Bool.and_eq_true, decide_eq_true_eq]
  omega
 unfold Utf8.encode encI strOfNums
 rw [if_pos hval, Int.toNat_natCast]
 refine congrArg some ?_
 dsimp only
 split
 ·rfl
 ·split
  ·simp only [List.map_cons, List.map_nil, Int.toNat_natCast]
  ·split
   ·simp only [List.map_cons, List.map_nil, Int.toNat_natCast]
   ·simp only [List.map_cons, List.map_nil, Int.toNat_natCast]
theorem repL_succ (L : List UInt8) : ∀ n, Lib.repeatL L (n + 1) = Lib.repeatL L n ++ L
 | 0 => by simp [Lib.repeatL]
 | n + 1 => by
  show L ++ Lib.repeatL L (n + 1) = (L ++ Lib.repeatL L n) ++ L
  rw [repL_succ L n, List.append_assoc]
theorem repB_succ (x : ByteArray) (n : Nat) : repB x (n + 1) = repB x n ++ x := by
 apply data_inj
 rw [app_list]
 show Lib.repeatL x.data.toList (n + 1) = Lib.repeatL x.data.toList n ++ x.data.toList
 exact repL_succ _ n
theorem repB_size (x : ByteArray) (n : Nat) : (repB x n).size = n * x.size := by
 rw [← size_list]
 show (Lib.repeatL x.data.toList n).length = _
 rw [Lib.repeatL_length, size_list]
theorem often_mx (n : Int) : mn (mx n 1) 999 = (oftenN n : Int) := by
 unfold mn mx oftenN
 omega
set_option maxHeartbeats 4000000 in
theorem rswap_ok {s : ByteArray} {A : Option Addr} {c : Nat} {l : List S68} {y at_ n k : Int} {r1 : Int} {r2 : ByteArray} {r3 : List S68} {r4 : ByteArray} {r5 : List S68} {r6 : ByteArray} {r7 : List S68} {r8 r9 : Bool} {r10 r11 : Int} {w : World} (hr : Kd.C k68 w A l.length l) (hc : l.length ≤ c) (hl : l.length ≤ big) (hw : lab l) (hy : 0 ≤ y ∧ y < 18446744073709551616) (hD : swapS s l y at_ n k = (r1, r2, r3, r4, r5, r6, r7, r8, r9, r10, r11)) :
  Calls Tryz.prog 16 #[.agg #[.string s, .slice A l.length c], .int .u64 y, .int .i64 at_, .int .i64 n, .int .i64 k] w fun e w' => OutC w w' e r1 r2 r3 r4 r5 r6 r7 r8 r9 r10 r11 := by
 have hvz := view_small s l y
 obtain ⟨kv, hk⟩ := (rview_ev s l hl y hw hy).rounds
 unfold swapS at hD
 generalize viewS s l y = vv at hk hD hvz
 obtain ⟨v, er⟩ := vv
 dsimp only at hD hvz
 have HRC := aM hr
 have HCC := aM hc
 have HL := aM hl
 have HF := aM hk
 have HV := aM hvz
 have HW := aM hw
 have HY := aM hy
 clear hr hc hl hk hvz hw hy
 by_cases he : er = 0
 ·subst he
  have HMB := aM (rmay_eq k)
  cases hmb : mayB k with
  | false =>
   rw [if_neg (fun hh => by have := ((mayK_iff k).1 hh.2).1; rw [hmb] at this; cases this)] at hD
   rw [hmb] at HMB
   unfold noO at hD
   simp only [Prod.mk.injEq] at hD
   obtain ⟨rfl, rfl, rfl, rfl, rfl, rfl, rfl, rfl, rfl, rfl, rfl⟩ := hD
   go_enter Tryz.func16, Tryz.ntmps16
   go_wp2_with (first
    | (refine gB 5 #[.string s, .slice A l.length c] 24 (fun gx hg W1 BX hb => ?_); have Ggx := g0 hg; have HB := aM hb; clear hb hg)
    | (refine gB 10 #[.int .i64 0, .string ⟨#[]⟩, .slice none 0 0, .string ⟨#[]⟩, .slice none 0 0, .string ⟨#[]⟩, .slice none 0 0, .bool false, .bool false, .int .i64 0] 42 (fun go hg W2 BO hb => ?_); have Ggo := gG hg HB; replace HB := tl hb HB; replace BX := tl hb BX; clear hb hg; replace hx0 := zC BX.out 0 (.string s); replace hx1 := zC BX.out 1 (.slice A l.length c))
    | (refine gC (some 28) Tryz.func35 #[.agg #[.string s, .slice A l.length c], .int .u64 y] ?_; (with_reducible refine (bureauref04_View.calls kv s A c l y v 0 _ (cB_ HRC.out HB.out) HCC.out HF.out).mono ?_); rintro e W3 ⟨rfl, hb⟩; replace HB := tl hb HB; replace BX := tl hb BX; replace BO := tl hb BO; refine ⟨_, rfl, ?_⟩; clear hb; replace hx0 := zC BX.out 0 (.string s); replace hx1 := zC BX.out 1 (.slice A l.length c))
    | ((with_reducible refine gate_callee (f := 51) rfl ?_); refine gate_guard (by rfl) ?_; refine gC (some 35) Tryz.func51 #[.int .i64 k] ?_; (with_reducible refine (rmay_at k (b := false) _ HMB.out).mono ?_); rintro e W4 ⟨rfl, hb⟩; replace HB := tl hb HB; replace BX := tl hb BX; replace BO := tl hb BO; refine ⟨_, rfl, ?_⟩; clear hb)
    | (refine gS BO 0 [.int .i64 0, .string ⟨#[]⟩, .slice none 0 0, .string ⟨#[]⟩, .slice none 0 0, .string ⟨#[]⟩, .slice none 0 0, .bool false, .bool false, .int .i64 0] (fun W5 hP => ?_); replace HB := sW hP Ggo HB; replace BX := sB hP BO BX; replace BO := sX hP BO; clear hP)
    )
   refine bodyPost_ret (results_ct rfl _ _ go 42 #[.int .i64 0, .string ⟨#[]⟩, .slice none 0 0, .string ⟨#[]⟩, .slice none 0 0, .string ⟨#[]⟩, .slice none 0 0, .bool false, .bool false, .int .i64 0] (0, 0) _ rfl BO.out Tryz.underlying42 rfl (by kernel_rfl)) rfl ?_
   exact ⟨_, _, _, rfl, Kd.R_nil _ _ _ _ _, Kd.R_nil _ _ _ _ _, Kd.R_nil _ _ _ _ _, HB.out⟩
  | true =>
   rw [hmb] at HMB
   by_cases hk : k < 32
   ·rw [if_neg (fun hh => by have := ((mayK_iff k).1 hh.2).2; omega)] at hD
    have q1 : (k < 32) = True := eq_true hk
    unfold noO at hD
    simp only [Prod.mk.injEq] at hD
    obtain ⟨rfl, rfl, rfl, rfl, rfl, rfl, rfl, rfl, rfl, rfl, rfl⟩ := hD
    go_enter Tryz.func16, Tryz.ntmps16
    go_wp2_with (first
     | (refine gB 5 #[.string s, .slice A l.length c] 24 (fun gx hg W1 BX hb => ?_); have Ggx := g0 hg; have HB := aM hb; clear hb hg)
     | (refine gB 10 #[.int .i64 0, .string ⟨#[]⟩, .slice none 0 0, .string ⟨#[]⟩, .slice none 0 0, .string ⟨#[]⟩, .slice none 0 0, .bool false, .bool false, .int .i64 0] 42 (fun go hg W2 BO hb => ?_); have Ggo := gG hg HB; replace HB := tl hb HB; replace BX := tl hb BX; clear hb hg; replace hx0 := zC BX.out 0 (.string s); replace hx1 := zC BX.out 1 (.slice A l.length c))
     | (refine gC (some 28) Tryz.func35 #[.agg #[.string s, .slice A l.length c], .int .u64 y] ?_; (with_reducible refine (bureauref04_View.calls kv s A c l y v 0 _ (cB_ HRC.out HB.out) HCC.out HF.out).mono ?_); rintro e W3 ⟨rfl, hb⟩; replace HB := tl hb HB; replace BX := tl hb BX; replace BO := tl hb BO; refine ⟨_, rfl, ?_⟩; clear hb; replace hx0 := zC BX.out 0 (.string s); replace hx1 := zC BX.out 1 (.slice A l.length c))
     | ((with_reducible refine gate_callee (f := 51) rfl ?_); refine gate_guard (by rfl) ?_; refine gC (some 35) Tryz.func51 #[.int .i64 k] ?_; (with_reducible refine (rmay_at k (b := true) _ HMB.out).mono ?_); rintro e W4 ⟨rfl, hb⟩; replace HB := tl hb HB; replace BX := tl hb BX; replace BO := tl hb BO; refine ⟨_, rfl, ?_⟩; clear hb)
     | (refine gS BO 0 [.int .i64 0, .string ⟨#[]⟩, .slice none 0 0, .string ⟨#[]⟩, .slice none 0 0, .string ⟨#[]⟩, .slice none 0 0, .bool false, .bool false, .int .i64 0] (fun W5 hP => ?_); replace HB := sW hP Ggo HB; replace BX := sB hP BO BX; replace BO := sX hP BO; clear hP)
     )
    refine bodyPost_ret (results_ct rfl _ _ go 42 #[.int .i64 0, .string ⟨#[]⟩, .slice none 0 0, .string ⟨#[]⟩, .slice none 0 0, .string ⟨#[]⟩, .slice none 0 0, .bool false, .bool false, .int .i64 0] (0, 0) _ rfl BO.out Tryz.underlying42 rfl (by kernel_rfl)) rfl ?_
    exact ⟨_, _, _, rfl, Kd.R_nil _ _ _ _ _, Kd.R_nil _ _ _ _ _, Kd.R_nil _ _ _ _ _, HB.out⟩
   ·rw [if_pos ⟨rfl, (mayK_iff k).2 ⟨hmb, by omega⟩⟩] at hD
    have HBY := aM (rbytes_eq hmb hk)
    have q1 : (k < 32) = False := eq_false hk
    clear hmb hk
    have HFR := aM (alignS_le v at_)
    obtain ⟨ka, hka⟩ := (ralign_ev v (by have := HV.out; omega) at_).rounds
    have HKA := aM hka
    clear hka
    generalize alignS v at_ = fr at hD HKA HFR
    obtain ⟨ko, hko⟩ := (rofL_ev v (by have := HV.out; omega) (fr : Int)).rounds
    have HOL := aM hko
    clear hko
    have HLT := aM (ofL_lt v (fr : Int))
    generalize ofL v (fr : Int) = ln at hD HOL HLT
    obtain ⟨kb, hkb⟩ := (rbounds_ev v (by have := HV.out; omega) ln HLT.out).rounds
    have HKB := aM hkb
    clear hkb
    have hmx := often_mx n
    have HOR := aM (often_range n)
    generalize oftenN n = m at hD HOR hmx
    generalize hS : stepsN v (lineTo v ln) m fr = R0 at hD
    have HSS := aM hS
    have HDD := aM hD
    clear hD hS
    have hm1 : Builtin.max2 (.int .i64 n) (.int .i64 1) = pure (.int .i64 (mx n 1)) := by rw [max2_int]; rfl
    have hm2 : Builtin.min2 (.int .i64 (mx n 1)) (.int .i64 999) = pure (.int .i64 (m : Int)) := by rw [min2_int, ← hmx]; rfl
    clear hmx
    go_enter Tryz.func16, Tryz.ntmps16
    go_wp2_with (first
     | (refine gB 5 #[.string s, .slice A l.length c] 24 (fun gx hg W1 BX hb => ?_); have Ggx := g0 hg; have HB := aM hb; clear hb hg)
     | (refine gB 10 #[.int .i64 0, .string ⟨#[]⟩, .slice none 0 0, .string ⟨#[]⟩, .slice none 0 0, .string ⟨#[]⟩, .slice none 0 0, .bool false, .bool false, .int .i64 0] 42 (fun go hg W2 BO hb => ?_); have Ggo := gG hg HB; replace HB := tl hb HB; replace BX := tl hb BX; clear hb hg; replace hx0 := zC BX.out 0 (.string s); replace hx1 := zC BX.out 1 (.slice A l.length c))
     | (refine gC (some 28) Tryz.func35 #[.agg #[.string s, .slice A l.length c], .int .u64 y] ?_; (with_reducible refine (bureauref04_View.calls kv s A c l y v 0 _ (cB_ HRC.out HB.out) HCC.out HF.out).mono ?_); rintro e W3 ⟨rfl, hb⟩; replace HB := tl hb HB; replace BX := tl hb BX; replace BO := tl hb BO; refine ⟨_, rfl, ?_⟩; clear hb; replace hx0 := zC BX.out 0 (.string s); replace hx1 := zC BX.out 1 (.slice A l.length c))
     | ((with_reducible refine gate_callee (f := 51) rfl ?_); refine gate_guard (by rfl) ?_; refine gC (some 35) Tryz.func51 #[.int .i64 k] ?_; (with_reducible refine (rmay_at k (b := true) _ HMB.out).mono ?_); rintro e W4 ⟨rfl, hb⟩; replace HB := tl hb HB; replace BX := tl hb BX; replace BO := tl hb BO; refine ⟨_, rfl, ?_⟩; clear hb)
     | (refine gC (some 45) Tryz.func52 #[.string v, .int .i64 at_] ?_; (with_reducible refine (bureauref02_Align.calls ka v at_ _ _ HKA.out).mono ?_); rintro e W5 ⟨rfl, hb⟩; replace HB := tl hb HB; replace BX := tl hb BX; replace BO := tl hb BO; refine ⟨_, rfl, ?_⟩; clear hb)
     | (refine gC (some 53) Tryz.func54 #[.string v, .int .i64 (fr : Int)] ?_; (with_reducible refine (rofl_at ko v (fr : Int) _ HOL.out).mono ?_); rintro e W6 ⟨rfl, hb⟩; replace HB := tl hb HB; replace BX := tl hb BX; replace BO := tl hb BO; refine ⟨_, rfl, ?_⟩; clear hb)
     | (refine gC (some 54) Tryz.func53 #[.string v, .int .i64 (ln : Int)] ?_; (with_reducible refine (bureauref06_Bounds.calls kb v (ln : Int) _ _ _ _ HKB.out).mono ?_); rintro e W7 ⟨rfl, hb⟩; replace HB := tl hb HB; replace BX := tl hb BX; replace BO := tl hb BO; refine ⟨_, rfl, ?_⟩; clear hb)
     )
    clear hm1 hm2
    go_loopg [19, 20, 21] m (fun kq v19 v20 v21 w' => ∃ (p i : Nat) (S : ByteArray), v19 = .int .i64 (p : Int) ∧ v20 = .string S ∧ v21 = .int .i64 (i : Int) ∧ Aside0 (S = repB (Utf8.encode k) i) ∧ Aside0 (kq + i = m) ∧ Aside0 (stepsN v (lineTo v ln) kq p = R0) ∧ Aside0 (Below w.heap.size w w') ∧ Aside0 (w'.heap[gx]? = some (.cells #[.string s, .slice A l.length c] 24 (0, 0))) ∧ Aside0 (w'.heap[go]? = some (.cells #[.int .i64 0, .string ⟨#[]⟩, .slice none 0 0, .string ⟨#[]⟩, .slice none 0 0, .string ⟨#[]⟩, .slice none 0 0, .bool false, .bool false, .int .i64 0] 42 (0, 0))))
    case atStart => exact ⟨fr, 0, _, rfl, rfl, rfl, ⟨rfl⟩, ⟨by omega⟩, HSS, HB, BX, BO⟩
    case round =>
     clear HB BX BO
     obtain ⟨p, i, S, rfl, rfl, rfl, HSE, HQ, HST, HB, BX, BO⟩ := hrel
     have hez := encode_size_le k
     have HRZ := aM (show S.size ≤ 4000 from by rw [HSE.out, repB_size]; have := HOR.out; have := HQ.out; exact Nat.le_trans (Nat.mul_le_mul (show i ≤ 999 by omega) hez) (by decide))
     have HEZ := aM hez
     clear hez
     cases gk with
     | zero =>
      have him : i = m := by have := HQ.out; omega
      subst him
      have pr1 : ((i : Int) < (i : Int)) = False := eq_false (by omega)
      have pr2 : (i < i) = False := eq_false (by omega)
      have hSS := HST.out
      rw [show stepsN v (lineTo v ln) 0 p = some p from rfl] at hSS
      subst hSS
      have hD := HDD.out
      dsimp only at hD
      rw [← HSE.out, writeD_d0] at hD
      have hsm := HRZ.out
      have hmk := made_good S y (by omega)
      obtain ⟨km, hkm⟩ := (rmade_ev S y).rounds
      unfold mkT at hkm
      have hlm := lab_make S HY.out
      have hml := makeS_len S y
      generalize makeS S y = x at hD hkm hmk hlm hml
      obtain ⟨x1, x2, x3⟩ := x
      have hx3 : x3 = 0 := congrArg (fun t : TX => t.2.2) hmk
      subst hx3
      dsimp only at hkm hlm hml
      clear hmk
      generalize hu : turnD s l y (x1, x2, 0) (fr : Int) (p : Int) = u at hD
      obtain ⟨⟨u1, u2, u3, u4, u5, u6⟩, u7⟩ := u
      have hn := turnD_new hu
      have HU := aM hu
      have HMK := aM hkm
      have HLM := aM hlm
      have HML := aM (len_big hml)
      have q1 : ((S.size : Int) ≤ 4096) = True := eq_true (by omega)
      have q2 : (S.size ≤ 4096) = True := eq_true (by omega)
      clear hu HST hkm hlm hml hsm
      unfold turnO at hD
      dsimp only at hD
      by_cases h6 : u6 = 0
      ·subst h6
       have h5 := hn.1 rfl
       subst h5
       rw [if_pos rfl] at hD
       simp only [Prod.mk.injEq] at hD
       obtain ⟨rfl, rfl, rfl, rfl, rfl, rfl, rfl, rfl, rfl, hat, rfl⟩ := hD
       obtain ⟨z1, hz1, hz2⟩ : ∃ z1 : Int, wrap64 ((fr : Int) + (S.size : Int)) = z1 ∧ z1 = (fr : Int) + (S.size : Int) := ⟨_, by have := HFR.out; have := HV.out; have := HRZ.out; exact wrap_small (by omega) (by omega), rfl⟩
       obtain ⟨z2, hz3, hz4⟩ : ∃ z2 : Int, wrap64 (z1 - ((Utf8.encode k).size : Int)) = z2 ∧ z2 = r10 := ⟨_, by rw [← hat, hz2]; have h0 := HSE.out; have h1 := repB_size (Utf8.encode k) i; rw [← h0] at h1; have h2 := HOR.out; have := HFR.out; have := HV.out; have := HRZ.out; have := HEZ.out; obtain ⟨j, rfl⟩ : ∃ j, i = j + 1 := ⟨i - 1, by omega⟩; rw [Nat.add_mul, Nat.one_mul] at h1; rw [show j + 1 - 1 = j from rfl, Nat.mul_comm, show (fr : Int) + (S.size : Int) - ((Utf8.encode k).size : Int) = ((fr + j * (Utf8.encode k).size : Nat) : Int) by omega]; exact wrap_small (by omega) (by omega), rfl⟩
       have E1 := aM hz1
       have E2 := aM hz3
       subst hz4
       clear hz1 hz2 hz3 hat hn
       go_wp2
       have hb := below_drew1 (Below.refl wr.heap.size wr)
       replace HB := tl hb HB
       replace BX := tl hb BX
       replace BO := tl hb BO
       clear hb
       refine oS1 19 (fun W => W.cell? ⟨gx, 0, none⟩ = some (.string s) ∧ W.cell? ⟨gx, 1, none⟩ = some (.slice A l.length c)) [16] ⟨zC BX.out 0 _, zC BX.out 1 _⟩ (fun hHeld => ?_)
       generalize wr.drew = W9 at HB BX BO hHeld ⊢
       refine sv 1 77 (z 19 2) ?_
       refine sv 2 78 (z 19 6) ?_
       refine sv 3 79 (z 19 14) ?_
       refine sv 4 80 (z 19 30) ?_
       refine sv 5 81 (z 19 62) ?_
       refine sv 7 83 (z 19 190) ?_
       refine sv 8 84 (z 19 446) ?_
       refine sv 9 85 (z 19 958) ?_
       refine st 0 76 (z 19 959) hHeld ?_
       refine join_ (σ := Option Addr × Nat × Value × Nat) 3 (z 19 65535) (fun s_ => [(82, .agg #[.string x1, .slice (s_.1) u5.length (s_.2.1)]), (22, .pointer (some ⟨(s_.2.2.2), 0, none⟩)), (86, .tuple #[.agg #[.int .i64 u1, .string u2, (s_.2.2.1), .string u4, (.slice (s_.1) u5.length (s_.2.1) : Value)], .string u7, .int .i64 0]), (75, .tuple #[.agg #[.int .i64 u1, .string u2, (s_.2.2.1), .string u4, (.slice (s_.1) u5.length (s_.2.1) : Value)], .string u7, .int .i64 0]), (87, .agg #[.int .i64 u1, .string u2, (s_.2.2.1), .string u4, (.slice (s_.1) u5.length (s_.2.1) : Value)]), (88, .string u7), (89, .int .i64 0)]) (fun s_ W => (W.cell? ⟨gx, 0, none⟩ = some (.string s) ∧ W.cell? ⟨gx, 1, none⟩ = some (.slice A l.length c)) ∧ W.heap[go]? = some (.cells #[.int .i64 0, .string ⟨#[]⟩, .slice none 0 0, .string ⟨#[]⟩, .slice none 0 0, .string ⟨#[]⟩, .slice none 0 0, .bool false, .bool false, .int .i64 0] 42 (0, 0)) ∧ W.heap[(s_.2.2.2)]? = some (.cells #[.int .i64 0, .string ⟨#[]⟩, .slice none 0 0, .string ⟨#[]⟩, .slice none 0 0] 36 (0, 0)) ∧ W.heap[gx]? = some (.cells #[.string s, .slice A l.length c] 24 (0, 0)) ∧ Below w.heap.size w W ∧ Kd.R k68 68 W w.heap.size (fun _ => True) (.slice (s_.1) u5.length (s_.2.1) : Value) u5 ∧ Kd.R k68 68 W w.heap.size (fun _ => True) (s_.2.2.1) u3 ∧ w.heap.size ≤ (s_.2.2.2)) ?_ ?_
       rotate_left
       ·intro hCont
        refine two_ (i := 6) (j := 15) (Ni := some 82) (Nj := some 22) (z 19 1023) (z 19 33727) rfl rfl rfl rfl (by kernel_rfl) (by decide) (by decide) (fun K hK => ?_) (fun K hK => ?_)
        ·refine goes_ Tryz.func58 (by kernel_rfl) rfl #[.string S, .int .u64 y] (by rfl) rfl rfl (by (try simp only [List.map_toArray, List.map_cons, List.map_nil]); first | done | rfl) ?_
         clear hHeld
         (with_reducible refine (bureauref14_made.calls km S y x1 u5 _ HMK.out).mono ?_)
         rintro e W10 ⟨vm, rfl, hm, hb⟩
         have HMR := aM (rL hm HB.out.size)
         replace HB := tl hb HB
         replace BX := tl hb BX
         replace BO := tl hb BO
         clear hm
         refine ⟨_, rfl, hK.out _ _ ⟨zC BX.out 0 _, zC BX.out 1 _⟩ (fun hHeld => ?_)⟩
         clear hK K hb
         refine norm_ (a' := ?_) ?_ ?_
         rotate_left
         ·show Act.put _ (some 82) _ = _
          simp only [Act.put, List.setIfInBounds_toArray, List.set_cons_zero, List.set_cons_succ, i64_w, i32_w]
          rfl
         refine two_ (i := 10) (j := 15) (Ni := some 86) (Nj := some 22) (z 19 2047) (z 19 33791) rfl rfl rfl rfl (by kernel_rfl) (by decide) (by decide) (fun K hK => ?_) (fun K hK => ?_)
         ·obtain ⟨Am, cm, rfl⟩ := Kd.R_slice HMR.out
          refine goes_ Tryz.func57 (by kernel_rfl) rfl #[.agg #[.string s, .slice A l.length c], .int .u64 y, .int .i64 (fr : Int), .int .i64 (p : Int), .agg #[.string x1, .slice Am u5.length cm], .bool true] (by rfl) rfl rfl (by (try simp only [List.map_toArray, List.map_cons, List.map_nil]); first | done | rfl) ?_
          clear hHeld
          (with_reducible refine (rturned_ok (cB_ HRC.out HB.out) HCC.out HL.out (rR HMR.out).2.2 (rR HMR.out).2.1 HML.out (.inl ⟨rfl, rfl⟩) HW.out HLM.out HY.out HU.out).mono ?_)
          rintro e W11 ⟨vo, rfl, ho, hb⟩
          have HO := aM (rL ho HB.out.size)
          replace HB := tl hb HB
          replace BX := tl hb BX
          replace BO := tl hb BO
          replace HMR := tl hb HMR
          clear ho
          rw [show nR 0 Am u5.length cm = (.slice Am u5.length cm : Value) from rfl]
          refine ⟨_, rfl, hK.out _ _ ⟨zC BX.out 0 _, zC BX.out 1 _⟩ (fun hHeld => ?_)⟩
          clear hK K hb
          refine norm_ (a' := ?_) ?_ ?_
          rotate_left
          ·show Act.put _ (some 86) _ = _
           simp only [Act.put, List.setIfInBounds_toArray, List.set_cons_zero, List.set_cons_succ, i64_w, i32_w]
           rfl
          refine sv 11 75 (z 19 4095) ?_
          refine sv 12 87 (z 19 8191) ?_
          refine sv 13 88 (z 19 16383) ?_
          refine sv 14 89 (z 19 32767) ?_
          refine one_ (i := 15) (N := some 22) (z 19 65535) rfl rfl (by kernel_rfl) (by decide) (fun K hK => ?_)
          refine box_step ?hg (N := 22) ?hd (cs := #[.int .i64 0, .string ⟨#[]⟩, .slice none 0 0, .string ⟨#[]⟩, .slice none 0 0]) (t := 36) ?hr ?_; (case hd => rfl); (case hg => rfl); (case hr => first | (go_simp; done) | (go_simp; rfl))
          clear hHeld
          intro gq hg W12 hbox hb
          have Ggq := gG hg HB
          replace HB := tl hb HB
          replace BX := tl hb BX
          replace BO := tl hb BO
          replace HMR := tl hb HMR
          replace HO := tl hb HO
          have BQ := aM hbox
          refine hK.out _ _ ⟨zC BX.out 0 _, zC BX.out 1 _⟩ (fun hHeld => ?_)
          clear hK K hb hbox hg
          refine norm_ (a' := ?_) ?_ ?_
          rotate_left
          ·show Act.put _ (some 22) _ = _
           simp only [Act.put, List.setIfInBounds_toArray, List.set_cons_zero, List.set_cons_succ, i64_w, i32_w]
           rfl
          exact norm_ (by simp only [Go.Proofs.YtjkfkiebhgkolaaGreatDoorW.PrintLast.putAll, Act.put, List.setIfInBounds_toArray, List.set_cons_zero, List.set_cons_succ]) (hCont (Am, cm, vo, gq) _ ⟨hHeld, BO.out, BQ.out, BX.out, HB.out, HMR.out, HO.out, Ggq.out⟩)
         ·refine box_step ?hg (N := 22) ?hd (cs := #[.int .i64 0, .string ⟨#[]⟩, .slice none 0 0, .string ⟨#[]⟩, .slice none 0 0]) (t := 36) ?hr ?_; (case hd => rfl); (case hg => rfl); (case hr => first | (go_simp; done) | (go_simp; rfl))
          clear hHeld
          intro gq hg W11 hbox hb
          have Ggq := gG hg HB
          replace HB := tl hb HB
          replace BX := tl hb BX
          replace BO := tl hb BO
          replace HMR := tl hb HMR
          have BQ := aM hbox
          refine hK.out _ _ ⟨zC BX.out 0 _, zC BX.out 1 _⟩ (fun hHeld => ?_)
          clear hK K hb hbox hg
          refine norm_ (a' := ?_) ?_ ?_
          rotate_left
          ·show Act.put _ (some 22) _ = _
           simp only [Act.put, List.setIfInBounds_toArray, List.set_cons_zero, List.set_cons_succ, i64_w, i32_w]
           rfl
          refine one_ (i := 10) (N := some 86) (z 19 34815) rfl rfl (by kernel_rfl) (by decide) (fun K hK => ?_)
          obtain ⟨Am, cm, rfl⟩ := Kd.R_slice HMR.out
          refine goes_ Tryz.func57 (by kernel_rfl) rfl #[.agg #[.string s, .slice A l.length c], .int .u64 y, .int .i64 (fr : Int), .int .i64 (p : Int), .agg #[.string x1, .slice Am u5.length cm], .bool true] (by rfl) rfl rfl (by (try simp only [List.map_toArray, List.map_cons, List.map_nil]); first | done | rfl) ?_
          clear hHeld
          (with_reducible refine (rturned_ok (cB_ HRC.out HB.out) HCC.out HL.out (rR HMR.out).2.2 (rR HMR.out).2.1 HML.out (.inl ⟨rfl, rfl⟩) HW.out HLM.out HY.out HU.out).mono ?_)
          rintro e W12 ⟨vo, rfl, ho, hb⟩
          have HO := aM (rL ho HB.out.size)
          replace HB := tl hb HB
          replace BX := tl hb BX
          replace BO := tl hb BO
          replace HMR := tl hb HMR
          replace BQ := tl hb BQ
          clear ho
          rw [show nR 0 Am u5.length cm = (.slice Am u5.length cm : Value) from rfl]
          refine ⟨_, rfl, hK.out _ _ ⟨zC BX.out 0 _, zC BX.out 1 _⟩ (fun hHeld => ?_)⟩
          clear hK K hb
          refine norm_ (a' := ?_) ?_ ?_
          rotate_left
          ·show Act.put _ (some 86) _ = _
           simp only [Act.put, List.setIfInBounds_toArray, List.set_cons_zero, List.set_cons_succ, i64_w, i32_w]
           rfl
          refine sv 11 75 (z 19 36863) ?_
          refine sv 12 87 (z 19 40959) ?_
          refine sv 13 88 (z 19 49151) ?_
          refine sv 14 89 (z 19 65535) ?_
          exact norm_ (by simp only [Go.Proofs.YtjkfkiebhgkolaaGreatDoorW.PrintLast.putAll, Act.put, List.setIfInBounds_toArray, List.set_cons_zero, List.set_cons_succ]) (hCont (Am, cm, vo, gq) _ ⟨hHeld, BO.out, BQ.out, BX.out, HB.out, HMR.out, HO.out, Ggq.out⟩)
        ·refine box_step ?hg (N := 22) ?hd (cs := #[.int .i64 0, .string ⟨#[]⟩, .slice none 0 0, .string ⟨#[]⟩, .slice none 0 0]) (t := 36) ?hr ?_; (case hd => rfl); (case hg => rfl); (case hr => first | (go_simp; done) | (go_simp; rfl))
         clear hHeld
         intro gq hg W10 hbox hb
         have Ggq := gG hg HB
         replace HB := tl hb HB
         replace BX := tl hb BX
         replace BO := tl hb BO
         have BQ := aM hbox
         refine hK.out _ _ ⟨zC BX.out 0 _, zC BX.out 1 _⟩ (fun hHeld => ?_)
         clear hK K hb hbox hg
         refine norm_ (a' := ?_) ?_ ?_
         rotate_left
         ·show Act.put _ (some 22) _ = _
          simp only [Act.put, List.setIfInBounds_toArray, List.set_cons_zero, List.set_cons_succ, i64_w, i32_w]
          rfl
         refine one_ (i := 6) (N := some 82) (z 19 33791) rfl rfl (by kernel_rfl) (by decide) (fun K hK => ?_)
         refine goes_ Tryz.func58 (by kernel_rfl) rfl #[.string S, .int .u64 y] (by rfl) rfl rfl (by (try simp only [List.map_toArray, List.map_cons, List.map_nil]); first | done | rfl) ?_
         clear hHeld
         (with_reducible refine (bureauref14_made.calls km S y x1 u5 _ HMK.out).mono ?_)
         rintro e W11 ⟨vm, rfl, hm, hb⟩
         have HMR := aM (rL hm HB.out.size)
         replace HB := tl hb HB
         replace BX := tl hb BX
         replace BO := tl hb BO
         replace BQ := tl hb BQ
         clear hm
         refine ⟨_, rfl, hK.out _ _ ⟨zC BX.out 0 _, zC BX.out 1 _⟩ (fun hHeld => ?_)⟩
         clear hK K hb
         refine norm_ (a' := ?_) ?_ ?_
         rotate_left
         ·show Act.put _ (some 82) _ = _
          simp only [Act.put, List.setIfInBounds_toArray, List.set_cons_zero, List.set_cons_succ, i64_w, i32_w]
          rfl
         refine one_ (i := 10) (N := some 86) (z 19 34815) rfl rfl (by kernel_rfl) (by decide) (fun K hK => ?_)
         obtain ⟨Am, cm, rfl⟩ := Kd.R_slice HMR.out
         refine goes_ Tryz.func57 (by kernel_rfl) rfl #[.agg #[.string s, .slice A l.length c], .int .u64 y, .int .i64 (fr : Int), .int .i64 (p : Int), .agg #[.string x1, .slice Am u5.length cm], .bool true] (by rfl) rfl rfl (by (try simp only [List.map_toArray, List.map_cons, List.map_nil]); first | done | rfl) ?_
         clear hHeld
         (with_reducible refine (rturned_ok (cB_ HRC.out HB.out) HCC.out HL.out (rR HMR.out).2.2 (rR HMR.out).2.1 HML.out (.inl ⟨rfl, rfl⟩) HW.out HLM.out HY.out HU.out).mono ?_)
         rintro e W12 ⟨vo, rfl, ho, hb⟩
         have HO := aM (rL ho HB.out.size)
         replace HB := tl hb HB
         replace BX := tl hb BX
         replace BO := tl hb BO
         replace BQ := tl hb BQ
         replace HMR := tl hb HMR
         clear ho
         rw [show nR 0 Am u5.length cm = (.slice Am u5.length cm : Value) from rfl]
         refine ⟨_, rfl, hK.out _ _ ⟨zC BX.out 0 _, zC BX.out 1 _⟩ (fun hHeld => ?_)⟩
         clear hK K hb
         refine norm_ (a' := ?_) ?_ ?_
         rotate_left
         ·show Act.put _ (some 86) _ = _
          simp only [Act.put, List.setIfInBounds_toArray, List.set_cons_zero, List.set_cons_succ, i64_w, i32_w]
          rfl
         refine sv 11 75 (z 19 36863) ?_
         refine sv 12 87 (z 19 40959) ?_
         refine sv 13 88 (z 19 49151) ?_
         refine sv 14 89 (z 19 65535) ?_
         exact norm_ (by simp only [Go.Proofs.YtjkfkiebhgkolaaGreatDoorW.PrintLast.putAll, Act.put, List.setIfInBounds_toArray, List.set_cons_zero, List.set_cons_succ]) (hCont (Am, cm, vo, gq) _ ⟨hHeld, BO.out, BQ.out, BX.out, HB.out, HMR.out, HO.out, Ggq.out⟩)
       clear hHeld HB BX BO
       rintro ⟨Am, cm, vo, gq⟩ W13 ⟨hHeld, x_0, x_1, x_2, x_3, x_4, x_5, x_6⟩
       try dsimp only at x_0 x_1 x_2 x_3 x_4 x_5 x_6
       have BO := aM x_0
       have BQ := aM x_1
       have BX := aM x_2
       have HB := aM x_3
       have HMR := aM x_4
       have HO := aM x_5
       have Ggq := aM x_6
       clear x_0 x_1 x_2 x_3 x_4 x_5 x_6
       refine norm_ (a' := ?_) ?_ ?_
       rotate_left
       ·simp only [Go.Proofs.YtjkfkiebhgkolaaGreatDoorW.PrintLast.putAll, Act.put, List.setIfInBounds_toArray, List.set_cons_zero, List.set_cons_succ, i64_w, i32_w]
        rfl
       obtain ⟨Ao, co, rfl⟩ := Kd.R_slice HO.out
       refine lS 16 (z 19 131071) BQ 0 [.int .i64 u1, .string u2, .slice Ao u3.length co, .string u4, .slice Am u5.length cm] (fun W14 hP => ?_)
       clear hHeld
       replace BO := sB hP BQ BO
       replace BX := sB hP BQ BX
       replace HB := sW hP Ggq HB
       replace HMR := sR hP BQ HMR
       replace HO := sR hP BQ HO
       replace BQ := sX hP BQ
       clear hP
       refine sv 17 23 (z 19 262143) ?_
       refine sv 18 24 (z 19 524287) ?_
       refine done_ (by kernel_rfl) ?_
       have e1 := E1.out
       have e2 := E2.out
       go_wp2
       have hb := below_drew1 (Below.refl W14.heap.size W14)
       replace BO := tl hb BO
       replace BQ := tl hb BQ
       replace BX := tl hb BX
       replace HB := tl hb HB
       replace HMR := tl hb HMR
       replace HO := tl hb HO
       clear hb
       refine oS1 12 (fun W => W.cell? ⟨gq, 0, none⟩ = some (.int .i64 u1) ∧ W.cell? ⟨gq, 1, none⟩ = some (.string u2) ∧ W.cell? ⟨gq, 2, none⟩ = some (.slice Ao u3.length co) ∧ W.cell? ⟨gq, 3, none⟩ = some (.string u4) ∧ W.cell? ⟨gq, 4, none⟩ = some (.slice Am u5.length cm)) [10] ⟨zC BQ.out 0 _, zC BQ.out 1 _, zC BQ.out 2 _, zC BQ.out 3 _, zC BQ.out 4 _⟩ (fun hHeld => ?_)
       generalize W14.drew = W15 at BO BQ BX HB HMR HO hHeld ⊢
       refine sv 1 95 (z 12 2) ?_
       refine sv 2 96 (z 12 6) ?_
       refine sv 3 97 (z 12 14) ?_
       refine sv 4 98 (z 12 30) ?_
       refine sv 5 99 (z 12 62) ?_
       refine st 0 94 (z 12 63) hHeld ?_
       refine oC 6 (some 100) (z 12 127) Tryz.func56 #[.int .i64 k] ?_
       clear hHeld
       (with_reducible refine (bureauref02_Bytes.calls k _ _ HBY.out).mono ?_)
       rintro e W16 ⟨rfl, hb⟩
       replace BO := tl hb BO
       replace BQ := tl hb BQ
       replace BX := tl hb BX
       replace HB := tl hb HB
       replace HMR := tl hb HMR
       replace HO := tl hb HO
       refine ⟨_, rfl, ⟨zC BQ.out 0 _, zC BQ.out 1 _, zC BQ.out 2 _, zC BQ.out 3 _, zC BQ.out 4 _⟩, fun hHeld => nm ?_⟩
       clear hb
       refine sv 7 101 (z 12 255) ?_
       refine sv 8 102 (z 12 511) ?_
       refine sv 9 103 (z 12 1023) ?_
       refine lS 10 (z 12 2047) BO 0 [.int .i64 u1, .string u2, .slice Ao u3.length co, .string u4, .slice Am u5.length cm, .string ⟨#[]⟩, .slice none 0 0, .bool false, .bool false, .int .i64 z2] (fun W17 hP => ?_)
       clear hHeld
       replace BQ := sB hP BO BQ
       replace BX := sB hP BO BX
       replace HB := sW hP Ggo HB
       replace HMR := sR hP BO HMR
       replace HO := sR hP BO HO
       replace BO := sX hP BO
       clear hP
       refine sv 11 11 (z 12 4095) ?_
       refine done_ (by kernel_rfl) ?_
       go_wp2
       refine bodyPost_ret (results_ct rfl _ _ go 42 #[.int .i64 u1, .string u2, .slice Ao u3.length co, .string u4, .slice Am u5.length cm, .string ⟨#[]⟩, .slice none 0 0, .bool false, .bool false, .int .i64 z2] (0, 0) _ rfl BO.out Tryz.underlying42 rfl (by kernel_rfl)) rfl ?_
       exact ⟨_, _, _, rfl, HO.out, HMR.out, Kd.R_nil _ _ _ _ _, HB.out⟩
      ·rw [if_neg h6] at hD
       unfold noO at hD
       simp only [Prod.mk.injEq] at hD
       obtain ⟨rfl, rfl, rfl, rfl, rfl, rfl, rfl, rfl, rfl, rfl, rfl⟩ := hD
       have b3 : (u6 != 0) = true := bne_iff_ne.2 h6
       have b4 : (u6 == 0) = false := beq_eq_false_iff_ne.2 h6
       have H6 := aM h6
       clear h6 hn
       go_wp2
       have hb := below_drew1 (Below.refl wr.heap.size wr)
       replace HB := tl hb HB
       replace BX := tl hb BX
       replace BO := tl hb BO
       clear hb
       refine oS1 19 (fun W => W.cell? ⟨gx, 0, none⟩ = some (.string s) ∧ W.cell? ⟨gx, 1, none⟩ = some (.slice A l.length c)) [16] ⟨zC BX.out 0 _, zC BX.out 1 _⟩ (fun hHeld => ?_)
       generalize wr.drew = W9 at HB BX BO hHeld ⊢
       refine sv 1 77 (z 19 2) ?_
       refine sv 2 78 (z 19 6) ?_
       refine sv 3 79 (z 19 14) ?_
       refine sv 4 80 (z 19 30) ?_
       refine sv 5 81 (z 19 62) ?_
       refine sv 7 83 (z 19 190) ?_
       refine sv 8 84 (z 19 446) ?_
       refine sv 9 85 (z 19 958) ?_
       refine st 0 76 (z 19 959) hHeld ?_
       refine join_ (σ := Option Addr × Nat × Value × Nat) 3 (z 19 65535) (fun s_ => [(82, .agg #[.string x1, .slice (s_.1) x2.length (s_.2.1)]), (22, .pointer (some ⟨(s_.2.2.2), 0, none⟩)), (86, .tuple #[.agg #[.int .i64 u1, .string u2, (s_.2.2.1), .string u4, (.slice none 0 0 : Value)], .string u7, .int .i64 u6]), (75, .tuple #[.agg #[.int .i64 u1, .string u2, (s_.2.2.1), .string u4, (.slice none 0 0 : Value)], .string u7, .int .i64 u6]), (87, .agg #[.int .i64 u1, .string u2, (s_.2.2.1), .string u4, (.slice none 0 0 : Value)]), (88, .string u7), (89, .int .i64 u6)]) (fun s_ W => (W.cell? ⟨gx, 0, none⟩ = some (.string s) ∧ W.cell? ⟨gx, 1, none⟩ = some (.slice A l.length c)) ∧ W.heap[go]? = some (.cells #[.int .i64 0, .string ⟨#[]⟩, .slice none 0 0, .string ⟨#[]⟩, .slice none 0 0, .string ⟨#[]⟩, .slice none 0 0, .bool false, .bool false, .int .i64 0] 42 (0, 0)) ∧ W.heap[(s_.2.2.2)]? = some (.cells #[.int .i64 0, .string ⟨#[]⟩, .slice none 0 0, .string ⟨#[]⟩, .slice none 0 0] 36 (0, 0)) ∧ W.heap[gx]? = some (.cells #[.string s, .slice A l.length c] 24 (0, 0)) ∧ Below w.heap.size w W ∧ Kd.R k68 68 W w.heap.size (fun _ => True) (.slice (s_.1) x2.length (s_.2.1) : Value) x2 ∧ Kd.R k68 68 W w.heap.size (fun _ => True) (s_.2.2.1) u3 ∧ w.heap.size ≤ (s_.2.2.2)) ?_ ?_
       rotate_left
       ·intro hCont
        refine two_ (i := 6) (j := 15) (Ni := some 82) (Nj := some 22) (z 19 1023) (z 19 33727) rfl rfl rfl rfl (by kernel_rfl) (by decide) (by decide) (fun K hK => ?_) (fun K hK => ?_)
        ·refine goes_ Tryz.func58 (by kernel_rfl) rfl #[.string S, .int .u64 y] (by rfl) rfl rfl (by (try simp only [List.map_toArray, List.map_cons, List.map_nil]); first | done | rfl) ?_
         clear hHeld
         (with_reducible refine (bureauref14_made.calls km S y x1 x2 _ HMK.out).mono ?_)
         rintro e W10 ⟨vm, rfl, hm, hb⟩
         have HMR := aM (rL hm HB.out.size)
         replace HB := tl hb HB
         replace BX := tl hb BX
         replace BO := tl hb BO
         clear hm
         refine ⟨_, rfl, hK.out _ _ ⟨zC BX.out 0 _, zC BX.out 1 _⟩ (fun hHeld => ?_)⟩
         clear hK K hb
         refine norm_ (a' := ?_) ?_ ?_
         rotate_left
         ·show Act.put _ (some 82) _ = _
          simp only [Act.put, List.setIfInBounds_toArray, List.set_cons_zero, List.set_cons_succ, i64_w, i32_w]
          rfl
         refine two_ (i := 10) (j := 15) (Ni := some 86) (Nj := some 22) (z 19 2047) (z 19 33791) rfl rfl rfl rfl (by kernel_rfl) (by decide) (by decide) (fun K hK => ?_) (fun K hK => ?_)
         ·obtain ⟨Am, cm, rfl⟩ := Kd.R_slice HMR.out
          refine goes_ Tryz.func57 (by kernel_rfl) rfl #[.agg #[.string s, .slice A l.length c], .int .u64 y, .int .i64 (fr : Int), .int .i64 (p : Int), .agg #[.string x1, .slice Am x2.length cm], .bool true] (by rfl) rfl rfl (by (try simp only [List.map_toArray, List.map_cons, List.map_nil]); first | done | rfl) ?_
          clear hHeld
          (with_reducible refine (rturned_ok (cB_ HRC.out HB.out) HCC.out HL.out (rR HMR.out).2.2 (rR HMR.out).2.1 HML.out (.inl ⟨rfl, rfl⟩) HW.out HLM.out HY.out HU.out).mono ?_)
          rintro e W11 ⟨vo, rfl, ho, hb⟩
          have HO := aM (rL ho HB.out.size)
          replace HB := tl hb HB
          replace BX := tl hb BX
          replace BO := tl hb BO
          replace HMR := tl hb HMR
          clear ho
          rw [show nR u6 Am x2.length cm = (.slice none 0 0 : Value) from if_neg H6.out]
          refine ⟨_, rfl, hK.out _ _ ⟨zC BX.out 0 _, zC BX.out 1 _⟩ (fun hHeld => ?_)⟩
          clear hK K hb
          refine norm_ (a' := ?_) ?_ ?_
          rotate_left
          ·show Act.put _ (some 86) _ = _
           simp only [Act.put, List.setIfInBounds_toArray, List.set_cons_zero, List.set_cons_succ, i64_w, i32_w]
           rfl
          refine sv 11 75 (z 19 4095) ?_
          refine sv 12 87 (z 19 8191) ?_
          refine sv 13 88 (z 19 16383) ?_
          refine sv 14 89 (z 19 32767) ?_
          refine one_ (i := 15) (N := some 22) (z 19 65535) rfl rfl (by kernel_rfl) (by decide) (fun K hK => ?_)
          refine box_step ?hg (N := 22) ?hd (cs := #[.int .i64 0, .string ⟨#[]⟩, .slice none 0 0, .string ⟨#[]⟩, .slice none 0 0]) (t := 36) ?hr ?_; (case hd => rfl); (case hg => rfl); (case hr => first | (go_simp; done) | (go_simp; rfl))
          clear hHeld
          intro gq hg W12 hbox hb
          have Ggq := gG hg HB
          replace HB := tl hb HB
          replace BX := tl hb BX
          replace BO := tl hb BO
          replace HMR := tl hb HMR
          replace HO := tl hb HO
          have BQ := aM hbox
          refine hK.out _ _ ⟨zC BX.out 0 _, zC BX.out 1 _⟩ (fun hHeld => ?_)
          clear hK K hb hbox hg
          refine norm_ (a' := ?_) ?_ ?_
          rotate_left
          ·show Act.put _ (some 22) _ = _
           simp only [Act.put, List.setIfInBounds_toArray, List.set_cons_zero, List.set_cons_succ, i64_w, i32_w]
           rfl
          exact norm_ (by simp only [Go.Proofs.YtjkfkiebhgkolaaGreatDoorW.PrintLast.putAll, Act.put, List.setIfInBounds_toArray, List.set_cons_zero, List.set_cons_succ]) (hCont (Am, cm, vo, gq) _ ⟨hHeld, BO.out, BQ.out, BX.out, HB.out, HMR.out, HO.out, Ggq.out⟩)
         ·refine box_step ?hg (N := 22) ?hd (cs := #[.int .i64 0, .string ⟨#[]⟩, .slice none 0 0, .string ⟨#[]⟩, .slice none 0 0]) (t := 36) ?hr ?_; (case hd => rfl); (case hg => rfl); (case hr => first | (go_simp; done) | (go_simp; rfl))
          clear hHeld
          intro gq hg W11 hbox hb
          have Ggq := gG hg HB
          replace HB := tl hb HB
          replace BX := tl hb BX
          replace BO := tl hb BO
          replace HMR := tl hb HMR
          have BQ := aM hbox
          refine hK.out _ _ ⟨zC BX.out 0 _, zC BX.out 1 _⟩ (fun hHeld => ?_)
          clear hK K hb hbox hg
          refine norm_ (a' := ?_) ?_ ?_
          rotate_left
          ·show Act.put _ (some 22) _ = _
           simp only [Act.put, List.setIfInBounds_toArray, List.set_cons_zero, List.set_cons_succ, i64_w, i32_w]
           rfl
          refine one_ (i := 10) (N := some 86) (z 19 34815) rfl rfl (by kernel_rfl) (by decide) (fun K hK => ?_)
          obtain ⟨Am, cm, rfl⟩ := Kd.R_slice HMR.out
          refine goes_ Tryz.func57 (by kernel_rfl) rfl #[.agg #[.string s, .slice A l.length c], .int .u64 y, .int .i64 (fr : Int), .int .i64 (p : Int), .agg #[.string x1, .slice Am x2.length cm], .bool true] (by rfl) rfl rfl (by (try simp only [List.map_toArray, List.map_cons, List.map_nil]); first | done | rfl) ?_
          clear hHeld
          (with_reducible refine (rturned_ok (cB_ HRC.out HB.out) HCC.out HL.out (rR HMR.out).2.2 (rR HMR.out).2.1 HML.out (.inl ⟨rfl, rfl⟩) HW.out HLM.out HY.out HU.out).mono ?_)
          rintro e W12 ⟨vo, rfl, ho, hb⟩
          have HO := aM (rL ho HB.out.size)
          replace HB := tl hb HB
          replace BX := tl hb BX
          replace BO := tl hb BO
          replace HMR := tl hb HMR
          replace BQ := tl hb BQ
          clear ho
          rw [show nR u6 Am x2.length cm = (.slice none 0 0 : Value) from if_neg H6.out]
          refine ⟨_, rfl, hK.out _ _ ⟨zC BX.out 0 _, zC BX.out 1 _⟩ (fun hHeld => ?_)⟩
          clear hK K hb
          refine norm_ (a' := ?_) ?_ ?_
          rotate_left
          ·show Act.put _ (some 86) _ = _
           simp only [Act.put, List.setIfInBounds_toArray, List.set_cons_zero, List.set_cons_succ, i64_w, i32_w]
           rfl
          refine sv 11 75 (z 19 36863) ?_
          refine sv 12 87 (z 19 40959) ?_
          refine sv 13 88 (z 19 49151) ?_
          refine sv 14 89 (z 19 65535) ?_
          exact norm_ (by simp only [Go.Proofs.YtjkfkiebhgkolaaGreatDoorW.PrintLast.putAll, Act.put, List.setIfInBounds_toArray, List.set_cons_zero, List.set_cons_succ]) (hCont (Am, cm, vo, gq) _ ⟨hHeld, BO.out, BQ.out, BX.out, HB.out, HMR.out, HO.out, Ggq.out⟩)
        ·refine box_step ?hg (N := 22) ?hd (cs := #[.int .i64 0, .string ⟨#[]⟩, .slice none 0 0, .string ⟨#[]⟩, .slice none 0 0]) (t := 36) ?hr ?_; (case hd => rfl); (case hg => rfl); (case hr => first | (go_simp; done) | (go_simp; rfl))
         clear hHeld
         intro gq hg W10 hbox hb
         have Ggq := gG hg HB
         replace HB := tl hb HB
         replace BX := tl hb BX
         replace BO := tl hb BO
         have BQ := aM hbox
         refine hK.out _ _ ⟨zC BX.out 0 _, zC BX.out 1 _⟩ (fun hHeld => ?_)
         clear hK K hb hbox hg
         refine norm_ (a' := ?_) ?_ ?_
         rotate_left
         ·show Act.put _ (some 22) _ = _
          simp only [Act.put, List.setIfInBounds_toArray, List.set_cons_zero, List.set_cons_succ, i64_w, i32_w]
          rfl
         refine one_ (i := 6) (N := some 82) (z 19 33791) rfl rfl (by kernel_rfl) (by decide) (fun K hK => ?_)
         refine goes_ Tryz.func58 (by kernel_rfl) rfl #[.string S, .int .u64 y] (by rfl) rfl rfl (by (try simp only [List.map_toArray, List.map_cons, List.map_nil]); first | done | rfl) ?_
         clear hHeld
         (with_reducible refine (bureauref14_made.calls km S y x1 x2 _ HMK.out).mono ?_)
         rintro e W11 ⟨vm, rfl, hm, hb⟩
         have HMR := aM (rL hm HB.out.size)
         replace HB := tl hb HB
         replace BX := tl hb BX
         replace BO := tl hb BO
         replace BQ := tl hb BQ
         clear hm
         refine ⟨_, rfl, hK.out _ _ ⟨zC BX.out 0 _, zC BX.out 1 _⟩ (fun hHeld => ?_)⟩
         clear hK K hb
         refine norm_ (a' := ?_) ?_ ?_
         rotate_left
         ·show Act.put _ (some 82) _ = _
          simp only [Act.put, List.setIfInBounds_toArray, List.set_cons_zero, List.set_cons_succ, i64_w, i32_w]
          rfl
         refine one_ (i := 10) (N := some 86) (z 19 34815) rfl rfl (by kernel_rfl) (by decide) (fun K hK => ?_)
         obtain ⟨Am, cm, rfl⟩ := Kd.R_slice HMR.out
         refine goes_ Tryz.func57 (by kernel_rfl) rfl #[.agg #[.string s, .slice A l.length c], .int .u64 y, .int .i64 (fr : Int), .int .i64 (p : Int), .agg #[.string x1, .slice Am x2.length cm], .bool true] (by rfl) rfl rfl (by (try simp only [List.map_toArray, List.map_cons, List.map_nil]); first | done | rfl) ?_
         clear hHeld
         (with_reducible refine (rturned_ok (cB_ HRC.out HB.out) HCC.out HL.out (rR HMR.out).2.2 (rR HMR.out).2.1 HML.out (.inl ⟨rfl, rfl⟩) HW.out HLM.out HY.out HU.out).mono ?_)
         rintro e W12 ⟨vo, rfl, ho, hb⟩
         have HO := aM (rL ho HB.out.size)
         replace HB := tl hb HB
         replace BX := tl hb BX
         replace BO := tl hb BO
         replace BQ := tl hb BQ
         replace HMR := tl hb HMR
         clear ho
         rw [show nR u6 Am x2.length cm = (.slice none 0 0 : Value) from if_neg H6.out]
         refine ⟨_, rfl, hK.out _ _ ⟨zC BX.out 0 _, zC BX.out 1 _⟩ (fun hHeld => ?_)⟩
         clear hK K hb
         refine norm_ (a' := ?_) ?_ ?_
         rotate_left
         ·show Act.put _ (some 86) _ = _
          simp only [Act.put, List.setIfInBounds_toArray, List.set_cons_zero, List.set_cons_succ, i64_w, i32_w]
          rfl
         refine sv 11 75 (z 19 36863) ?_
         refine sv 12 87 (z 19 40959) ?_
         refine sv 13 88 (z 19 49151) ?_
         refine sv 14 89 (z 19 65535) ?_
         exact norm_ (by simp only [Go.Proofs.YtjkfkiebhgkolaaGreatDoorW.PrintLast.putAll, Act.put, List.setIfInBounds_toArray, List.set_cons_zero, List.set_cons_succ]) (hCont (Am, cm, vo, gq) _ ⟨hHeld, BO.out, BQ.out, BX.out, HB.out, HMR.out, HO.out, Ggq.out⟩)
       clear hHeld HB BX BO
       rintro ⟨Am, cm, vo, gq⟩ W13 ⟨hHeld, x_0, x_1, x_2, x_3, x_4, x_5, x_6⟩
       try dsimp only at x_0 x_1 x_2 x_3 x_4 x_5 x_6
       have BO := aM x_0
       have BQ := aM x_1
       have BX := aM x_2
       have HB := aM x_3
       have HMR := aM x_4
       have HO := aM x_5
       have Ggq := aM x_6
       clear x_0 x_1 x_2 x_3 x_4 x_5 x_6
       refine norm_ (a' := ?_) ?_ ?_
       rotate_left
       ·simp only [Go.Proofs.YtjkfkiebhgkolaaGreatDoorW.PrintLast.putAll, Act.put, List.setIfInBounds_toArray, List.set_cons_zero, List.set_cons_succ, i64_w, i32_w]
        rfl
       obtain ⟨Ao, co, rfl⟩ := Kd.R_slice HO.out
       refine lS 16 (z 19 131071) BQ 0 [.int .i64 u1, .string u2, .slice Ao u3.length co, .string u4, .slice none 0 0] (fun W14 hP => ?_)
       clear hHeld
       replace BO := sB hP BQ BO
       replace BX := sB hP BQ BX
       replace HB := sW hP Ggq HB
       replace HMR := sR hP BQ HMR
       replace HO := sR hP BQ HO
       replace BQ := sX hP BQ
       clear hP
       refine sv 17 23 (z 19 262143) ?_
       refine sv 18 24 (z 19 524287) ?_
       refine done_ (by kernel_rfl) ?_
       go_wp2_with (first
        | (refine gS BO 0 [.int .i64 0, .string ⟨#[]⟩, .slice none 0 0, .string ⟨#[]⟩, .slice none 0 0, .string ⟨#[]⟩, .slice none 0 0, .bool false, .bool false, .int .i64 0] (fun W15 hP => ?_); replace BQ := sB hP BO BQ; replace BX := sB hP BO BX; replace HB := sW hP Ggo HB; replace HMR := sR hP BO HMR; replace HO := sR hP BO HO; replace BO := sX hP BO; clear hP)
        )
       refine bodyPost_ret (results_ct rfl _ _ go 42 #[.int .i64 0, .string ⟨#[]⟩, .slice none 0 0, .string ⟨#[]⟩, .slice none 0 0, .string ⟨#[]⟩, .slice none 0 0, .bool false, .bool false, .int .i64 0] (0, 0) _ rfl BO.out Tryz.underlying42 rfl (by kernel_rfl)) rfl ?_
       exact ⟨_, _, _, rfl, Kd.R_nil _ _ _ _ _, Kd.R_nil _ _ _ _ _, Kd.R_nil _ _ _ _ _, HB.out⟩
     | succ k1 =>
      have pr1 : ((i : Int) < (m : Int)) = True := eq_true (by have := HQ.out; omega)
      have pr2 : (i < m) = True := eq_true (by have := HQ.out; omega)
      have hst := HST.out
      unfold stepsN at hst
      by_cases hpe : p < lineTo v ln
      ·rw [if_pos hpe] at hst
       have pr3 : ((p : Int) ≥ (lineTo v ln : Int)) = False := eq_false (by omega)
       have pr4 : ((lineTo v ln : Int) ≤ (p : Int)) = False := eq_false (by omega)
       have pr5 : (lineTo v ln ≤ p) = False := eq_false (by omega)
       obtain ⟨kn, hkn⟩ := (rnext_ev v (by have := HV.out; omega) (p : Int)).rounds
       have HKN := aM hkn
       have HST2 := aM hst
       have hsz : S.size + (Utf8.encode k).size ≤ 9223372036854775807 := by have := HRZ.out; have := HEZ.out; omega
       have E4 := aM (show wrap64 ((i : Int) + 1) = ((i + 1 : Nat) : Int) from w1n (n := 200000) (by have := HQ.out; have := HOR.out; omega) (by omega))
       clear hkn hst
       go_wp2_with (first
        | (refine gC (some 70) Tryz.func55 #[.string v, .int .i64 (p : Int)] ?_; (with_reducible refine (bureauref02_Next.calls kn v (p : Int) _ _ HKN.out).mono ?_); rintro e W9 ⟨rfl, hb⟩; replace HB := tl hb HB; replace BX := tl hb BX; replace BO := tl hb BO; refine ⟨_, rfl, ?_⟩; clear hb)
        | (refine gC (some 73) Tryz.func56 #[.int .i64 k] ?_; (with_reducible refine (bureauref02_Bytes.calls k _ _ HBY.out).mono ?_); rintro e W10 ⟨rfl, hb⟩; replace HB := tl hb HB; replace BX := tl hb BX; replace BO := tl hb BO; refine ⟨_, rfl, ?_⟩; clear hb)
        )
       go_roundg k1
       case measure => exact Nat.lt_succ_self k1
       case rel => exact ⟨_, i + 1, _, rfl, rfl, congrArg (Value.int IntKind.i64) E4.out, ⟨by rw [repB_succ, ← HSE.out]⟩, ⟨by have := HQ.out; omega⟩, HST2, HB, BX, BO⟩
      ·rw [if_neg hpe] at hst
       subst hst
       have hD := HDD.out
       dsimp only at hD
       unfold noO at hD
       simp only [Prod.mk.injEq] at hD
       obtain ⟨rfl, rfl, rfl, rfl, rfl, rfl, rfl, rfl, rfl, rfl, rfl⟩ := hD
       have pr3 : ((p : Int) ≥ (lineTo v ln : Int)) = True := eq_true (by omega)
       have pr4 : ((lineTo v ln : Int) ≤ (p : Int)) = True := eq_true (by omega)
       have pr5 : (lineTo v ln ≤ p) = True := eq_true (by omega)
       go_wp2_with (first
        | (refine gS BO 0 [.int .i64 0, .string ⟨#[]⟩, .slice none 0 0, .string ⟨#[]⟩, .slice none 0 0, .string ⟨#[]⟩, .slice none 0 0, .bool false, .bool false, .int .i64 0] (fun W9 hP => ?_); replace HB := sW hP Ggo HB; replace BX := sB hP BO BX; replace BO := sX hP BO; clear hP)
        )
       refine bodyPost_ret (results_ct rfl _ _ go 42 #[.int .i64 0, .string ⟨#[]⟩, .slice none 0 0, .string ⟨#[]⟩, .slice none 0 0, .string ⟨#[]⟩, .slice none 0 0, .bool false, .bool false, .int .i64 0] (0, 0) _ rfl BO.out Tryz.underlying42 rfl (by kernel_rfl)) rfl ?_
       exact ⟨_, _, _, rfl, Kd.R_nil _ _ _ _ _, Kd.R_nil _ _ _ _ _, Kd.R_nil _ _ _ _ _, HB.out⟩
 ·rw [if_neg (fun hh => he hh.1)] at hD
  have b3 : (er != 0) = true := bne_iff_ne.2 he
  have b4 : (er == 0) = false := beq_eq_false_iff_ne.2 he
  unfold noO at hD
  simp only [Prod.mk.injEq] at hD
  obtain ⟨rfl, rfl, rfl, rfl, rfl, rfl, rfl, rfl, rfl, rfl, rfl⟩ := hD
  go_enter Tryz.func16, Tryz.ntmps16
  go_wp2_with (first
   | (refine gB 5 #[.string s, .slice A l.length c] 24 (fun gx hg W1 BX hb => ?_); have Ggx := g0 hg; have HB := aM hb; clear hb hg)
   | (refine gB 10 #[.int .i64 0, .string ⟨#[]⟩, .slice none 0 0, .string ⟨#[]⟩, .slice none 0 0, .string ⟨#[]⟩, .slice none 0 0, .bool false, .bool false, .int .i64 0] 42 (fun go hg W2 BO hb => ?_); have Ggo := gG hg HB; replace HB := tl hb HB; replace BX := tl hb BX; clear hb hg; replace hx0 := zC BX.out 0 (.string s); replace hx1 := zC BX.out 1 (.slice A l.length c))
   | (refine gC (some 28) Tryz.func35 #[.agg #[.string s, .slice A l.length c], .int .u64 y] ?_; (with_reducible refine (bureauref04_View.calls kv s A c l y v er _ (cB_ HRC.out HB.out) HCC.out HF.out).mono ?_); rintro e W3 ⟨rfl, hb⟩; replace HB := tl hb HB; replace BX := tl hb BX; replace BO := tl hb BO; refine ⟨_, rfl, ?_⟩; clear hb; replace hx0 := zC BX.out 0 (.string s); replace hx1 := zC BX.out 1 (.slice A l.length c))
   | (refine gS BO 0 [.int .i64 0, .string ⟨#[]⟩, .slice none 0 0, .string ⟨#[]⟩, .slice none 0 0, .string ⟨#[]⟩, .slice none 0 0, .bool false, .bool false, .int .i64 0] (fun W4 hP => ?_); replace HB := sW hP Ggo HB; replace BX := sB hP BO BX; replace BO := sX hP BO; clear hP)
   )
  refine bodyPost_ret (results_ct rfl _ _ go 42 #[.int .i64 0, .string ⟨#[]⟩, .slice none 0 0, .string ⟨#[]⟩, .slice none 0 0, .string ⟨#[]⟩, .slice none 0 0, .bool false, .bool false, .int .i64 0] (0, 0) _ rfl BO.out Tryz.underlying42 rfl (by kernel_rfl)) rfl ?_
  exact ⟨_, _, _, rfl, Kd.R_nil _ _ _ _ _, Kd.R_nil _ _ _ _ _, Kd.R_nil _ _ _ _ _, HB.out⟩
end Go.Proofs.YtjkfkiebhgkolaaGreatDoor.PB
end

section
namespace Go.Proofs.YtjkfkiebhgkolaaGreatDoor.PB
open Go.RowKit Go.Maps Go.Proofs.YtjkfkiebhgkolaaGreatDoorW.PrintWords Go.Proofs.YtjkfkiebhgkolaaGreatDoorW.PrintLast Go.Proofs.YtjkfkiebhgkolaaGreatDoorW.PrintMore
set_option maxRecDepth 100000
set_option linter.unusedVariables false
set_option linter.unusedSimpArgs false
section
variable {w0 : World} {g : Nat} {A : Option Addr} {c : Nat} {ov : Value} {w W : World} {s : ByteArray} {l : List S68} {v : ByteArray} {y : Int} {d : TX}
theorem Out4.at {w w' : World} {e : Ending} {r : OX} (h : Out4 w0 g w w' e r) {r1 : Int} {r2 : ByteArray} {r3 : List S68} {r4 : ByteArray} {r5 : List S68} {r6 : ByteArray} {r7 : List S68} {r8 r9 : Bool} {r10 r11 : Int} (hr : r = (r1, r2, r3, r4, r5, r6, r7, r8, r9, r10, r11)) : ∃ v2 v4 v6 : Value, e = .returned (.tuple #[.agg #[.int .i64 r1, .string r2, v2, .string r4, v4, .string r6, v6, .bool r8, .bool r9, .int .i64 r10], .int .i64 r11]) ∧ Kd.R k68 68 w' w0.heap.size (fun k_ => some k_ ≠ (v4 : Value).ownBlock ∧ some k_ ≠ (v6 : Value).ownBlock) v2 r3 ∧ Kd.R k68 68 w' w0.heap.size (fun k_ => some k_ ≠ (v2 : Value).ownBlock ∧ some k_ ≠ (v6 : Value).ownBlock) v4 r5 ∧ Kd.R k68 68 w' w0.heap.size (fun k_ => some k_ ≠ (v2 : Value).ownBlock ∧ some k_ ≠ (v4 : Value).ownBlock) v6 r7 ∧ Turn w0.heap.size (fun k => k = g) w w' := by
 subst hr
 exact h
theorem take_at (h : DeskAt w0 g A c ov w s l v y d0) (hv : v.size ≤ 100000) (hM : NumOk w) (op f t : Int) (ln : Bool) (hln : ln = true) {r1 : Int} {r2 : ByteArray} {r3 : List S68} {r4 : ByteArray} {r5 : List S68} {r6 : ByteArray} {r7 : List S68} {r8 r9 : Bool} {r10 r11 : Int} (hD : takeD s l y v op f t ln = (r1, r2, r3, r4, r5, r6, r7, r8, r9, r10, r11)) :
  Calls Tryz.prog 31 #[.pointer (some ⟨g, 0, none⟩), .int .i32 op, .agg #[.int .i64 f, .int .i64 t, .bool ln]] w fun e w' => ∃ v2 v4 v6 : Value, e = .returned (.tuple #[.agg #[.int .i64 r1, .string r2, v2, .string r4, v4, .string r6, v6, .bool r8, .bool r9, .int .i64 r10], .int .i64 r11]) ∧ Kd.R k68 68 w' w0.heap.size (fun k_ => some k_ ≠ (v4 : Value).ownBlock ∧ some k_ ≠ (v6 : Value).ownBlock) v2 r3 ∧ Kd.R k68 68 w' w0.heap.size (fun k_ => some k_ ≠ (v2 : Value).ownBlock ∧ some k_ ≠ (v6 : Value).ownBlock) v4 r5 ∧ Kd.R k68 68 w' w0.heap.size (fun k_ => some k_ ≠ (v2 : Value).ownBlock ∧ some k_ ≠ (v4 : Value).ownBlock) v6 r7 ∧ Turn w0.heap.size (fun k => k = g) w w' := by
 subst hln
 exact (take_true h hv hM op f t).mono fun e w' hh => (hh.four h.size g).at hD
theorem join_at (h : DeskAt w0 g A c ov w s l v y d0) (hv : v.size ≤ 4096) (f t : Int) (ln : Bool) (hr : rightD v f t ln = true) {r1 : Int} {r2 : ByteArray} {r3 : List S68} {r4 : ByteArray} {r5 : List S68} {r6 : ByteArray} {r7 : List S68} {r8 r9 : Bool} {r10 r11 : Int} (hD : joinD s l y v f t ln = (r1, r2, r3, r4, r5, r6, r7, r8, r9, r10, r11)) :
  Calls Tryz.prog 34 #[.pointer (some ⟨g, 0, none⟩), .agg #[.int .i64 f, .int .i64 t, .bool ln]] w fun e w' => ∃ v2 v4 v6 : Value, e = .returned (.tuple #[.agg #[.int .i64 r1, .string r2, v2, .string r4, v4, .string r6, v6, .bool r8, .bool r9, .int .i64 r10], .int .i64 r11]) ∧ Kd.R k68 68 w' w0.heap.size (fun k_ => some k_ ≠ (v4 : Value).ownBlock ∧ some k_ ≠ (v6 : Value).ownBlock) v2 r3 ∧ Kd.R k68 68 w' w0.heap.size (fun k_ => some k_ ≠ (v2 : Value).ownBlock ∧ some k_ ≠ (v6 : Value).ownBlock) v4 r5 ∧ Kd.R k68 68 w' w0.heap.size (fun k_ => some k_ ≠ (v2 : Value).ownBlock ∧ some k_ ≠ (v4 : Value).ownBlock) v6 r7 ∧ Turn w0.heap.size (fun k => k = g) w w' :=
 (join_ok h (by omega) f t ln hr (by
  have := right_facts hr
  have := ends_len_le v
  have h3 := this
  split at * <;> omega)).mono fun e w' hh => hh.at hD
theorem do_cases {s : ByteArray} {l : List S68} {v : ByteArray} {y op f t : Int} {ln : Bool} {R : OX}
  (h : (if op = 100 ∨ op = 121 ∨ op = 99 then takeD s l y v op f t ln else if op = 62 ∨ op = 60 then shiftD s l y v op f t ln else if op = 126 then toggleD s l y v f t ln else if op = 74 then joinD s l y v f t ln else noO 2) = R) :
  (op = 100 ∧ takeD s l y v op f t ln = R) ∨ (op = 121 ∧ takeD s l y v op f t ln = R) ∨ (op = 99 ∧ takeD s l y v op f t ln = R) ∨ (op = 62 ∧ shiftD s l y v op f t ln = R) ∨ (op = 60 ∧ shiftD s l y v op f t ln = R) ∨ (op = 126 ∧ toggleD s l y v f t ln = R) ∨ (op = 74 ∧ joinD s l y v f t ln = R) ∨
   ((op ≠ 100 ∧ op ≠ 121 ∧ op ≠ 99 ∧ op ≠ 62 ∧ op ≠ 60 ∧ op ≠ 126 ∧ op ≠ 74) ∧ noO 2 = R) := by
 split at h
 ·rename_i h1
  rcases h1 with h1 | h1 | h1 <;> simp [h1, ← h]
 ·split at h
  ·rename_i h1
   rcases h1 with h1 | h1 <;> simp [h1, ← h]
  ·split at h
   ·rename_i h1
    simp [h1, ← h]
   ·split at h
    ·rename_i h1
     simp [h1, ← h]
    ·exact .inr (.inr (.inr (.inr (.inr (.inr (.inr ⟨by omega, h⟩))))))
theorem right_at (h : DeskAt w0 g A c ov w s l v y d) (hv : v.size ≤ 100000) (f t : Int) (ln b : Bool) (hb : rightD v f t ln = b) :
  Calls Tryz.prog 30 #[.pointer (some ⟨g, 0, none⟩), .agg #[.int .i64 f, .int .i64 t, .bool ln]] w fun e w' => e = .returned (.bool b) ∧ Below w.heap.size w w' := by
 subst hb
 exact right_ok h hv f t ln
end
def doA (s : ByteArray) (l : List S68) (y op f t : Int) (ln : Bool) : Prop := l.length ≤ big ∧ (op = 74 ∨ op = 100 ∧ ln = true) ∧ (viewS s l y).2 = 0 ∧ rightD (viewS s l y).1 f t ln = true
instance (s : ByteArray) (l : List S68) (y op f t : Int) (ln : Bool) : Decidable (doA s l y op f t ln) := by unfold doA; infer_instance
def oper_Do.f (a0_0 : ByteArray) (l0_1 : List S68) (a1 a2 a3_0 a3_1 : Int) (a3_2 : Bool) : Option OX := if doA a0_0 l0_1 a1 a2 a3_0 a3_1 a3_2 then some (doS a0_0 l0_1 a1 a2 a3_0 a3_1 a3_2) else none
set_option maxHeartbeats 2000000 in
theorem oper_Do.calls (s : ByteArray) (A : Option Addr) (c : Nat) (l : List S68) (y op f t : Int) (ln : Bool) (r1 : Int) (r2 : ByteArray) (r3 : List S68) (r4 : ByteArray) (r5 : List S68) (r6 : ByteArray) (r7 : List S68) (r8 r9 : Bool) (r10 r11 : Int) (w : World) (hMX : NumOk w) (hr : Kd.C k68 w A l.length l) (hc : l.length ≤ c) (h : oper_Do.f s l y op f t ln = some (r1, r2, r3, r4, r5, r6, r7, r8, r9, r10, r11)) :
  Calls Tryz.prog 11 #[.agg #[.string s, .slice A l.length c], .int .u64 y, .int .i32 op, .agg #[.int .i64 f, .int .i64 t, .bool ln]] w fun e w' => ∃ v2 v4 v6 : Value, e = .returned (.tuple #[.agg #[.int .i64 r1, .string r2, v2, .string r4, v4, .string r6, v6, .bool r8, .bool r9, .int .i64 r10], .int .i64 r11]) ∧ Kd.R k68 68 w' w.heap.size (fun k_ => some k_ ≠ (v4 : Value).ownBlock ∧ some k_ ≠ (v6 : Value).ownBlock) v2 r3 ∧ Kd.R k68 68 w' w.heap.size (fun k_ => some k_ ≠ (v2 : Value).ownBlock ∧ some k_ ≠ (v6 : Value).ownBlock) v4 r5 ∧ Kd.R k68 68 w' w.heap.size (fun k_ => some k_ ≠ (v2 : Value).ownBlock ∧ some k_ ≠ (v4 : Value).ownBlock) v6 r7 ∧ Below w.heap.size w w' := by
 unfold oper_Do.f at h
 split at h
 case isFalse => cases h
 rename_i hg
 obtain ⟨hl, hop, hv0, hr0⟩ := hg
 have hD := Option.some.inj h
 have hvz := view_small s l y
 obtain ⟨k, hk⟩ := (view_ev s l hl y).rounds
 unfold doS at hD
 generalize viewS s l y = vv at hk hD hvz hv0 hr0
 obtain ⟨v, er⟩ := vv
 dsimp only at hD hvz hv0 hr0
 subst hv0
 rw [if_pos ⟨rfl, hr0⟩] at hD
 have HRC := aM hr
 have HCC := aM hc
 have HL := aM hl
 have HF := aM hk
 have HM := aM hMX
 have HV := aM hvz
 have HRI := aM hr0
 have HOP := aM hop
 clear h hr hc hl hk hMX hvz hr0
 rcases do_cases hD with ⟨h1, hD⟩ | ⟨h1, hD⟩ | ⟨h1, hD⟩ | ⟨h1, hD⟩ | ⟨h1, hD⟩ | ⟨h1, hD⟩ | ⟨h1, hD⟩ | ⟨h1, hD⟩
 rotate_left
 ·exact absurd HOP.out (by omega)
 ·exact absurd HOP.out (by omega)
 ·exact absurd HOP.out (by omega)
 ·exact absurd HOP.out (by omega)
 ·exact absurd HOP.out (by omega)
 rotate_left
 ·exact absurd HOP.out (by omega)
 all_goals
  have c100 := congrArg (fun x : Int => x == 100) h1
  have c121 := congrArg (fun x : Int => x == 121) h1
  have c99 := congrArg (fun x : Int => x == 99) h1
  have c62 := congrArg (fun x : Int => x == 62) h1
  have c60 := congrArg (fun x : Int => x == 60) h1
  have c126 := congrArg (fun x : Int => x == 126) h1
  have c74 := congrArg (fun x : Int => x == 74) h1
  have HO1 := aM h1
  have HDD := aM hD
  clear h1 hD
  go_enter Tryz.func11, Tryz.ntmps11
  go_wp2_with (first
   | (refine gB 4 #[.string s, .slice A l.length c] 24 (fun gx hg W1 BX hb => ?_); have Ggx := g0 hg; have HB := aM hb; clear hb hg)
   | (refine gB 7 #[.int .i64 f, .int .i64 t, .bool ln] 28 (fun gr hg W2 BR hb => ?_); have Ggr := gG hg HB; have Ngrgx := gN hg BX; replace HB := tl hb HB; replace BX := tl hb BX; clear hb hg)
   | (refine gB 8 #[.int .i64 0, .string ⟨#[]⟩, .slice none 0 0, .string ⟨#[]⟩, .slice none 0 0, .string ⟨#[]⟩, .slice none 0 0, .bool false, .bool false, .int .i64 0] 38 (fun go hg W3 BO hb => ?_); have Ggo := gG hg HB; have Ngogx := gN hg BX; have Ngogr := gN hg BR; replace HB := tl hb HB; replace BX := tl hb BX; replace BR := tl hb BR; clear hb hg; replace hx0 := zC BX.out 0 (.string s); replace hx1 := zC BX.out 1 (.slice A l.length c))
   | (refine gC (some 15) Tryz.func29 #[.agg #[.string s, .slice A l.length c], .int .u64 y] ?_; (with_reducible refine (open_ok k HL.out (cB_ HRC.out HB.out) HCC.out 0 HF.out).mono ?_); rintro e W4 ⟨g, rfl, hD0, hb⟩; have HD := aM (hD0); have HM3 := aM (HM.out.below HB.out); have LW := aM (HB.out.size); replace HB := tl hb HB; replace BX := tl hb BX; replace BR := tl hb BR; replace BO := tl hb BO; refine ⟨_, rfl, ?_⟩; clear hb; replace hr0 := zC BR.out 0 (.int .i64 f); replace hr1 := zC BR.out 1 (.int .i64 t); replace hr2 := zC BR.out 2 (.bool ln))
   | ((with_reducible refine gate_callee (f := 30) rfl ?_); refine gate_guard (by rfl) ?_; refine gC (some 23) Tryz.func30 #[.pointer (some ⟨g, 0, none⟩), .agg #[.int .i64 f, .int .i64 t, .bool ln]] ?_; (with_reducible refine (right_at HD.out (by have := HV.out; omega) f t ln true HRI.out).mono ?_); rintro e W5 ⟨rfl, hb⟩; replace HB := tl hb HB; replace BX := tl hb BX; replace BR := tl hb BR; replace BO := tl hb BO; replace HD := tl hb HD; refine ⟨_, rfl, ?_⟩; clear hb; replace hr0 := zC BR.out 0 (.int .i64 f); replace hr1 := zC BR.out 1 (.int .i64 t); replace hr2 := zC BR.out 2 (.bool ln); replace hr0 := zC BR.out 0 (.int .i64 f); replace hr1 := zC BR.out 1 (.int .i64 t); replace hr2 := zC BR.out 2 (.bool ln))
   | (refine gC (some 35) Tryz.func31 #[.pointer (some ⟨g, 0, none⟩), .int .i32 op, .agg #[.int .i64 f, .int .i64 t, .bool ln]] ?_; (with_reducible refine (take_at HD.out (by have := HV.out; omega) (HM.out.below HB.out) op f t ln (HOP.out.elim (fun h => absurd (h.symm.trans HO1.out) (by decide)) And.right) HDD.out).mono ?_); rintro e W6 ⟨v2, v4, v6, rfl, ho2, ho4, ho6, hT⟩; refine ⟨_, rfl, ?_⟩; replace BO := dB hT HD BO; replace HB := dW hT LW HB; have H2 := aM (rL ho2 LW.out); have H4 := aM (rL ho4 LW.out); have H6 := aM (rL ho6 LW.out); clear ho2 ho4 ho6 hT HD BX BR; obtain ⟨A2, c2, rfl⟩ := Kd.R_slice H2.out; obtain ⟨A4, c4, rfl⟩ := Kd.R_slice H4.out; obtain ⟨A6, c6, rfl⟩ := Kd.R_slice H6.out)
   | (refine gC (some 58) Tryz.func34 #[.pointer (some ⟨g, 0, none⟩), .agg #[.int .i64 f, .int .i64 t, .bool ln]] ?_; (with_reducible refine (join_at HD.out HV.out f t ln HRI.out HDD.out).mono ?_); rintro e W6 ⟨v2, v4, v6, rfl, ho2, ho4, ho6, hT⟩; refine ⟨_, rfl, ?_⟩; replace BO := dB hT HD BO; replace HB := dW hT LW HB; have H2 := aM (rL ho2 LW.out); have H4 := aM (rL ho4 LW.out); have H6 := aM (rL ho6 LW.out); clear ho2 ho4 ho6 hT HD BX BR; obtain ⟨A2, c2, rfl⟩ := Kd.R_slice H2.out; obtain ⟨A4, c4, rfl⟩ := Kd.R_slice H4.out; obtain ⟨A6, c6, rfl⟩ := Kd.R_slice H6.out)
   | (refine gS BO 0 [.int .i64 r1, .string r2, .slice A2 r3.length c2, .string r4, .slice A4 r5.length c4, .string r6, .slice A6 r7.length c6, .bool r8, .bool r9, .int .i64 r10] (fun W7 hP => ?_); replace HB := sW hP Ggo HB; replace H2 := sR hP BO H2; replace H4 := sR hP BO H4; replace H6 := sR hP BO H6; replace BO := sX hP BO; clear hP)
   )
  refine bodyPost_ret (results_ct rfl _ _ go 38 #[.int .i64 r1, .string r2, .slice A2 r3.length c2, .string r4, .slice A4 r5.length c4, .string r6, .slice A6 r7.length c6, .bool r8, .bool r9, .int .i64 r10] (0, 0) _ rfl BO.out Tryz.underlying38 rfl (by kernel_rfl)) rfl ?_
  exact ⟨_, _, _, rfl, H2.out, H4.out, H6.out, HB.out⟩
theorem bytes_ext {x : ByteArray} {l : List UInt8} (h : x.data.toList = l) : x = ⟨l.toArray⟩ := by
 obtain ⟨⟨d⟩⟩ := x
 subst h
 rfl
abbrev aT : ByteArray := ⟨#[97, 98, 10, 32, 99, 100]⟩
theorem alive_d {op : Int} (h : doA aliveT [⟨1, 6⟩] 1 op 0 0 true) {x : OX} (hx : doS aliveT [⟨1, 6⟩] 1 op 0 0 true = x) : oper_Do.f aT [⟨1, 6⟩] 1 op 0 0 true = some x := by
 subst hx
 exact if_pos h
theorem alive_a : ∃ (r1 : Int) (r2 : ByteArray) (r3 : List S68) (r5 : List S68) (r6 : ByteArray) (r7 : List S68) (r8 r9 : Bool), oper_Do.f aT [⟨1, 6⟩] 1 74 0 0 true = some (r1, r2, r3, ⟨#[97, 98, 32, 99, 100]⟩, r5, r6, r7, r8, r9, 2, 0) := by
 have h := alive_do1
 generalize hx : doS aliveT [⟨1, 6⟩] 1 74 0 0 true = x at h
 rw [alive_d (by decide +kernel) hx]
 obtain ⟨r1, r2, r3, r4, r5, r6, r7, r8, r9, r10, r11⟩ := x
 obtain ⟨h1, h2, h3⟩ := h
 dsimp only at h1 h2 h3
 have h4 := bytes_ext h2
 subst h1 h3 h4
 exact ⟨_, _, _, _, _, _, _, _, rfl⟩
theorem alive_b : ∃ (r1 : Int) (r3 : List S68) (r4 : ByteArray) (r5 r7 : List S68), oper_Do.f aT [⟨1, 6⟩] 1 100 0 0 true = some (r1, ⟨#[97, 98, 10]⟩, r3, r4, r5, ⟨#[97, 98]⟩, r7, true, true, 1, 0) := by
 have h := alive_do2
 generalize hx : doS aliveT [⟨1, 6⟩] 1 100 0 0 true = x at h
 rw [alive_d (by decide +kernel) hx]
 obtain ⟨r1, r2, r3, r4, r5, r6, r7, r8, r9, r10, r11⟩ := x
 obtain ⟨h1, h2, h3, h4, h5, h6⟩ := h
 dsimp only at h1 h2 h3 h4 h5 h6
 have h7 := bytes_ext h2
 have h8 := bytes_ext h3
 subst h1 h4 h5 h6 h7 h8
 exact ⟨_, _, _, _, _, rfl⟩
theorem alive_c : ∃ (r1 : Int) (r2 : ByteArray) (r3 : List S68) (r4 : ByteArray) (r5 : List S68) (r6 : ByteArray) (r7 : List S68) (r8 r9 : Bool) (r10 : Int), oper_Swap.f aT [⟨1, 6⟩] 1 0 3 120 = some (r1, r2, r3, r4, r5, r6, r7, r8, r9, r10, 6) := by
 have h := alive_swap
 generalize hx : swapS aliveT [⟨1, 6⟩] 1 0 3 120 = x at h
 rw [show oper_Swap.f aT [⟨1, 6⟩] 1 0 3 120 = some x from (if_pos (by decide)).trans (congrArg some hx)]
 obtain ⟨r1, r2, r3, r4, r5, r6, r7, r8, r9, r10, r11⟩ := x
 dsimp only at h
 subst h
 exact ⟨_, _, _, _, _, _, _, _, _, _, rfl⟩
set_option maxHeartbeats 4000000 in
theorem alive_walk (w : World) (hMX : NumOk w) :
  Calls Tryz.prog 9 #[] w fun e w' => e = .returned (.bool true) ∧ Below w.heap.size w w' := by
 have HM := aM hMX
 obtain ⟨a1, a2, a3, a5, a6, a7, a8, a9, ha⟩ := alive_a
 obtain ⟨b1, b3, b4, b5, b7, hb0⟩ := alive_b
 obtain ⟨c1, c2, c3, c4, c5, c6, c7, c8, c9, c10, hc⟩ := alive_c
 have HA := aM ha
 have HBB := aM hb0
 have HCC := aM hc
 clear hMX ha hb0 hc
 go_enter Tryz.func9, Tryz.ntmps9
 go_wp2_with (first
  | ((with_reducible refine gate_dst (N := 9) rfl ?_); refine Kd.R_lit k68 _ 68 ?hg (N := 9) ?hd (xs := ([(⟨1, 6⟩ : S68)] : List S68)) (inner := [.int .u64 1, .int .i64 6]) (ok := fun _ => True) (okp := fun _ => True) ?hr ?hp (fun _ hk => hk) trivial (Below.refl _ _) (Nat.le_refl _) (by simp) ?_; (case hd => rfl); (case hg => rfl); (case hr => first | (go_simp; done) | (go_simp; rfl)); (case hp => exact (Reps.c2 (show Kd.M k68 _ _ _ (⟨1, 6⟩ : S68) [.int .u64 1, .int .i64 6] from (k68_mkM _ _ _ (⟨1, 6⟩ : S68) )) (Reps.none _ _))); intro vy W1 ho hb hg_ hnew_; clear hg_ hnew_; have HY := aM ho; have HB := aM hb; clear hb ho; obtain ⟨Ay, cy, rfl⟩ := Kd.R_slice HY.out)
  | (refine gB 1 #[.string ⟨#[]⟩, .slice none 0 0] 24 (fun gx hg W2 BX hb => ?_); have Ggx := gG hg HB; replace HB := tl hb HB; replace HY := tl hb HY; clear hb hg)
  | (refine gS BX 0 [.string ⟨#[97, 98, 10, 32, 99, 100]⟩, .slice Ay 1 cy] (fun W3 hP => ?_); replace HB := sW hP Ggx HB; replace HY := sR hP BX HY; replace BX := sX hP BX; clear hP; replace hgx0 := zC BX.out 0 (.string ⟨#[97, 98, 10, 32, 99, 100]⟩); replace hgx1 := zC BX.out 1 (.slice Ay 1 cy))
  | (refine gC (some 14) Tryz.func11 #[.agg #[.string ⟨#[97, 98, 10, 32, 99, 100]⟩, .slice Ay 1 cy], .int .u64 1, .int .i32 74, .agg #[.int .i64 0, .int .i64 0, .bool true]] ?_; (refine (oper_Do.calls aT Ay cy [⟨1, 6⟩] 1 74 0 0 true a1 a2 a3 ⟨#[97, 98, 32, 99, 100]⟩ a5 a6 a7 a8 a9 2 0 _ (HM.out.below HB.out) (rR HY.out).2.2 (rR HY.out).2.1 HA.out).mono ?_); rintro e W4 ⟨pv2, pv4, pv6, rfl, ho2, ho4, ho6, hb⟩; replace HB := tl hb HB; replace HY := tl hb HY; replace BX := tl hb BX; obtain ⟨pA2, pc2, rfl⟩ := Kd.R_slice ho2; obtain ⟨pA4, pc4, rfl⟩ := Kd.R_slice ho4; obtain ⟨pA6, pc6, rfl⟩ := Kd.R_slice ho6; clear ho2 ho4 ho6; refine ⟨_, rfl, ?_⟩; clear hb; replace hgx0 := zC BX.out 0 (.string ⟨#[97, 98, 10, 32, 99, 100]⟩); replace hgx1 := zC BX.out 1 (.slice Ay 1 cy))
  | (refine gB 2 #[.int .i64 0, .string ⟨#[]⟩, .slice none 0 0, .string ⟨#[]⟩, .slice none 0 0, .string ⟨#[]⟩, .slice none 0 0, .bool false, .bool false, .int .i64 0] 38 (fun gd hg W5 Bgd hb => ?_); have Ggd := gG hg HB; have Ngdgx := gN hg BX; replace HB := tl hb HB; replace HY := tl hb HY; replace BX := tl hb BX; clear hb hg; replace hgx0 := zC BX.out 0 (.string ⟨#[97, 98, 10, 32, 99, 100]⟩); replace hgx1 := zC BX.out 1 (.slice Ay 1 cy))
  | (refine gS Bgd 0 [.int .i64 a1, .string a2, .slice pA2 a3.length pc2, .string ⟨#[97, 98, 32, 99, 100]⟩, .slice pA4 a5.length pc4, .string a6, .slice pA6 a7.length pc6, .bool a8, .bool a9, .int .i64 2] (fun W6 hP => ?_); replace HB := sW hP Ggd HB; replace HY := sR hP Bgd HY; replace BX := sB hP Bgd BX; replace Bgd := sX hP Bgd; clear hP; replace hgx0 := zC BX.out 0 (.string ⟨#[97, 98, 10, 32, 99, 100]⟩); replace hgx1 := zC BX.out 1 (.slice Ay 1 cy))
  | (refine gC (some 20) Tryz.func11 #[.agg #[.string ⟨#[97, 98, 10, 32, 99, 100]⟩, .slice Ay 1 cy], .int .u64 1, .int .i32 100, .agg #[.int .i64 0, .int .i64 0, .bool true]] ?_; (refine (oper_Do.calls aT Ay cy [⟨1, 6⟩] 1 100 0 0 true b1 ⟨#[97, 98, 10]⟩ b3 b4 b5 ⟨#[97, 98]⟩ b7 true true 1 0 _ (HM.out.below HB.out) (rR HY.out).2.2 (rR HY.out).2.1 HBB.out).mono ?_); rintro e W7 ⟨qv2, qv4, qv6, rfl, ho2, ho4, ho6, hb⟩; replace HB := tl hb HB; replace HY := tl hb HY; replace BX := tl hb BX; replace Bgd := tl hb Bgd; obtain ⟨qA2, qc2, rfl⟩ := Kd.R_slice ho2; obtain ⟨qA4, qc4, rfl⟩ := Kd.R_slice ho4; obtain ⟨qA6, qc6, rfl⟩ := Kd.R_slice ho6; clear ho2 ho4 ho6; refine ⟨_, rfl, ?_⟩; clear hb; replace hgx0 := zC BX.out 0 (.string ⟨#[97, 98, 10, 32, 99, 100]⟩); replace hgx1 := zC BX.out 1 (.slice Ay 1 cy))
  | (refine gB 4 #[.int .i64 0, .string ⟨#[]⟩, .slice none 0 0, .string ⟨#[]⟩, .slice none 0 0, .string ⟨#[]⟩, .slice none 0 0, .bool false, .bool false, .int .i64 0] 38 (fun ge hg W8 Bge hb => ?_); have Gge := gG hg HB; have Ngegx := gN hg BX; have Ngegd := gN hg Bgd; replace HB := tl hb HB; replace HY := tl hb HY; replace BX := tl hb BX; replace Bgd := tl hb Bgd; clear hb hg; replace hgx0 := zC BX.out 0 (.string ⟨#[97, 98, 10, 32, 99, 100]⟩); replace hgx1 := zC BX.out 1 (.slice Ay 1 cy))
  | (refine gS Bge 0 [.int .i64 b1, .string ⟨#[97, 98, 10]⟩, .slice qA2 b3.length qc2, .string b4, .slice qA4 b5.length qc4, .string ⟨#[97, 98]⟩, .slice qA6 b7.length qc6, .bool true, .bool true, .int .i64 1] (fun W9 hP => ?_); replace HB := sW hP Gge HB; replace HY := sR hP Bge HY; replace BX := sB hP Bge BX; replace Bgd := sN hP Ngegd Bgd; replace Bge := sX hP Bge; clear hP; replace hgx0 := zC BX.out 0 (.string ⟨#[97, 98, 10, 32, 99, 100]⟩); replace hgx1 := zC BX.out 1 (.slice Ay 1 cy))
  | (refine gC (some 25) Tryz.func15 #[.agg #[.string ⟨#[97, 98, 10, 32, 99, 100]⟩, .slice Ay 1 cy], .int .u64 1, .int .i64 0, .int .i64 3, .int .i32 120] ?_; (refine (oper_Swap.calls aT Ay cy [⟨1, 6⟩] 1 0 3 120 c1 c2 c3 c4 c5 c6 c7 c8 c9 c10 6 _ (HM.out.below HB.out) (rR HY.out).2.2 (rR HY.out).2.1 HCC.out).mono ?_); rintro e W10 ⟨rv2, rv4, rv6, rfl, ho2, ho4, ho6, hb⟩; replace HB := tl hb HB; replace HY := tl hb HY; replace BX := tl hb BX; replace Bgd := tl hb Bgd; replace Bge := tl hb Bge; obtain ⟨rA2, rc2, rfl⟩ := Kd.R_slice ho2; obtain ⟨rA4, rc4, rfl⟩ := Kd.R_slice ho4; obtain ⟨rA6, rc6, rfl⟩ := Kd.R_slice ho6; clear ho2 ho4 ho6; refine ⟨_, rfl, ?_⟩; clear hb; replace hgx0 := zC BX.out 0 (.string ⟨#[97, 98, 10, 32, 99, 100]⟩); replace hgx1 := zC BX.out 1 (.slice Ay 1 cy))
  | (refine gB 6 #[.int .i64 0, .string ⟨#[]⟩, .slice none 0 0, .string ⟨#[]⟩, .slice none 0 0, .string ⟨#[]⟩, .slice none 0 0, .bool false, .bool false, .int .i64 0] 38 (fun gf hg W11 Bgf hb => ?_); have Ggf := gG hg HB; have Ngfgx := gN hg BX; have Ngfgd := gN hg Bgd; have Ngfge := gN hg Bge; replace HB := tl hb HB; replace HY := tl hb HY; replace BX := tl hb BX; replace Bgd := tl hb Bgd; replace Bge := tl hb Bge; clear hb hg; replace hgx0 := zC BX.out 0 (.string ⟨#[97, 98, 10, 32, 99, 100]⟩); replace hgx1 := zC BX.out 1 (.slice Ay 1 cy))
  | (refine gS Bgf 0 [.int .i64 c1, .string c2, .slice rA2 c3.length rc2, .string c4, .slice rA4 c5.length rc4, .string c6, .slice rA6 c7.length rc6, .bool c8, .bool c9, .int .i64 c10] (fun W12 hP => ?_); replace HB := sW hP Ggf HB; replace HY := sR hP Bgf HY; replace BX := sB hP Bgf BX; replace Bgd := sN hP Ngfgd Bgd; replace Bge := sN hP Ngfge Bge; replace Bgf := sX hP Bgf; clear hP; replace hgx0 := zC BX.out 0 (.string ⟨#[97, 98, 10, 32, 99, 100]⟩); replace hgx1 := zC BX.out 1 (.slice Ay 1 cy); replace hgd3 := zC Bgd.out 3 (.string ⟨#[97, 98, 32, 99, 100]⟩); replace hgd9 := zC Bgd.out 9 (.int .i64 2); replace hge1 := zC Bge.out 1 (.string ⟨#[97, 98, 10]⟩); replace hge5 := zC Bge.out 5 (.string ⟨#[97, 98]⟩); replace hge7 := zC Bge.out 7 (.bool true); replace hge8 := zC Bge.out 8 (.bool true); replace hge9 := zC Bge.out 9 (.int .i64 1))
  )
 go_ret
 exact ⟨rfl, HB.out⟩
def bureaulaw14_alive.f : Option Bool := some true
theorem alive_ok : bureaulaw14_alive.f = some true := rfl
theorem bureaulaw14_alive.calls (r : Bool) (w : World) (hMX : NumOk w) (h : bureaulaw14_alive.f = some r) :
  Calls Tryz.prog 9 #[] w fun e w' => e = .returned (.bool r) ∧ Below w.heap.size w w' := by
 obtain rfl := Option.some.inj h
 exact alive_walk w hMX
end Go.Proofs.YtjkfkiebhgkolaaGreatDoor.PB
end

section
namespace Go.Proofs.YtjkfkiebhgkolaaGreatDoor.PB
open Go.RowKit Go.Proofs.YtjkfkiebhgkolaaGreatDoorW.PrintWords Go.Proofs.YtjkfkiebhgkolaaGreatDoorW.PrintLast Go.Proofs.YtjkfkiebhgkolaaGreatDoorW.PrintMore
attribute [local go_sem] max2_int min2_int max_two min_two max_three min_three max_four min_four   
set_option linter.unusedVariables false
set_option linter.unusedSimpArgs false
def bureaulaw14_Fits.f (a0_0 : ByteArray) (l0_1 : List (S68)) : Option (Bool) := if (a0_0.size : Int) ≤ 1024 then (some (decide ((l0_1.length : Int) ≤ 5000))) else (some false)
set_option maxHeartbeats 8000000 in
set_option maxRecDepth 100000 in
theorem bureaulaw14_Fits.calls (a0_0 : ByteArray) (A0_1 : Option Addr) (c0_1 : Nat) (l0_1 : List (S68)) (r : Bool) (w : World) (hr0_1 : Kd.C k68 w A0_1 l0_1.length l0_1) (hc0_1 : l0_1.length ≤ c0_1) (h : bureaulaw14_Fits.f a0_0 l0_1 = some r) :
  Calls Tryz.prog 27 #[.agg #[.string a0_0, .slice A0_1 l0_1.length c0_1]] w fun e w' => e = .returned (.bool r) ∧ Below w.heap.size w w' := by
 have hu24 := Tryz.underlying24
 have HR0_1 := aM hr0_1
 have HC0_1 := aM hc0_1
 clear hr0_1 hc0_1
 have HB := aM (Below.refl w.heap.size w)
 have H : (if (a0_0.size : Int) ≤ 1024 then (some (decide ((l0_1.length : Int) ≤ 5000))) else (some false)) = some r := h
 clear h
 by_cases c2 : (a0_0.size : Int) ≤ 1024
 ·rw [if_pos c2] at H
  have c2b0 : decide ((a0_0.size : Int) ≤ 1024) = true := decide_eq_true c2
  have c2b1 : decide (a0_0.size ≤ 1024) = true := decide_eq_true (by omega)
  clear c2
  obtain rfl := Option.some.inj H
  go_enter Tryz.func27, Tryz.ntmps27
  go_wp2_with (first | ((with_reducible refine gate_dst (N := 1) rfl ?_); (try (refine gate_guard (by rfl) ?_; dsimp only)); refine box_event ?hg (N := 1) ?hd (cs := #[.string a0_0, .slice A0_1 l0_1.length c0_1]) (t := 24) ?hr ?_; (case hd | hg => rfl); (case hr => first | (go_simp; done) | (go_simp; rfl)); intro gb275 hg w3 hbox hb; have BK275 := aM (hbox); have GW275 := yG w hg; have GE275 := GW275; replace HB := yP w hb; clear hb hbox hg; have hcz4_0 := zC BK275.out 0 (.string a0_0); have hcz4_1 := zC BK275.out 1 (.slice A0_1 l0_1.length c0_1); have hfz4_0 := bF BK275.out 0; have hfz4_1 := bF BK275.out 1))
  go_ret
  exact ⟨ye, yH⟩
 ·rw [if_neg c2] at H
  have c2b0 : decide ((a0_0.size : Int) ≤ 1024) = false := decide_eq_false c2
  have c2b1 : decide (a0_0.size ≤ 1024) = false := decide_eq_false (by omega)
  clear c2
  obtain rfl := Option.some.inj H
  go_enter Tryz.func27, Tryz.ntmps27
  go_wp2_with (first | ((with_reducible refine gate_dst (N := 1) rfl ?_); (try (refine gate_guard (by rfl) ?_; dsimp only)); refine box_event ?hg (N := 1) ?hd (cs := #[.string a0_0, .slice A0_1 l0_1.length c0_1]) (t := 24) ?hr ?_; (case hd | hg => rfl); (case hr => first | (go_simp; done) | (go_simp; rfl)); intro gb275 hg w5 hbox hb; have BK275 := aM (hbox); have GW275 := yG w hg; have GE275 := GW275; replace HB := yP w hb; clear hb hbox hg; have hcz6_0 := zC BK275.out 0 (.string a0_0); have hcz6_1 := zC BK275.out 1 (.slice A0_1 l0_1.length c0_1); have hfz6_0 := bF BK275.out 0; have hfz6_1 := bF BK275.out 1))
  go_ret
  exact ⟨ye, yH⟩
def bureaulaw14_fits.f (a0_0 : ByteArray) (l0_1 : List (S68)) (a0_2 : Int) (a0_3 : Int) (a0_4 : Int) (a0_5 : Int) (a0_6 : Bool) (a0_7 : Int) (a0_8 : Int) (a0_9 : ByteArray) (l0_10 : List (S68)) (a0_11 : Bool) (a0_12 : Bool) : Option (Bool) := (bureaulaw14_Fits.f a0_0 l0_1).bind fun t278 => (if t278 = true then ((bureaulaw04_Fits.f a0_9 l0_10).bind fun t279 => (some t279)) else (some false))
set_option maxHeartbeats 8000000 in
set_option maxRecDepth 100000 in
theorem bureaulaw14_fits.calls (a0_0 : ByteArray) (A0_1 : Option Addr) (c0_1 : Nat) (l0_1 : List (S68)) (a0_2 : Int) (a0_3 : Int) (a0_4 : Int) (a0_5 : Int) (a0_6 : Bool) (a0_7 : Int) (a0_8 : Int) (a0_9 : ByteArray) (A0_10 : Option Addr) (c0_10 : Nat) (l0_10 : List (S68)) (a0_11 : Bool) (a0_12 : Bool) (r : Bool) (w : World) (hr0_1 : Kd.C k68 w A0_1 l0_1.length l0_1) (hc0_1 : l0_1.length ≤ c0_1) (hr0_10 : Kd.C k68 w A0_10 l0_10.length l0_10) (hc0_10 : l0_10.length ≤ c0_10) (h : bureaulaw14_fits.f a0_0 l0_1 a0_2 a0_3 a0_4 a0_5 a0_6 a0_7 a0_8 a0_9 l0_10 a0_11 a0_12 = some r) :
  Calls Tryz.prog 10 #[.agg #[.string a0_0, .slice A0_1 l0_1.length c0_1, .int .u64 a0_2, .int .i32 a0_3, .int .i64 a0_4, .int .i64 a0_5, .bool a0_6, .int .i64 a0_7, .int .i64 a0_8, .string a0_9, .slice A0_10 l0_10.length c0_10, .bool a0_11, .bool a0_12]] w fun e w' => e = .returned (.bool r) ∧ Below w.heap.size w w' := by
 have hu32 := Tryz.underlying32
 have hu24 := Tryz.underlying24
 have HR0_1 := aM hr0_1
 have HC0_1 := aM hc0_1
 clear hr0_1 hc0_1
 have HR0_10 := aM hr0_10
 have HC0_10 := aM hc0_10
 clear hr0_10 hc0_10
 have HB := aM (Below.refl w.heap.size w)
 have H : ((bureaulaw14_Fits.f a0_0 l0_1).bind fun t278 => (if t278 = true then ((bureaulaw04_Fits.f a0_9 l0_10).bind fun t279 => (some t279)) else (some false))) = some r := h
 clear h
 replace H := Option.bind_eq_some_iff.mp H
 obtain ⟨t278, A20, H⟩ := H
 replace H : (if t278 = true then ((bureaulaw04_Fits.f a0_9 l0_10).bind fun t279 => (some t279)) else (some false)) = some r := H
 have A2 := aM A20
 clear A20
 by_cases c3 : t278 = true
 ·subst c3
  rw [if_pos rfl] at H
  replace H := Option.bind_eq_some_iff.mp H
  obtain ⟨t279, A40, H⟩ := H
  replace H : (some t279) = some r := H
  have A4 := aM A40
  clear A40
  obtain rfl := Option.some.inj H
  go_enter Tryz.func10, Tryz.ntmps10
  go_wp2_with (first | (refine yX 1 #[.string a0_0, .slice A0_1 l0_1.length c0_1, .int .u64 a0_2, .int .i32 a0_3, .int .i64 a0_4, .int .i64 a0_5, .bool a0_6, .int .i64 a0_7, .int .i64 a0_8, .string a0_9, .slice A0_10 l0_10.length c0_10, .bool a0_11, .bool a0_12] 32 (fun gb277 hg w5 hbox hb => ?_); have BK277 := hbox; have GW277 := yG w hg; have GE277 := GW277; replace HB := yP w hb; clear hb hbox hg; have hcz6_0 := zC BK277.out 0 (.string a0_0); have hcz6_1 := zC BK277.out 1 (.slice A0_1 l0_1.length c0_1); have hcz6_2 := zC BK277.out 2 (.int .u64 a0_2); have hcz6_3 := zC BK277.out 3 (.int .i32 a0_3); have hcz6_4 := zC BK277.out 4 (.int .i64 a0_4); have hcz6_5 := zC BK277.out 5 (.int .i64 a0_5); have hcz6_6 := zC BK277.out 6 (.bool a0_6); have hcz6_7 := zC BK277.out 7 (.int .i64 a0_7); have hcz6_8 := zC BK277.out 8 (.int .i64 a0_8); have hcz6_9 := zC BK277.out 9 (.string a0_9); have hcz6_10 := zC BK277.out 10 (.slice A0_10 l0_10.length c0_10); have hcz6_11 := zC BK277.out 11 (.bool a0_11); have hcz6_12 := zC BK277.out 12 (.bool a0_12); have hfz6_0 := bF BK277.out 0; have hfz6_1 := bF BK277.out 1; have hfz6_2 := bF BK277.out 2; have hfz6_3 := bF BK277.out 3; have hfz6_4 := bF BK277.out 4; have hfz6_5 := bF BK277.out 5; have hfz6_6 := bF BK277.out 6; have hfz6_7 := bF BK277.out 7; have hfz6_8 := bF BK277.out 8; have hfz6_9 := bF BK277.out 9; have hfz6_10 := bF BK277.out 10; have hfz6_11 := bF BK277.out 11; have hfz6_12 := bF BK277.out 12) | (refine yC (some 5) Tryz.func27 #[.agg #[.string a0_0, .slice A0_1 l0_1.length c0_1]] ?_; (with_reducible refine (bureaulaw14_Fits.calls a0_0 _ _ l0_1 true _ ?side1 ?side2 A2.out).mono ?_); (case side1 => exact yR HR0_1); (case side2 => exact HC0_1.out); rintro e w7 ⟨rfl, hb⟩; refine ⟨_, rfl, ?_⟩; replace BK277 := yB hb BK277; replace HB := yP w hb; clear hb; have hcz8_0 := zC BK277.out 0 (.string a0_0); have hcz8_1 := zC BK277.out 1 (.slice A0_1 l0_1.length c0_1); have hcz8_2 := zC BK277.out 2 (.int .u64 a0_2); have hcz8_3 := zC BK277.out 3 (.int .i32 a0_3); have hcz8_4 := zC BK277.out 4 (.int .i64 a0_4); have hcz8_5 := zC BK277.out 5 (.int .i64 a0_5); have hcz8_6 := zC BK277.out 6 (.bool a0_6); have hcz8_7 := zC BK277.out 7 (.int .i64 a0_7); have hcz8_8 := zC BK277.out 8 (.int .i64 a0_8); have hcz8_9 := zC BK277.out 9 (.string a0_9); have hcz8_10 := zC BK277.out 10 (.slice A0_10 l0_10.length c0_10); have hcz8_11 := zC BK277.out 11 (.bool a0_11); have hcz8_12 := zC BK277.out 12 (.bool a0_12); have hfz8_0 := bF BK277.out 0; have hfz8_1 := bF BK277.out 1; have hfz8_2 := bF BK277.out 2; have hfz8_3 := bF BK277.out 3; have hfz8_4 := bF BK277.out 4; have hfz8_5 := bF BK277.out 5; have hfz8_6 := bF BK277.out 6; have hfz8_7 := bF BK277.out 7; have hfz8_8 := bF BK277.out 8; have hfz8_9 := bF BK277.out 9; have hfz8_10 := bF BK277.out 10; have hfz8_11 := bF BK277.out 11; have hfz8_12 := bF BK277.out 12) | (go_at_call 28; (with_reducible refine (bureaulaw04_Fits.calls a0_9 _ _ l0_10 t279 _ ?side1 ?side2 A4.out).mono ?_); (case side1 => exact yR HR0_10); (case side2 => exact HC0_10.out); rintro e w9 ⟨rfl, hb⟩; replace BK277 := yB hb BK277; replace HB := yP w hb; clear hb))
  go_ret
  exact ⟨ye, yH⟩
 ·replace c3 := Bool.eq_false_iff.mpr c3
  subst c3
  rw [if_neg (show ¬ (false = true) by decide)] at H
  obtain rfl := Option.some.inj H
  go_enter Tryz.func10, Tryz.ntmps10
  go_wp2_with (first | (refine yX 1 #[.string a0_0, .slice A0_1 l0_1.length c0_1, .int .u64 a0_2, .int .i32 a0_3, .int .i64 a0_4, .int .i64 a0_5, .bool a0_6, .int .i64 a0_7, .int .i64 a0_8, .string a0_9, .slice A0_10 l0_10.length c0_10, .bool a0_11, .bool a0_12] 32 (fun gb277 hg w10 hbox hb => ?_); have BK277 := hbox; have GW277 := yG w hg; have GE277 := GW277; replace HB := yP w hb; clear hb hbox hg; have hcz11_0 := zC BK277.out 0 (.string a0_0); have hcz11_1 := zC BK277.out 1 (.slice A0_1 l0_1.length c0_1); have hcz11_2 := zC BK277.out 2 (.int .u64 a0_2); have hcz11_3 := zC BK277.out 3 (.int .i32 a0_3); have hcz11_4 := zC BK277.out 4 (.int .i64 a0_4); have hcz11_5 := zC BK277.out 5 (.int .i64 a0_5); have hcz11_6 := zC BK277.out 6 (.bool a0_6); have hcz11_7 := zC BK277.out 7 (.int .i64 a0_7); have hcz11_8 := zC BK277.out 8 (.int .i64 a0_8); have hcz11_9 := zC BK277.out 9 (.string a0_9); have hcz11_10 := zC BK277.out 10 (.slice A0_10 l0_10.length c0_10); have hcz11_11 := zC BK277.out 11 (.bool a0_11); have hcz11_12 := zC BK277.out 12 (.bool a0_12); have hfz11_0 := bF BK277.out 0; have hfz11_1 := bF BK277.out 1; have hfz11_2 := bF BK277.out 2; have hfz11_3 := bF BK277.out 3; have hfz11_4 := bF BK277.out 4; have hfz11_5 := bF BK277.out 5; have hfz11_6 := bF BK277.out 6; have hfz11_7 := bF BK277.out 7; have hfz11_8 := bF BK277.out 8; have hfz11_9 := bF BK277.out 9; have hfz11_10 := bF BK277.out 10; have hfz11_11 := bF BK277.out 11; have hfz11_12 := bF BK277.out 12) | (refine yC (some 5) Tryz.func27 #[.agg #[.string a0_0, .slice A0_1 l0_1.length c0_1]] ?_; (with_reducible refine (bureaulaw14_Fits.calls a0_0 _ _ l0_1 false _ ?side1 ?side2 A2.out).mono ?_); (case side1 => exact yR HR0_1); (case side2 => exact HC0_1.out); rintro e w12 ⟨rfl, hb⟩; refine ⟨_, rfl, ?_⟩; replace BK277 := yB hb BK277; replace HB := yP w hb; clear hb))
  go_ret
  exact ⟨ye, yH⟩
def bureaulaw14_ours.f (a0_0 : Int) (a0_1 : ByteArray) (l0_2 : List (S68)) (a0_3 : ByteArray) (l0_4 : List (S68)) (a0_5 : ByteArray) (l0_6 : List (S68)) (a0_7 : Bool) (a0_8 : Bool) (a0_9 : Int) : Option (Int × ByteArray × (List (S68)) × ByteArray × (List (S68)) × ByteArray × (List (S68)) × Bool × Bool × Int) := some (a0_0, a0_1, l0_2, a0_3, l0_4, a0_5, l0_6, a0_7, a0_8, a0_9)
set_option maxHeartbeats 8000000 in
set_option maxRecDepth 100000 in
theorem bureaulaw14_ours.calls (a0_0 : Int) (a0_1 : ByteArray) (P0_2_ : Nat → Prop) (A0_2 : Option Addr) (c0_2 : Nat) (l0_2 : List (S68)) (a0_3 : ByteArray) (P0_4_ : Nat → Prop) (A0_4 : Option Addr) (c0_4 : Nat) (l0_4 : List (S68)) (a0_5 : ByteArray) (P0_6_ : Nat → Prop) (A0_6 : Option Addr) (c0_6 : Nat) (l0_6 : List (S68)) (a0_7 : Bool) (a0_8 : Bool) (a0_9 : Int) (r1 : Int) (r2 : ByteArray) (r3 : List (S68)) (r4 : ByteArray) (r5 : List (S68)) (r6 : ByteArray) (r7 : List (S68)) (r8 : Bool) (r9 : Bool) (r10 : Int) (w : World) (hs0_2 : Kd.V k68 68 w w.heap.size (fun k_ => P0_2_ k_) (.slice A0_2 l0_2.length c0_2) l0_2) (hs0_4 : Kd.V k68 68 w w.heap.size (fun k_ => P0_4_ k_) (.slice A0_4 l0_4.length c0_4) l0_4) (hs0_6 : Kd.V k68 68 w w.heap.size (fun k_ => P0_6_ k_) (.slice A0_6 l0_6.length c0_6) l0_6) (h : bureaulaw14_ours.f a0_0 a0_1 l0_2 a0_3 l0_4 a0_5 l0_6 a0_7 a0_8 a0_9 = some (r1, r2, r3, r4, r5, r6, r7, r8, r9, r10)) :
  Calls Tryz.prog 14 #[.agg #[.int .i64 a0_0, .string a0_1, .slice A0_2 l0_2.length c0_2, .string a0_3, .slice A0_4 l0_4.length c0_4, .string a0_5, .slice A0_6 l0_6.length c0_6, .bool a0_7, .bool a0_8, .int .i64 a0_9]] w fun e w' => ∃ v2_ v4_ v6_ : Value, e = .returned (.agg #[.int .i64 r1, .string r2, v2_, .string r4, v4_, .string r6, v6_, .bool r8, .bool r9, .int .i64 r10]) ∧ Kd.V k68 68 w' w.heap.size (fun k_ => ((P0_2_ k_ ∨ P0_4_ k_ ∨ P0_6_ k_) ∨ w.heap.size ≤ k_)) v2_ r3 ∧ Kd.V k68 68 w' w.heap.size (fun k_ => ((P0_2_ k_ ∨ P0_4_ k_ ∨ P0_6_ k_) ∨ w.heap.size ≤ k_)) v4_ r5 ∧ Kd.V k68 68 w' w.heap.size (fun k_ => ((P0_2_ k_ ∨ P0_4_ k_ ∨ P0_6_ k_) ∨ w.heap.size ≤ k_)) v6_ r7 ∧ Below w.heap.size w w' := by
 have hu38 := Tryz.underlying38
 have hu42 := Tryz.underlying42
 have hu36 := Tryz.underlying36
 have hu30 := Tryz.underlying30
 have HO0_2 := aM (show Kd.V k68 68 w w.heap.size (fun k_ => ((P0_2_ k_ ∨ P0_4_ k_ ∨ P0_6_ k_) ∨ w.heap.size ≤ k_)) (.slice A0_2 l0_2.length c0_2) l0_2 from Kd.V_mono hs0_2 (fun k_ hk => .inl (.inl hk)))
 have HO0_4 := aM (show Kd.V k68 68 w w.heap.size (fun k_ => ((P0_2_ k_ ∨ P0_4_ k_ ∨ P0_6_ k_) ∨ w.heap.size ≤ k_)) (.slice A0_4 l0_4.length c0_4) l0_4 from Kd.V_mono hs0_4 (fun k_ hk => .inl (.inr (.inl hk))))
 have HO0_6 := aM (show Kd.V k68 68 w w.heap.size (fun k_ => ((P0_2_ k_ ∨ P0_4_ k_ ∨ P0_6_ k_) ∨ w.heap.size ≤ k_)) (.slice A0_6 l0_6.length c0_6) l0_6 from Kd.V_mono hs0_6 (fun k_ hk => .inl (.inr (.inr hk))))
 have HB := aM (Below.refl w.heap.size w)
 have H : (some (a0_0, a0_1, l0_2, a0_3, l0_4, a0_5, l0_6, a0_7, a0_8, a0_9)) = some (r1, r2, r3, r4, r5, r6, r7, r8, r9, r10) := h
 clear h
 simp only [Option.some.injEq, Prod.mk.injEq] at H
 obtain ⟨rfl, rfl, rfl, rfl, rfl, rfl, rfl, rfl, rfl, rfl⟩ := H
 go_enter Tryz.func14, Tryz.ntmps14
 go_wp2_with (first | (refine yX 1 #[.int .i64 a0_0, .string a0_1, .slice A0_2 l0_2.length c0_2, .string a0_3, .slice A0_4 l0_4.length c0_4, .string a0_5, .slice A0_6 l0_6.length c0_6, .bool a0_7, .bool a0_8, .int .i64 a0_9] 38 (fun gb770 hg w2 hbox hb => ?_); have BK770 := hbox; have GW770 := yG w hg; have GE770 := GW770; replace HO0_2 := aM (Kd.V_below (Kd.V_elderB (by (with_reducible repeat (first | apply va | apply vn | apply vd)); exact HO0_2.out) gb770 (Nat.le_of_eq hg.symm)) hb); replace HO0_4 := aM (Kd.V_below (Kd.V_elderB (by (with_reducible repeat (first | apply va | apply vn | apply vd)); exact HO0_4.out) gb770 (Nat.le_of_eq hg.symm)) hb); replace HO0_6 := aM (Kd.V_below (Kd.V_elderB (by (with_reducible repeat (first | apply va | apply vn | apply vd)); exact HO0_6.out) gb770 (Nat.le_of_eq hg.symm)) hb); replace HB := yP w hb; clear hb hbox hg) | (refine yX 2 #[.int .i64 0, .string (⟨#[]⟩ : ByteArray), .slice none 0 0, .string (⟨#[]⟩ : ByteArray), .slice none 0 0, .string (⟨#[]⟩ : ByteArray), .slice none 0 0, .bool false, .bool false, .int .i64 0] 42 (fun gb771 hg w3 hbox hb => ?_); have BK771 := hbox; have GW771 := yG w hg; have GE771 := GW771; have NB770_771 := yN hg BK770; have NB771_770 := yM hg BK770; replace HO0_2 := aM (Kd.V_below (Kd.V_elderB (by (with_reducible repeat (first | apply va | apply vn | apply vd)); exact HO0_2.out) gb771 (Nat.le_of_eq hg.symm)) hb); replace HO0_4 := aM (Kd.V_below (Kd.V_elderB (by (with_reducible repeat (first | apply va | apply vn | apply vd)); exact HO0_4.out) gb771 (Nat.le_of_eq hg.symm)) hb); replace HO0_6 := aM (Kd.V_below (Kd.V_elderB (by (with_reducible repeat (first | apply va | apply vn | apply vd)); exact HO0_6.out) gb771 (Nat.le_of_eq hg.symm)) hb); replace BK770 := yB hb BK770; replace HB := yP w hb; clear hb hbox hg; have hnb4 := NB770_771.out; have hnc4 := NB771_770.out; have hcz5_0 := zC BK770.out 0 (.int .i64 a0_0); have hcz5_1 := zC BK770.out 1 (.string a0_1); have hcz5_2 := zC BK770.out 2 (.slice A0_2 l0_2.length c0_2); have hcz5_3 := zC BK770.out 3 (.string a0_3); have hcz5_4 := zC BK770.out 4 (.slice A0_4 l0_4.length c0_4); have hcz5_5 := zC BK770.out 5 (.string a0_5); have hcz5_6 := zC BK770.out 6 (.slice A0_6 l0_6.length c0_6); have hcz5_7 := zC BK770.out 7 (.bool a0_7); have hcz5_8 := zC BK770.out 8 (.bool a0_8); have hcz5_9 := zC BK770.out 9 (.int .i64 a0_9); have hfz5_0 := bF BK770.out 0; have hfz5_1 := bF BK770.out 1; have hfz5_2 := bF BK770.out 2; have hfz5_3 := bF BK770.out 3; have hfz5_4 := bF BK770.out 4; have hfz5_5 := bF BK770.out 5; have hfz5_6 := bF BK770.out 6; have hfz5_7 := bF BK770.out 7; have hfz5_8 := bF BK770.out 8; have hfz5_9 := bF BK770.out 9; have hcz6_0 := zC BK771.out 0 (.int .i64 0); have hcz6_1 := zC BK771.out 1 (.string (⟨#[]⟩ : ByteArray)); have hcz6_2 := zC BK771.out 2 (.slice none 0 0); have hcz6_3 := zC BK771.out 3 (.string (⟨#[]⟩ : ByteArray)); have hcz6_4 := zC BK771.out 4 (.slice none 0 0); have hcz6_5 := zC BK771.out 5 (.string (⟨#[]⟩ : ByteArray)); have hcz6_6 := zC BK771.out 6 (.slice none 0 0); have hcz6_7 := zC BK771.out 7 (.bool false); have hcz6_8 := zC BK771.out 8 (.bool false); have hcz6_9 := zC BK771.out 9 (.int .i64 0); have hfz6_0 := bF BK771.out 0; have hfz6_1 := bF BK771.out 1; have hfz6_2 := bF BK771.out 2; have hfz6_3 := bF BK771.out 3; have hfz6_4 := bF BK771.out 4; have hfz6_5 := bF BK771.out 5; have hfz6_6 := bF BK771.out 6; have hfz6_7 := bF BK771.out 7; have hfz6_8 := bF BK771.out 8; have hfz6_9 := bF BK771.out 9))
 refine bodyPost_ret (results_cell_row rfl _ _ gb771 42 #[.int .i64 a0_0, .string a0_1, .slice A0_2 l0_2.length c0_2, .string a0_3, .slice A0_4 l0_4.length c0_4, .string a0_5, .slice A0_6 l0_6.length c0_6, .bool a0_7, .bool a0_8, .int .i64 a0_9] (0, 0) _ rfl (by (with_reducible repeat (first | apply qn | apply qd | apply qa)); refine bU (cs := #[.int .i64 a0_0, .string a0_1, .slice A0_2 l0_2.length c0_2, .string a0_3, .slice A0_4 l0_4.length c0_4, .string a0_5, .slice A0_6 l0_6.length c0_6, .bool a0_7, .bool a0_8, .int .i64 0]) ?_ 9 _ rfl; (with_reducible repeat (first | apply qn | apply qd | apply qa)); refine bU (cs := #[.int .i64 a0_0, .string a0_1, .slice A0_2 l0_2.length c0_2, .string a0_3, .slice A0_4 l0_4.length c0_4, .string a0_5, .slice A0_6 l0_6.length c0_6, .bool a0_7, .bool false, .int .i64 0]) ?_ 8 _ rfl; (with_reducible repeat (first | apply qn | apply qd | apply qa)); refine bU (cs := #[.int .i64 a0_0, .string a0_1, .slice A0_2 l0_2.length c0_2, .string a0_3, .slice A0_4 l0_4.length c0_4, .string a0_5, .slice A0_6 l0_6.length c0_6, .bool false, .bool false, .int .i64 0]) ?_ 7 _ rfl; (with_reducible repeat (first | apply qn | apply qd | apply qa)); refine bU (cs := #[.int .i64 a0_0, .string a0_1, .slice A0_2 l0_2.length c0_2, .string a0_3, .slice A0_4 l0_4.length c0_4, .string a0_5, .slice none 0 0, .bool false, .bool false, .int .i64 0]) ?_ 6 _ rfl; (with_reducible repeat (first | apply qn | apply qd | apply qa)); refine bU (cs := #[.int .i64 a0_0, .string a0_1, .slice A0_2 l0_2.length c0_2, .string a0_3, .slice A0_4 l0_4.length c0_4, .string (⟨#[]⟩ : ByteArray), .slice none 0 0, .bool false, .bool false, .int .i64 0]) ?_ 5 _ rfl; (with_reducible repeat (first | apply qn | apply qd | apply qa)); refine bU (cs := #[.int .i64 a0_0, .string a0_1, .slice A0_2 l0_2.length c0_2, .string a0_3, .slice none 0 0, .string (⟨#[]⟩ : ByteArray), .slice none 0 0, .bool false, .bool false, .int .i64 0]) ?_ 4 _ rfl; (with_reducible repeat (first | apply qn | apply qd | apply qa)); refine bU (cs := #[.int .i64 a0_0, .string a0_1, .slice A0_2 l0_2.length c0_2, .string (⟨#[]⟩ : ByteArray), .slice none 0 0, .string (⟨#[]⟩ : ByteArray), .slice none 0 0, .bool false, .bool false, .int .i64 0]) ?_ 3 _ rfl; (with_reducible repeat (first | apply qn | apply qd | apply qa)); refine bU (cs := #[.int .i64 a0_0, .string a0_1, .slice none 0 0, .string (⟨#[]⟩ : ByteArray), .slice none 0 0, .string (⟨#[]⟩ : ByteArray), .slice none 0 0, .bool false, .bool false, .int .i64 0]) ?_ 2 _ rfl; (with_reducible repeat (first | apply qn | apply qd | apply qa)); refine bU (cs := #[.int .i64 a0_0, .string (⟨#[]⟩ : ByteArray), .slice none 0 0, .string (⟨#[]⟩ : ByteArray), .slice none 0 0, .string (⟨#[]⟩ : ByteArray), .slice none 0 0, .bool false, .bool false, .int .i64 0]) ?_ 1 _ rfl; (with_reducible repeat (first | apply qn | apply qd | apply qa)); refine bU (cs := #[.int .i64 0, .string (⟨#[]⟩ : ByteArray), .slice none 0 0, .string (⟨#[]⟩ : ByteArray), .slice none 0 0, .string (⟨#[]⟩ : ByteArray), .slice none 0 0, .bool false, .bool false, .int .i64 0]) ?_ 0 _ rfl; exact qy BK771.out) Tryz.underlying42 rfl (by kernel_rfl)) rfl ?_
 exact ⟨_, _, _, ye, by (with_reducible repeat (first | apply va | apply vn | apply vd)); exact Kd.V_mono (Kd.V_far (p := ⟨gb771, 9, none⟩) (Kd.V_far (p := ⟨gb771, 8, none⟩) (Kd.V_far (p := ⟨gb771, 7, none⟩) (Kd.V_far (p := ⟨gb771, 6, none⟩) (Kd.V_far (p := ⟨gb771, 5, none⟩) (Kd.V_far (p := ⟨gb771, 4, none⟩) (Kd.V_far (p := ⟨gb771, 3, none⟩) (Kd.V_far (p := ⟨gb771, 2, none⟩) (Kd.V_far (p := ⟨gb771, 1, none⟩) (Kd.V_far (p := ⟨gb771, 0, none⟩) (Kd.V_mono HO0_2.out (fun k_ hk => (⟨hk, hk.2⟩ : _ ∧ k_ ≠ gb771))) (fun _ hk => hk.2) (.int .i64 a0_0)) (fun _ hk => hk.2) (.string a0_1)) (fun _ hk => hk.2) (.slice A0_2 l0_2.length c0_2)) (fun _ hk => hk.2) (.string a0_3)) (fun _ hk => hk.2) (.slice A0_4 l0_4.length c0_4)) (fun _ hk => hk.2) (.string a0_5)) (fun _ hk => hk.2) (.slice A0_6 l0_6.length c0_6)) (fun _ hk => hk.2) (.bool a0_7)) (fun _ hk => hk.2) (.bool a0_8)) (fun _ hk => hk.2) (.int .i64 a0_9)) (fun _ hk => hk.1.1.1), by (with_reducible repeat (first | apply va | apply vn | apply vd)); exact Kd.V_mono (Kd.V_far (p := ⟨gb771, 9, none⟩) (Kd.V_far (p := ⟨gb771, 8, none⟩) (Kd.V_far (p := ⟨gb771, 7, none⟩) (Kd.V_far (p := ⟨gb771, 6, none⟩) (Kd.V_far (p := ⟨gb771, 5, none⟩) (Kd.V_far (p := ⟨gb771, 4, none⟩) (Kd.V_far (p := ⟨gb771, 3, none⟩) (Kd.V_far (p := ⟨gb771, 2, none⟩) (Kd.V_far (p := ⟨gb771, 1, none⟩) (Kd.V_far (p := ⟨gb771, 0, none⟩) (Kd.V_mono HO0_4.out (fun k_ hk => (⟨hk, hk.2⟩ : _ ∧ k_ ≠ gb771))) (fun _ hk => hk.2) (.int .i64 a0_0)) (fun _ hk => hk.2) (.string a0_1)) (fun _ hk => hk.2) (.slice A0_2 l0_2.length c0_2)) (fun _ hk => hk.2) (.string a0_3)) (fun _ hk => hk.2) (.slice A0_4 l0_4.length c0_4)) (fun _ hk => hk.2) (.string a0_5)) (fun _ hk => hk.2) (.slice A0_6 l0_6.length c0_6)) (fun _ hk => hk.2) (.bool a0_7)) (fun _ hk => hk.2) (.bool a0_8)) (fun _ hk => hk.2) (.int .i64 a0_9)) (fun _ hk => hk.1.1.1), by (with_reducible repeat (first | apply va | apply vn | apply vd)); exact Kd.V_mono (Kd.V_far (p := ⟨gb771, 9, none⟩) (Kd.V_far (p := ⟨gb771, 8, none⟩) (Kd.V_far (p := ⟨gb771, 7, none⟩) (Kd.V_far (p := ⟨gb771, 6, none⟩) (Kd.V_far (p := ⟨gb771, 5, none⟩) (Kd.V_far (p := ⟨gb771, 4, none⟩) (Kd.V_far (p := ⟨gb771, 3, none⟩) (Kd.V_far (p := ⟨gb771, 2, none⟩) (Kd.V_far (p := ⟨gb771, 1, none⟩) (Kd.V_far (p := ⟨gb771, 0, none⟩) (Kd.V_mono HO0_6.out (fun k_ hk => (⟨hk, hk.2⟩ : _ ∧ k_ ≠ gb771))) (fun _ hk => hk.2) (.int .i64 a0_0)) (fun _ hk => hk.2) (.string a0_1)) (fun _ hk => hk.2) (.slice A0_2 l0_2.length c0_2)) (fun _ hk => hk.2) (.string a0_3)) (fun _ hk => hk.2) (.slice A0_4 l0_4.length c0_4)) (fun _ hk => hk.2) (.string a0_5)) (fun _ hk => hk.2) (.slice A0_6 l0_6.length c0_6)) (fun _ hk => hk.2) (.bool a0_7)) (fun _ hk => hk.2) (.bool a0_8)) (fun _ hk => hk.2) (.int .i64 a0_9)) (fun _ hk => hk.1.1.1), yH⟩
def bureauref14_Same.f (k : Nat) (a0_0 : Int) (a0_1 : ByteArray) (l0_2 : List (S68)) (a0_3 : ByteArray) (l0_4 : List (S68)) (a0_5 : ByteArray) (l0_6 : List (S68)) (a0_7 : Bool) (a0_8 : Bool) (a0_9 : Int) (a1_0 : Int) (a1_1 : ByteArray) (l1_2 : List (S68)) (a1_3 : ByteArray) (l1_4 : List (S68)) (a1_5 : ByteArray) (l1_6 : List (S68)) (a1_7 : Bool) (a1_8 : Bool) (a1_9 : Int) : Option (Bool) := (bureauref07_Same.f k a0_0 a0_1 l0_2 a0_3 l0_4 a1_0 a1_1 l1_2 a1_3 l1_4).bind fun t768 => (if t768 = true then ((bureauref04_Same.f k a0_5 l0_6 a1_5 l1_6).bind fun t769 => (if t769 = true then (if (a0_7 == a1_7) = true then (if (a0_8 == a1_8) = true then (some (a0_9 == a1_9)) else (some false)) else (some false)) else (some false))) else (some false))
set_option maxHeartbeats 8000000 in
set_option maxRecDepth 100000 in
theorem bureauref14_Same.calls (k : Nat) (a0_0 : Int) (a0_1 : ByteArray) (A0_2 : Option Addr) (c0_2 : Nat) (l0_2 : List (S68)) (a0_3 : ByteArray) (A0_4 : Option Addr) (c0_4 : Nat) (l0_4 : List (S68)) (a0_5 : ByteArray) (A0_6 : Option Addr) (c0_6 : Nat) (l0_6 : List (S68)) (a0_7 : Bool) (a0_8 : Bool) (a0_9 : Int) (a1_0 : Int) (a1_1 : ByteArray) (A1_2 : Option Addr) (c1_2 : Nat) (l1_2 : List (S68)) (a1_3 : ByteArray) (A1_4 : Option Addr) (c1_4 : Nat) (l1_4 : List (S68)) (a1_5 : ByteArray) (A1_6 : Option Addr) (c1_6 : Nat) (l1_6 : List (S68)) (a1_7 : Bool) (a1_8 : Bool) (a1_9 : Int) (r : Bool) (w : World) (hr0_2 : Kd.C k68 w A0_2 l0_2.length l0_2) (hc0_2 : l0_2.length ≤ c0_2) (hr0_4 : Kd.C k68 w A0_4 l0_4.length l0_4) (hc0_4 : l0_4.length ≤ c0_4) (hr0_6 : Kd.C k68 w A0_6 l0_6.length l0_6) (hc0_6 : l0_6.length ≤ c0_6) (hr1_2 : Kd.C k68 w A1_2 l1_2.length l1_2) (hc1_2 : l1_2.length ≤ c1_2) (hr1_4 : Kd.C k68 w A1_4 l1_4.length l1_4) (hc1_4 : l1_4.length ≤ c1_4) (hr1_6 : Kd.C k68 w A1_6 l1_6.length l1_6) (hc1_6 : l1_6.length ≤ c1_6) (h : bureauref14_Same.f k a0_0 a0_1 l0_2 a0_3 l0_4 a0_5 l0_6 a0_7 a0_8 a0_9 a1_0 a1_1 l1_2 a1_3 l1_4 a1_5 l1_6 a1_7 a1_8 a1_9 = some r) :
  Calls Tryz.prog 13 #[.agg #[.int .i64 a0_0, .string a0_1, .slice A0_2 l0_2.length c0_2, .string a0_3, .slice A0_4 l0_4.length c0_4, .string a0_5, .slice A0_6 l0_6.length c0_6, .bool a0_7, .bool a0_8, .int .i64 a0_9], .agg #[.int .i64 a1_0, .string a1_1, .slice A1_2 l1_2.length c1_2, .string a1_3, .slice A1_4 l1_4.length c1_4, .string a1_5, .slice A1_6 l1_6.length c1_6, .bool a1_7, .bool a1_8, .int .i64 a1_9]] w fun e w' => e = .returned (.bool r) ∧ Below w.heap.size w w' := by
 have hu42 := Tryz.underlying42
 have hu36 := Tryz.underlying36
 have hu24 := Tryz.underlying24
 have HR0_2 := aM hr0_2
 have HC0_2 := aM hc0_2
 clear hr0_2 hc0_2
 have HR0_4 := aM hr0_4
 have HC0_4 := aM hc0_4
 clear hr0_4 hc0_4
 have HR0_6 := aM hr0_6
 have HC0_6 := aM hc0_6
 clear hr0_6 hc0_6
 have HR1_2 := aM hr1_2
 have HC1_2 := aM hc1_2
 clear hr1_2 hc1_2
 have HR1_4 := aM hr1_4
 have HC1_4 := aM hc1_4
 clear hr1_4 hc1_4
 have HR1_6 := aM hr1_6
 have HC1_6 := aM hc1_6
 clear hr1_6 hc1_6
 have HB := aM (Below.refl w.heap.size w)
 have H : ((bureauref07_Same.f k a0_0 a0_1 l0_2 a0_3 l0_4 a1_0 a1_1 l1_2 a1_3 l1_4).bind fun t768 => (if t768 = true then ((bureauref04_Same.f k a0_5 l0_6 a1_5 l1_6).bind fun t769 => (if t769 = true then (if (a0_7 == a1_7) = true then (if (a0_8 == a1_8) = true then (some (a0_9 == a1_9)) else (some false)) else (some false)) else (some false))) else (some false))) = some r := h
 clear h
 replace H := Option.bind_eq_some_iff.mp H
 obtain ⟨t768, A30, H⟩ := H
 replace H : (if t768 = true then ((bureauref04_Same.f k a0_5 l0_6 a1_5 l1_6).bind fun t769 => (if t769 = true then (if (a0_7 == a1_7) = true then (if (a0_8 == a1_8) = true then (some (a0_9 == a1_9)) else (some false)) else (some false)) else (some false))) else (some false)) = some r := H
 have A3 := aM A30
 clear A30
 by_cases c4 : t768 = true
 ·subst c4
  rw [if_pos rfl] at H
  replace H := Option.bind_eq_some_iff.mp H
  obtain ⟨t769, A50, H⟩ := H
  replace H : (if t769 = true then (if (a0_7 == a1_7) = true then (if (a0_8 == a1_8) = true then (some (a0_9 == a1_9)) else (some false)) else (some false)) else (some false)) = some r := H
  have A5 := aM A50
  clear A50
  by_cases c6 : t769 = true
  ·subst c6
   rw [if_pos rfl] at H
   by_cases c7 : (a0_7 == a1_7) = true
   ·rw [if_pos c7] at H
    have c7b0 : (a0_7 == a1_7) = true := c7
    (try (have c7b1 : decide (a0_7 = a1_7) = true := by simpa using c7))
    (try (have c7b2 : (a0_7 == a1_7) = true := by simpa using c7))
    clear c7
    by_cases c8 : (a0_8 == a1_8) = true
    ·rw [if_pos c8] at H
     have c8b0 : (a0_8 == a1_8) = true := c8
     (try (have c8b1 : decide (a0_8 = a1_8) = true := by simpa using c8))
     (try (have c8b2 : (a0_8 == a1_8) = true := by simpa using c8))
     clear c8
     obtain rfl := Option.some.inj H
     go_enter Tryz.func13, Tryz.ntmps13
     go_wp2_with (first | (refine yX 2 #[.int .i64 a0_0, .string a0_1, .slice A0_2 l0_2.length c0_2, .string a0_3, .slice A0_4 l0_4.length c0_4, .string a0_5, .slice A0_6 l0_6.length c0_6, .bool a0_7, .bool a0_8, .int .i64 a0_9] 42 (fun gb766 hg w9 hbox hb => ?_); have BK766 := hbox; have GW766 := yG w hg; have GE766 := GW766; replace HB := yP w hb; clear hb hbox hg) | (refine yX 3 #[.int .i64 a1_0, .string a1_1, .slice A1_2 l1_2.length c1_2, .string a1_3, .slice A1_4 l1_4.length c1_4, .string a1_5, .slice A1_6 l1_6.length c1_6, .bool a1_7, .bool a1_8, .int .i64 a1_9] 42 (fun gb767 hg w10 hbox hb => ?_); have BK767 := hbox; have GW767 := yG w hg; have GE767 := GW767; have NB766_767 := yN hg BK766; have NB767_766 := yM hg BK766; replace BK766 := yB hb BK766; replace HB := yP w hb; clear hb hbox hg; have hnb11 := NB766_767.out; have hnc11 := NB767_766.out; have hcz12_0 := zC BK766.out 0 (.int .i64 a0_0); have hcz12_1 := zC BK766.out 1 (.string a0_1); have hcz12_2 := zC BK766.out 2 (.slice A0_2 l0_2.length c0_2); have hcz12_3 := zC BK766.out 3 (.string a0_3); have hcz12_4 := zC BK766.out 4 (.slice A0_4 l0_4.length c0_4); have hcz12_5 := zC BK766.out 5 (.string a0_5); have hcz12_6 := zC BK766.out 6 (.slice A0_6 l0_6.length c0_6); have hcz12_7 := zC BK766.out 7 (.bool a0_7); have hcz12_8 := zC BK766.out 8 (.bool a0_8); have hcz12_9 := zC BK766.out 9 (.int .i64 a0_9); have hfz12_0 := bF BK766.out 0; have hfz12_1 := bF BK766.out 1; have hfz12_2 := bF BK766.out 2; have hfz12_3 := bF BK766.out 3; have hfz12_4 := bF BK766.out 4; have hfz12_5 := bF BK766.out 5; have hfz12_6 := bF BK766.out 6; have hfz12_7 := bF BK766.out 7; have hfz12_8 := bF BK766.out 8; have hfz12_9 := bF BK766.out 9; have hcz13_0 := zC BK767.out 0 (.int .i64 a1_0); have hcz13_1 := zC BK767.out 1 (.string a1_1); have hcz13_2 := zC BK767.out 2 (.slice A1_2 l1_2.length c1_2); have hcz13_3 := zC BK767.out 3 (.string a1_3); have hcz13_4 := zC BK767.out 4 (.slice A1_4 l1_4.length c1_4); have hcz13_5 := zC BK767.out 5 (.string a1_5); have hcz13_6 := zC BK767.out 6 (.slice A1_6 l1_6.length c1_6); have hcz13_7 := zC BK767.out 7 (.bool a1_7); have hcz13_8 := zC BK767.out 8 (.bool a1_8); have hcz13_9 := zC BK767.out 9 (.int .i64 a1_9); have hfz13_0 := bF BK767.out 0; have hfz13_1 := bF BK767.out 1; have hfz13_2 := bF BK767.out 2; have hfz13_3 := bF BK767.out 3; have hfz13_4 := bF BK767.out 4; have hfz13_5 := bF BK767.out 5; have hfz13_6 := bF BK767.out 6; have hfz13_7 := bF BK767.out 7; have hfz13_8 := bF BK767.out 8; have hfz13_9 := bF BK767.out 9) | (refine yC (some 9) Tryz.func41 #[.agg #[.int .i64 a0_0, .string a0_1, .slice A0_2 l0_2.length c0_2, .string a0_3, .slice A0_4 l0_4.length c0_4], .agg #[.int .i64 a1_0, .string a1_1, .slice A1_2 l1_2.length c1_2, .string a1_3, .slice A1_4 l1_4.length c1_4]] ?_; (with_reducible refine (bureauref07_Same.calls k a0_0 a0_1 _ _ l0_2 a0_3 _ _ l0_4 a1_0 a1_1 _ _ l1_2 a1_3 _ _ l1_4 true _ ?side1 ?side2 ?side3 ?side4 ?side5 ?side6 ?side7 ?side8 A3.out).mono ?_); (case side1 => exact yR HR0_2); (case side2 => exact HC0_2.out); (case side3 => exact yR HR0_4); (case side4 => exact HC0_4.out); (case side5 => exact yR HR1_2); (case side6 => exact HC1_2.out); (case side7 => exact yR HR1_4); (case side8 => exact HC1_4.out); rintro e w14 ⟨rfl, hb⟩; refine ⟨_, rfl, ?_⟩; replace BK766 := yB hb BK766; replace BK767 := yB hb BK767; replace HB := yP w hb; clear hb; have hcz15_0 := zC BK766.out 0 (.int .i64 a0_0); have hcz15_1 := zC BK766.out 1 (.string a0_1); have hcz15_2 := zC BK766.out 2 (.slice A0_2 l0_2.length c0_2); have hcz15_3 := zC BK766.out 3 (.string a0_3); have hcz15_4 := zC BK766.out 4 (.slice A0_4 l0_4.length c0_4); have hcz15_5 := zC BK766.out 5 (.string a0_5); have hcz15_6 := zC BK766.out 6 (.slice A0_6 l0_6.length c0_6); have hcz15_7 := zC BK766.out 7 (.bool a0_7); have hcz15_8 := zC BK766.out 8 (.bool a0_8); have hcz15_9 := zC BK766.out 9 (.int .i64 a0_9); have hfz15_0 := bF BK766.out 0; have hfz15_1 := bF BK766.out 1; have hfz15_2 := bF BK766.out 2; have hfz15_3 := bF BK766.out 3; have hfz15_4 := bF BK766.out 4; have hfz15_5 := bF BK766.out 5; have hfz15_6 := bF BK766.out 6; have hfz15_7 := bF BK766.out 7; have hfz15_8 := bF BK766.out 8; have hfz15_9 := bF BK766.out 9; have hcz16_0 := zC BK767.out 0 (.int .i64 a1_0); have hcz16_1 := zC BK767.out 1 (.string a1_1); have hcz16_2 := zC BK767.out 2 (.slice A1_2 l1_2.length c1_2); have hcz16_3 := zC BK767.out 3 (.string a1_3); have hcz16_4 := zC BK767.out 4 (.slice A1_4 l1_4.length c1_4); have hcz16_5 := zC BK767.out 5 (.string a1_5); have hcz16_6 := zC BK767.out 6 (.slice A1_6 l1_6.length c1_6); have hcz16_7 := zC BK767.out 7 (.bool a1_7); have hcz16_8 := zC BK767.out 8 (.bool a1_8); have hcz16_9 := zC BK767.out 9 (.int .i64 a1_9); have hfz16_0 := bF BK767.out 0; have hfz16_1 := bF BK767.out 1; have hfz16_2 := bF BK767.out 2; have hfz16_3 := bF BK767.out 3; have hfz16_4 := bF BK767.out 4; have hfz16_5 := bF BK767.out 5; have hfz16_6 := bF BK767.out 6; have hfz16_7 := bF BK767.out 7; have hfz16_8 := bF BK767.out 8; have hfz16_9 := bF BK767.out 9) | (go_at_call 24; (with_reducible refine (bureauref04_Same.calls k a0_5 _ _ l0_6 a1_5 _ _ l1_6 true _ ?side1 ?side2 ?side3 ?side4 A5.out).mono ?_); (case side1 => exact yR HR0_6); (case side2 => exact HC0_6.out); (case side3 => exact yR HR1_6); (case side4 => exact HC1_6.out); rintro e w17 ⟨rfl, hb⟩; replace BK766 := yB hb BK766; replace BK767 := yB hb BK767; replace HB := yP w hb; clear hb; have hcz18_0 := zC BK766.out 0 (.int .i64 a0_0); have hcz18_1 := zC BK766.out 1 (.string a0_1); have hcz18_2 := zC BK766.out 2 (.slice A0_2 l0_2.length c0_2); have hcz18_3 := zC BK766.out 3 (.string a0_3); have hcz18_4 := zC BK766.out 4 (.slice A0_4 l0_4.length c0_4); have hcz18_5 := zC BK766.out 5 (.string a0_5); have hcz18_6 := zC BK766.out 6 (.slice A0_6 l0_6.length c0_6); have hcz18_7 := zC BK766.out 7 (.bool a0_7); have hcz18_8 := zC BK766.out 8 (.bool a0_8); have hcz18_9 := zC BK766.out 9 (.int .i64 a0_9); have hfz18_0 := bF BK766.out 0; have hfz18_1 := bF BK766.out 1; have hfz18_2 := bF BK766.out 2; have hfz18_3 := bF BK766.out 3; have hfz18_4 := bF BK766.out 4; have hfz18_5 := bF BK766.out 5; have hfz18_6 := bF BK766.out 6; have hfz18_7 := bF BK766.out 7; have hfz18_8 := bF BK766.out 8; have hfz18_9 := bF BK766.out 9; have hcz19_0 := zC BK767.out 0 (.int .i64 a1_0); have hcz19_1 := zC BK767.out 1 (.string a1_1); have hcz19_2 := zC BK767.out 2 (.slice A1_2 l1_2.length c1_2); have hcz19_3 := zC BK767.out 3 (.string a1_3); have hcz19_4 := zC BK767.out 4 (.slice A1_4 l1_4.length c1_4); have hcz19_5 := zC BK767.out 5 (.string a1_5); have hcz19_6 := zC BK767.out 6 (.slice A1_6 l1_6.length c1_6); have hcz19_7 := zC BK767.out 7 (.bool a1_7); have hcz19_8 := zC BK767.out 8 (.bool a1_8); have hcz19_9 := zC BK767.out 9 (.int .i64 a1_9); have hfz19_0 := bF BK767.out 0; have hfz19_1 := bF BK767.out 1; have hfz19_2 := bF BK767.out 2; have hfz19_3 := bF BK767.out 3; have hfz19_4 := bF BK767.out 4; have hfz19_5 := bF BK767.out 5; have hfz19_6 := bF BK767.out 6; have hfz19_7 := bF BK767.out 7; have hfz19_8 := bF BK767.out 8; have hfz19_9 := bF BK767.out 9))
     go_ret
     exact ⟨ye, yH⟩
    ·rw [if_neg c8] at H
     have c8b0 : (a0_8 == a1_8) = false := by simpa using c8
     (try (have c8b1 : decide (a0_8 = a1_8) = false := by simpa using c8))
     (try (have c8b2 : (a0_8 == a1_8) = false := by simpa using c8))
     (try (have c8b3 : ¬ (a0_8 = a1_8) := by simpa using c8))
     clear c8
     obtain rfl := Option.some.inj H
     go_enter Tryz.func13, Tryz.ntmps13
     go_wp2_with (first | (refine yX 2 #[.int .i64 a0_0, .string a0_1, .slice A0_2 l0_2.length c0_2, .string a0_3, .slice A0_4 l0_4.length c0_4, .string a0_5, .slice A0_6 l0_6.length c0_6, .bool a0_7, .bool a0_8, .int .i64 a0_9] 42 (fun gb766 hg w20 hbox hb => ?_); have BK766 := hbox; have GW766 := yG w hg; have GE766 := GW766; replace HB := yP w hb; clear hb hbox hg) | (refine yX 3 #[.int .i64 a1_0, .string a1_1, .slice A1_2 l1_2.length c1_2, .string a1_3, .slice A1_4 l1_4.length c1_4, .string a1_5, .slice A1_6 l1_6.length c1_6, .bool a1_7, .bool a1_8, .int .i64 a1_9] 42 (fun gb767 hg w21 hbox hb => ?_); have BK767 := hbox; have GW767 := yG w hg; have GE767 := GW767; have NB766_767 := yN hg BK766; have NB767_766 := yM hg BK766; replace BK766 := yB hb BK766; replace HB := yP w hb; clear hb hbox hg; have hnb22 := NB766_767.out; have hnc22 := NB767_766.out; have hcz23_0 := zC BK766.out 0 (.int .i64 a0_0); have hcz23_1 := zC BK766.out 1 (.string a0_1); have hcz23_2 := zC BK766.out 2 (.slice A0_2 l0_2.length c0_2); have hcz23_3 := zC BK766.out 3 (.string a0_3); have hcz23_4 := zC BK766.out 4 (.slice A0_4 l0_4.length c0_4); have hcz23_5 := zC BK766.out 5 (.string a0_5); have hcz23_6 := zC BK766.out 6 (.slice A0_6 l0_6.length c0_6); have hcz23_7 := zC BK766.out 7 (.bool a0_7); have hcz23_8 := zC BK766.out 8 (.bool a0_8); have hcz23_9 := zC BK766.out 9 (.int .i64 a0_9); have hfz23_0 := bF BK766.out 0; have hfz23_1 := bF BK766.out 1; have hfz23_2 := bF BK766.out 2; have hfz23_3 := bF BK766.out 3; have hfz23_4 := bF BK766.out 4; have hfz23_5 := bF BK766.out 5; have hfz23_6 := bF BK766.out 6; have hfz23_7 := bF BK766.out 7; have hfz23_8 := bF BK766.out 8; have hfz23_9 := bF BK766.out 9; have hcz24_0 := zC BK767.out 0 (.int .i64 a1_0); have hcz24_1 := zC BK767.out 1 (.string a1_1); have hcz24_2 := zC BK767.out 2 (.slice A1_2 l1_2.length c1_2); have hcz24_3 := zC BK767.out 3 (.string a1_3); have hcz24_4 := zC BK767.out 4 (.slice A1_4 l1_4.length c1_4); have hcz24_5 := zC BK767.out 5 (.string a1_5); have hcz24_6 := zC BK767.out 6 (.slice A1_6 l1_6.length c1_6); have hcz24_7 := zC BK767.out 7 (.bool a1_7); have hcz24_8 := zC BK767.out 8 (.bool a1_8); have hcz24_9 := zC BK767.out 9 (.int .i64 a1_9); have hfz24_0 := bF BK767.out 0; have hfz24_1 := bF BK767.out 1; have hfz24_2 := bF BK767.out 2; have hfz24_3 := bF BK767.out 3; have hfz24_4 := bF BK767.out 4; have hfz24_5 := bF BK767.out 5; have hfz24_6 := bF BK767.out 6; have hfz24_7 := bF BK767.out 7; have hfz24_8 := bF BK767.out 8; have hfz24_9 := bF BK767.out 9) | (refine yC (some 9) Tryz.func41 #[.agg #[.int .i64 a0_0, .string a0_1, .slice A0_2 l0_2.length c0_2, .string a0_3, .slice A0_4 l0_4.length c0_4], .agg #[.int .i64 a1_0, .string a1_1, .slice A1_2 l1_2.length c1_2, .string a1_3, .slice A1_4 l1_4.length c1_4]] ?_; (with_reducible refine (bureauref07_Same.calls k a0_0 a0_1 _ _ l0_2 a0_3 _ _ l0_4 a1_0 a1_1 _ _ l1_2 a1_3 _ _ l1_4 true _ ?side1 ?side2 ?side3 ?side4 ?side5 ?side6 ?side7 ?side8 A3.out).mono ?_); (case side1 => exact yR HR0_2); (case side2 => exact HC0_2.out); (case side3 => exact yR HR0_4); (case side4 => exact HC0_4.out); (case side5 => exact yR HR1_2); (case side6 => exact HC1_2.out); (case side7 => exact yR HR1_4); (case side8 => exact HC1_4.out); rintro e w25 ⟨rfl, hb⟩; refine ⟨_, rfl, ?_⟩; replace BK766 := yB hb BK766; replace BK767 := yB hb BK767; replace HB := yP w hb; clear hb; have hcz26_0 := zC BK766.out 0 (.int .i64 a0_0); have hcz26_1 := zC BK766.out 1 (.string a0_1); have hcz26_2 := zC BK766.out 2 (.slice A0_2 l0_2.length c0_2); have hcz26_3 := zC BK766.out 3 (.string a0_3); have hcz26_4 := zC BK766.out 4 (.slice A0_4 l0_4.length c0_4); have hcz26_5 := zC BK766.out 5 (.string a0_5); have hcz26_6 := zC BK766.out 6 (.slice A0_6 l0_6.length c0_6); have hcz26_7 := zC BK766.out 7 (.bool a0_7); have hcz26_8 := zC BK766.out 8 (.bool a0_8); have hcz26_9 := zC BK766.out 9 (.int .i64 a0_9); have hfz26_0 := bF BK766.out 0; have hfz26_1 := bF BK766.out 1; have hfz26_2 := bF BK766.out 2; have hfz26_3 := bF BK766.out 3; have hfz26_4 := bF BK766.out 4; have hfz26_5 := bF BK766.out 5; have hfz26_6 := bF BK766.out 6; have hfz26_7 := bF BK766.out 7; have hfz26_8 := bF BK766.out 8; have hfz26_9 := bF BK766.out 9; have hcz27_0 := zC BK767.out 0 (.int .i64 a1_0); have hcz27_1 := zC BK767.out 1 (.string a1_1); have hcz27_2 := zC BK767.out 2 (.slice A1_2 l1_2.length c1_2); have hcz27_3 := zC BK767.out 3 (.string a1_3); have hcz27_4 := zC BK767.out 4 (.slice A1_4 l1_4.length c1_4); have hcz27_5 := zC BK767.out 5 (.string a1_5); have hcz27_6 := zC BK767.out 6 (.slice A1_6 l1_6.length c1_6); have hcz27_7 := zC BK767.out 7 (.bool a1_7); have hcz27_8 := zC BK767.out 8 (.bool a1_8); have hcz27_9 := zC BK767.out 9 (.int .i64 a1_9); have hfz27_0 := bF BK767.out 0; have hfz27_1 := bF BK767.out 1; have hfz27_2 := bF BK767.out 2; have hfz27_3 := bF BK767.out 3; have hfz27_4 := bF BK767.out 4; have hfz27_5 := bF BK767.out 5; have hfz27_6 := bF BK767.out 6; have hfz27_7 := bF BK767.out 7; have hfz27_8 := bF BK767.out 8; have hfz27_9 := bF BK767.out 9) | (go_at_call 24; (with_reducible refine (bureauref04_Same.calls k a0_5 _ _ l0_6 a1_5 _ _ l1_6 true _ ?side1 ?side2 ?side3 ?side4 A5.out).mono ?_); (case side1 => exact yR HR0_6); (case side2 => exact HC0_6.out); (case side3 => exact yR HR1_6); (case side4 => exact HC1_6.out); rintro e w28 ⟨rfl, hb⟩; replace BK766 := yB hb BK766; replace BK767 := yB hb BK767; replace HB := yP w hb; clear hb; have hcz29_0 := zC BK766.out 0 (.int .i64 a0_0); have hcz29_1 := zC BK766.out 1 (.string a0_1); have hcz29_2 := zC BK766.out 2 (.slice A0_2 l0_2.length c0_2); have hcz29_3 := zC BK766.out 3 (.string a0_3); have hcz29_4 := zC BK766.out 4 (.slice A0_4 l0_4.length c0_4); have hcz29_5 := zC BK766.out 5 (.string a0_5); have hcz29_6 := zC BK766.out 6 (.slice A0_6 l0_6.length c0_6); have hcz29_7 := zC BK766.out 7 (.bool a0_7); have hcz29_8 := zC BK766.out 8 (.bool a0_8); have hcz29_9 := zC BK766.out 9 (.int .i64 a0_9); have hfz29_0 := bF BK766.out 0; have hfz29_1 := bF BK766.out 1; have hfz29_2 := bF BK766.out 2; have hfz29_3 := bF BK766.out 3; have hfz29_4 := bF BK766.out 4; have hfz29_5 := bF BK766.out 5; have hfz29_6 := bF BK766.out 6; have hfz29_7 := bF BK766.out 7; have hfz29_8 := bF BK766.out 8; have hfz29_9 := bF BK766.out 9; have hcz30_0 := zC BK767.out 0 (.int .i64 a1_0); have hcz30_1 := zC BK767.out 1 (.string a1_1); have hcz30_2 := zC BK767.out 2 (.slice A1_2 l1_2.length c1_2); have hcz30_3 := zC BK767.out 3 (.string a1_3); have hcz30_4 := zC BK767.out 4 (.slice A1_4 l1_4.length c1_4); have hcz30_5 := zC BK767.out 5 (.string a1_5); have hcz30_6 := zC BK767.out 6 (.slice A1_6 l1_6.length c1_6); have hcz30_7 := zC BK767.out 7 (.bool a1_7); have hcz30_8 := zC BK767.out 8 (.bool a1_8); have hcz30_9 := zC BK767.out 9 (.int .i64 a1_9); have hfz30_0 := bF BK767.out 0; have hfz30_1 := bF BK767.out 1; have hfz30_2 := bF BK767.out 2; have hfz30_3 := bF BK767.out 3; have hfz30_4 := bF BK767.out 4; have hfz30_5 := bF BK767.out 5; have hfz30_6 := bF BK767.out 6; have hfz30_7 := bF BK767.out 7; have hfz30_8 := bF BK767.out 8; have hfz30_9 := bF BK767.out 9))
     go_ret
     exact ⟨ye, yH⟩
   ·rw [if_neg c7] at H
    have c7b0 : (a0_7 == a1_7) = false := by simpa using c7
    (try (have c7b1 : decide (a0_7 = a1_7) = false := by simpa using c7))
    (try (have c7b2 : (a0_7 == a1_7) = false := by simpa using c7))
    (try (have c7b3 : ¬ (a0_7 = a1_7) := by simpa using c7))
    clear c7
    obtain rfl := Option.some.inj H
    go_enter Tryz.func13, Tryz.ntmps13
    go_wp2_with (first | (refine yX 2 #[.int .i64 a0_0, .string a0_1, .slice A0_2 l0_2.length c0_2, .string a0_3, .slice A0_4 l0_4.length c0_4, .string a0_5, .slice A0_6 l0_6.length c0_6, .bool a0_7, .bool a0_8, .int .i64 a0_9] 42 (fun gb766 hg w31 hbox hb => ?_); have BK766 := hbox; have GW766 := yG w hg; have GE766 := GW766; replace HB := yP w hb; clear hb hbox hg) | (refine yX 3 #[.int .i64 a1_0, .string a1_1, .slice A1_2 l1_2.length c1_2, .string a1_3, .slice A1_4 l1_4.length c1_4, .string a1_5, .slice A1_6 l1_6.length c1_6, .bool a1_7, .bool a1_8, .int .i64 a1_9] 42 (fun gb767 hg w32 hbox hb => ?_); have BK767 := hbox; have GW767 := yG w hg; have GE767 := GW767; have NB766_767 := yN hg BK766; have NB767_766 := yM hg BK766; replace BK766 := yB hb BK766; replace HB := yP w hb; clear hb hbox hg; have hnb33 := NB766_767.out; have hnc33 := NB767_766.out; have hcz34_0 := zC BK766.out 0 (.int .i64 a0_0); have hcz34_1 := zC BK766.out 1 (.string a0_1); have hcz34_2 := zC BK766.out 2 (.slice A0_2 l0_2.length c0_2); have hcz34_3 := zC BK766.out 3 (.string a0_3); have hcz34_4 := zC BK766.out 4 (.slice A0_4 l0_4.length c0_4); have hcz34_5 := zC BK766.out 5 (.string a0_5); have hcz34_6 := zC BK766.out 6 (.slice A0_6 l0_6.length c0_6); have hcz34_7 := zC BK766.out 7 (.bool a0_7); have hcz34_8 := zC BK766.out 8 (.bool a0_8); have hcz34_9 := zC BK766.out 9 (.int .i64 a0_9); have hfz34_0 := bF BK766.out 0; have hfz34_1 := bF BK766.out 1; have hfz34_2 := bF BK766.out 2; have hfz34_3 := bF BK766.out 3; have hfz34_4 := bF BK766.out 4; have hfz34_5 := bF BK766.out 5; have hfz34_6 := bF BK766.out 6; have hfz34_7 := bF BK766.out 7; have hfz34_8 := bF BK766.out 8; have hfz34_9 := bF BK766.out 9; have hcz35_0 := zC BK767.out 0 (.int .i64 a1_0); have hcz35_1 := zC BK767.out 1 (.string a1_1); have hcz35_2 := zC BK767.out 2 (.slice A1_2 l1_2.length c1_2); have hcz35_3 := zC BK767.out 3 (.string a1_3); have hcz35_4 := zC BK767.out 4 (.slice A1_4 l1_4.length c1_4); have hcz35_5 := zC BK767.out 5 (.string a1_5); have hcz35_6 := zC BK767.out 6 (.slice A1_6 l1_6.length c1_6); have hcz35_7 := zC BK767.out 7 (.bool a1_7); have hcz35_8 := zC BK767.out 8 (.bool a1_8); have hcz35_9 := zC BK767.out 9 (.int .i64 a1_9); have hfz35_0 := bF BK767.out 0; have hfz35_1 := bF BK767.out 1; have hfz35_2 := bF BK767.out 2; have hfz35_3 := bF BK767.out 3; have hfz35_4 := bF BK767.out 4; have hfz35_5 := bF BK767.out 5; have hfz35_6 := bF BK767.out 6; have hfz35_7 := bF BK767.out 7; have hfz35_8 := bF BK767.out 8; have hfz35_9 := bF BK767.out 9) | (refine yC (some 9) Tryz.func41 #[.agg #[.int .i64 a0_0, .string a0_1, .slice A0_2 l0_2.length c0_2, .string a0_3, .slice A0_4 l0_4.length c0_4], .agg #[.int .i64 a1_0, .string a1_1, .slice A1_2 l1_2.length c1_2, .string a1_3, .slice A1_4 l1_4.length c1_4]] ?_; (with_reducible refine (bureauref07_Same.calls k a0_0 a0_1 _ _ l0_2 a0_3 _ _ l0_4 a1_0 a1_1 _ _ l1_2 a1_3 _ _ l1_4 true _ ?side1 ?side2 ?side3 ?side4 ?side5 ?side6 ?side7 ?side8 A3.out).mono ?_); (case side1 => exact yR HR0_2); (case side2 => exact HC0_2.out); (case side3 => exact yR HR0_4); (case side4 => exact HC0_4.out); (case side5 => exact yR HR1_2); (case side6 => exact HC1_2.out); (case side7 => exact yR HR1_4); (case side8 => exact HC1_4.out); rintro e w36 ⟨rfl, hb⟩; refine ⟨_, rfl, ?_⟩; replace BK766 := yB hb BK766; replace BK767 := yB hb BK767; replace HB := yP w hb; clear hb; have hcz37_0 := zC BK766.out 0 (.int .i64 a0_0); have hcz37_1 := zC BK766.out 1 (.string a0_1); have hcz37_2 := zC BK766.out 2 (.slice A0_2 l0_2.length c0_2); have hcz37_3 := zC BK766.out 3 (.string a0_3); have hcz37_4 := zC BK766.out 4 (.slice A0_4 l0_4.length c0_4); have hcz37_5 := zC BK766.out 5 (.string a0_5); have hcz37_6 := zC BK766.out 6 (.slice A0_6 l0_6.length c0_6); have hcz37_7 := zC BK766.out 7 (.bool a0_7); have hcz37_8 := zC BK766.out 8 (.bool a0_8); have hcz37_9 := zC BK766.out 9 (.int .i64 a0_9); have hfz37_0 := bF BK766.out 0; have hfz37_1 := bF BK766.out 1; have hfz37_2 := bF BK766.out 2; have hfz37_3 := bF BK766.out 3; have hfz37_4 := bF BK766.out 4; have hfz37_5 := bF BK766.out 5; have hfz37_6 := bF BK766.out 6; have hfz37_7 := bF BK766.out 7; have hfz37_8 := bF BK766.out 8; have hfz37_9 := bF BK766.out 9; have hcz38_0 := zC BK767.out 0 (.int .i64 a1_0); have hcz38_1 := zC BK767.out 1 (.string a1_1); have hcz38_2 := zC BK767.out 2 (.slice A1_2 l1_2.length c1_2); have hcz38_3 := zC BK767.out 3 (.string a1_3); have hcz38_4 := zC BK767.out 4 (.slice A1_4 l1_4.length c1_4); have hcz38_5 := zC BK767.out 5 (.string a1_5); have hcz38_6 := zC BK767.out 6 (.slice A1_6 l1_6.length c1_6); have hcz38_7 := zC BK767.out 7 (.bool a1_7); have hcz38_8 := zC BK767.out 8 (.bool a1_8); have hcz38_9 := zC BK767.out 9 (.int .i64 a1_9); have hfz38_0 := bF BK767.out 0; have hfz38_1 := bF BK767.out 1; have hfz38_2 := bF BK767.out 2; have hfz38_3 := bF BK767.out 3; have hfz38_4 := bF BK767.out 4; have hfz38_5 := bF BK767.out 5; have hfz38_6 := bF BK767.out 6; have hfz38_7 := bF BK767.out 7; have hfz38_8 := bF BK767.out 8; have hfz38_9 := bF BK767.out 9) | (go_at_call 24; (with_reducible refine (bureauref04_Same.calls k a0_5 _ _ l0_6 a1_5 _ _ l1_6 true _ ?side1 ?side2 ?side3 ?side4 A5.out).mono ?_); (case side1 => exact yR HR0_6); (case side2 => exact HC0_6.out); (case side3 => exact yR HR1_6); (case side4 => exact HC1_6.out); rintro e w39 ⟨rfl, hb⟩; replace BK766 := yB hb BK766; replace BK767 := yB hb BK767; replace HB := yP w hb; clear hb; have hcz40_0 := zC BK766.out 0 (.int .i64 a0_0); have hcz40_1 := zC BK766.out 1 (.string a0_1); have hcz40_2 := zC BK766.out 2 (.slice A0_2 l0_2.length c0_2); have hcz40_3 := zC BK766.out 3 (.string a0_3); have hcz40_4 := zC BK766.out 4 (.slice A0_4 l0_4.length c0_4); have hcz40_5 := zC BK766.out 5 (.string a0_5); have hcz40_6 := zC BK766.out 6 (.slice A0_6 l0_6.length c0_6); have hcz40_7 := zC BK766.out 7 (.bool a0_7); have hcz40_8 := zC BK766.out 8 (.bool a0_8); have hcz40_9 := zC BK766.out 9 (.int .i64 a0_9); have hfz40_0 := bF BK766.out 0; have hfz40_1 := bF BK766.out 1; have hfz40_2 := bF BK766.out 2; have hfz40_3 := bF BK766.out 3; have hfz40_4 := bF BK766.out 4; have hfz40_5 := bF BK766.out 5; have hfz40_6 := bF BK766.out 6; have hfz40_7 := bF BK766.out 7; have hfz40_8 := bF BK766.out 8; have hfz40_9 := bF BK766.out 9; have hcz41_0 := zC BK767.out 0 (.int .i64 a1_0); have hcz41_1 := zC BK767.out 1 (.string a1_1); have hcz41_2 := zC BK767.out 2 (.slice A1_2 l1_2.length c1_2); have hcz41_3 := zC BK767.out 3 (.string a1_3); have hcz41_4 := zC BK767.out 4 (.slice A1_4 l1_4.length c1_4); have hcz41_5 := zC BK767.out 5 (.string a1_5); have hcz41_6 := zC BK767.out 6 (.slice A1_6 l1_6.length c1_6); have hcz41_7 := zC BK767.out 7 (.bool a1_7); have hcz41_8 := zC BK767.out 8 (.bool a1_8); have hcz41_9 := zC BK767.out 9 (.int .i64 a1_9); have hfz41_0 := bF BK767.out 0; have hfz41_1 := bF BK767.out 1; have hfz41_2 := bF BK767.out 2; have hfz41_3 := bF BK767.out 3; have hfz41_4 := bF BK767.out 4; have hfz41_5 := bF BK767.out 5; have hfz41_6 := bF BK767.out 6; have hfz41_7 := bF BK767.out 7; have hfz41_8 := bF BK767.out 8; have hfz41_9 := bF BK767.out 9))
    go_ret
    exact ⟨ye, yH⟩
  ·replace c6 := Bool.eq_false_iff.mpr c6
   subst c6
   rw [if_neg (show ¬ (false = true) by decide)] at H
   obtain rfl := Option.some.inj H
   go_enter Tryz.func13, Tryz.ntmps13
   go_wp2_with (first | (refine yX 2 #[.int .i64 a0_0, .string a0_1, .slice A0_2 l0_2.length c0_2, .string a0_3, .slice A0_4 l0_4.length c0_4, .string a0_5, .slice A0_6 l0_6.length c0_6, .bool a0_7, .bool a0_8, .int .i64 a0_9] 42 (fun gb766 hg w42 hbox hb => ?_); have BK766 := hbox; have GW766 := yG w hg; have GE766 := GW766; replace HB := yP w hb; clear hb hbox hg) | (refine yX 3 #[.int .i64 a1_0, .string a1_1, .slice A1_2 l1_2.length c1_2, .string a1_3, .slice A1_4 l1_4.length c1_4, .string a1_5, .slice A1_6 l1_6.length c1_6, .bool a1_7, .bool a1_8, .int .i64 a1_9] 42 (fun gb767 hg w43 hbox hb => ?_); have BK767 := hbox; have GW767 := yG w hg; have GE767 := GW767; have NB766_767 := yN hg BK766; have NB767_766 := yM hg BK766; replace BK766 := yB hb BK766; replace HB := yP w hb; clear hb hbox hg; have hnb44 := NB766_767.out; have hnc44 := NB767_766.out; have hcz45_0 := zC BK766.out 0 (.int .i64 a0_0); have hcz45_1 := zC BK766.out 1 (.string a0_1); have hcz45_2 := zC BK766.out 2 (.slice A0_2 l0_2.length c0_2); have hcz45_3 := zC BK766.out 3 (.string a0_3); have hcz45_4 := zC BK766.out 4 (.slice A0_4 l0_4.length c0_4); have hcz45_5 := zC BK766.out 5 (.string a0_5); have hcz45_6 := zC BK766.out 6 (.slice A0_6 l0_6.length c0_6); have hcz45_7 := zC BK766.out 7 (.bool a0_7); have hcz45_8 := zC BK766.out 8 (.bool a0_8); have hcz45_9 := zC BK766.out 9 (.int .i64 a0_9); have hfz45_0 := bF BK766.out 0; have hfz45_1 := bF BK766.out 1; have hfz45_2 := bF BK766.out 2; have hfz45_3 := bF BK766.out 3; have hfz45_4 := bF BK766.out 4; have hfz45_5 := bF BK766.out 5; have hfz45_6 := bF BK766.out 6; have hfz45_7 := bF BK766.out 7; have hfz45_8 := bF BK766.out 8; have hfz45_9 := bF BK766.out 9; have hcz46_0 := zC BK767.out 0 (.int .i64 a1_0); have hcz46_1 := zC BK767.out 1 (.string a1_1); have hcz46_2 := zC BK767.out 2 (.slice A1_2 l1_2.length c1_2); have hcz46_3 := zC BK767.out 3 (.string a1_3); have hcz46_4 := zC BK767.out 4 (.slice A1_4 l1_4.length c1_4); have hcz46_5 := zC BK767.out 5 (.string a1_5); have hcz46_6 := zC BK767.out 6 (.slice A1_6 l1_6.length c1_6); have hcz46_7 := zC BK767.out 7 (.bool a1_7); have hcz46_8 := zC BK767.out 8 (.bool a1_8); have hcz46_9 := zC BK767.out 9 (.int .i64 a1_9); have hfz46_0 := bF BK767.out 0; have hfz46_1 := bF BK767.out 1; have hfz46_2 := bF BK767.out 2; have hfz46_3 := bF BK767.out 3; have hfz46_4 := bF BK767.out 4; have hfz46_5 := bF BK767.out 5; have hfz46_6 := bF BK767.out 6; have hfz46_7 := bF BK767.out 7; have hfz46_8 := bF BK767.out 8; have hfz46_9 := bF BK767.out 9) | (refine yC (some 9) Tryz.func41 #[.agg #[.int .i64 a0_0, .string a0_1, .slice A0_2 l0_2.length c0_2, .string a0_3, .slice A0_4 l0_4.length c0_4], .agg #[.int .i64 a1_0, .string a1_1, .slice A1_2 l1_2.length c1_2, .string a1_3, .slice A1_4 l1_4.length c1_4]] ?_; (with_reducible refine (bureauref07_Same.calls k a0_0 a0_1 _ _ l0_2 a0_3 _ _ l0_4 a1_0 a1_1 _ _ l1_2 a1_3 _ _ l1_4 true _ ?side1 ?side2 ?side3 ?side4 ?side5 ?side6 ?side7 ?side8 A3.out).mono ?_); (case side1 => exact yR HR0_2); (case side2 => exact HC0_2.out); (case side3 => exact yR HR0_4); (case side4 => exact HC0_4.out); (case side5 => exact yR HR1_2); (case side6 => exact HC1_2.out); (case side7 => exact yR HR1_4); (case side8 => exact HC1_4.out); rintro e w47 ⟨rfl, hb⟩; refine ⟨_, rfl, ?_⟩; replace BK766 := yB hb BK766; replace BK767 := yB hb BK767; replace HB := yP w hb; clear hb; have hcz48_0 := zC BK766.out 0 (.int .i64 a0_0); have hcz48_1 := zC BK766.out 1 (.string a0_1); have hcz48_2 := zC BK766.out 2 (.slice A0_2 l0_2.length c0_2); have hcz48_3 := zC BK766.out 3 (.string a0_3); have hcz48_4 := zC BK766.out 4 (.slice A0_4 l0_4.length c0_4); have hcz48_5 := zC BK766.out 5 (.string a0_5); have hcz48_6 := zC BK766.out 6 (.slice A0_6 l0_6.length c0_6); have hcz48_7 := zC BK766.out 7 (.bool a0_7); have hcz48_8 := zC BK766.out 8 (.bool a0_8); have hcz48_9 := zC BK766.out 9 (.int .i64 a0_9); have hfz48_0 := bF BK766.out 0; have hfz48_1 := bF BK766.out 1; have hfz48_2 := bF BK766.out 2; have hfz48_3 := bF BK766.out 3; have hfz48_4 := bF BK766.out 4; have hfz48_5 := bF BK766.out 5; have hfz48_6 := bF BK766.out 6; have hfz48_7 := bF BK766.out 7; have hfz48_8 := bF BK766.out 8; have hfz48_9 := bF BK766.out 9; have hcz49_0 := zC BK767.out 0 (.int .i64 a1_0); have hcz49_1 := zC BK767.out 1 (.string a1_1); have hcz49_2 := zC BK767.out 2 (.slice A1_2 l1_2.length c1_2); have hcz49_3 := zC BK767.out 3 (.string a1_3); have hcz49_4 := zC BK767.out 4 (.slice A1_4 l1_4.length c1_4); have hcz49_5 := zC BK767.out 5 (.string a1_5); have hcz49_6 := zC BK767.out 6 (.slice A1_6 l1_6.length c1_6); have hcz49_7 := zC BK767.out 7 (.bool a1_7); have hcz49_8 := zC BK767.out 8 (.bool a1_8); have hcz49_9 := zC BK767.out 9 (.int .i64 a1_9); have hfz49_0 := bF BK767.out 0; have hfz49_1 := bF BK767.out 1; have hfz49_2 := bF BK767.out 2; have hfz49_3 := bF BK767.out 3; have hfz49_4 := bF BK767.out 4; have hfz49_5 := bF BK767.out 5; have hfz49_6 := bF BK767.out 6; have hfz49_7 := bF BK767.out 7; have hfz49_8 := bF BK767.out 8; have hfz49_9 := bF BK767.out 9) | (go_at_call 24; (with_reducible refine (bureauref04_Same.calls k a0_5 _ _ l0_6 a1_5 _ _ l1_6 false _ ?side1 ?side2 ?side3 ?side4 A5.out).mono ?_); (case side1 => exact yR HR0_6); (case side2 => exact HC0_6.out); (case side3 => exact yR HR1_6); (case side4 => exact HC1_6.out); rintro e w50 ⟨rfl, hb⟩; replace BK766 := yB hb BK766; replace BK767 := yB hb BK767; replace HB := yP w hb; clear hb))
   go_ret
   exact ⟨ye, yH⟩
 ·replace c4 := Bool.eq_false_iff.mpr c4
  subst c4
  rw [if_neg (show ¬ (false = true) by decide)] at H
  obtain rfl := Option.some.inj H
  go_enter Tryz.func13, Tryz.ntmps13
  go_wp2_with (first | (refine yX 2 #[.int .i64 a0_0, .string a0_1, .slice A0_2 l0_2.length c0_2, .string a0_3, .slice A0_4 l0_4.length c0_4, .string a0_5, .slice A0_6 l0_6.length c0_6, .bool a0_7, .bool a0_8, .int .i64 a0_9] 42 (fun gb766 hg w51 hbox hb => ?_); have BK766 := hbox; have GW766 := yG w hg; have GE766 := GW766; replace HB := yP w hb; clear hb hbox hg) | (refine yX 3 #[.int .i64 a1_0, .string a1_1, .slice A1_2 l1_2.length c1_2, .string a1_3, .slice A1_4 l1_4.length c1_4, .string a1_5, .slice A1_6 l1_6.length c1_6, .bool a1_7, .bool a1_8, .int .i64 a1_9] 42 (fun gb767 hg w52 hbox hb => ?_); have BK767 := hbox; have GW767 := yG w hg; have GE767 := GW767; have NB766_767 := yN hg BK766; have NB767_766 := yM hg BK766; replace BK766 := yB hb BK766; replace HB := yP w hb; clear hb hbox hg; have hnb53 := NB766_767.out; have hnc53 := NB767_766.out; have hcz54_0 := zC BK766.out 0 (.int .i64 a0_0); have hcz54_1 := zC BK766.out 1 (.string a0_1); have hcz54_2 := zC BK766.out 2 (.slice A0_2 l0_2.length c0_2); have hcz54_3 := zC BK766.out 3 (.string a0_3); have hcz54_4 := zC BK766.out 4 (.slice A0_4 l0_4.length c0_4); have hcz54_5 := zC BK766.out 5 (.string a0_5); have hcz54_6 := zC BK766.out 6 (.slice A0_6 l0_6.length c0_6); have hcz54_7 := zC BK766.out 7 (.bool a0_7); have hcz54_8 := zC BK766.out 8 (.bool a0_8); have hcz54_9 := zC BK766.out 9 (.int .i64 a0_9); have hfz54_0 := bF BK766.out 0; have hfz54_1 := bF BK766.out 1; have hfz54_2 := bF BK766.out 2; have hfz54_3 := bF BK766.out 3; have hfz54_4 := bF BK766.out 4; have hfz54_5 := bF BK766.out 5; have hfz54_6 := bF BK766.out 6; have hfz54_7 := bF BK766.out 7; have hfz54_8 := bF BK766.out 8; have hfz54_9 := bF BK766.out 9; have hcz55_0 := zC BK767.out 0 (.int .i64 a1_0); have hcz55_1 := zC BK767.out 1 (.string a1_1); have hcz55_2 := zC BK767.out 2 (.slice A1_2 l1_2.length c1_2); have hcz55_3 := zC BK767.out 3 (.string a1_3); have hcz55_4 := zC BK767.out 4 (.slice A1_4 l1_4.length c1_4); have hcz55_5 := zC BK767.out 5 (.string a1_5); have hcz55_6 := zC BK767.out 6 (.slice A1_6 l1_6.length c1_6); have hcz55_7 := zC BK767.out 7 (.bool a1_7); have hcz55_8 := zC BK767.out 8 (.bool a1_8); have hcz55_9 := zC BK767.out 9 (.int .i64 a1_9); have hfz55_0 := bF BK767.out 0; have hfz55_1 := bF BK767.out 1; have hfz55_2 := bF BK767.out 2; have hfz55_3 := bF BK767.out 3; have hfz55_4 := bF BK767.out 4; have hfz55_5 := bF BK767.out 5; have hfz55_6 := bF BK767.out 6; have hfz55_7 := bF BK767.out 7; have hfz55_8 := bF BK767.out 8; have hfz55_9 := bF BK767.out 9) | (refine yC (some 9) Tryz.func41 #[.agg #[.int .i64 a0_0, .string a0_1, .slice A0_2 l0_2.length c0_2, .string a0_3, .slice A0_4 l0_4.length c0_4], .agg #[.int .i64 a1_0, .string a1_1, .slice A1_2 l1_2.length c1_2, .string a1_3, .slice A1_4 l1_4.length c1_4]] ?_; (with_reducible refine (bureauref07_Same.calls k a0_0 a0_1 _ _ l0_2 a0_3 _ _ l0_4 a1_0 a1_1 _ _ l1_2 a1_3 _ _ l1_4 false _ ?side1 ?side2 ?side3 ?side4 ?side5 ?side6 ?side7 ?side8 A3.out).mono ?_); (case side1 => exact yR HR0_2); (case side2 => exact HC0_2.out); (case side3 => exact yR HR0_4); (case side4 => exact HC0_4.out); (case side5 => exact yR HR1_2); (case side6 => exact HC1_2.out); (case side7 => exact yR HR1_4); (case side8 => exact HC1_4.out); rintro e w56 ⟨rfl, hb⟩; refine ⟨_, rfl, ?_⟩; replace BK766 := yB hb BK766; replace BK767 := yB hb BK767; replace HB := yP w hb; clear hb))
  go_ret
  exact ⟨ye, yH⟩
end Go.Proofs.YtjkfkiebhgkolaaGreatDoor.PB
end

section
namespace Go.Proofs.YtjkfkiebhgkolaaGreatDoor.PB
open Go.RowKit
set_option maxRecDepth 100000
theorem numOk_of (W : World) (h : laidMetH Tryz.prog Rows.operSpansRow.laid W) : NumOk W := by
  rw [MakeChecks.laidMetH_plain _ _ _ (by kernel_rfl)] at h
  have h0 : laidMet Tryz.prog [("unicode/utf8.acceptRanges", Lib.acceptData), ("unicode/utf8.first", Lib.firstData)] W := h
  exact Go.Proofs.utf8Tabs_of_reads Tryz.lays260 ⟨by kernel_rfl, by kernel_rfl, by kernel_rfl, by kernel_rfl, by kernel_rfl, by kernel_rfl, by kernel_rfl⟩ (Lib.laidMet.reads h0 (.tail _ (.head _))) (Lib.laidMet.reads h0 (.head _))
end Go.Proofs.YtjkfkiebhgkolaaGreatDoor.PB
end

section
namespace Go.Proofs.YtjkfkiebhgkolaaGreatDoor.PB
open Go.RowKit Go.Maps Go.Proofs.YtjkfkiebhgkolaaGreatDoorW.PrintWords Go.Proofs.YtjkfkiebhgkolaaGreatDoorW.PrintLast Go.Proofs.YtjkfkiebhgkolaaGreatDoorW.PrintMore
set_option maxRecDepth 100000
set_option linter.unusedVariables false
set_option linter.unusedSimpArgs false
theorem rsame14_self (a : Int) (o : ByteArray) (ol : List S68) (n : ByteArray) (nl : List S68) (g : ByteArray) (gl : List S68) (p q : Bool) (b : Int) (h1 : ol.length ≤ big) (h2 : nl.length ≤ big) (h3 : gl.length ≤ big) : Ev (fun k => bureauref14_Same.f k a o ol n nl g gl p q b a o ol n nl g gl p q b) true := by
 unfold bureauref14_Same.f
 refine Ev.bind (rsame7_self a o ol n nl h1 h2) (Ev.pos rfl (Ev.bind (ev_val (rsame4_ev g gl g gl h3) (sameT_self g gl)) (Ev.pos rfl ?_)))
 rw [show (p == p) = true by simp, show (q == q) = true by simp, show (b == b) = true by simp]
 exact Ev.pos rfl (Ev.pos rfl (Ev.now _))
theorem fits14_eq (s : ByteArray) (l : List S68) (y op f t : Int) (ln : Bool) (at_ n : Int) (x : ByteArray) (m : List S68) (xl ah : Bool) : bureaulaw14_fits.f s l y op f t ln at_ n x m xl ah = some (decide ((s.size ≤ 1024 ∧ l.length ≤ 5000) ∧ (x.size ≤ 5000 ∧ m.length ≤ 5000))) := by
 unfold bureaulaw14_fits.f bureaulaw14_Fits.f
 rw [fits_eq]
 by_cases h1 : (s.size : Int) ≤ 1024
 ·rw [if_pos h1]
  by_cases h2 : (l.length : Int) ≤ 5000
  ·rw [decide_eq_true h2]
   simp only [Option.bind_some, if_true]
   exact congrArg some (decide_eq_decide.2 ⟨fun h => ⟨⟨by omega, by omega⟩, h⟩, And.right⟩)
  ·rw [decide_eq_false h2]
   simp only [Option.bind_some, Bool.false_eq_true, if_false]
   rw [decide_eq_false (fun h => by omega)]
 ·rw [if_neg h1]
  simp only [Option.bind_some, Bool.false_eq_true, if_false]
  rw [decide_eq_false (fun h => by omega)]
theorem turnD_len {s : ByteArray} {l : List S68} {y a b : Int} {d : TX} (hd : d.2.1.length ≤ big) : (turnD s l y d a b).1.2.2.1.length ≤ big ∧ (turnD s l y d a b).1.2.2.2.2.1.length ≤ big := by
 unfold turnD
 split
 ·split
  ·exact ⟨of_len1 s l a b _ _, of_len2 s l a b _ _ hd⟩
  ·exact ⟨Nat.zero_le _, Nat.zero_le _⟩
 ·exact ⟨Nat.zero_le _, Nat.zero_le _⟩
theorem turnO_len {t : EX × ByteArray} {q : ByteArray → Int} (h : t.1.2.2.1.length ≤ big ∧ t.1.2.2.2.2.1.length ≤ big) : (turnO t q).2.2.1.length ≤ big ∧ (turnO t q).2.2.2.2.1.length ≤ big ∧ (turnO t q).2.2.2.2.2.2.1.length ≤ big := by
 unfold turnO noO
 split
 ·exact ⟨h.1, h.2, Nat.zero_le _⟩
 ·exact ⟨Nat.zero_le _, Nat.zero_le _, Nat.zero_le _⟩
theorem noO_len (e : Int) : (noO e).2.2.1.length ≤ big ∧ (noO e).2.2.2.2.1.length ≤ big ∧ (noO e).2.2.2.2.2.2.1.length ≤ big := ⟨Nat.zero_le _, Nat.zero_le _, Nat.zero_le _⟩
theorem ox_len {s : ByteArray} {l : List S68} {y at_ n op : Int} {r1 : Int} {r2 : ByteArray} {r3 : List S68} {r4 : ByteArray} {r5 : List S68} {r6 : ByteArray} {r7 : List S68} {r8 r9 : Bool} {r10 r11 : Int} (h : swapS s l y at_ n op = (r1, r2, r3, r4, r5, r6, r7, r8, r9, r10, r11)) : r3.length ≤ big ∧ r5.length ≤ big ∧ r7.length ≤ big := by
 have h1 : (swapS s l y at_ n op).2.2.1.length ≤ big ∧ (swapS s l y at_ n op).2.2.2.2.1.length ≤ big ∧ (swapS s l y at_ n op).2.2.2.2.2.2.1.length ≤ big := by
  unfold swapS
  split
  ·split
   ·exact noO_len _
   ·exact turnO_len (turnD_len (by rw [writeD_d0]; exact len_big (makeS_len _ _)))
  ·exact noO_len _
 rw [h] at h1
 exact h1
def goodJ (l : List S68) (y op : Int) (m : List S68) : Bool := decide ((∀ r ∈ l, 0 ≤ r.f0 ∧ r.f0 < 18446744073709551616) ∧ (∀ r ∈ m, 0 ≤ r.f0 ∧ r.f0 < 18446744073709551616) ∧ (0 ≤ y ∧ y < 18446744073709551616) ∧ (-2147483648 ≤ op ∧ op ≤ 2147483647))
theorem goodJ_of {j : S32} (h : wf32 j) : goodJ j.f0.f1 j.f1 j.f2 j.f6.f0.f1 = true := by
 refine decide_eq_true ⟨wfT h.1, wfT h.2.2.2.2.2.2.1.1, wf_u64 h.2.1, ?_⟩
 have h2 := h.2.2.1
 have hmin : IntKind.i32.min = -2147483648 := rfl
 have hmax : IntKind.i32.max = 2147483647 := rfl
 simp only [Lit.wf, Bool.and_eq_true, decide_eq_true_eq, hmin, hmax] at h2
 omega
def bureaulaw14_OperSwaps.f (k : Nat) (s : ByteArray) (l : List S68) (y op f t : Int) (ln : Bool) (at_ n : Int) (x : ByteArray) (m : List S68) (xl ah : Bool) : Option Bool := if goodJ l y op m = true then some true else none
theorem OperSwaps_pure (j : S32) (wj : wf32 j) : ∃ k, bureaulaw14_OperSwaps.f k j.f0.f0 j.f0.f1 j.f1 j.f2 j.f3.f0 j.f3.f1 j.f3.f2 j.f4 j.f5 j.f6.f0.f0 j.f6.f0.f1 j.f6.f1 j.f7 = some true := ⟨0, if_pos (goodJ_of wj)⟩
set_option maxHeartbeats 4000000 in
theorem bureaulaw14_OperSwaps.calls (k : Nat) (s : ByteArray) (A : Option Addr) (c : Nat) (l : List S68) (y op f t : Int) (ln : Bool) (at_ n : Int) (x : ByteArray) (X : Option Addr) (d : Nat) (m : List S68) (xl ah : Bool) (r : Bool) (w : World) (hMX : NumOk w) (hr : Kd.C k68 w A l.length l) (hc : l.length ≤ c) (hx : Kd.C k68 w X m.length m) (hd : m.length ≤ d) (h : bureaulaw14_OperSwaps.f k s l y op f t ln at_ n x m xl ah = some r) :
  Calls Tryz.prog 4 #[.agg #[.string s, .slice A l.length c, .int .u64 y, .int .i32 op, .int .i64 f, .int .i64 t, .bool ln, .int .i64 at_, .int .i64 n, .string x, .slice X m.length d, .bool xl, .bool ah]] w fun e w' => e = .returned (.bool r) ∧ Below w.heap.size w w' := by
 unfold bureaulaw14_OperSwaps.f at h
 split at h
 case isFalse => cases h
 rename_i hg
 obtain rfl := Option.some.inj h
 obtain ⟨hw, hwm, hy, hop⟩ := of_decide_eq_true hg
 have HM := aM hMX
 have HAL := aM alive_ok
 have HR := aM hr
 have HC := aM hc
 have HX := aM hx
 have HXC := aM hd
 have HF := aM (fits14_eq s l y op f t ln at_ n x m xl ah)
 have hop2 : wrap64 op = op := by unfold wrap64; omega
 have hop3 : IntKind.i64.wrap op = op := by rw [i64_w]; exact hop2
 have HW := aM hw
 have HWM := aM hwm
 have HY := aM hy
 clear hMX hr hc hx hd h hg hw hwm hy hop
 by_cases hz : (s.size ≤ 1024 ∧ l.length ≤ 5000) ∧ (x.size ≤ 5000 ∧ m.length ≤ 5000)
 ·rw [decide_eq_true hz] at HF
  have HL := aM (show l.length ≤ big from by unfold big; omega)
  have HML := aM (show m.length ≤ big from by unfold big; omega)
  have HSZ := aM hz
  clear hz
  generalize hq : swapS s l y at_ n op = q
  obtain ⟨r1, r2, r3, r4, r5, r6, r7, r8, r9, r10, r11⟩ := q
  have HD := aM hq
  have HP := aM (show oper_Swap.f s l y at_ n op = some (r1, r2, r3, r4, r5, r6, r7, r8, r9, r10, r11) from by rw [← hq]; exact if_pos HL.out)
  obtain ⟨ks, hks⟩ := (rsame14_self r1 r2 r3 r4 r5 r6 r7 r8 r9 r10 (ox_len hq).1 (ox_len hq).2.1 (ox_len hq).2.2).rounds
  have HSM := aM hks
  clear hq hks
  go_enter Tryz.func4, Tryz.ntmps4
  go_wp2_with (first
   | (refine gB 1 #[.string s, .slice A l.length c, .int .u64 y, .int .i32 op, .int .i64 f, .int .i64 t, .bool ln, .int .i64 at_, .int .i64 n, .string x, .slice X m.length d, .bool xl, .bool ah] 32 (fun gj hg W1 BJ hb => ?_); have Ggj := g0 hg; have HB := aM hb; clear hb hg)
   | (refine gC (some 7) Tryz.func9 #[] ?_; (with_reducible refine (bureaulaw14_alive.calls true _ (HM.out.below HB.out) HAL.out).mono ?_); rintro e W2 ⟨rfl, hb⟩; replace HB := tl hb HB; replace BJ := tl hb BJ; refine ⟨_, rfl, ?_⟩; clear hb; replace hj0 := zC BJ.out 0 (.string s); replace hj1 := zC BJ.out 1 (.slice A l.length c); replace hj2 := zC BJ.out 2 (.int .u64 y); replace hj3 := zC BJ.out 3 (.int .i32 op); replace hj4 := zC BJ.out 4 (.int .i64 f); replace hj5 := zC BJ.out 5 (.int .i64 t); replace hj6 := zC BJ.out 6 (.bool ln); replace hj7 := zC BJ.out 7 (.int .i64 at_); replace hj8 := zC BJ.out 8 (.int .i64 n); replace hj9 := zC BJ.out 9 (.string x); replace hj10 := zC BJ.out 10 (.slice X m.length d); replace hj11 := zC BJ.out 11 (.bool xl); replace hj12 := zC BJ.out 12 (.bool ah))
   | (refine gC (some 10) Tryz.func10 #[.agg #[.string s, .slice A l.length c, .int .u64 y, .int .i32 op, .int .i64 f, .int .i64 t, .bool ln, .int .i64 at_, .int .i64 n, .string x, .slice X m.length d, .bool xl, .bool ah]] ?_; (with_reducible refine (bureaulaw14_fits.calls s A c l y op f t ln at_ n x X d m xl ah true _ (cB_ HR.out HB.out) HC.out (cB_ HX.out HB.out) HXC.out HF.out).mono ?_); rintro e W3 ⟨rfl, hb⟩; replace HB := tl hb HB; replace BJ := tl hb BJ; refine ⟨_, rfl, ?_⟩; clear hb; replace hj0 := zC BJ.out 0 (.string s); replace hj1 := zC BJ.out 1 (.slice A l.length c); replace hj2 := zC BJ.out 2 (.int .u64 y); replace hj3 := zC BJ.out 3 (.int .i32 op); replace hj4 := zC BJ.out 4 (.int .i64 f); replace hj5 := zC BJ.out 5 (.int .i64 t); replace hj6 := zC BJ.out 6 (.bool ln); replace hj7 := zC BJ.out 7 (.int .i64 at_); replace hj8 := zC BJ.out 8 (.int .i64 n); replace hj9 := zC BJ.out 9 (.string x); replace hj10 := zC BJ.out 10 (.slice X m.length d); replace hj11 := zC BJ.out 11 (.bool xl); replace hj12 := zC BJ.out 12 (.bool ah))
   | (refine gC (some 23) Tryz.func15 #[.agg #[.string s, .slice A l.length c], .int .u64 y, .int .i64 at_, .int .i64 n, .int .i32 op] ?_; (with_reducible refine (oper_Swap.calls s A c l y at_ n op r1 r2 r3 r4 r5 r6 r7 r8 r9 r10 r11 _ (HM.out.below HB.out) (cB_ HR.out HB.out) HC.out HP.out).mono ?_); rintro e W4 ⟨v2, v4, v6, rfl, ho2, ho4, ho6, hb⟩; have H2 := aM (rM (rL ho2 HB.out.size) (fun _ _ => trivial)); have H4 := aM (rM (rL ho4 HB.out.size) (fun _ _ => trivial)); have H6 := aM (rM (rL ho6 HB.out.size) (fun _ _ => trivial)); replace HB := tl hb HB; replace BJ := tl hb BJ; clear ho2 ho4 ho6; refine ⟨_, rfl, ?_⟩; clear hb; replace hj0 := zC BJ.out 0 (.string s); replace hj1 := zC BJ.out 1 (.slice A l.length c); replace hj2 := zC BJ.out 2 (.int .u64 y); replace hj3 := zC BJ.out 3 (.int .i32 op); replace hj4 := zC BJ.out 4 (.int .i64 f); replace hj5 := zC BJ.out 5 (.int .i64 t); replace hj6 := zC BJ.out 6 (.bool ln); replace hj7 := zC BJ.out 7 (.int .i64 at_); replace hj8 := zC BJ.out 8 (.int .i64 n); replace hj9 := zC BJ.out 9 (.string x); replace hj10 := zC BJ.out 10 (.slice X m.length d); replace hj11 := zC BJ.out 11 (.bool xl); replace hj12 := zC BJ.out 12 (.bool ah); obtain ⟨A2, c2, rfl⟩ := Kd.R_slice H2.out; obtain ⟨A4, c4, rfl⟩ := Kd.R_slice H4.out; obtain ⟨A6, c6, rfl⟩ := Kd.R_slice H6.out)
   | (refine gB 3 #[.int .i64 0, .string ⟨#[]⟩, .slice none 0 0, .string ⟨#[]⟩, .slice none 0 0, .string ⟨#[]⟩, .slice none 0 0, .bool false, .bool false, .int .i64 0] 38 (fun gx hg W5 BX hb => ?_); have Ggx := gG hg HB; replace HB := tl hb HB; replace BJ := tl hb BJ; replace H2 := tl hb H2; replace H4 := tl hb H4; replace H6 := tl hb H6; clear hb hg; replace hj0 := zC BJ.out 0 (.string s); replace hj1 := zC BJ.out 1 (.slice A l.length c); replace hj2 := zC BJ.out 2 (.int .u64 y); replace hj3 := zC BJ.out 3 (.int .i32 op); replace hj4 := zC BJ.out 4 (.int .i64 f); replace hj5 := zC BJ.out 5 (.int .i64 t); replace hj6 := zC BJ.out 6 (.bool ln); replace hj7 := zC BJ.out 7 (.int .i64 at_); replace hj8 := zC BJ.out 8 (.int .i64 n); replace hj9 := zC BJ.out 9 (.string x); replace hj10 := zC BJ.out 10 (.slice X m.length d); replace hj11 := zC BJ.out 11 (.bool xl); replace hj12 := zC BJ.out 12 (.bool ah))
   | (refine gS BX 0 [.int .i64 r1, .string r2, .slice A2 r3.length c2, .string r4, .slice A4 r5.length c4, .string r6, .slice A6 r7.length c6, .bool r8, .bool r9, .int .i64 r10] (fun W6 hP => ?_); replace HB := sW hP Ggx HB; replace BJ := sB hP BX BJ; replace H2 := sR hP BX H2; replace H4 := sR hP BX H4; replace H6 := sR hP BX H6; replace BX := sX hP BX; clear hP; replace hj0 := zC BJ.out 0 (.string s); replace hj1 := zC BJ.out 1 (.slice A l.length c); replace hj2 := zC BJ.out 2 (.int .u64 y); replace hj3 := zC BJ.out 3 (.int .i32 op); replace hj4 := zC BJ.out 4 (.int .i64 f); replace hj5 := zC BJ.out 5 (.int .i64 t); replace hj6 := zC BJ.out 6 (.bool ln); replace hj7 := zC BJ.out 7 (.int .i64 at_); replace hj8 := zC BJ.out 8 (.int .i64 n); replace hj9 := zC BJ.out 9 (.string x); replace hj10 := zC BJ.out 10 (.slice X m.length d); replace hj11 := zC BJ.out 11 (.bool xl); replace hj12 := zC BJ.out 12 (.bool ah))
   | (refine gC (some 38) Tryz.func16 #[.agg #[.string s, .slice A l.length c], .int .u64 y, .int .i64 at_, .int .i64 n, .int .i64 op] ?_; (with_reducible refine (rswap_ok (cB_ HR.out HB.out) HC.out HL.out HW.out HY.out HD.out).mono ?_); rintro e W7 ⟨v2, v4, v6, rfl, ho2, ho4, ho6, hb⟩; have Y2 := aM (rM (rL ho2 HB.out.size) (fun _ _ => trivial)); have Y4 := aM (rM (rL ho4 HB.out.size) (fun _ _ => trivial)); have Y6 := aM (rM (rL ho6 HB.out.size) (fun _ _ => trivial)); replace HB := tl hb HB; replace BJ := tl hb BJ; replace H2 := tl hb H2; replace H4 := tl hb H4; replace H6 := tl hb H6; replace BX := tl hb BX; clear ho2 ho4 ho6; refine ⟨_, rfl, ?_⟩; clear hb; replace hj0 := zC BJ.out 0 (.string s); replace hj1 := zC BJ.out 1 (.slice A l.length c); replace hj2 := zC BJ.out 2 (.int .u64 y); replace hj3 := zC BJ.out 3 (.int .i32 op); replace hj4 := zC BJ.out 4 (.int .i64 f); replace hj5 := zC BJ.out 5 (.int .i64 t); replace hj6 := zC BJ.out 6 (.bool ln); replace hj7 := zC BJ.out 7 (.int .i64 at_); replace hj8 := zC BJ.out 8 (.int .i64 n); replace hj9 := zC BJ.out 9 (.string x); replace hj10 := zC BJ.out 10 (.slice X m.length d); replace hj11 := zC BJ.out 11 (.bool xl); replace hj12 := zC BJ.out 12 (.bool ah); obtain ⟨E2, e2, rfl⟩ := Kd.R_slice Y2.out; obtain ⟨E4, e4, rfl⟩ := Kd.R_slice Y4.out; obtain ⟨E6, e6, rfl⟩ := Kd.R_slice Y6.out)
   | (refine gB 5 #[.int .i64 0, .string ⟨#[]⟩, .slice none 0 0, .string ⟨#[]⟩, .slice none 0 0, .string ⟨#[]⟩, .slice none 0 0, .bool false, .bool false, .int .i64 0] 42 (fun gy hg W8 BY hb => ?_); have Ggy := gG hg HB; replace HB := tl hb HB; replace BJ := tl hb BJ; replace H2 := tl hb H2; replace H4 := tl hb H4; replace H6 := tl hb H6; replace BX := tl hb BX; replace Y2 := tl hb Y2; replace Y4 := tl hb Y4; replace Y6 := tl hb Y6; clear hb hg; replace hj0 := zC BJ.out 0 (.string s); replace hj1 := zC BJ.out 1 (.slice A l.length c); replace hj2 := zC BJ.out 2 (.int .u64 y); replace hj3 := zC BJ.out 3 (.int .i32 op); replace hj4 := zC BJ.out 4 (.int .i64 f); replace hj5 := zC BJ.out 5 (.int .i64 t); replace hj6 := zC BJ.out 6 (.bool ln); replace hj7 := zC BJ.out 7 (.int .i64 at_); replace hj8 := zC BJ.out 8 (.int .i64 n); replace hj9 := zC BJ.out 9 (.string x); replace hj10 := zC BJ.out 10 (.slice X m.length d); replace hj11 := zC BJ.out 11 (.bool xl); replace hj12 := zC BJ.out 12 (.bool ah))
   | (refine gS BY 0 [.int .i64 r1, .string r2, .slice E2 r3.length e2, .string r4, .slice E4 r5.length e4, .string r6, .slice E6 r7.length e6, .bool r8, .bool r9, .int .i64 r10] (fun W9 hP => ?_); replace HB := sW hP Ggy HB; replace BJ := sB hP BY BJ; replace H2 := sR hP BY H2; replace H4 := sR hP BY H4; replace H6 := sR hP BY H6; replace BX := sB hP BY BX; replace Y2 := sR hP BY Y2; replace Y4 := sR hP BY Y4; replace Y6 := sR hP BY Y6; replace BY := sX hP BY; clear hP; replace hj0 := zC BJ.out 0 (.string s); replace hj1 := zC BJ.out 1 (.slice A l.length c); replace hj2 := zC BJ.out 2 (.int .u64 y); replace hj3 := zC BJ.out 3 (.int .i32 op); replace hj4 := zC BJ.out 4 (.int .i64 f); replace hj5 := zC BJ.out 5 (.int .i64 t); replace hj6 := zC BJ.out 6 (.bool ln); replace hj7 := zC BJ.out 7 (.int .i64 at_); replace hj8 := zC BJ.out 8 (.int .i64 n); replace hj9 := zC BJ.out 9 (.string x); replace hj10 := zC BJ.out 10 (.slice X m.length d); replace hj11 := zC BJ.out 11 (.bool xl); replace hj12 := zC BJ.out 12 (.bool ah))
   )
  have hb := below_drew1 (Below.refl W9.heap.size W9)
  replace HB := tl hb HB
  replace BJ := tl hb BJ
  replace H2 := tl hb H2
  replace H4 := tl hb H4
  replace H6 := tl hb H6
  replace BX := tl hb BX
  replace Y2 := tl hb Y2
  replace Y4 := tl hb Y4
  replace Y6 := tl hb Y6
  replace BY := tl hb BY
  clear hb
  refine oS1 10 (fun W => W.cell? ⟨gx, 0, none⟩ = some (.int .i64 r1) ∧ W.cell? ⟨gx, 1, none⟩ = some (.string r2) ∧ W.cell? ⟨gx, 2, none⟩ = some (.slice A2 r3.length c2) ∧ W.cell? ⟨gx, 3, none⟩ = some (.string r4) ∧ W.cell? ⟨gx, 4, none⟩ = some (.slice A4 r5.length c4) ∧ W.cell? ⟨gx, 5, none⟩ = some (.string r6) ∧ W.cell? ⟨gx, 6, none⟩ = some (.slice A6 r7.length c6) ∧ W.cell? ⟨gx, 7, none⟩ = some (.bool r8) ∧ W.cell? ⟨gx, 8, none⟩ = some (.bool r9) ∧ W.cell? ⟨gx, 9, none⟩ = some (.int .i64 r10) ∧ W.cell? ⟨gy, 0, none⟩ = some (.int .i64 r1) ∧ W.cell? ⟨gy, 1, none⟩ = some (.string r2) ∧ W.cell? ⟨gy, 2, none⟩ = some (.slice E2 r3.length e2) ∧ W.cell? ⟨gy, 3, none⟩ = some (.string r4) ∧ W.cell? ⟨gy, 4, none⟩ = some (.slice E4 r5.length e4) ∧ W.cell? ⟨gy, 5, none⟩ = some (.string r6) ∧ W.cell? ⟨gy, 6, none⟩ = some (.slice E6 r7.length e6) ∧ W.cell? ⟨gy, 7, none⟩ = some (.bool r8) ∧ W.cell? ⟨gy, 8, none⟩ = some (.bool r9) ∧ W.cell? ⟨gy, 9, none⟩ = some (.int .i64 r10)) [] ⟨zC BX.out 0 _, zC BX.out 1 _, zC BX.out 2 _, zC BX.out 3 _, zC BX.out 4 _, zC BX.out 5 _, zC BX.out 6 _, zC BX.out 7 _, zC BX.out 8 _, zC BX.out 9 _, zC BY.out 0 _, zC BY.out 1 _, zC BY.out 2 _, zC BY.out 3 _, zC BY.out 4 _, zC BY.out 5 _, zC BY.out 6 _, zC BY.out 7 _, zC BY.out 8 _, zC BY.out 9 _⟩ (fun hHeld => ?_)
  generalize W9.drew = W10 at HB BJ H2 H4 H6 BX Y2 Y4 Y6 BY hHeld ⊢
  refine st 0 41 (z 10 1) hHeld ?_
  refine st 2 43 (z 10 5) hHeld ?_
  refine oC 1 (some 42) (z 10 7) Tryz.func14 #[.agg #[.int .i64 r1, .string r2, .slice A2 r3.length c2, .string r4, .slice A4 r5.length c4, .string r6, .slice A6 r7.length c6, .bool r8, .bool r9, .int .i64 r10]] ?_
  clear hHeld
  (with_reducible refine (bureaulaw14_ours.calls r1 r2 _ A2 c2 r3 r4 _ A4 c4 r5 r6 _ A6 c6 r7 r8 r9 r10 r1 r2 r3 r4 r5 r6 r7 r8 r9 r10 _ (Kd.R_V H2.out) (Kd.R_V H4.out) (Kd.R_V H6.out) rfl).mono ?_)
  rintro e W11 ⟨u2, u4, u6, rfl, ho2, ho4, ho6, hb⟩
  have U2 := aM (Kd.V_mono (vre (b' := w.heap.size) ho2) (fun _ _ => trivial))
  have U4 := aM (Kd.V_mono (vre (b' := w.heap.size) ho4) (fun _ _ => trivial))
  have U6 := aM (Kd.V_mono (vre (b' := w.heap.size) ho6) (fun _ _ => trivial))
  replace HB := tl hb HB
  replace BJ := tl hb BJ
  replace H2 := tl hb H2
  replace H4 := tl hb H4
  replace H6 := tl hb H6
  replace BX := tl hb BX
  replace Y2 := tl hb Y2
  replace Y4 := tl hb Y4
  replace Y6 := tl hb Y6
  replace BY := tl hb BY
  clear ho2 ho4 ho6
  refine ⟨_, rfl, ⟨zC BX.out 0 _, zC BX.out 1 _, zC BX.out 2 _, zC BX.out 3 _, zC BX.out 4 _, zC BX.out 5 _, zC BX.out 6 _, zC BX.out 7 _, zC BX.out 8 _, zC BX.out 9 _, zC BY.out 0 _, zC BY.out 1 _, zC BY.out 2 _, zC BY.out 3 _, zC BY.out 4 _, zC BY.out 5 _, zC BY.out 6 _, zC BY.out 7 _, zC BY.out 8 _, zC BY.out 9 _⟩, fun hHeld => nm ?_⟩
  clear hb
  obtain ⟨B2, d2, rfl⟩ := Kd.V_slice U2.out
  obtain ⟨B4, d4, rfl⟩ := Kd.V_slice U4.out
  obtain ⟨B6, d6, rfl⟩ := Kd.V_slice U6.out
  refine oC 3 (some 44) (z 10 15) Tryz.func13 #[.agg #[.int .i64 r1, .string r2, .slice B2 r3.length d2, .string r4, .slice B4 r5.length d4, .string r6, .slice B6 r7.length d6, .bool r8, .bool r9, .int .i64 r10], .agg #[.int .i64 r1, .string r2, .slice E2 r3.length e2, .string r4, .slice E4 r5.length e4, .string r6, .slice E6 r7.length e6, .bool r8, .bool r9, .int .i64 r10]] ?_
  clear hHeld
  (with_reducible refine (bureauref14_Same.calls ks r1 r2 B2 d2 r3 r4 B4 d4 r5 r6 B6 d6 r7 r8 r9 r10 r1 r2 E2 e2 r3 r4 E4 e4 r5 r6 E6 e6 r7 r8 r9 r10 true _ (Kd.V_reads' U2.out).2.2 (Kd.V_reads' U2.out).2.1 (Kd.V_reads' U4.out).2.2 (Kd.V_reads' U4.out).2.1 (Kd.V_reads' U6.out).2.2 (Kd.V_reads' U6.out).2.1 (rR Y2.out).2.2 (rR Y2.out).2.1 (rR Y4.out).2.2 (rR Y4.out).2.1 (rR Y6.out).2.2 (rR Y6.out).2.1 HSM.out).mono ?_)
  rintro e W12 ⟨rfl, hb⟩
  replace HB := tl hb HB
  replace BJ := tl hb BJ
  replace H2 := tl hb H2
  replace H4 := tl hb H4
  replace H6 := tl hb H6
  replace BX := tl hb BX
  replace Y2 := tl hb Y2
  replace Y4 := tl hb Y4
  replace Y6 := tl hb Y6
  replace BY := tl hb BY
  replace U2 := tl hb U2
  replace U4 := tl hb U4
  replace U6 := tl hb U6
  refine ⟨_, rfl, ⟨zC BX.out 0 _, zC BX.out 1 _, zC BX.out 2 _, zC BX.out 3 _, zC BX.out 4 _, zC BX.out 5 _, zC BX.out 6 _, zC BX.out 7 _, zC BX.out 8 _, zC BX.out 9 _, zC BY.out 0 _, zC BY.out 1 _, zC BY.out 2 _, zC BY.out 3 _, zC BY.out 4 _, zC BY.out 5 _, zC BY.out 6 _, zC BY.out 7 _, zC BY.out 8 _, zC BY.out 9 _⟩, fun hHeld => nm ?_⟩
  clear hb
  refine sv 4 45 (z 10 31) ?_
  refine sv 5 46 (z 10 63) ?_
  refine sv 6 47 (z 10 127) ?_
  refine sv 7 48 (z 10 255) ?_
  refine sv 8 49 (z 10 511) ?_
  refine sv 9 2 (z 10 1023) ?_
  refine done_ (by kernel_rfl) ?_
  clear hHeld
  go_wp2
  go_ret
  exact ⟨by simp, HB.out⟩
 ·rw [decide_eq_false hz] at HF
  clear hz
  go_enter Tryz.func4, Tryz.ntmps4
  go_wp2_with (first
   | (refine gB 1 #[.string s, .slice A l.length c, .int .u64 y, .int .i32 op, .int .i64 f, .int .i64 t, .bool ln, .int .i64 at_, .int .i64 n, .string x, .slice X m.length d, .bool xl, .bool ah] 32 (fun gj hg W1 BJ hb => ?_); have Ggj := g0 hg; have HB := aM hb; clear hb hg)
   | (refine gC (some 7) Tryz.func9 #[] ?_; (with_reducible refine (bureaulaw14_alive.calls true _ (HM.out.below HB.out) HAL.out).mono ?_); rintro e W2 ⟨rfl, hb⟩; replace HB := tl hb HB; replace BJ := tl hb BJ; refine ⟨_, rfl, ?_⟩; clear hb; replace hj0 := zC BJ.out 0 (.string s); replace hj1 := zC BJ.out 1 (.slice A l.length c); replace hj2 := zC BJ.out 2 (.int .u64 y); replace hj3 := zC BJ.out 3 (.int .i32 op); replace hj4 := zC BJ.out 4 (.int .i64 f); replace hj5 := zC BJ.out 5 (.int .i64 t); replace hj6 := zC BJ.out 6 (.bool ln); replace hj7 := zC BJ.out 7 (.int .i64 at_); replace hj8 := zC BJ.out 8 (.int .i64 n); replace hj9 := zC BJ.out 9 (.string x); replace hj10 := zC BJ.out 10 (.slice X m.length d); replace hj11 := zC BJ.out 11 (.bool xl); replace hj12 := zC BJ.out 12 (.bool ah))
   | (refine gC (some 10) Tryz.func10 #[.agg #[.string s, .slice A l.length c, .int .u64 y, .int .i32 op, .int .i64 f, .int .i64 t, .bool ln, .int .i64 at_, .int .i64 n, .string x, .slice X m.length d, .bool xl, .bool ah]] ?_; (with_reducible refine (bureaulaw14_fits.calls s A c l y op f t ln at_ n x X d m xl ah false _ (cB_ HR.out HB.out) HC.out (cB_ HX.out HB.out) HXC.out HF.out).mono ?_); rintro e W3 ⟨rfl, hb⟩; replace HB := tl hb HB; replace BJ := tl hb BJ; refine ⟨_, rfl, ?_⟩; clear hb)
   )
  go_ret
  exact ⟨rfl, HB.out⟩
end Go.Proofs.YtjkfkiebhgkolaaGreatDoor.PB
end

section
namespace Go.Proofs.YtjkfkiebhgkolaaGreatDoor.PB
open Go.ChangeShapes Go.WideShapes Go.ChangeAt Go.RowKit Go.Proofs.YtjkfkiebhgkolaaGreatDoorW.PrintWords
open Go.ChangeMaps (open_string shut_string)
set_option linter.unusedVariables false
namespace operSwaps
open Go.Proofs.YtjkfkiebhgkolaaGreatDoor
theorem own : ownKnob Tryz.prog.godebug = none := by kernel_rfl
theorem laidOut : laidOutB Tryz.prog = true := by kernel_rfl
set_option maxRecDepth 100000 in
theorem lifted (os : Os) (started : os.Started) (H : Type) (enc : TypeId × Value → H) :
    ReturnsInHanded {} Tryz.checked os 4 .any (fun w args => (Rows.operSwapsSpec.pre enc Tryz.prog Tryz.f4 [] false w args ∧ laidMetH Tryz.prog Rows.operSwapsRow.laid w) ∧ sizedMet enc Tryz.prog Tryz.f4 (OpenSpec.ofChange Rows.operSwapsSpec) false w args) (Rows.operSwapsSpec.post enc Tryz.prog Tryz.f4 false true false false) := by
  refine returnsInHanded_of_change_and (C := Tryz.checked) (X := fun w _ => laidMetH Tryz.prog Rows.operSwapsRow.laid w) (fun _ _ _ hh h => h.of_heap hh) own started (by kernel_rfl) Tryz.func4
    (ChangeSpec.witness_shaped (enc := enc) (C := Tryz.checked) (os := os) (X := fun w _ => laidMetH Tryz.prog Rows.operSwapsRow.laid w) false (World.laidAll Tryz.prog os Rows.operSwapsRow.laid) #[.agg #[.string ByteArray.empty, .slice none 0 0, .int .u64 0, .int .i32 0, .int .i64 0, .int .i64 0, .bool false, .int .i64 0, .int .i64 0, .string ByteArray.empty, .slice none 0 0, .bool false, .bool false]] 8 (World.laidAll_os _ _ _) (World.shaped_of_ZipB (by kernel_rfl) (by kernel_rfl)) (by kernel_rfl) (by kernel_rfl) (by kernel_rfl) (by rw [MakeChecks.laidMetH_plain _ _ _ (by kernel_rfl)]; exact laidMet_laidAll _ (by kernel_rfl) (by kernel_rfl))) ?_
  intro W base args ds gs before hval0 hW hcnd hsz0 hXL _
  have hsz : (DataW.weightsEach Tryz.prog (Tryz.f4.params.toList ++ Rows.operSwapsSpec.plain.varTypes Tryz.prog) (ds ++ gs)).all (· ≤ reachBytes) = true := hsz0
  have hval : ∀ (j : Nat) t v, Tryz.f4.params[j]? = some t → args[j]? = some v → Value.okWide Tryz.prog W .any base t v := hval0
  have hW' := hW
  obtain ⟨p, q, hA0, hV, rfl, hfz, hnd⟩ := hW
  have hA : DataW.TrodAll enc Tryz.prog W 0 (fun _ => true) true Tryz.f4.params.toList args.toList ds p := hA0
  rw [Tryz.params4] at hA hval hsz
  obtain ⟨v0, vs0, d0, ds0, p0, q0, hargs, rfl, rfl, h0, r0⟩ := trodAll_cons hA
  obtain ⟨rfl, rfl, rfl⟩ := trodAll_nil r0
  obtain rfl : args = #[v0] := by cases args; simp_all
  obtain ⟨rfl, rfl⟩ := trodVars_none hV
  have hz0 : ∀ n ∈ d0.weights Tryz.prog 32, n ≤ reachBytes := fun n hn => by have z := List.all_eq_true.1 hsz n (DataW.weights_mem_each (j := 0) rfl rfl n hn); simpa using z
  have kk0 := h0
  have lt0 : ∀ x ∈ p0, x.block < W.heap.size := by obtain ⟨m, hm⟩ := kk0; exact DataW.trod_lt m _ _ _ hm
  obtain ⟨cs0, rfl, cz0⟩ := okWide_struct Tryz.underlying32 (hval 0 32 v0 rfl rfl)
  obtain ⟨x0, hK0, w0⟩ : ∃ x : S32, k32.K W x cs0.toList ∧ wf32 x := by
    obtain ⟨fuel, hf⟩ := h0
    exact opn32 H enc _ _ _ fuel _ _ hf hz0
  obtain ⟨A0_1, c0_1, A0_10, c0_10, hcs0, hc0_1, hr0_1, hc0_10, hr0_10⟩ := k32_open hK0
  obtain rfl : cs0 = #[.string x0.f0.f0, .slice A0_1 x0.f0.f1.length c0_1, .int .u64 x0.f1, .int .i32 x0.f2, .int .i64 x0.f3.f0, .int .i64 x0.f3.f1, .bool x0.f3.f2, .int .i64 x0.f4, .int .i64 x0.f5, .string x0.f6.f0.f0, .slice A0_10 x0.f6.f0.f1.length c0_10, .bool x0.f6.f1, .bool x0.f7] := Array.toList_inj.1 hcs0
  clear hA0 hval0 hsz0 hsz
  obtain ⟨k, hk⟩ := OperSwaps_pure x0 w0
  refine (bureaulaw14_OperSwaps.calls k x0.f0.f0 _ _ x0.f0.f1 x0.f1 x0.f2 x0.f3.f0 x0.f3.f1 x0.f3.f2 x0.f4 x0.f5 x0.f6.f0.f0 _ _ x0.f6.f0.f1 x0.f6.f1 x0.f7 true W (PB.numOk_of W hXL) hr0_1 hc0_1 hr0_10 hc0_10 hk).mono fun e W' ⟨he, bel⟩ => ?_
  subst he
  exact ⟨_, rfl, _, _, _, [], _, [], hW', trodAll_mk1 (shut_bool Tryz.underlying4 _), (trodAll_cons_mk (Below.trod laidOut (by kernel_rfl) (of_decide_eq_true (by kernel_rfl)) kk0 bel lt0) trodAll_mk0), rfl, bel.frame _, fun h => by cases h⟩
theorem over : Rows.operSwapsRow.holds Tryz.pinned (OpenSpec.ofChange Rows.operSwapsSpec) :=
  OpenClaim.holds_of_wide 4 Tryz.f4 rfl rfl rfl rfl rfl rfl rfl ⟨rfl, rfl, rfl, rfl, rfl⟩ rfl rfl rfl rfl rfl (by kernel_rfl) Tryz.func4 (by kernel_rfl)
    (of_decide_eq_true (by kernel_rfl)) (by unfold Func.isWrapper; first | (rw [if_pos (by decide +kernel)]; kernel_rfl) | (rw [if_neg (by decide +kernel)]; exact ⟨rfl, rfl⟩))
    (fun os started H enc _ => lifted os started H enc)
theorem proved : Rows.OperSwapsSaid := over
end operSwaps
end Go.Proofs.YtjkfkiebhgkolaaGreatDoor.PB
namespace Go.Proofs.YtjkfkiebhgkolaaGreatDoor
theorem operSwaps_holds : Rows.OperSwapsSaid := PB.operSwaps.proved
theorem operSwaps_card : Rows.OperSwapsCardSaid :=
  Claim7.holds_tied_plain_at .later [] [.data, .pinned] true (true, "fc28f03b351ed66e5b260319e848951b5005ae947ade25d578fa813f4accacf5") false
    operSwaps_holds (fun _ h => by cases h) (by kernel_rfl) (fun _ h => by cases h) operSwaps_row_tie rfl ⟨rfl, rfl⟩ (by kernel_rfl) rfl
    (fun f fn hf hfn => by
      obtain rfl : f = 4 := Option.some.inj ((show Tryz.prog.funcNamed Rows.operSwapsRow.func = some 4 by kernel_rfl).symm.trans hf) |>.symm
      obtain rfl : fn = Tryz.f4 := (Option.some.inj (Tryz.func4.symm.trans hfn)).symm
      exact ⟨by kernel_rfl, fun j t ht => by
        rw [Tryz.params4] at ht
        have hm : t ∈ [32] := by simpa using Array.mem_of_getElem? ht
        have hall : ([32].all fun u => !Tryz.prog.wantsStandIn u) = true := by kernel_rfl
        exact (show Tryz.prog.wantsStandIn t = false by simpa using List.all_eq_true.1 hall t hm)⟩)
    (by kernel_rfl)
#print axioms operSwaps_card
end Go.Proofs.YtjkfkiebhgkolaaGreatDoor
end
