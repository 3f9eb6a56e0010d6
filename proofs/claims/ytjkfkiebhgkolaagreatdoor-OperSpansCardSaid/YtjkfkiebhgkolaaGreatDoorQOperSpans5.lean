/- What the row hangs on, part 5. -/
import Derived.Shelf.Strings.SlTrimAscii
import Derived.Lib.SlTrimSet
import Derived.Test.YtjkfkiebhgkolaaGreatDoorQOperSpans4
section
namespace Go.Proofs.YtjkfkiebhgkolaaGreatDoor.PB
open Go.RowKit Go.Maps Go.Proofs.YtjkfkiebhgkolaaGreatDoorW.PrintWords Go.Proofs.YtjkfkiebhgkolaaGreatDoorW.PrintLast Go.Proofs.YtjkfkiebhgkolaaGreatDoorW.PrintMore
set_option maxRecDepth 100000
set_option linter.unusedVariables false
set_option linter.unusedSimpArgs false
section
variable {w0 : World} {g : Nat} {A : Option Addr} {c : Nat} {ov : Value} {w W : World} {s : ByteArray} {l : List S68} {v : ByteArray} {y : Int} {d : TX}
def Out3 (w w' : World) (e : Ending) (r : OX) : Prop := ∃ v2 v4 v6 : Value, e = .returned (.tuple #[.agg #[.int .i64 r.1, .string r.2.1, v2, .string r.2.2.2.1, v4, .string r.2.2.2.2.2.1, v6, .bool r.2.2.2.2.2.2.2.1, .bool r.2.2.2.2.2.2.2.2.1, .int .i64 r.2.2.2.2.2.2.2.2.2.1], .int .i64 r.2.2.2.2.2.2.2.2.2.2]) ∧
  Kd.R k68 68 w' w.heap.size (fun k_ => some k_ ≠ (v4 : Value).ownBlock ∧ some k_ ≠ (v6 : Value).ownBlock) v2 r.2.2.1 ∧ Kd.R k68 68 w' w.heap.size (fun k_ => some k_ ≠ (v2 : Value).ownBlock ∧ some k_ ≠ (v6 : Value).ownBlock) v4 r.2.2.2.2.1 ∧ Kd.R k68 68 w' w.heap.size (fun k_ => some k_ ≠ (v2 : Value).ownBlock ∧ some k_ ≠ (v4 : Value).ownBlock) v6 r.2.2.2.2.2.2.1 ∧ Below w.heap.size w w'
theorem R_elder2 {α : Type} {d : Kd α} {e base : Nat} {ok : Nat → Prop} {W w1 : World} {u v1 v2 : Value} {xs : List α} (hu : d.R e W base ok u xs) (h1 : ∀ k, v1.ownBlock = some k → W.heap.size ≤ k) (h2 : ∀ k, v2.ownBlock = some k → W.heap.size ≤ k) (hb : Below W.heap.size W w1) : d.R e w1 base (fun k => some k ≠ v1.ownBlock ∧ some k ≠ v2.ownBlock) u xs :=
  rM (Kd.R_move (Kd.R_bound hu) (fun k hk => hb.block k hk.2.2.1)) (fun k hk => ⟨fun he => by have := h1 k he.symm; have := hk.2.2.1; omega, fun he => by have := h2 k he.symm; have := hk.2.2.1; omega⟩)
theorem R_nil2 {α : Type} {d : Kd α} {e base : Nat} {ok : Nat → Prop} {w : World} {u : Value} {xs : List α} (h : d.R e w base ok u xs) : d.R e w base (fun k => some k ≠ (Value.slice none 0 0).ownBlock ∧ some k ≠ (Value.slice none 0 0).ownBlock) u xs := rM h (fun k _ => ⟨by simp [Value.ownBlock], by simp [Value.ownBlock]⟩)
theorem turn_at (h : DeskAt w0 g A c ov w s l v y d) (a b : Int) {u1 : Int} {u2 : ByteArray} {u3 : List S68} {u4 : ByteArray} {u5 : List S68} {u6 : Int} {u7 : ByteArray} (hu : turnD s l y d a b = ((u1, u2, u3, u4, u5, u6), u7)) :
    Calls Tryz.prog 50 #[.pointer (some ⟨g, 0, none⟩), .int .i64 a, .int .i64 b] w fun e w' => ∃ vo vn : Value, e = .returned (.tuple #[.agg #[.int .i64 u1, .string u2, vo, .string u4, vn], .string u7, .int .i64 u6]) ∧
      Kd.R k68 68 w' w.heap.size (fun k_ => some k_ ≠ (vn : Value).ownBlock) vo u3 ∧ Kd.R k68 68 w' w.heap.size (fun k_ => some k_ ≠ (vo : Value).ownBlock) vn u5 ∧ Below w.heap.size w w' := by
  have h1 := turn_ok h a b
  rw [hu] at h1
  exact h1
set_option maxHeartbeats 1000000 in
theorem take_false (h : DeskAt w0 g A c ov w s l v y d0) (hv : v.size ≤ 100000) (hM : NumOk w) (op a b : Int) (hr : rightD v a b false = true) :
    Calls Tryz.prog 31 #[.pointer (some ⟨g, 0, none⟩), .int .i32 op, .agg #[.int .i64 a, .int .i64 b, .bool false]] w fun e w' => Out3 w w' e (takeD s l y v op a b false) := by
  have HD := aM h
  have HS := aM h.size
  have hab : 0 ≤ a ∧ a ≤ b ∧ b ≤ (v.size : Int) := by
    simp only [rightD, Bool.and_eq_true, decide_eq_true_eq, Bool.false_eq_true, if_false] at hr
    exact hr
  have hbd : bytesD v a b false = (a, b) := rfl
  obtain ⟨k1, hk1⟩ := (cut_ev s l h.hl a b).rounds
  have hF2 : strings_Contains.f (v.extract a.toNat b.toNat) ⟨#[10]⟩ = some (decide (0 ≤ Lib.indexByte (v.extract a.toNat b.toNat).data.toList 10)) := rfl
  unfold takeD
  rw [hbd]
  dsimp only
  rw [Bool.false_or]
  generalize hxx : cutS s l a b = x at hk1 ⊢
  obtain ⟨x1, x2, x3⟩ := x
  generalize hu : turnD s l y d0 a b = u
  obtain ⟨⟨u1, u2, u3, u4, u5, u6⟩, u7⟩ := u
  dsimp only
  have HU := aM hu
  clear hu
  generalize hwd : decide (0 ≤ Lib.indexByte (v.extract a.toNat b.toNat).data.toList 10) = wd at hF2 ⊢
  have HF1 := aM hk1
  have HF2 := aM hF2
  clear hk1 hF2 hxx hwd
  generalize hR : (if op = 121 then _ else _) = r
  go_enter Tryz.func31, Tryz.ntmps31
  go_wp2_with (first
    | ((with_reducible refine gate_dst (N := 5) rfl ?_); refine box_event ?hg (N := 5) ?hd (cs := #[.int .i64 a, .int .i64 b, .bool false]) (t := 28) ?hr ?_; (case hd => rfl); (case hg => rfl); (case hr => first | (go_simp; done) | (go_simp; rfl)); intro gr hg W1 hbox hb; have Ggr := aM (show w.heap.size ≤ gr from by rw [hg]; exact Nat.le_refl _); replace HD := aM (HD.out.below hb); have HB := aM hb; have BR := aM hbox; clear hb hbox hg)
    | ((with_reducible refine gate_dst (N := 6) rfl ?_); refine box_event ?hg (N := 6) ?hd (cs := #[.int .i64 0, .string ⟨#[]⟩, .slice none 0 0, .string ⟨#[]⟩, .slice none 0 0, .string ⟨#[]⟩, .slice none 0 0, .bool false, .bool false, .int .i64 0]) (t := 38) ?hr ?_; (case hd => rfl); (case hg => rfl); (case hr => first | (go_simp; done) | (go_simp; rfl)); intro go hg W2 hbox hb; have Ggo := aM (show w.heap.size ≤ go from by rw [hg]; exact HB.out.size); have Ngogr := aM (show go ≠ gr from by have := blk_lt BR.out; omega); replace HD := aM (HD.out.below hb); replace HB := aM (bP HB.out hb); replace BR := aM (bB BR.out hb); have BO := aM hbox; clear hb hbox hg; replace hr0 := (bC BR.out 0).trans (rfl : _ = some (Value.int .i64 a)); replace hr1 := (bC BR.out 1).trans (rfl : _ = some (Value.int .i64 b)); replace hr2 := (bC BR.out 2).trans (rfl : _ = some (Value.bool false)))
    | ((with_reducible refine gate_callee (f := 73) rfl ?_); refine goesL_ (some 22) rfl rfl Tryz.func73 (by kernel_rfl) rfl #[.pointer (some ⟨g, 0, none⟩), .agg #[.int .i64 a, .int .i64 b, .bool false]] rfl (by (try simp only [List.map_toArray, List.map_cons, List.map_nil]); first | done | rfl) ?_; (with_reducible refine (bytes_ok HD.out hv a b false).mono ?_); rintro e W3 ⟨hE, hb⟩; replace HD := aM (HD.out.below hb); replace HB := aM (bP HB.out hb); replace BR := aM (bB BR.out hb); replace BO := aM (bB BO.out hb); rw [hbd] at hE; obtain rfl := hE; refine ⟨_, rfl, ?_⟩; clear hb; replace hd0 := (bC HD.out.hg 0).trans (rfl : _ = some (Value.string s)); replace hd1 := (bC HD.out.hg 1).trans (rfl : _ = some (Value.slice A l.length c)); replace hr0 := (bC BR.out 0).trans (rfl : _ = some (Value.int .i64 a)); replace hr1 := (bC BR.out 1).trans (rfl : _ = some (Value.int .i64 b)); replace hr2 := (bC BR.out 2).trans (rfl : _ = some (Value.bool false)))
    | ((with_reducible refine gate_callee (f := 74) rfl ?_); refine goesL_ (some 32) rfl rfl Tryz.func74 (by kernel_rfl) rfl #[.agg #[.string s, .slice A l.length c], .int .i64 a, .int .i64 b] rfl (by (try simp only [List.map_toArray, List.map_cons, List.map_nil]); first | done | rfl) ?_; (with_reducible refine (strip_Cut.calls k1 s A c l a b x1 x2 x3 _ HD.out.hC HD.out.hc HF1.out).mono ?_); rintro e W4 ⟨vx, rfl, ho, hb⟩; have HX := aM (rL ho HB.out.size); replace HD := aM (HD.out.below hb); replace HB := aM (bP HB.out hb); replace BR := aM (bB BR.out hb); replace BO := aM (bB BO.out hb); clear ho; refine ⟨_, rfl, ?_⟩; clear hb; replace hd0 := (bC HD.out.hg 0).trans (rfl : _ = some (Value.string s)); replace hd1 := (bC HD.out.hg 1).trans (rfl : _ = some (Value.slice A l.length c)); obtain ⟨Ax, cx, rfl⟩ := Kd.R_slice HX.out)
    | ((with_reducible refine gate_dst (N := 10) rfl ?_); refine box_event ?hg (N := 10) ?hd (cs := #[.string ⟨#[]⟩, .slice none 0 0]) (t := 24) ?hr ?_; (case hd => rfl); (case hg => rfl); (case hr => first | (go_simp; done) | (go_simp; rfl)); intro gx hg W5 hbox hb; have Ggx := aM (show w.heap.size ≤ gx from by rw [hg]; exact HB.out.size); have Ngxgr := aM (show gx ≠ gr from by have := blk_lt BR.out; omega); have Ngxgo := aM (show gx ≠ go from by have := blk_lt BO.out; omega); replace HD := aM (HD.out.below hb); replace HB := aM (bP HB.out hb); replace BR := aM (bB BR.out hb); replace BO := aM (bB BO.out hb); replace HX := aM (Kd.R_below HX.out hb); have BX := aM hbox; clear hb hbox hg; replace hx0 := (bC BX.out 0).trans (rfl : _ = some (Value.string ⟨#[]⟩)); replace hx1 := (bC BX.out 1).trans (rfl : _ = some (Value.slice none 0 0)); replace hx0f := bF BX.out 0; replace hx1f := bF BX.out 1)
    )
  generalize hN : ((W5.setCell ⟨gx, 0, none⟩ (.string x1)).setCell ⟨gx, 1, none⟩ (.slice Ax x2.length cx)) = W6
  have eN : W6 = putL W5 gx 0 [.string x1, .slice Ax x2.length cx] := by rw [← hN]; simp only [putL]
  have HD' := aM (show DeskAt w0 g A c ov W6 s l v y d0 from by rw [eN]; exact DeskAt.others (by decide) (by decide) (Nat.le_trans HS.out Ggx.out) [.string x1, .slice Ax x2.length cx] 0 _ _ BX.out HD.out)
  have HB' := aM (show Below w.heap.size w W6 from by rw [eN]; exact below_sets Ggx.out [.string x1, .slice Ax x2.length cx] 0 _ HB.out)
  have BR' := aM (show W6.heap[gr]? = some (.cells #[.int .i64 a, .int .i64 b, .bool false] 28 (0, 0)) from by rw [eN]; exact blk_sets_far Ngxgr.out.symm [.string x1, .slice Ax x2.length cx] 0 _ BR.out)
  have BO' := aM (show W6.heap[go]? = some (.cells #[.int .i64 0, .string ⟨#[]⟩, .slice none 0 0, .string ⟨#[]⟩, .slice none 0 0, .string ⟨#[]⟩, .slice none 0 0, .bool false, .bool false, .int .i64 0] 38 (0, 0)) from by rw [eN]; exact blk_sets_far Ngxgo.out.symm [.string x1, .slice Ax x2.length cx] 0 _ BO.out)
  have HX' := aM (show Kd.R k68 68 W6 w.heap.size (fun _ => True) (.slice Ax x2.length cx : Value) x2 from by rw [eN]; exact R_sets (by decide) [.string x1, .slice Ax x2.length cx] 0 _ _ BX.out HX.out)
  have BX' := aM (show W6.heap[gx]? = some (.cells #[.string x1, .slice Ax x2.length cx] 24 (0, 0)) from by rw [eN, blk_sets [.string x1, .slice Ax x2.length cx] 0 _ _ BX.out]; simp only [setsL, List.setIfInBounds_toArray, List.set_cons_zero, List.set_cons_succ])
  clear hN eN  HD HB BR BO HX BX hx0 hx1 hx0f hx1f
  have HD := HD'
  have HB := HB'
  have BR := BR'
  have BO := BO'
  have HX := HX'
  have BX := BX'
  clear HD' HB' BR' BO' HX' BX'
  have hb := below_drew1 (Below.refl W6.heap.size W6)
  replace HD := aM (HD.out.below hb)
  replace HB := aM (bP HB.out hb)
  replace BR := aM (bB BR.out hb)
  replace BO := aM (bB BO.out hb)
  replace HX := aM (Kd.R_below HX.out hb)
  replace BX := aM (bB BX.out hb)
  clear hb
  refine start_ (n := 22) (S := fun W => W.cell? ⟨gx, 0, none⟩ = some (.string x1) ∧ W.cell? ⟨gx, 1, none⟩ = some (.slice Ax x2.length cx) ∧ W.cell? ⟨gr, 2, none⟩ = some (.bool false) ∧ W.cell? ⟨g, 2, none⟩ = some (.string v)) (ds := [21]) #[tF,tF,tF,tF,tF,tF,tF,tF,tF,tF,tF,tF,tF,tF,tF,tF,tF,tF,tF,tF,tF,tF] (by kernel_rfl) rfl rfl ⟨(bC BX.out 0).trans rfl, (bC BX.out 1).trans rfl, (bC BR.out 2).trans rfl, (bC HD.out.hg 2).trans rfl⟩ (fun hHeld => ?_)
  generalize W6.drew = W7 at HD HB BR BO HX BX hHeld ⊢
  refine sv 0 35 #[tT,tF,tF,tF,tF,tF,tF,tF,tF,tF,tF,tF,tF,tF,tF,tF,tF,tF,tF,tF,tF,tF] ?_
  refine sv 1 36 #[tT,tT,tF,tF,tF,tF,tF,tF,tF,tF,tF,tF,tF,tF,tF,tF,tF,tF,tF,tF,tF,tF] ?_
  refine sv 3 38 #[tT,tT,tF,tT,tF,tF,tF,tF,tF,tF,tF,tF,tF,tF,tF,tF,tF,tF,tF,tF,tF,tF] ?_
  refine sv 6 41 #[tT,tT,tF,tT,tF,tF,tT,tF,tF,tF,tF,tF,tF,tF,tF,tF,tF,tF,tF,tF,tF,tF] ?_
  refine sv 18 53 #[tT,tT,tF,tT,tF,tF,tT,tF,tF,tF,tF,tF,tF,tF,tF,tF,tF,tF,tT,tF,tF,tF] ?_
  refine st 2 37 #[tT,tT,tT,tT,tF,tF,tT,tF,tF,tF,tF,tF,tF,tF,tF,tF,tF,tF,tT,tF,tF,tF] hHeld ?_
  refine st 4 39 #[tT,tT,tT,tT,tT,tF,tT,tF,tF,tF,tF,tF,tF,tF,tF,tF,tF,tF,tT,tF,tF,tF] hHeld ?_
  refine sv 5 40 #[tT,tT,tT,tT,tT,tT,tT,tF,tF,tF,tF,tF,tF,tF,tF,tF,tF,tF,tT,tF,tF,tF] ?_
  refine st 7 42 #[tT,tT,tT,tT,tT,tT,tT,tT,tF,tF,tF,tF,tF,tF,tF,tF,tF,tF,tT,tF,tF,tF] hHeld ?_
  refine sv 8 43 #[tT,tT,tT,tT,tT,tT,tT,tT,tT,tF,tF,tF,tF,tF,tF,tF,tF,tF,tT,tF,tF,tF] ?_
  refine sv 9 44 #[tT,tT,tT,tT,tT,tT,tT,tT,tT,tT,tF,tF,tF,tF,tF,tF,tF,tF,tT,tF,tF,tF] ?_
  refine sv 10 45 #[tT,tT,tT,tT,tT,tT,tT,tT,tT,tT,tT,tF,tF,tF,tF,tF,tF,tF,tT,tF,tF,tF] ?_
  refine sv 11 46 #[tT,tT,tT,tT,tT,tT,tT,tT,tT,tT,tT,tT,tF,tF,tF,tF,tF,tF,tT,tF,tF,tF] ?_
  refine sv 13 48 #[tT,tT,tT,tT,tT,tT,tT,tT,tT,tT,tT,tT,tF,tT,tF,tF,tF,tF,tT,tF,tF,tF] ?_
  refine sv 14 49 #[tT,tT,tT,tT,tT,tT,tT,tT,tT,tT,tT,tT,tF,tT,tT,tF,tF,tF,tT,tF,tF,tF] ?_
  refine st 12 47 #[tT,tT,tT,tT,tT,tT,tT,tT,tT,tT,tT,tT,tT,tT,tT,tF,tF,tF,tT,tF,tF,tF] hHeld ?_
  refine sv 15 50 #[tT,tT,tT,tT,tT,tT,tT,tT,tT,tT,tT,tT,tT,tT,tT,tT,tF,tF,tT,tF,tF,tF] ?_
  refine join_ (σ := Nat) 1 #[tT,tT,tT,tT,tT,tT,tT,tT,tT,tT,tT,tT,tT,tT,tT,tT,tT,tT,tT,tT,tT,tF] (fun s_ => [(51, .bool wd), (12, .pointer (some ⟨s_, 0, none⟩)), (52, .bool wd), (53, .int .i64 a), (54, .agg #[.int .i64 a, .string ⟨#[]⟩, .slice none 0 0, .string ⟨#[]⟩, .slice none 0 0, .string x1, .slice Ax x2.length cx, .bool false, .bool wd, .int .i64 a])]) (fun s_ W => (W.cell? ⟨gx, 0, none⟩ = some (.string x1) ∧ W.cell? ⟨gx, 1, none⟩ = some (.slice Ax x2.length cx) ∧ W.cell? ⟨gr, 2, none⟩ = some (.bool false) ∧ W.cell? ⟨g, 2, none⟩ = some (.string v)) ∧ W.heap[go]? = some (.cells #[.int .i64 0, .string ⟨#[]⟩, .slice none 0 0, .string ⟨#[]⟩, .slice none 0 0, .string ⟨#[]⟩, .slice none 0 0, .bool false, .bool false, .int .i64 0] 38 (0, 0)) ∧ W.heap[s_]? = some (.cells #[.int .i64 0, .string ⟨#[]⟩, .slice none 0 0, .string ⟨#[]⟩, .slice none 0 0, .string ⟨#[]⟩, .slice none 0 0, .bool false, .bool false, .int .i64 0] 38 (0, 0)) ∧ W.heap[gr]? = some (.cells #[.int .i64 a, .int .i64 b, .bool false] 28 (0, 0)) ∧ W.heap[gx]? = some (.cells #[.string x1, .slice Ax x2.length cx] 24 (0, 0)) ∧ Below w.heap.size w W ∧ DeskAt w0 g A c ov W s l v y d0 ∧ Kd.R k68 68 W w.heap.size (fun _ => True) (.slice Ax x2.length cx : Value) x2 ∧ w.heap.size ≤ s_ ∧ s_ ≠ go ∧ s_ ≠ gr ∧ s_ ≠ gx) ?_ ?_
  rotate_left
  · intro hCont
    refine two_ (i := 16) (j := 20) (Ni := some 51) (Nj := some 12) #[tT,tT,tT,tT,tT,tT,tT,tT,tT,tT,tT,tT,tT,tT,tT,tT,tT,tF,tT,tF,tF,tF] #[tT,tT,tT,tT,tT,tT,tT,tT,tT,tT,tT,tT,tT,tT,tT,tT,tF,tF,tT,tF,tT,tF] rfl rfl rfl rfl (by kernel_rfl) (by decide) (by decide) (fun K hK => ?_) (fun K hK => ?_)
    · refine goes_ Tryz.func75 (by kernel_rfl) rfl #[.string (v.extract a.toNat b.toNat), .string ⟨#[10]⟩] (by rfl) rfl rfl (by (try simp only [List.map_toArray, List.map_cons, List.map_nil]); first | done | rfl) ?_
      clear hHeld
      (with_reducible refine (strings_Contains.calls (v.extract a.toNat b.toNat) ⟨#[10]⟩ wd _ HF2.out).mono ?_)
      rintro e W8 ⟨rfl, hb⟩
      replace HD := aM (HD.out.below hb)
      replace HB := aM (bP HB.out hb)
      replace BR := aM (bB BR.out hb)
      replace BO := aM (bB BO.out hb)
      replace HX := aM (Kd.R_below HX.out hb)
      replace BX := aM (bB BX.out hb)
      refine ⟨_, rfl, hK.out _ _ ⟨(bC BX.out 0).trans rfl, (bC BX.out 1).trans rfl, (bC BR.out 2).trans rfl, (bC HD.out.hg 2).trans rfl⟩ (fun hHeld => ?_)⟩
      clear hK K hb
      refine norm_ (a' := ?_) ?_ ?_
      rotate_left
      · show Act.put _ (some 51) _ = _
        simp only [Act.put, List.setIfInBounds_toArray, List.set_cons_zero, List.set_cons_succ, i64_w, i32_w]
        rfl
      refine sv 17 52 #[tT,tT,tT,tT,tT,tT,tT,tT,tT,tT,tT,tT,tT,tT,tT,tT,tT,tT,tT,tF,tF,tF] ?_
      refine sv 19 54 #[tT,tT,tT,tT,tT,tT,tT,tT,tT,tT,tT,tT,tT,tT,tT,tT,tT,tT,tT,tT,tF,tF] ?_
      refine one_ (i := 20) (N := some 12) #[tT,tT,tT,tT,tT,tT,tT,tT,tT,tT,tT,tT,tT,tT,tT,tT,tT,tT,tT,tT,tT,tF] rfl rfl (by kernel_rfl) (by decide) (fun K hK => ?_)
      refine box_step ?hg (N := 12) ?hd (cs := #[.int .i64 0, .string ⟨#[]⟩, .slice none 0 0, .string ⟨#[]⟩, .slice none 0 0, .string ⟨#[]⟩, .slice none 0 0, .bool false, .bool false, .int .i64 0]) (t := 38) ?hr ?_; (case hd => rfl); (case hg => rfl); (case hr => first | (go_simp; done) | (go_simp; rfl))
      clear hHeld
      intro gp hg W9 hbox hb
      have Ggp := aM (show w.heap.size ≤ gp from by rw [hg]; exact HB.out.size)
      have Ngpgr := aM (show gp ≠ gr from by have := blk_lt BR.out; omega)
      have Ngpgo := aM (show gp ≠ go from by have := blk_lt BO.out; omega)
      have Ngpgx := aM (show gp ≠ gx from by have := blk_lt BX.out; omega)
      replace HD := aM (HD.out.below hb)
      replace HB := aM (bP HB.out hb)
      replace BR := aM (bB BR.out hb)
      replace BO := aM (bB BO.out hb)
      replace HX := aM (Kd.R_below HX.out hb)
      replace BX := aM (bB BX.out hb)
      have BP := aM hbox
      refine hK.out _ _ ⟨(bC BX.out 0).trans rfl, (bC BX.out 1).trans rfl, (bC BR.out 2).trans rfl, (bC HD.out.hg 2).trans rfl⟩ (fun hHeld => ?_)
      clear hK K hb hbox hg
      refine norm_ (a' := ?_) ?_ ?_
      rotate_left
      · show Act.put _ (some 12) _ = _
        simp only [Act.put, List.setIfInBounds_toArray, List.set_cons_zero, List.set_cons_succ, i64_w, i32_w]
        rfl
      exact norm_ (by simp only [Go.Proofs.YtjkfkiebhgkolaaGreatDoorW.PrintLast.putAll, Act.put, List.setIfInBounds_toArray, List.set_cons_zero, List.set_cons_succ]) (hCont gp _ ⟨hHeld, BO.out, BP.out, BR.out, BX.out, HB.out, HD.out, HX.out, Ggp.out, Ngpgo.out, Ngpgr.out, Ngpgx.out⟩)
    · refine box_step ?hg (N := 12) ?hd (cs := #[.int .i64 0, .string ⟨#[]⟩, .slice none 0 0, .string ⟨#[]⟩, .slice none 0 0, .string ⟨#[]⟩, .slice none 0 0, .bool false, .bool false, .int .i64 0]) (t := 38) ?hr ?_; (case hd => rfl); (case hg => rfl); (case hr => first | (go_simp; done) | (go_simp; rfl))
      clear hHeld
      intro gp hg W8 hbox hb
      have Ggp := aM (show w.heap.size ≤ gp from by rw [hg]; exact HB.out.size)
      have Ngpgr := aM (show gp ≠ gr from by have := blk_lt BR.out; omega)
      have Ngpgo := aM (show gp ≠ go from by have := blk_lt BO.out; omega)
      have Ngpgx := aM (show gp ≠ gx from by have := blk_lt BX.out; omega)
      replace HD := aM (HD.out.below hb)
      replace HB := aM (bP HB.out hb)
      replace BR := aM (bB BR.out hb)
      replace BO := aM (bB BO.out hb)
      replace HX := aM (Kd.R_below HX.out hb)
      replace BX := aM (bB BX.out hb)
      have BP := aM hbox
      refine hK.out _ _ ⟨(bC BX.out 0).trans rfl, (bC BX.out 1).trans rfl, (bC BR.out 2).trans rfl, (bC HD.out.hg 2).trans rfl⟩ (fun hHeld => ?_)
      clear hK K hb hbox hg
      refine norm_ (a' := ?_) ?_ ?_
      rotate_left
      · show Act.put _ (some 12) _ = _
        simp only [Act.put, List.setIfInBounds_toArray, List.set_cons_zero, List.set_cons_succ, i64_w, i32_w]
        rfl
      refine one_ (i := 16) (N := some 51) #[tT,tT,tT,tT,tT,tT,tT,tT,tT,tT,tT,tT,tT,tT,tT,tT,tT,tF,tT,tF,tT,tF] rfl rfl (by kernel_rfl) (by decide) (fun K hK => ?_)
      refine goes_ Tryz.func75 (by kernel_rfl) rfl #[.string (v.extract a.toNat b.toNat), .string ⟨#[10]⟩] (by rfl) rfl rfl (by (try simp only [List.map_toArray, List.map_cons, List.map_nil]); first | done | rfl) ?_
      clear hHeld
      (with_reducible refine (strings_Contains.calls (v.extract a.toNat b.toNat) ⟨#[10]⟩ wd _ HF2.out).mono ?_)
      rintro e W9 ⟨rfl, hb⟩
      replace HD := aM (HD.out.below hb)
      replace HB := aM (bP HB.out hb)
      replace BR := aM (bB BR.out hb)
      replace BO := aM (bB BO.out hb)
      replace HX := aM (Kd.R_below HX.out hb)
      replace BX := aM (bB BX.out hb)
      replace BP := aM (bB BP.out hb)
      refine ⟨_, rfl, hK.out _ _ ⟨(bC BX.out 0).trans rfl, (bC BX.out 1).trans rfl, (bC BR.out 2).trans rfl, (bC HD.out.hg 2).trans rfl⟩ (fun hHeld => ?_)⟩
      clear hK K hb
      refine norm_ (a' := ?_) ?_ ?_
      rotate_left
      · show Act.put _ (some 51) _ = _
        simp only [Act.put, List.setIfInBounds_toArray, List.set_cons_zero, List.set_cons_succ, i64_w, i32_w]
        rfl
      refine sv 17 52 #[tT,tT,tT,tT,tT,tT,tT,tT,tT,tT,tT,tT,tT,tT,tT,tT,tT,tT,tT,tF,tT,tF] ?_
      refine sv 19 54 #[tT,tT,tT,tT,tT,tT,tT,tT,tT,tT,tT,tT,tT,tT,tT,tT,tT,tT,tT,tT,tT,tF] ?_
      exact norm_ (by simp only [Go.Proofs.YtjkfkiebhgkolaaGreatDoorW.PrintLast.putAll, Act.put, List.setIfInBounds_toArray, List.set_cons_zero, List.set_cons_succ]) (hCont gp _ ⟨hHeld, BO.out, BP.out, BR.out, BX.out, HB.out, HD.out, HX.out, Ggp.out, Ngpgo.out, Ngpgr.out, Ngpgx.out⟩)
  clear hHeld HD HB BR BO HX BX
  rintro gp W10 ⟨hHeld, x_0, x_1, x_2, x_3, x_4, x_5, x_6, x_7, x_8, x_9, x_10⟩
  try dsimp only at x_0 x_1 x_2 x_3 x_4 x_5 x_6 x_7 x_8 x_9 x_10
  have BO := aM x_0
  have BP := aM x_1
  have BR := aM x_2
  have BX := aM x_3
  have HB := aM x_4
  have HD := aM x_5
  have HX := aM x_6
  have Ggp := aM x_7
  have Ngpgo := aM x_8
  have Ngpgr := aM x_9
  have Ngpgx := aM x_10
  clear x_0 x_1 x_2 x_3 x_4 x_5 x_6 x_7 x_8 x_9 x_10
  refine norm_ (a' := ?_) ?_ ?_
  rotate_left
  · simp only [Go.Proofs.YtjkfkiebhgkolaaGreatDoorW.PrintLast.putAll, Act.put, List.setIfInBounds_toArray, List.set_cons_zero, List.set_cons_succ, i64_w, i32_w]
    rfl
  refine last_ (i := 21) (N := none) #[tT,tT,tT,tT,tT,tT,tT,tT,tT,tT,tT,tT,tT,tT,tT,tT,tT,tT,tT,tT,tT,tT] rfl rfl (by kernel_rfl) (by decide) (fun K hK => ?_)
  have hs0 := (bC BP.out 0).trans (rfl : _ = some (Value.int .i64 0))
  have hf0 := bF BP.out 0
  have hs1 := (bC BP.out 1).trans (rfl : _ = some (Value.string ⟨#[]⟩))
  have hf1 := bF BP.out 1
  have hs2 := (bC BP.out 2).trans (rfl : _ = some (Value.slice none 0 0))
  have hf2 := bF BP.out 2
  have hs3 := (bC BP.out 3).trans (rfl : _ = some (Value.string ⟨#[]⟩))
  have hf3 := bF BP.out 3
  have hs4 := (bC BP.out 4).trans (rfl : _ = some (Value.slice none 0 0))
  have hf4 := bF BP.out 4
  have hs5 := (bC BP.out 5).trans (rfl : _ = some (Value.string ⟨#[]⟩))
  have hf5 := bF BP.out 5
  have hs6 := (bC BP.out 6).trans (rfl : _ = some (Value.slice none 0 0))
  have hf6 := bF BP.out 6
  have hs7 := (bC BP.out 7).trans (rfl : _ = some (Value.bool false))
  have hf7 := bF BP.out 7
  have hs8 := (bC BP.out 8).trans (rfl : _ = some (Value.bool false))
  have hf8 := bF BP.out 8
  have hs9 := (bC BP.out 9).trans (rfl : _ = some (Value.int .i64 0))
  have hf9 := bF BP.out 9
  refine skip_ (w1 := ((((((((((W10.setCell ⟨gp, 0, none⟩ (.int .i64 a)).setCell ⟨gp, 1, none⟩ (.string ⟨#[]⟩)).setCell ⟨gp, 2, none⟩ (.slice none 0 0)).setCell ⟨gp, 3, none⟩ (.string ⟨#[]⟩)).setCell ⟨gp, 4, none⟩ (.slice none 0 0)).setCell ⟨gp, 5, none⟩ (.string x1)).setCell ⟨gp, 6, none⟩ (.slice Ax x2.length cx)).setCell ⟨gp, 7, none⟩ (.bool false)).setCell ⟨gp, 8, none⟩ (.bool wd)).setCell ⟨gp, 9, none⟩ (.int .i64 a))) (by rfl) rfl ?_ ?_
  · first | (go_simp; done) | (go_simp; rfl)
  generalize hN : ((((((((((W10.setCell ⟨gp, 0, none⟩ (.int .i64 a)).setCell ⟨gp, 1, none⟩ (.string ⟨#[]⟩)).setCell ⟨gp, 2, none⟩ (.slice none 0 0)).setCell ⟨gp, 3, none⟩ (.string ⟨#[]⟩)).setCell ⟨gp, 4, none⟩ (.slice none 0 0)).setCell ⟨gp, 5, none⟩ (.string x1)).setCell ⟨gp, 6, none⟩ (.slice Ax x2.length cx)).setCell ⟨gp, 7, none⟩ (.bool false)).setCell ⟨gp, 8, none⟩ (.bool wd)).setCell ⟨gp, 9, none⟩ (.int .i64 a)) = W11
  have eN : W11 = putL W10 gp 0 [.int .i64 a, .string ⟨#[]⟩, .slice none 0 0, .string ⟨#[]⟩, .slice none 0 0, .string x1, .slice Ax x2.length cx, .bool false, .bool wd, .int .i64 a] := by rw [← hN]; simp only [putL]
  have BO' := aM (show W11.heap[go]? = some (.cells #[.int .i64 0, .string ⟨#[]⟩, .slice none 0 0, .string ⟨#[]⟩, .slice none 0 0, .string ⟨#[]⟩, .slice none 0 0, .bool false, .bool false, .int .i64 0] 38 (0, 0)) from by rw [eN]; exact blk_sets_far Ngpgo.out.symm [.int .i64 a, .string ⟨#[]⟩, .slice none 0 0, .string ⟨#[]⟩, .slice none 0 0, .string x1, .slice Ax x2.length cx, .bool false, .bool wd, .int .i64 a] 0 _ BO.out)
  have BP' := aM (show W11.heap[gp]? = some (.cells #[.int .i64 a, .string ⟨#[]⟩, .slice none 0 0, .string ⟨#[]⟩, .slice none 0 0, .string x1, .slice Ax x2.length cx, .bool false, .bool wd, .int .i64 a] 38 (0, 0)) from by rw [eN, blk_sets [.int .i64 a, .string ⟨#[]⟩, .slice none 0 0, .string ⟨#[]⟩, .slice none 0 0, .string x1, .slice Ax x2.length cx, .bool false, .bool wd, .int .i64 a] 0 _ _ BP.out]; simp only [setsL, List.setIfInBounds_toArray, List.set_cons_zero, List.set_cons_succ])
  have BR' := aM (show W11.heap[gr]? = some (.cells #[.int .i64 a, .int .i64 b, .bool false] 28 (0, 0)) from by rw [eN]; exact blk_sets_far Ngpgr.out.symm [.int .i64 a, .string ⟨#[]⟩, .slice none 0 0, .string ⟨#[]⟩, .slice none 0 0, .string x1, .slice Ax x2.length cx, .bool false, .bool wd, .int .i64 a] 0 _ BR.out)
  have BX' := aM (show W11.heap[gx]? = some (.cells #[.string x1, .slice Ax x2.length cx] 24 (0, 0)) from by rw [eN]; exact blk_sets_far Ngpgx.out.symm [.int .i64 a, .string ⟨#[]⟩, .slice none 0 0, .string ⟨#[]⟩, .slice none 0 0, .string x1, .slice Ax x2.length cx, .bool false, .bool wd, .int .i64 a] 0 _ BX.out)
  have HB' := aM (show Below w.heap.size w W11 from by rw [eN]; exact below_sets Ggp.out [.int .i64 a, .string ⟨#[]⟩, .slice none 0 0, .string ⟨#[]⟩, .slice none 0 0, .string x1, .slice Ax x2.length cx, .bool false, .bool wd, .int .i64 a] 0 _ HB.out)
  have HD' := aM (show DeskAt w0 g A c ov W11 s l v y d0 from by rw [eN]; exact DeskAt.others (by decide) (by decide) (Nat.le_trans HS.out Ggp.out) [.int .i64 a, .string ⟨#[]⟩, .slice none 0 0, .string ⟨#[]⟩, .slice none 0 0, .string x1, .slice Ax x2.length cx, .bool false, .bool wd, .int .i64 a] 0 _ _ BP.out HD.out)
  have HX' := aM (show Kd.R k68 68 W11 w.heap.size (fun _ => True) (.slice Ax x2.length cx : Value) x2 from by rw [eN]; exact R_sets (by decide) [.int .i64 a, .string ⟨#[]⟩, .slice none 0 0, .string ⟨#[]⟩, .slice none 0 0, .string x1, .slice Ax x2.length cx, .bool false, .bool wd, .int .i64 a] 0 _ _ BP.out HX.out)
  clear hN eN hHeld hs0 hf0 hs1 hf1 hs2 hf2 hs3 hf3 hs4 hf4 hs5 hf5 hs6 hf6 hs7 hf7 hs8 hf8 hs9 hf9 BO BP BR BX HB HD HX
  have BO := BO'
  have BP := BP'
  have BR := BR'
  have BX := BX'
  have HB := HB'
  have HD := HD'
  have HX := HX'
  clear BO' BP' BR' BX' HB' HD' HX'
  refine hK.out _ _ ?_
  clear hK K
  refine done_ (by kernel_rfl) ?_
  by_cases h1 : op = 121
  · have b1 : (op == 121) = true := beq_iff_eq.2 h1
    rw [if_pos h1] at hR
    subst hR
    replace hp0 := (bC BP.out 0).trans (rfl : _ = some (Value.int .i64 a))
    replace hp1 := (bC BP.out 1).trans (rfl : _ = some (Value.string ⟨#[]⟩))
    replace hp2 := (bC BP.out 2).trans (rfl : _ = some (Value.slice none 0 0))
    replace hp3 := (bC BP.out 3).trans (rfl : _ = some (Value.string ⟨#[]⟩))
    replace hp4 := (bC BP.out 4).trans (rfl : _ = some (Value.slice none 0 0))
    replace hp5 := (bC BP.out 5).trans (rfl : _ = some (Value.string x1))
    replace hp6 := (bC BP.out 6).trans (rfl : _ = some (Value.slice Ax x2.length cx))
    replace hp7 := (bC BP.out 7).trans (rfl : _ = some (Value.bool false))
    replace hp8 := (bC BP.out 8).trans (rfl : _ = some (Value.bool wd))
    replace hp9 := (bC BP.out 9).trans (rfl : _ = some (Value.int .i64 a))
    replace ho0 := (bC BO.out 0).trans (rfl : _ = some (Value.int .i64 0))
    replace ho1 := (bC BO.out 1).trans (rfl : _ = some (Value.string ⟨#[]⟩))
    replace ho2 := (bC BO.out 2).trans (rfl : _ = some (Value.slice none 0 0))
    replace ho3 := (bC BO.out 3).trans (rfl : _ = some (Value.string ⟨#[]⟩))
    replace ho4 := (bC BO.out 4).trans (rfl : _ = some (Value.slice none 0 0))
    replace ho5 := (bC BO.out 5).trans (rfl : _ = some (Value.string ⟨#[]⟩))
    replace ho6 := (bC BO.out 6).trans (rfl : _ = some (Value.slice none 0 0))
    replace ho7 := (bC BO.out 7).trans (rfl : _ = some (Value.bool false))
    replace ho8 := (bC BO.out 8).trans (rfl : _ = some (Value.bool false))
    replace ho9 := (bC BO.out 9).trans (rfl : _ = some (Value.int .i64 0))
    replace hp0f := bF BP.out 0
    replace hp1f := bF BP.out 1
    replace hp2f := bF BP.out 2
    replace hp3f := bF BP.out 3
    replace hp4f := bF BP.out 4
    replace hp5f := bF BP.out 5
    replace hp6f := bF BP.out 6
    replace hp7f := bF BP.out 7
    replace hp8f := bF BP.out 8
    replace hp9f := bF BP.out 9
    replace ho0f := bF BO.out 0
    replace ho1f := bF BO.out 1
    replace ho2f := bF BO.out 2
    replace ho3f := bF BO.out 3
    replace ho4f := bF BO.out 4
    replace ho5f := bF BO.out 5
    replace ho6f := bF BO.out 6
    replace ho7f := bF BO.out 7
    replace ho8f := bF BO.out 8
    replace ho9f := bF BO.out 9
    go_wp2
    generalize hN : ((((((((((W11.setCell ⟨go, 0, none⟩ (.int .i64 a)).setCell ⟨go, 1, none⟩ (.string ⟨#[]⟩)).setCell ⟨go, 2, none⟩ (.slice none 0 0)).setCell ⟨go, 3, none⟩ (.string ⟨#[]⟩)).setCell ⟨go, 4, none⟩ (.slice none 0 0)).setCell ⟨go, 5, none⟩ (.string x1)).setCell ⟨go, 6, none⟩ (.slice Ax x2.length cx)).setCell ⟨go, 7, none⟩ (.bool false)).setCell ⟨go, 8, none⟩ (.bool wd)).setCell ⟨go, 9, none⟩ (.int .i64 a)) = W12
    have eN : W12 = putL W11 go 0 [.int .i64 a, .string ⟨#[]⟩, .slice none 0 0, .string ⟨#[]⟩, .slice none 0 0, .string x1, .slice Ax x2.length cx, .bool false, .bool wd, .int .i64 a] := by rw [← hN]; simp only [putL]
    have BO' := aM (show W12.heap[go]? = some (.cells #[.int .i64 a, .string ⟨#[]⟩, .slice none 0 0, .string ⟨#[]⟩, .slice none 0 0, .string x1, .slice Ax x2.length cx, .bool false, .bool wd, .int .i64 a] 38 (0, 0)) from by rw [eN, blk_sets [.int .i64 a, .string ⟨#[]⟩, .slice none 0 0, .string ⟨#[]⟩, .slice none 0 0, .string x1, .slice Ax x2.length cx, .bool false, .bool wd, .int .i64 a] 0 _ _ BO.out]; simp only [setsL, List.setIfInBounds_toArray, List.set_cons_zero, List.set_cons_succ])
    have BP' := aM (show W12.heap[gp]? = some (.cells #[.int .i64 a, .string ⟨#[]⟩, .slice none 0 0, .string ⟨#[]⟩, .slice none 0 0, .string x1, .slice Ax x2.length cx, .bool false, .bool wd, .int .i64 a] 38 (0, 0)) from by rw [eN]; exact blk_sets_far Ngpgo.out [.int .i64 a, .string ⟨#[]⟩, .slice none 0 0, .string ⟨#[]⟩, .slice none 0 0, .string x1, .slice Ax x2.length cx, .bool false, .bool wd, .int .i64 a] 0 _ BP.out)
    have BR' := aM (show W12.heap[gr]? = some (.cells #[.int .i64 a, .int .i64 b, .bool false] 28 (0, 0)) from by rw [eN]; exact blk_sets_far Ngogr.out.symm [.int .i64 a, .string ⟨#[]⟩, .slice none 0 0, .string ⟨#[]⟩, .slice none 0 0, .string x1, .slice Ax x2.length cx, .bool false, .bool wd, .int .i64 a] 0 _ BR.out)
    have BX' := aM (show W12.heap[gx]? = some (.cells #[.string x1, .slice Ax x2.length cx] 24 (0, 0)) from by rw [eN]; exact blk_sets_far Ngxgo.out [.int .i64 a, .string ⟨#[]⟩, .slice none 0 0, .string ⟨#[]⟩, .slice none 0 0, .string x1, .slice Ax x2.length cx, .bool false, .bool wd, .int .i64 a] 0 _ BX.out)
    have HB' := aM (show Below w.heap.size w W12 from by rw [eN]; exact below_sets Ggo.out [.int .i64 a, .string ⟨#[]⟩, .slice none 0 0, .string ⟨#[]⟩, .slice none 0 0, .string x1, .slice Ax x2.length cx, .bool false, .bool wd, .int .i64 a] 0 _ HB.out)
    have HD' := aM (show DeskAt w0 g A c ov W12 s l v y d0 from by rw [eN]; exact DeskAt.others (by decide) (by decide) (Nat.le_trans HS.out Ggo.out) [.int .i64 a, .string ⟨#[]⟩, .slice none 0 0, .string ⟨#[]⟩, .slice none 0 0, .string x1, .slice Ax x2.length cx, .bool false, .bool wd, .int .i64 a] 0 _ _ BO.out HD.out)
    have HX' := aM (show Kd.R k68 68 W12 w.heap.size (fun _ => True) (.slice Ax x2.length cx : Value) x2 from by rw [eN]; exact R_sets (by decide) [.int .i64 a, .string ⟨#[]⟩, .slice none 0 0, .string ⟨#[]⟩, .slice none 0 0, .string x1, .slice Ax x2.length cx, .bool false, .bool wd, .int .i64 a] 0 _ _ BO.out HX.out)
    clear hN eN  BO BP BR BX HB HD HX hp0 hp1 hp2 hp3 hp4 hp5 hp6 hp7 hp8 hp9 ho0 ho1 ho2 ho3 ho4 ho5 ho6 ho7 ho8 ho9 hp0f hp1f hp2f hp3f hp4f hp5f hp6f hp7f hp8f hp9f ho0f ho1f ho2f ho3f ho4f ho5f ho6f ho7f ho8f ho9f
    have BO := BO'
    have BP := BP'
    have BR := BR'
    have BX := BX'
    have HB := HB'
    have HD := HD'
    have HX := HX'
    clear BO' BP' BR' BX' HB' HD' HX'
    refine bodyPost_ret (results_ct rfl _ _ go 38 #[.int .i64 a, .string ⟨#[]⟩, .slice none 0 0, .string ⟨#[]⟩, .slice none 0 0, .string x1, .slice Ax x2.length cx, .bool false, .bool wd, .int .i64 a] (0, 0) _ rfl BO.out Tryz.underlying38 rfl (by kernel_rfl)) rfl ?_
    exact ⟨_, _, _, rfl, Kd.R_nil _ _ _ _ _, Kd.R_nil _ _ _ _ _, R_nil2 HX.out, HB.out⟩
  · have b1 : (op == 121) = false := beq_eq_false_iff_ne.2 h1
    rw [if_neg h1, if_neg (by simp)] at hR
    subst hR
    by_cases h2 : op = 100
    · have b2 : (op == 100) = true := beq_iff_eq.2 h2
      replace hr2 := (bC BR.out 2).trans (rfl : _ = some (Value.bool false))
      go_wp2_with (first
        | ((with_reducible refine gate_callee (f := 50) rfl ?_); refine goesL_ (some 59) rfl rfl Tryz.func50 (by kernel_rfl) rfl #[.pointer (some ⟨g, 0, none⟩), .int .i64 a, .int .i64 b] rfl (by (try simp only [List.map_toArray, List.map_cons, List.map_nil]); first | done | rfl) ?_; (with_reducible refine (turn_at HD.out a b HU.out).mono ?_); rintro e W12 ⟨vo, vn, rfl, ho, hn, hb⟩; have HO := aM (rL (Kd.R_new' ho (Kd.R_lt HX.out)) HB.out.size); have HN := aM (rL (Kd.R_new' hn (Kd.R_lt HX.out)) HB.out.size); have HY := aM (R_elder2 HX.out (Kd.R_base ho) (Kd.R_base hn) hb); clear HX; replace BO := aM (bB BO.out hb); replace BP := aM (bB BP.out hb); replace BR := aM (bB BR.out hb); replace BX := aM (bB BX.out hb); replace HB := aM (bP HB.out hb); replace HD := aM (HD.out.below hb); clear ho hn; refine ⟨_, rfl, ?_⟩; clear hb; replace hp0 := (bC BP.out 0).trans (rfl : _ = some (Value.int .i64 a)); replace hp1 := (bC BP.out 1).trans (rfl : _ = some (Value.string ⟨#[]⟩)); replace hp2 := (bC BP.out 2).trans (rfl : _ = some (Value.slice none 0 0)); replace hp3 := (bC BP.out 3).trans (rfl : _ = some (Value.string ⟨#[]⟩)); replace hp4 := (bC BP.out 4).trans (rfl : _ = some (Value.slice none 0 0)); replace hp5 := (bC BP.out 5).trans (rfl : _ = some (Value.string x1)); replace hp6 := (bC BP.out 6).trans (rfl : _ = some (Value.slice Ax x2.length cx)); replace hp7 := (bC BP.out 7).trans (rfl : _ = some (Value.bool false)); replace hp8 := (bC BP.out 8).trans (rfl : _ = some (Value.bool wd)); replace hp9 := (bC BP.out 9).trans (rfl : _ = some (Value.int .i64 a)); replace ho0 := (bC BO.out 0).trans (rfl : _ = some (Value.int .i64 0)); replace ho1 := (bC BO.out 1).trans (rfl : _ = some (Value.string ⟨#[]⟩)); replace ho2 := (bC BO.out 2).trans (rfl : _ = some (Value.slice none 0 0)); replace ho3 := (bC BO.out 3).trans (rfl : _ = some (Value.string ⟨#[]⟩)); replace ho4 := (bC BO.out 4).trans (rfl : _ = some (Value.slice none 0 0)); replace ho5 := (bC BO.out 5).trans (rfl : _ = some (Value.string ⟨#[]⟩)); replace ho6 := (bC BO.out 6).trans (rfl : _ = some (Value.slice none 0 0)); replace ho7 := (bC BO.out 7).trans (rfl : _ = some (Value.bool false)); replace ho8 := (bC BO.out 8).trans (rfl : _ = some (Value.bool false)); replace ho9 := (bC BO.out 9).trans (rfl : _ = some (Value.int .i64 0)); replace hp0f := bF BP.out 0; replace hp1f := bF BP.out 1; replace hp2f := bF BP.out 2; replace hp3f := bF BP.out 3; replace hp4f := bF BP.out 4; replace hp5f := bF BP.out 5; replace hp6f := bF BP.out 6; replace hp7f := bF BP.out 7; replace hp8f := bF BP.out 8; replace hp9f := bF BP.out 9; replace ho0f := bF BO.out 0; replace ho1f := bF BO.out 1; replace ho2f := bF BO.out 2; replace ho3f := bF BO.out 3; replace ho4f := bF BO.out 4; replace ho5f := bF BO.out 5; replace ho6f := bF BO.out 6; replace ho7f := bF BO.out 7; replace ho8f := bF BO.out 8; replace ho9f := bF BO.out 9; obtain ⟨Ao, co, rfl⟩ := Kd.R_slice HO.out; obtain ⟨An, cn, rfl⟩ := Kd.R_slice HN.out; have hgn := Ngpgo.out.symm; have hgn2 := hgn.symm)
        )
      generalize hN : (((((W12.setCell ⟨gp, 0, none⟩ (.int .i64 u1)).setCell ⟨gp, 1, none⟩ (.string u2)).setCell ⟨gp, 2, none⟩ (.slice Ao u3.length co)).setCell ⟨gp, 3, none⟩ (.string u4)).setCell ⟨gp, 4, none⟩ (.slice An u5.length cn)) = W13
      have eN : W13 = putL W12 gp 0 [.int .i64 u1, .string u2, .slice Ao u3.length co, .string u4, .slice An u5.length cn] := by rw [← hN]; simp only [putL]
      have BO' := aM (show W13.heap[go]? = some (.cells #[.int .i64 0, .string ⟨#[]⟩, .slice none 0 0, .string ⟨#[]⟩, .slice none 0 0, .string ⟨#[]⟩, .slice none 0 0, .bool false, .bool false, .int .i64 0] 38 (0, 0)) from by rw [eN]; exact blk_sets_far Ngpgo.out.symm [.int .i64 u1, .string u2, .slice Ao u3.length co, .string u4, .slice An u5.length cn] 0 _ BO.out)
      have BP' := aM (show W13.heap[gp]? = some (.cells #[.int .i64 u1, .string u2, .slice Ao u3.length co, .string u4, .slice An u5.length cn, .string x1, .slice Ax x2.length cx, .bool false, .bool wd, .int .i64 a] 38 (0, 0)) from by rw [eN, blk_sets [.int .i64 u1, .string u2, .slice Ao u3.length co, .string u4, .slice An u5.length cn] 0 _ _ BP.out]; simp only [setsL, List.setIfInBounds_toArray, List.set_cons_zero, List.set_cons_succ])
      have BR' := aM (show W13.heap[gr]? = some (.cells #[.int .i64 a, .int .i64 b, .bool false] 28 (0, 0)) from by rw [eN]; exact blk_sets_far Ngpgr.out.symm [.int .i64 u1, .string u2, .slice Ao u3.length co, .string u4, .slice An u5.length cn] 0 _ BR.out)
      have BX' := aM (show W13.heap[gx]? = some (.cells #[.string x1, .slice Ax x2.length cx] 24 (0, 0)) from by rw [eN]; exact blk_sets_far Ngpgx.out.symm [.int .i64 u1, .string u2, .slice Ao u3.length co, .string u4, .slice An u5.length cn] 0 _ BX.out)
      have HB' := aM (show Below w.heap.size w W13 from by rw [eN]; exact below_sets Ggp.out [.int .i64 u1, .string u2, .slice Ao u3.length co, .string u4, .slice An u5.length cn] 0 _ HB.out)
      have HD' := aM (show DeskAt w0 g A c ov W13 s l v y d0 from by rw [eN]; exact DeskAt.others (by decide) (by decide) (Nat.le_trans HS.out Ggp.out) [.int .i64 u1, .string u2, .slice Ao u3.length co, .string u4, .slice An u5.length cn] 0 _ _ BP.out HD.out)
      have HO' := aM (show Kd.R k68 68 W13 w.heap.size (fun k_ => some k_ ≠ ((.slice An u5.length cn : Value) : Value).ownBlock ∧ some k_ ≠ (.slice Ax x2.length cx : Value).ownBlock) (.slice Ao u3.length co : Value) u3 from by rw [eN]; exact R_sets (by decide) [.int .i64 u1, .string u2, .slice Ao u3.length co, .string u4, .slice An u5.length cn] 0 _ _ BP.out HO.out)
      have HN' := aM (show Kd.R k68 68 W13 w.heap.size (fun k_ => some k_ ≠ ((.slice Ao u3.length co : Value) : Value).ownBlock ∧ some k_ ≠ (.slice Ax x2.length cx : Value).ownBlock) (.slice An u5.length cn : Value) u5 from by rw [eN]; exact R_sets (by decide) [.int .i64 u1, .string u2, .slice Ao u3.length co, .string u4, .slice An u5.length cn] 0 _ _ BP.out HN.out)
      have HY' := aM (show Kd.R k68 68 W13 w.heap.size (fun k_ => some k_ ≠ ((.slice Ao u3.length co : Value) : Value).ownBlock ∧ some k_ ≠ ((.slice An u5.length cn : Value) : Value).ownBlock) (.slice Ax x2.length cx : Value) x2 from by rw [eN]; exact R_sets (by decide) [.int .i64 u1, .string u2, .slice Ao u3.length co, .string u4, .slice An u5.length cn] 0 _ _ BP.out HY.out)
      clear hN eN  BO BP BR BX HB HD HO HN HY hp0 hp1 hp2 hp3 hp4 hp5 hp6 hp7 hp8 hp9 ho0 ho1 ho2 ho3 ho4 ho5 ho6 ho7 ho8 ho9 hp0f hp1f hp2f hp3f hp4f hp5f hp6f hp7f hp8f hp9f ho0f ho1f ho2f ho3f ho4f ho5f ho6f ho7f ho8f ho9f
      have BO := BO'
      have BP := BP'
      have BR := BR'
      have BX := BX'
      have HB := HB'
      have HD := HD'
      have HO := HO'
      have HN := HN'
      have HY := HY'
      clear BO' BP' BR' BX' HB' HD' HO' HN' HY'
      generalize hN : ((((((((((W13.setCell ⟨go, 0, none⟩ (.int .i64 u1)).setCell ⟨go, 1, none⟩ (.string u2)).setCell ⟨go, 2, none⟩ (.slice Ao u3.length co)).setCell ⟨go, 3, none⟩ (.string u4)).setCell ⟨go, 4, none⟩ (.slice An u5.length cn)).setCell ⟨go, 5, none⟩ (.string x1)).setCell ⟨go, 6, none⟩ (.slice Ax x2.length cx)).setCell ⟨go, 7, none⟩ (.bool false)).setCell ⟨go, 8, none⟩ (.bool wd)).setCell ⟨go, 9, none⟩ (.int .i64 a)) = W14
      have eN : W14 = putL W13 go 0 [.int .i64 u1, .string u2, .slice Ao u3.length co, .string u4, .slice An u5.length cn, .string x1, .slice Ax x2.length cx, .bool false, .bool wd, .int .i64 a] := by rw [← hN]; simp only [putL]
      have BO' := aM (show W14.heap[go]? = some (.cells #[.int .i64 u1, .string u2, .slice Ao u3.length co, .string u4, .slice An u5.length cn, .string x1, .slice Ax x2.length cx, .bool false, .bool wd, .int .i64 a] 38 (0, 0)) from by rw [eN, blk_sets [.int .i64 u1, .string u2, .slice Ao u3.length co, .string u4, .slice An u5.length cn, .string x1, .slice Ax x2.length cx, .bool false, .bool wd, .int .i64 a] 0 _ _ BO.out]; simp only [setsL, List.setIfInBounds_toArray, List.set_cons_zero, List.set_cons_succ])
      have BP' := aM (show W14.heap[gp]? = some (.cells #[.int .i64 u1, .string u2, .slice Ao u3.length co, .string u4, .slice An u5.length cn, .string x1, .slice Ax x2.length cx, .bool false, .bool wd, .int .i64 a] 38 (0, 0)) from by rw [eN]; exact blk_sets_far Ngpgo.out [.int .i64 u1, .string u2, .slice Ao u3.length co, .string u4, .slice An u5.length cn, .string x1, .slice Ax x2.length cx, .bool false, .bool wd, .int .i64 a] 0 _ BP.out)
      have BR' := aM (show W14.heap[gr]? = some (.cells #[.int .i64 a, .int .i64 b, .bool false] 28 (0, 0)) from by rw [eN]; exact blk_sets_far Ngogr.out.symm [.int .i64 u1, .string u2, .slice Ao u3.length co, .string u4, .slice An u5.length cn, .string x1, .slice Ax x2.length cx, .bool false, .bool wd, .int .i64 a] 0 _ BR.out)
      have BX' := aM (show W14.heap[gx]? = some (.cells #[.string x1, .slice Ax x2.length cx] 24 (0, 0)) from by rw [eN]; exact blk_sets_far Ngxgo.out [.int .i64 u1, .string u2, .slice Ao u3.length co, .string u4, .slice An u5.length cn, .string x1, .slice Ax x2.length cx, .bool false, .bool wd, .int .i64 a] 0 _ BX.out)
      have HB' := aM (show Below w.heap.size w W14 from by rw [eN]; exact below_sets Ggo.out [.int .i64 u1, .string u2, .slice Ao u3.length co, .string u4, .slice An u5.length cn, .string x1, .slice Ax x2.length cx, .bool false, .bool wd, .int .i64 a] 0 _ HB.out)
      have HD' := aM (show DeskAt w0 g A c ov W14 s l v y d0 from by rw [eN]; exact DeskAt.others (by decide) (by decide) (Nat.le_trans HS.out Ggo.out) [.int .i64 u1, .string u2, .slice Ao u3.length co, .string u4, .slice An u5.length cn, .string x1, .slice Ax x2.length cx, .bool false, .bool wd, .int .i64 a] 0 _ _ BO.out HD.out)
      have HO' := aM (show Kd.R k68 68 W14 w.heap.size (fun k_ => some k_ ≠ ((.slice An u5.length cn : Value) : Value).ownBlock ∧ some k_ ≠ (.slice Ax x2.length cx : Value).ownBlock) (.slice Ao u3.length co : Value) u3 from by rw [eN]; exact R_sets (by decide) [.int .i64 u1, .string u2, .slice Ao u3.length co, .string u4, .slice An u5.length cn, .string x1, .slice Ax x2.length cx, .bool false, .bool wd, .int .i64 a] 0 _ _ BO.out HO.out)
      have HN' := aM (show Kd.R k68 68 W14 w.heap.size (fun k_ => some k_ ≠ ((.slice Ao u3.length co : Value) : Value).ownBlock ∧ some k_ ≠ (.slice Ax x2.length cx : Value).ownBlock) (.slice An u5.length cn : Value) u5 from by rw [eN]; exact R_sets (by decide) [.int .i64 u1, .string u2, .slice Ao u3.length co, .string u4, .slice An u5.length cn, .string x1, .slice Ax x2.length cx, .bool false, .bool wd, .int .i64 a] 0 _ _ BO.out HN.out)
      have HY' := aM (show Kd.R k68 68 W14 w.heap.size (fun k_ => some k_ ≠ ((.slice Ao u3.length co : Value) : Value).ownBlock ∧ some k_ ≠ ((.slice An u5.length cn : Value) : Value).ownBlock) (.slice Ax x2.length cx : Value) x2 from by rw [eN]; exact R_sets (by decide) [.int .i64 u1, .string u2, .slice Ao u3.length co, .string u4, .slice An u5.length cn, .string x1, .slice Ax x2.length cx, .bool false, .bool wd, .int .i64 a] 0 _ _ BO.out HY.out)
      clear hN eN  BO BP BR BX HB HD HO HN HY
      have BO := BO'
      have BP := BP'
      have BR := BR'
      have BX := BX'
      have HB := HB'
      have HD := HD'
      have HO := HO'
      have HN := HN'
      have HY := HY'
      clear BO' BP' BR' BX' HB' HD' HO' HN' HY'
      refine bodyPost_ret (results_ct rfl _ _ go 38 #[.int .i64 u1, .string u2, .slice Ao u3.length co, .string u4, .slice An u5.length cn, .string x1, .slice Ax x2.length cx, .bool false, .bool wd, .int .i64 a] (0, 0) _ rfl BO.out Tryz.underlying38 rfl (by kernel_rfl)) rfl ?_
      exact ⟨_, _, _, rfl, HO.out, HN.out, HY.out, HB.out⟩
    · have b2 : (op == 100) = false := beq_eq_false_iff_ne.2 h2
      replace hr2 := (bC BR.out 2).trans (rfl : _ = some (Value.bool false))
      go_wp2_with (first
        | ((with_reducible refine gate_callee (f := 50) rfl ?_); refine goesL_ (some 59) rfl rfl Tryz.func50 (by kernel_rfl) rfl #[.pointer (some ⟨g, 0, none⟩), .int .i64 a, .int .i64 b] rfl (by (try simp only [List.map_toArray, List.map_cons, List.map_nil]); first | done | rfl) ?_; (with_reducible refine (turn_at HD.out a b HU.out).mono ?_); rintro e W12 ⟨vo, vn, rfl, ho, hn, hb⟩; have HO := aM (rL (Kd.R_new' ho (Kd.R_lt HX.out)) HB.out.size); have HN := aM (rL (Kd.R_new' hn (Kd.R_lt HX.out)) HB.out.size); have HY := aM (R_elder2 HX.out (Kd.R_base ho) (Kd.R_base hn) hb); clear HX; replace BO := aM (bB BO.out hb); replace BP := aM (bB BP.out hb); replace BR := aM (bB BR.out hb); replace BX := aM (bB BX.out hb); replace HB := aM (bP HB.out hb); replace HD := aM (HD.out.below hb); clear ho hn; refine ⟨_, rfl, ?_⟩; clear hb; replace hp0 := (bC BP.out 0).trans (rfl : _ = some (Value.int .i64 a)); replace hp1 := (bC BP.out 1).trans (rfl : _ = some (Value.string ⟨#[]⟩)); replace hp2 := (bC BP.out 2).trans (rfl : _ = some (Value.slice none 0 0)); replace hp3 := (bC BP.out 3).trans (rfl : _ = some (Value.string ⟨#[]⟩)); replace hp4 := (bC BP.out 4).trans (rfl : _ = some (Value.slice none 0 0)); replace hp5 := (bC BP.out 5).trans (rfl : _ = some (Value.string x1)); replace hp6 := (bC BP.out 6).trans (rfl : _ = some (Value.slice Ax x2.length cx)); replace hp7 := (bC BP.out 7).trans (rfl : _ = some (Value.bool false)); replace hp8 := (bC BP.out 8).trans (rfl : _ = some (Value.bool wd)); replace hp9 := (bC BP.out 9).trans (rfl : _ = some (Value.int .i64 a)); replace ho0 := (bC BO.out 0).trans (rfl : _ = some (Value.int .i64 0)); replace ho1 := (bC BO.out 1).trans (rfl : _ = some (Value.string ⟨#[]⟩)); replace ho2 := (bC BO.out 2).trans (rfl : _ = some (Value.slice none 0 0)); replace ho3 := (bC BO.out 3).trans (rfl : _ = some (Value.string ⟨#[]⟩)); replace ho4 := (bC BO.out 4).trans (rfl : _ = some (Value.slice none 0 0)); replace ho5 := (bC BO.out 5).trans (rfl : _ = some (Value.string ⟨#[]⟩)); replace ho6 := (bC BO.out 6).trans (rfl : _ = some (Value.slice none 0 0)); replace ho7 := (bC BO.out 7).trans (rfl : _ = some (Value.bool false)); replace ho8 := (bC BO.out 8).trans (rfl : _ = some (Value.bool false)); replace ho9 := (bC BO.out 9).trans (rfl : _ = some (Value.int .i64 0)); replace hp0f := bF BP.out 0; replace hp1f := bF BP.out 1; replace hp2f := bF BP.out 2; replace hp3f := bF BP.out 3; replace hp4f := bF BP.out 4; replace hp5f := bF BP.out 5; replace hp6f := bF BP.out 6; replace hp7f := bF BP.out 7; replace hp8f := bF BP.out 8; replace hp9f := bF BP.out 9; replace ho0f := bF BO.out 0; replace ho1f := bF BO.out 1; replace ho2f := bF BO.out 2; replace ho3f := bF BO.out 3; replace ho4f := bF BO.out 4; replace ho5f := bF BO.out 5; replace ho6f := bF BO.out 6; replace ho7f := bF BO.out 7; replace ho8f := bF BO.out 8; replace ho9f := bF BO.out 9; obtain ⟨Ao, co, rfl⟩ := Kd.R_slice HO.out; obtain ⟨An, cn, rfl⟩ := Kd.R_slice HN.out; have hgn := Ngpgo.out.symm; have hgn2 := hgn.symm)
        )
      generalize hN : (((((W12.setCell ⟨gp, 0, none⟩ (.int .i64 u1)).setCell ⟨gp, 1, none⟩ (.string u2)).setCell ⟨gp, 2, none⟩ (.slice Ao u3.length co)).setCell ⟨gp, 3, none⟩ (.string u4)).setCell ⟨gp, 4, none⟩ (.slice An u5.length cn)) = W13
      have eN : W13 = putL W12 gp 0 [.int .i64 u1, .string u2, .slice Ao u3.length co, .string u4, .slice An u5.length cn] := by rw [← hN]; simp only [putL]
      have BO' := aM (show W13.heap[go]? = some (.cells #[.int .i64 0, .string ⟨#[]⟩, .slice none 0 0, .string ⟨#[]⟩, .slice none 0 0, .string ⟨#[]⟩, .slice none 0 0, .bool false, .bool false, .int .i64 0] 38 (0, 0)) from by rw [eN]; exact blk_sets_far Ngpgo.out.symm [.int .i64 u1, .string u2, .slice Ao u3.length co, .string u4, .slice An u5.length cn] 0 _ BO.out)
      have BP' := aM (show W13.heap[gp]? = some (.cells #[.int .i64 u1, .string u2, .slice Ao u3.length co, .string u4, .slice An u5.length cn, .string x1, .slice Ax x2.length cx, .bool false, .bool wd, .int .i64 a] 38 (0, 0)) from by rw [eN, blk_sets [.int .i64 u1, .string u2, .slice Ao u3.length co, .string u4, .slice An u5.length cn] 0 _ _ BP.out]; simp only [setsL, List.setIfInBounds_toArray, List.set_cons_zero, List.set_cons_succ])
      have BR' := aM (show W13.heap[gr]? = some (.cells #[.int .i64 a, .int .i64 b, .bool false] 28 (0, 0)) from by rw [eN]; exact blk_sets_far Ngpgr.out.symm [.int .i64 u1, .string u2, .slice Ao u3.length co, .string u4, .slice An u5.length cn] 0 _ BR.out)
      have BX' := aM (show W13.heap[gx]? = some (.cells #[.string x1, .slice Ax x2.length cx] 24 (0, 0)) from by rw [eN]; exact blk_sets_far Ngpgx.out.symm [.int .i64 u1, .string u2, .slice Ao u3.length co, .string u4, .slice An u5.length cn] 0 _ BX.out)
      have HB' := aM (show Below w.heap.size w W13 from by rw [eN]; exact below_sets Ggp.out [.int .i64 u1, .string u2, .slice Ao u3.length co, .string u4, .slice An u5.length cn] 0 _ HB.out)
      have HD' := aM (show DeskAt w0 g A c ov W13 s l v y d0 from by rw [eN]; exact DeskAt.others (by decide) (by decide) (Nat.le_trans HS.out Ggp.out) [.int .i64 u1, .string u2, .slice Ao u3.length co, .string u4, .slice An u5.length cn] 0 _ _ BP.out HD.out)
      have HO' := aM (show Kd.R k68 68 W13 w.heap.size (fun k_ => some k_ ≠ ((.slice An u5.length cn : Value) : Value).ownBlock ∧ some k_ ≠ (.slice Ax x2.length cx : Value).ownBlock) (.slice Ao u3.length co : Value) u3 from by rw [eN]; exact R_sets (by decide) [.int .i64 u1, .string u2, .slice Ao u3.length co, .string u4, .slice An u5.length cn] 0 _ _ BP.out HO.out)
      have HN' := aM (show Kd.R k68 68 W13 w.heap.size (fun k_ => some k_ ≠ ((.slice Ao u3.length co : Value) : Value).ownBlock ∧ some k_ ≠ (.slice Ax x2.length cx : Value).ownBlock) (.slice An u5.length cn : Value) u5 from by rw [eN]; exact R_sets (by decide) [.int .i64 u1, .string u2, .slice Ao u3.length co, .string u4, .slice An u5.length cn] 0 _ _ BP.out HN.out)
      have HY' := aM (show Kd.R k68 68 W13 w.heap.size (fun k_ => some k_ ≠ ((.slice Ao u3.length co : Value) : Value).ownBlock ∧ some k_ ≠ ((.slice An u5.length cn : Value) : Value).ownBlock) (.slice Ax x2.length cx : Value) x2 from by rw [eN]; exact R_sets (by decide) [.int .i64 u1, .string u2, .slice Ao u3.length co, .string u4, .slice An u5.length cn] 0 _ _ BP.out HY.out)
      clear hN eN  BO BP BR BX HB HD HO HN HY hp0 hp1 hp2 hp3 hp4 hp5 hp6 hp7 hp8 hp9 ho0 ho1 ho2 ho3 ho4 ho5 ho6 ho7 ho8 ho9 hp0f hp1f hp2f hp3f hp4f hp5f hp6f hp7f hp8f hp9f ho0f ho1f ho2f ho3f ho4f ho5f ho6f ho7f ho8f ho9f
      have BO := BO'
      have BP := BP'
      have BR := BR'
      have BX := BX'
      have HB := HB'
      have HD := HD'
      have HO := HO'
      have HN := HN'
      have HY := HY'
      clear BO' BP' BR' BX' HB' HD' HO' HN' HY'
      generalize hN : ((((((((((W13.setCell ⟨go, 0, none⟩ (.int .i64 u1)).setCell ⟨go, 1, none⟩ (.string u2)).setCell ⟨go, 2, none⟩ (.slice Ao u3.length co)).setCell ⟨go, 3, none⟩ (.string u4)).setCell ⟨go, 4, none⟩ (.slice An u5.length cn)).setCell ⟨go, 5, none⟩ (.string x1)).setCell ⟨go, 6, none⟩ (.slice Ax x2.length cx)).setCell ⟨go, 7, none⟩ (.bool false)).setCell ⟨go, 8, none⟩ (.bool wd)).setCell ⟨go, 9, none⟩ (.int .i64 a)) = W14
      have eN : W14 = putL W13 go 0 [.int .i64 u1, .string u2, .slice Ao u3.length co, .string u4, .slice An u5.length cn, .string x1, .slice Ax x2.length cx, .bool false, .bool wd, .int .i64 a] := by rw [← hN]; simp only [putL]
      have BO' := aM (show W14.heap[go]? = some (.cells #[.int .i64 u1, .string u2, .slice Ao u3.length co, .string u4, .slice An u5.length cn, .string x1, .slice Ax x2.length cx, .bool false, .bool wd, .int .i64 a] 38 (0, 0)) from by rw [eN, blk_sets [.int .i64 u1, .string u2, .slice Ao u3.length co, .string u4, .slice An u5.length cn, .string x1, .slice Ax x2.length cx, .bool false, .bool wd, .int .i64 a] 0 _ _ BO.out]; simp only [setsL, List.setIfInBounds_toArray, List.set_cons_zero, List.set_cons_succ])
      have BP' := aM (show W14.heap[gp]? = some (.cells #[.int .i64 u1, .string u2, .slice Ao u3.length co, .string u4, .slice An u5.length cn, .string x1, .slice Ax x2.length cx, .bool false, .bool wd, .int .i64 a] 38 (0, 0)) from by rw [eN]; exact blk_sets_far Ngpgo.out [.int .i64 u1, .string u2, .slice Ao u3.length co, .string u4, .slice An u5.length cn, .string x1, .slice Ax x2.length cx, .bool false, .bool wd, .int .i64 a] 0 _ BP.out)
      have BR' := aM (show W14.heap[gr]? = some (.cells #[.int .i64 a, .int .i64 b, .bool false] 28 (0, 0)) from by rw [eN]; exact blk_sets_far Ngogr.out.symm [.int .i64 u1, .string u2, .slice Ao u3.length co, .string u4, .slice An u5.length cn, .string x1, .slice Ax x2.length cx, .bool false, .bool wd, .int .i64 a] 0 _ BR.out)
      have BX' := aM (show W14.heap[gx]? = some (.cells #[.string x1, .slice Ax x2.length cx] 24 (0, 0)) from by rw [eN]; exact blk_sets_far Ngxgo.out [.int .i64 u1, .string u2, .slice Ao u3.length co, .string u4, .slice An u5.length cn, .string x1, .slice Ax x2.length cx, .bool false, .bool wd, .int .i64 a] 0 _ BX.out)
      have HB' := aM (show Below w.heap.size w W14 from by rw [eN]; exact below_sets Ggo.out [.int .i64 u1, .string u2, .slice Ao u3.length co, .string u4, .slice An u5.length cn, .string x1, .slice Ax x2.length cx, .bool false, .bool wd, .int .i64 a] 0 _ HB.out)
      have HD' := aM (show DeskAt w0 g A c ov W14 s l v y d0 from by rw [eN]; exact DeskAt.others (by decide) (by decide) (Nat.le_trans HS.out Ggo.out) [.int .i64 u1, .string u2, .slice Ao u3.length co, .string u4, .slice An u5.length cn, .string x1, .slice Ax x2.length cx, .bool false, .bool wd, .int .i64 a] 0 _ _ BO.out HD.out)
      have HO' := aM (show Kd.R k68 68 W14 w.heap.size (fun k_ => some k_ ≠ ((.slice An u5.length cn : Value) : Value).ownBlock ∧ some k_ ≠ (.slice Ax x2.length cx : Value).ownBlock) (.slice Ao u3.length co : Value) u3 from by rw [eN]; exact R_sets (by decide) [.int .i64 u1, .string u2, .slice Ao u3.length co, .string u4, .slice An u5.length cn, .string x1, .slice Ax x2.length cx, .bool false, .bool wd, .int .i64 a] 0 _ _ BO.out HO.out)
      have HN' := aM (show Kd.R k68 68 W14 w.heap.size (fun k_ => some k_ ≠ ((.slice Ao u3.length co : Value) : Value).ownBlock ∧ some k_ ≠ (.slice Ax x2.length cx : Value).ownBlock) (.slice An u5.length cn : Value) u5 from by rw [eN]; exact R_sets (by decide) [.int .i64 u1, .string u2, .slice Ao u3.length co, .string u4, .slice An u5.length cn, .string x1, .slice Ax x2.length cx, .bool false, .bool wd, .int .i64 a] 0 _ _ BO.out HN.out)
      have HY' := aM (show Kd.R k68 68 W14 w.heap.size (fun k_ => some k_ ≠ ((.slice Ao u3.length co : Value) : Value).ownBlock ∧ some k_ ≠ ((.slice An u5.length cn : Value) : Value).ownBlock) (.slice Ax x2.length cx : Value) x2 from by rw [eN]; exact R_sets (by decide) [.int .i64 u1, .string u2, .slice Ao u3.length co, .string u4, .slice An u5.length cn, .string x1, .slice Ax x2.length cx, .bool false, .bool wd, .int .i64 a] 0 _ _ BO.out HY.out)
      clear hN eN  BO BP BR BX HB HD HO HN HY
      have BO := BO'
      have BP := BP'
      have BR := BR'
      have BX := BX'
      have HB := HB'
      have HD := HD'
      have HO := HO'
      have HN := HN'
      have HY := HY'
      clear BO' BP' BR' BX' HB' HD' HO' HN' HY'
      refine bodyPost_ret (results_ct rfl _ _ go 38 #[.int .i64 u1, .string u2, .slice Ao u3.length co, .string u4, .slice An u5.length cn, .string x1, .slice Ax x2.length cx, .bool false, .bool wd, .int .i64 a] (0, 0) _ rfl BO.out Tryz.underlying38 rfl (by kernel_rfl)) rfl ?_
      exact ⟨_, _, _, rfl, HO.out, HN.out, HY.out, HB.out⟩
end
end Go.Proofs.YtjkfkiebhgkolaaGreatDoor.PB
end

section
namespace Go.Proofs.YtjkfkiebhgkolaaGreatDoor.PB
open Go.RowKit Go.Maps Go.Proofs.YtjkfkiebhgkolaaGreatDoorW.PrintWords Go.Proofs.YtjkfkiebhgkolaaGreatDoorW.PrintLast Go.Proofs.YtjkfkiebhgkolaaGreatDoorW.PrintMore
set_option maxRecDepth 100000
set_option linter.unusedVariables false
set_option linter.unusedSimpArgs false
theorem view_small (s : ByteArray) (l : List S68) (y : Int) : (viewS s l y).1.size ≤ 4096 := by
  unfold viewS
  split
  · rename_i h
    obtain ⟨g1, g2, g3, g4, g5⟩ := goodT_facts h
    show (strOfNums _).size ≤ _
    rw [strOfNums_size, hideAll_len, bytesOf_len, g3, Nat.min_self]
    exact g4
  · exact Nat.zero_le _
theorem turnD_small (s : ByteArray) (l : List S68) (y : Int) (d : TX) (a b : Int) : (turnD s l y d a b).2.size ≤ 4096 := by
  unfold turnD
  split
  · split
    · exact view_small _ _ _
    · exact Nat.zero_le _
  · exact Nat.zero_le _
section
variable {w0 : World} {g : Nat} {A : Option Addr} {c : Nat} {ov : Value} {w W : World} {s : ByteArray} {l : List S68} {v : ByteArray} {y : Int} {d : TX}
set_option maxHeartbeats 2000000 in
theorem take_true (h : DeskAt w0 g A c ov w s l v y d0) (hv : v.size ≤ 100000) (hM : NumOk w) (op f t : Int) :
    Calls Tryz.prog 31 #[.pointer (some ⟨g, 0, none⟩), .int .i32 op, .agg #[.int .i64 f, .int .i64 t, .bool true]] w fun e w' => Out3 w w' e (takeD s l y v op f t true) := by
  have HD := aM h
  have HS := aM h.size
  have HM := aM hM
  unfold takeD
  generalize hbd : bytesD v f t true = bd
  obtain ⟨a, b⟩ := bd
  dsimp only
  rw [Bool.true_or]
  obtain ⟨k1, hk1⟩ := (cut_ev s l h.hl a b).rounds
  obtain ⟨k2, hk2⟩ := (whole_ev v hv f t).rounds
  generalize hxx : cutS s l a b = x at hk1 ⊢
  obtain ⟨x1, x2, x3⟩ := x
  dsimp only
  generalize hww : wholeS v f t = q at hk2 ⊢
  obtain ⟨q1, q2, q3⟩ := q
  dsimp only
  have hz2 := turnD_small s l y d0 q1 q2
  generalize hu : turnD s l y d0 a b = u
  obtain ⟨⟨u1, u2, u3, u4, u5, u6⟩, u7⟩ := u
  generalize hu2 : turnD s l y d0 q1 q2 = z at hz2 ⊢
  obtain ⟨⟨z1, z2, z3, z4, z5, z6⟩, z7⟩ := z
  dsimp only at hz2 ⊢
  have HU := aM hu
  have HU2 := aM hu2
  have HF1 := aM hk1
  have HF2 := aM hk2
  have HF3 := aM (show line_First.f z7 f = some (firstS z7 f : Int) from if_pos (by omega))
  clear hk1 hk2 hxx hu hu2 hww hz2
  generalize hR : (if op = 121 then _ else _) = r
  go_enter Tryz.func31, Tryz.ntmps31
  go_wp2_with (first
    | ((with_reducible refine gate_dst (N := 5) rfl ?_); refine box_event ?hg (N := 5) ?hd (cs := #[.int .i64 f, .int .i64 t, .bool true]) (t := 28) ?hr ?_; (case hd => rfl); (case hg => rfl); (case hr => first | (go_simp; done) | (go_simp; rfl)); intro gr hg W1 hbox hb; have Ggr := aM (show w.heap.size ≤ gr from by rw [hg]; exact Nat.le_refl _); replace HD := aM (HD.out.below hb); have HB := aM hb; have BR := aM hbox; clear hb hbox hg)
    | ((with_reducible refine gate_dst (N := 6) rfl ?_); refine box_event ?hg (N := 6) ?hd (cs := #[.int .i64 0, .string ⟨#[]⟩, .slice none 0 0, .string ⟨#[]⟩, .slice none 0 0, .string ⟨#[]⟩, .slice none 0 0, .bool false, .bool false, .int .i64 0]) (t := 38) ?hr ?_; (case hd => rfl); (case hg => rfl); (case hr => first | (go_simp; done) | (go_simp; rfl)); intro go hg W2 hbox hb; have Ggo := aM (show w.heap.size ≤ go from by rw [hg]; exact HB.out.size); have Ngogr := aM (show go ≠ gr from by have := blk_lt BR.out; omega); replace HD := aM (HD.out.below hb); replace HB := aM (bP HB.out hb); replace BR := aM (bB BR.out hb); have BO := aM hbox; clear hb hbox hg; replace hr0 := (bC BR.out 0).trans (rfl : _ = some (Value.int .i64 f)); replace hr1 := (bC BR.out 1).trans (rfl : _ = some (Value.int .i64 t)); replace hr2 := (bC BR.out 2).trans (rfl : _ = some (Value.bool true)))
    | ((with_reducible refine gate_callee (f := 73) rfl ?_); refine goesL_ (some 22) rfl rfl Tryz.func73 (by kernel_rfl) rfl #[.pointer (some ⟨g, 0, none⟩), .agg #[.int .i64 f, .int .i64 t, .bool true]] rfl (by (try simp only [List.map_toArray, List.map_cons, List.map_nil]); first | done | rfl) ?_; (with_reducible refine (bytes_ok HD.out hv f t true).mono ?_); rintro e W3 ⟨hE, hb⟩; replace HD := aM (HD.out.below hb); replace HB := aM (bP HB.out hb); replace BR := aM (bB BR.out hb); replace BO := aM (bB BO.out hb); rw [hbd] at hE; obtain rfl := hE; refine ⟨_, rfl, ?_⟩; clear hb; replace hd0 := (bC HD.out.hg 0).trans (rfl : _ = some (Value.string s)); replace hd1 := (bC HD.out.hg 1).trans (rfl : _ = some (Value.slice A l.length c)); replace hr0 := (bC BR.out 0).trans (rfl : _ = some (Value.int .i64 f)); replace hr1 := (bC BR.out 1).trans (rfl : _ = some (Value.int .i64 t)); replace hr2 := (bC BR.out 2).trans (rfl : _ = some (Value.bool true)))
    | ((with_reducible refine gate_callee (f := 74) rfl ?_); refine goesL_ (some 32) rfl rfl Tryz.func74 (by kernel_rfl) rfl #[.agg #[.string s, .slice A l.length c], .int .i64 a, .int .i64 b] rfl (by (try simp only [List.map_toArray, List.map_cons, List.map_nil]); first | done | rfl) ?_; (with_reducible refine (strip_Cut.calls k1 s A c l a b x1 x2 x3 _ HD.out.hC HD.out.hc HF1.out).mono ?_); rintro e W4 ⟨vx, rfl, ho, hb⟩; have HX := aM (rL ho HB.out.size); replace HD := aM (HD.out.below hb); replace HB := aM (bP HB.out hb); replace BR := aM (bB BR.out hb); replace BO := aM (bB BO.out hb); clear ho; refine ⟨_, rfl, ?_⟩; clear hb; replace hd0 := (bC HD.out.hg 0).trans (rfl : _ = some (Value.string s)); replace hd1 := (bC HD.out.hg 1).trans (rfl : _ = some (Value.slice A l.length c)); obtain ⟨Ax, cx, rfl⟩ := Kd.R_slice HX.out)
    | ((with_reducible refine gate_dst (N := 10) rfl ?_); refine box_event ?hg (N := 10) ?hd (cs := #[.string ⟨#[]⟩, .slice none 0 0]) (t := 24) ?hr ?_; (case hd => rfl); (case hg => rfl); (case hr => first | (go_simp; done) | (go_simp; rfl)); intro gx hg W5 hbox hb; have Ggx := aM (show w.heap.size ≤ gx from by rw [hg]; exact HB.out.size); have Ngxgr := aM (show gx ≠ gr from by have := blk_lt BR.out; omega); have Ngxgo := aM (show gx ≠ go from by have := blk_lt BO.out; omega); replace HD := aM (HD.out.below hb); replace HB := aM (bP HB.out hb); replace BR := aM (bB BR.out hb); replace BO := aM (bB BO.out hb); replace HX := aM (Kd.R_below HX.out hb); have BX := aM hbox; clear hb hbox hg; replace hx0 := (bC BX.out 0).trans (rfl : _ = some (Value.string ⟨#[]⟩)); replace hx1 := (bC BX.out 1).trans (rfl : _ = some (Value.slice none 0 0)); replace hx0f := bF BX.out 0; replace hx1f := bF BX.out 1)
    )
  generalize hN : ((W5.setCell ⟨gx, 0, none⟩ (.string x1)).setCell ⟨gx, 1, none⟩ (.slice Ax x2.length cx)) = W6
  have eN : W6 = putL W5 gx 0 [.string x1, .slice Ax x2.length cx] := by rw [← hN]; simp only [putL]
  have HD' := aM (show DeskAt w0 g A c ov W6 s l v y d0 from by rw [eN]; exact DeskAt.others (by decide) (by decide) (Nat.le_trans HS.out Ggx.out) [.string x1, .slice Ax x2.length cx] 0 _ _ BX.out HD.out)
  have HB' := aM (show Below w.heap.size w W6 from by rw [eN]; exact below_sets Ggx.out [.string x1, .slice Ax x2.length cx] 0 _ HB.out)
  have BR' := aM (show W6.heap[gr]? = some (.cells #[.int .i64 f, .int .i64 t, .bool true] 28 (0, 0)) from by rw [eN]; exact blk_sets_far Ngxgr.out.symm [.string x1, .slice Ax x2.length cx] 0 _ BR.out)
  have BO' := aM (show W6.heap[go]? = some (.cells #[.int .i64 0, .string ⟨#[]⟩, .slice none 0 0, .string ⟨#[]⟩, .slice none 0 0, .string ⟨#[]⟩, .slice none 0 0, .bool false, .bool false, .int .i64 0] 38 (0, 0)) from by rw [eN]; exact blk_sets_far Ngxgo.out.symm [.string x1, .slice Ax x2.length cx] 0 _ BO.out)
  have HX' := aM (show Kd.R k68 68 W6 w.heap.size (fun _ => True) (.slice Ax x2.length cx : Value) x2 from by rw [eN]; exact R_sets (by decide) [.string x1, .slice Ax x2.length cx] 0 _ _ BX.out HX.out)
  have BX' := aM (show W6.heap[gx]? = some (.cells #[.string x1, .slice Ax x2.length cx] 24 (0, 0)) from by rw [eN, blk_sets [.string x1, .slice Ax x2.length cx] 0 _ _ BX.out]; simp only [setsL, List.setIfInBounds_toArray, List.set_cons_zero, List.set_cons_succ])
  clear hN eN  HD HB BR BO HX BX hx0 hx1 hx0f hx1f
  have HD := HD'
  have HB := HB'
  have BR := BR'
  have BO := BO'
  have HX := HX'
  have BX := BX'
  clear HD' HB' BR' BO' HX' BX'
  have hb := below_drew1 (Below.refl W6.heap.size W6)
  replace HD := aM (HD.out.below hb)
  replace HB := aM (bP HB.out hb)
  replace BR := aM (bB BR.out hb)
  replace BO := aM (bB BO.out hb)
  replace HX := aM (Kd.R_below HX.out hb)
  replace BX := aM (bB BX.out hb)
  clear hb
  refine start_ (n := 22) (S := fun W => W.cell? ⟨gx, 0, none⟩ = some (.string x1) ∧ W.cell? ⟨gx, 1, none⟩ = some (.slice Ax x2.length cx) ∧ W.cell? ⟨gr, 2, none⟩ = some (.bool true)) (ds := [21]) #[tF,tF,tF,tF,tF,tF,tF,tF,tF,tF,tF,tF,tF,tF,tF,tF,tF,tF,tF,tF,tF,tF] (by kernel_rfl) rfl rfl ⟨(bC BX.out 0).trans rfl, (bC BX.out 1).trans rfl, (bC BR.out 2).trans rfl⟩ (fun hHeld => ?_)
  generalize W6.drew = W7 at HD HB BR BO HX BX hHeld ⊢
  refine sv 0 35 #[tT,tF,tF,tF,tF,tF,tF,tF,tF,tF,tF,tF,tF,tF,tF,tF,tF,tF,tF,tF,tF,tF] ?_
  refine sv 1 36 #[tT,tT,tF,tF,tF,tF,tF,tF,tF,tF,tF,tF,tF,tF,tF,tF,tF,tF,tF,tF,tF,tF] ?_
  refine sv 3 38 #[tT,tT,tF,tT,tF,tF,tF,tF,tF,tF,tF,tF,tF,tF,tF,tF,tF,tF,tF,tF,tF,tF] ?_
  refine sv 6 41 #[tT,tT,tF,tT,tF,tF,tT,tF,tF,tF,tF,tF,tF,tF,tF,tF,tF,tF,tF,tF,tF,tF] ?_
  refine sv 18 53 #[tT,tT,tF,tT,tF,tF,tT,tF,tF,tF,tF,tF,tF,tF,tF,tF,tF,tF,tT,tF,tF,tF] ?_
  refine st 2 37 #[tT,tT,tT,tT,tF,tF,tT,tF,tF,tF,tF,tF,tF,tF,tF,tF,tF,tF,tT,tF,tF,tF] hHeld ?_
  refine st 4 39 #[tT,tT,tT,tT,tT,tF,tT,tF,tF,tF,tF,tF,tF,tF,tF,tF,tF,tF,tT,tF,tF,tF] hHeld ?_
  refine sv 5 40 #[tT,tT,tT,tT,tT,tT,tT,tF,tF,tF,tF,tF,tF,tF,tF,tF,tF,tF,tT,tF,tF,tF] ?_
  refine st 7 42 #[tT,tT,tT,tT,tT,tT,tT,tT,tF,tF,tF,tF,tF,tF,tF,tF,tF,tF,tT,tF,tF,tF] hHeld ?_
  refine sv 8 43 #[tT,tT,tT,tT,tT,tT,tT,tT,tT,tF,tF,tF,tF,tF,tF,tF,tF,tF,tT,tF,tF,tF] ?_
  refine sv 9 44 #[tT,tT,tT,tT,tT,tT,tT,tT,tT,tT,tF,tF,tF,tF,tF,tF,tF,tF,tT,tF,tF,tF] ?_ (hy := by exact Or.inr ⟨by rfl, rfl⟩)
  refine sv 10 45 #[tT,tT,tT,tT,tT,tT,tT,tT,tT,tT,tT,tF,tF,tF,tF,tF,tF,tF,tT,tF,tF,tF] ?_ (hy := by exact Or.inr ⟨by rfl, rfl⟩)
  refine sv 11 46 #[tT,tT,tT,tT,tT,tT,tT,tT,tT,tT,tT,tT,tF,tF,tF,tF,tF,tF,tT,tF,tF,tF] ?_ (hy := by exact Or.inr ⟨by rfl, rfl⟩)
  refine sv 12 47 #[tT,tT,tT,tT,tT,tT,tT,tT,tT,tT,tT,tT,tT,tF,tF,tF,tF,tF,tT,tF,tF,tF] ?_ (hy := by exact Or.inr ⟨by rfl, rfl⟩)
  refine sv 13 48 #[tT,tT,tT,tT,tT,tT,tT,tT,tT,tT,tT,tT,tT,tT,tF,tF,tF,tF,tT,tF,tF,tF] ?_ (hy := by exact Or.inr ⟨by rfl, rfl⟩)
  refine sv 14 49 #[tT,tT,tT,tT,tT,tT,tT,tT,tT,tT,tT,tT,tT,tT,tT,tF,tF,tF,tT,tF,tF,tF] ?_ (hy := by exact Or.inr ⟨by rfl, rfl⟩)
  refine sv 15 50 #[tT,tT,tT,tT,tT,tT,tT,tT,tT,tT,tT,tT,tT,tT,tT,tT,tF,tF,tT,tF,tF,tF] ?_ (hy := by exact Or.inr ⟨by rfl, rfl⟩)
  refine join_ (σ := Nat) 1 #[tT,tT,tT,tT,tT,tT,tT,tT,tT,tT,tT,tT,tT,tT,tT,tT,tT,tT,tT,tT,tT,tF] (fun s_ => [(51, undef), (12, .pointer (some ⟨s_, 0, none⟩)), (52, .bool true), (53, .int .i64 a), (54, .agg #[.int .i64 a, .string ⟨#[]⟩, .slice none 0 0, .string ⟨#[]⟩, .slice none 0 0, .string x1, .slice Ax x2.length cx, .bool true, .bool true, .int .i64 a])]) (fun s_ W => (W.cell? ⟨gx, 0, none⟩ = some (.string x1) ∧ W.cell? ⟨gx, 1, none⟩ = some (.slice Ax x2.length cx) ∧ W.cell? ⟨gr, 2, none⟩ = some (.bool true)) ∧ W.heap[go]? = some (.cells #[.int .i64 0, .string ⟨#[]⟩, .slice none 0 0, .string ⟨#[]⟩, .slice none 0 0, .string ⟨#[]⟩, .slice none 0 0, .bool false, .bool false, .int .i64 0] 38 (0, 0)) ∧ W.heap[s_]? = some (.cells #[.int .i64 0, .string ⟨#[]⟩, .slice none 0 0, .string ⟨#[]⟩, .slice none 0 0, .string ⟨#[]⟩, .slice none 0 0, .bool false, .bool false, .int .i64 0] 38 (0, 0)) ∧ W.heap[gr]? = some (.cells #[.int .i64 f, .int .i64 t, .bool true] 28 (0, 0)) ∧ W.heap[gx]? = some (.cells #[.string x1, .slice Ax x2.length cx] 24 (0, 0)) ∧ Below w.heap.size w W ∧ DeskAt w0 g A c ov W s l v y d0 ∧ Kd.R k68 68 W w.heap.size (fun _ => True) (.slice Ax x2.length cx : Value) x2 ∧ w.heap.size ≤ s_ ∧ s_ ≠ go ∧ s_ ≠ gr ∧ s_ ≠ gx) ?_ ?_
  rotate_left
  · intro hCont
    refine two_ (i := 16) (j := 20) (Ni := some 51) (Nj := some 12) #[tT,tT,tT,tT,tT,tT,tT,tT,tT,tT,tT,tT,tT,tT,tT,tT,tT,tF,tT,tF,tF,tF] #[tT,tT,tT,tT,tT,tT,tT,tT,tT,tT,tT,tT,tT,tT,tT,tT,tF,tF,tT,tF,tT,tF] rfl rfl rfl rfl (by kernel_rfl) (by decide) (by decide) (fun K hK => ?_) (fun K hK => ?_)
    · refine off_ (by rfl) (hK.out _ _ ⟨(bC BX.out 0).trans rfl, (bC BX.out 1).trans rfl, (bC BR.out 2).trans rfl⟩ (fun hHeld => ?_))
      clear hK K
      refine norm_ (a' := ?_) ?_ ?_
      rotate_left
      · show Act.put _ (some 51) _ = _
        simp only [Act.put, List.setIfInBounds_toArray, List.set_cons_zero, List.set_cons_succ, i64_w, i32_w]
        rfl
      refine sv 17 52 #[tT,tT,tT,tT,tT,tT,tT,tT,tT,tT,tT,tT,tT,tT,tT,tT,tT,tT,tT,tF,tF,tF] ?_
      refine sv 19 54 #[tT,tT,tT,tT,tT,tT,tT,tT,tT,tT,tT,tT,tT,tT,tT,tT,tT,tT,tT,tT,tF,tF] ?_
      refine one_ (i := 20) (N := some 12) #[tT,tT,tT,tT,tT,tT,tT,tT,tT,tT,tT,tT,tT,tT,tT,tT,tT,tT,tT,tT,tT,tF] rfl rfl (by kernel_rfl) (by decide) (fun K hK => ?_)
      refine box_step ?hg (N := 12) ?hd (cs := #[.int .i64 0, .string ⟨#[]⟩, .slice none 0 0, .string ⟨#[]⟩, .slice none 0 0, .string ⟨#[]⟩, .slice none 0 0, .bool false, .bool false, .int .i64 0]) (t := 38) ?hr ?_; (case hd => rfl); (case hg => rfl); (case hr => first | (go_simp; done) | (go_simp; rfl))
      clear hHeld
      intro gp hg W8 hbox hb
      have Ggp := aM (show w.heap.size ≤ gp from by rw [hg]; exact HB.out.size)
      have Ngpgr := aM (show gp ≠ gr from by have := blk_lt BR.out; omega)
      have Ngpgo := aM (show gp ≠ go from by have := blk_lt BO.out; omega)
      have Ngpgx := aM (show gp ≠ gx from by have := blk_lt BX.out; omega)
      replace HD := aM (HD.out.below hb)
      replace HB := aM (bP HB.out hb)
      replace BR := aM (bB BR.out hb)
      replace BO := aM (bB BO.out hb)
      replace HX := aM (Kd.R_below HX.out hb)
      replace BX := aM (bB BX.out hb)
      have BP := aM hbox
      refine hK.out _ _ ⟨(bC BX.out 0).trans rfl, (bC BX.out 1).trans rfl, (bC BR.out 2).trans rfl⟩ (fun hHeld => ?_)
      clear hK K hb hbox hg
      refine norm_ (a' := ?_) ?_ ?_
      rotate_left
      · show Act.put _ (some 12) _ = _
        simp only [Act.put, List.setIfInBounds_toArray, List.set_cons_zero, List.set_cons_succ, i64_w, i32_w]
        rfl
      exact norm_ (by simp only [Go.Proofs.YtjkfkiebhgkolaaGreatDoorW.PrintLast.putAll, Act.put, List.setIfInBounds_toArray, List.set_cons_zero, List.set_cons_succ]) (hCont gp _ ⟨hHeld, BO.out, BP.out, BR.out, BX.out, HB.out, HD.out, HX.out, Ggp.out, Ngpgo.out, Ngpgr.out, Ngpgx.out⟩)
    · refine box_step ?hg (N := 12) ?hd (cs := #[.int .i64 0, .string ⟨#[]⟩, .slice none 0 0, .string ⟨#[]⟩, .slice none 0 0, .string ⟨#[]⟩, .slice none 0 0, .bool false, .bool false, .int .i64 0]) (t := 38) ?hr ?_; (case hd => rfl); (case hg => rfl); (case hr => first | (go_simp; done) | (go_simp; rfl))
      clear hHeld
      intro gp hg W8 hbox hb
      have Ggp := aM (show w.heap.size ≤ gp from by rw [hg]; exact HB.out.size)
      have Ngpgr := aM (show gp ≠ gr from by have := blk_lt BR.out; omega)
      have Ngpgo := aM (show gp ≠ go from by have := blk_lt BO.out; omega)
      have Ngpgx := aM (show gp ≠ gx from by have := blk_lt BX.out; omega)
      replace HD := aM (HD.out.below hb)
      replace HB := aM (bP HB.out hb)
      replace BR := aM (bB BR.out hb)
      replace BO := aM (bB BO.out hb)
      replace HX := aM (Kd.R_below HX.out hb)
      replace BX := aM (bB BX.out hb)
      have BP := aM hbox
      refine hK.out _ _ ⟨(bC BX.out 0).trans rfl, (bC BX.out 1).trans rfl, (bC BR.out 2).trans rfl⟩ (fun hHeld => ?_)
      clear hK K hb hbox hg
      refine norm_ (a' := ?_) ?_ ?_
      rotate_left
      · show Act.put _ (some 12) _ = _
        simp only [Act.put, List.setIfInBounds_toArray, List.set_cons_zero, List.set_cons_succ, i64_w, i32_w]
        rfl
      refine one_ (i := 16) (N := some 51) #[tT,tT,tT,tT,tT,tT,tT,tT,tT,tT,tT,tT,tT,tT,tT,tT,tT,tF,tT,tF,tT,tF] rfl rfl (by kernel_rfl) (by decide) (fun K hK => ?_)
      refine off_ (by rfl) (hK.out _ _ ⟨(bC BX.out 0).trans rfl, (bC BX.out 1).trans rfl, (bC BR.out 2).trans rfl⟩ (fun hHeld => ?_))
      clear hK K
      refine norm_ (a' := ?_) ?_ ?_
      rotate_left
      · show Act.put _ (some 51) _ = _
        simp only [Act.put, List.setIfInBounds_toArray, List.set_cons_zero, List.set_cons_succ, i64_w, i32_w]
        rfl
      refine sv 17 52 #[tT,tT,tT,tT,tT,tT,tT,tT,tT,tT,tT,tT,tT,tT,tT,tT,tT,tT,tT,tF,tT,tF] ?_
      refine sv 19 54 #[tT,tT,tT,tT,tT,tT,tT,tT,tT,tT,tT,tT,tT,tT,tT,tT,tT,tT,tT,tT,tT,tF] ?_
      exact norm_ (by simp only [Go.Proofs.YtjkfkiebhgkolaaGreatDoorW.PrintLast.putAll, Act.put, List.setIfInBounds_toArray, List.set_cons_zero, List.set_cons_succ]) (hCont gp _ ⟨hHeld, BO.out, BP.out, BR.out, BX.out, HB.out, HD.out, HX.out, Ggp.out, Ngpgo.out, Ngpgr.out, Ngpgx.out⟩)
  clear hHeld HD HB BR BO HX BX
  rintro gp W9 ⟨hHeld, x_0, x_1, x_2, x_3, x_4, x_5, x_6, x_7, x_8, x_9, x_10⟩
  try dsimp only at x_0 x_1 x_2 x_3 x_4 x_5 x_6 x_7 x_8 x_9 x_10
  have BO := aM x_0
  have BP := aM x_1
  have BR := aM x_2
  have BX := aM x_3
  have HB := aM x_4
  have HD := aM x_5
  have HX := aM x_6
  have Ggp := aM x_7
  have Ngpgo := aM x_8
  have Ngpgr := aM x_9
  have Ngpgx := aM x_10
  clear x_0 x_1 x_2 x_3 x_4 x_5 x_6 x_7 x_8 x_9 x_10
  refine norm_ (a' := ?_) ?_ ?_
  rotate_left
  · simp only [Go.Proofs.YtjkfkiebhgkolaaGreatDoorW.PrintLast.putAll, Act.put, List.setIfInBounds_toArray, List.set_cons_zero, List.set_cons_succ, i64_w, i32_w]
    rfl
  refine last_ (i := 21) (N := none) #[tT,tT,tT,tT,tT,tT,tT,tT,tT,tT,tT,tT,tT,tT,tT,tT,tT,tT,tT,tT,tT,tT] rfl rfl (by kernel_rfl) (by decide) (fun K hK => ?_)
  have hs0 := (bC BP.out 0).trans (rfl : _ = some (Value.int .i64 0))
  have hf0 := bF BP.out 0
  have hs1 := (bC BP.out 1).trans (rfl : _ = some (Value.string ⟨#[]⟩))
  have hf1 := bF BP.out 1
  have hs2 := (bC BP.out 2).trans (rfl : _ = some (Value.slice none 0 0))
  have hf2 := bF BP.out 2
  have hs3 := (bC BP.out 3).trans (rfl : _ = some (Value.string ⟨#[]⟩))
  have hf3 := bF BP.out 3
  have hs4 := (bC BP.out 4).trans (rfl : _ = some (Value.slice none 0 0))
  have hf4 := bF BP.out 4
  have hs5 := (bC BP.out 5).trans (rfl : _ = some (Value.string ⟨#[]⟩))
  have hf5 := bF BP.out 5
  have hs6 := (bC BP.out 6).trans (rfl : _ = some (Value.slice none 0 0))
  have hf6 := bF BP.out 6
  have hs7 := (bC BP.out 7).trans (rfl : _ = some (Value.bool false))
  have hf7 := bF BP.out 7
  have hs8 := (bC BP.out 8).trans (rfl : _ = some (Value.bool false))
  have hf8 := bF BP.out 8
  have hs9 := (bC BP.out 9).trans (rfl : _ = some (Value.int .i64 0))
  have hf9 := bF BP.out 9
  refine skip_ (w1 := ((((((((((W9.setCell ⟨gp, 0, none⟩ (.int .i64 a)).setCell ⟨gp, 1, none⟩ (.string ⟨#[]⟩)).setCell ⟨gp, 2, none⟩ (.slice none 0 0)).setCell ⟨gp, 3, none⟩ (.string ⟨#[]⟩)).setCell ⟨gp, 4, none⟩ (.slice none 0 0)).setCell ⟨gp, 5, none⟩ (.string x1)).setCell ⟨gp, 6, none⟩ (.slice Ax x2.length cx)).setCell ⟨gp, 7, none⟩ (.bool true)).setCell ⟨gp, 8, none⟩ (.bool true)).setCell ⟨gp, 9, none⟩ (.int .i64 a))) (by rfl) rfl ?_ ?_
  · first | (go_simp; done) | (go_simp; rfl)
  generalize hN : ((((((((((W9.setCell ⟨gp, 0, none⟩ (.int .i64 a)).setCell ⟨gp, 1, none⟩ (.string ⟨#[]⟩)).setCell ⟨gp, 2, none⟩ (.slice none 0 0)).setCell ⟨gp, 3, none⟩ (.string ⟨#[]⟩)).setCell ⟨gp, 4, none⟩ (.slice none 0 0)).setCell ⟨gp, 5, none⟩ (.string x1)).setCell ⟨gp, 6, none⟩ (.slice Ax x2.length cx)).setCell ⟨gp, 7, none⟩ (.bool true)).setCell ⟨gp, 8, none⟩ (.bool true)).setCell ⟨gp, 9, none⟩ (.int .i64 a)) = W10
  have eN : W10 = putL W9 gp 0 [.int .i64 a, .string ⟨#[]⟩, .slice none 0 0, .string ⟨#[]⟩, .slice none 0 0, .string x1, .slice Ax x2.length cx, .bool true, .bool true, .int .i64 a] := by rw [← hN]; simp only [putL]
  have BO' := aM (show W10.heap[go]? = some (.cells #[.int .i64 0, .string ⟨#[]⟩, .slice none 0 0, .string ⟨#[]⟩, .slice none 0 0, .string ⟨#[]⟩, .slice none 0 0, .bool false, .bool false, .int .i64 0] 38 (0, 0)) from by rw [eN]; exact blk_sets_far Ngpgo.out.symm [.int .i64 a, .string ⟨#[]⟩, .slice none 0 0, .string ⟨#[]⟩, .slice none 0 0, .string x1, .slice Ax x2.length cx, .bool true, .bool true, .int .i64 a] 0 _ BO.out)
  have BP' := aM (show W10.heap[gp]? = some (.cells #[.int .i64 a, .string ⟨#[]⟩, .slice none 0 0, .string ⟨#[]⟩, .slice none 0 0, .string x1, .slice Ax x2.length cx, .bool true, .bool true, .int .i64 a] 38 (0, 0)) from by rw [eN, blk_sets [.int .i64 a, .string ⟨#[]⟩, .slice none 0 0, .string ⟨#[]⟩, .slice none 0 0, .string x1, .slice Ax x2.length cx, .bool true, .bool true, .int .i64 a] 0 _ _ BP.out]; simp only [setsL, List.setIfInBounds_toArray, List.set_cons_zero, List.set_cons_succ])
  have BR' := aM (show W10.heap[gr]? = some (.cells #[.int .i64 f, .int .i64 t, .bool true] 28 (0, 0)) from by rw [eN]; exact blk_sets_far Ngpgr.out.symm [.int .i64 a, .string ⟨#[]⟩, .slice none 0 0, .string ⟨#[]⟩, .slice none 0 0, .string x1, .slice Ax x2.length cx, .bool true, .bool true, .int .i64 a] 0 _ BR.out)
  have BX' := aM (show W10.heap[gx]? = some (.cells #[.string x1, .slice Ax x2.length cx] 24 (0, 0)) from by rw [eN]; exact blk_sets_far Ngpgx.out.symm [.int .i64 a, .string ⟨#[]⟩, .slice none 0 0, .string ⟨#[]⟩, .slice none 0 0, .string x1, .slice Ax x2.length cx, .bool true, .bool true, .int .i64 a] 0 _ BX.out)
  have HB' := aM (show Below w.heap.size w W10 from by rw [eN]; exact below_sets Ggp.out [.int .i64 a, .string ⟨#[]⟩, .slice none 0 0, .string ⟨#[]⟩, .slice none 0 0, .string x1, .slice Ax x2.length cx, .bool true, .bool true, .int .i64 a] 0 _ HB.out)
  have HD' := aM (show DeskAt w0 g A c ov W10 s l v y d0 from by rw [eN]; exact DeskAt.others (by decide) (by decide) (Nat.le_trans HS.out Ggp.out) [.int .i64 a, .string ⟨#[]⟩, .slice none 0 0, .string ⟨#[]⟩, .slice none 0 0, .string x1, .slice Ax x2.length cx, .bool true, .bool true, .int .i64 a] 0 _ _ BP.out HD.out)
  have HX' := aM (show Kd.R k68 68 W10 w.heap.size (fun _ => True) (.slice Ax x2.length cx : Value) x2 from by rw [eN]; exact R_sets (by decide) [.int .i64 a, .string ⟨#[]⟩, .slice none 0 0, .string ⟨#[]⟩, .slice none 0 0, .string x1, .slice Ax x2.length cx, .bool true, .bool true, .int .i64 a] 0 _ _ BP.out HX.out)
  clear hN eN hHeld hs0 hf0 hs1 hf1 hs2 hf2 hs3 hf3 hs4 hf4 hs5 hf5 hs6 hf6 hs7 hf7 hs8 hf8 hs9 hf9 BO BP BR BX HB HD HX
  have BO := BO'
  have BP := BP'
  have BR := BR'
  have BX := BX'
  have HB := HB'
  have HD := HD'
  have HX := HX'
  clear BO' BP' BR' BX' HB' HD' HX'
  refine hK.out _ _ ?_
  clear hK K
  refine done_ (by kernel_rfl) ?_
  by_cases h1 : op = 121
  · have b1 : (op == 121) = true := beq_iff_eq.2 h1
    rw [if_pos h1] at hR
    subst hR
    replace hp0 := (bC BP.out 0).trans (rfl : _ = some (Value.int .i64 a))
    replace hp1 := (bC BP.out 1).trans (rfl : _ = some (Value.string ⟨#[]⟩))
    replace hp2 := (bC BP.out 2).trans (rfl : _ = some (Value.slice none 0 0))
    replace hp3 := (bC BP.out 3).trans (rfl : _ = some (Value.string ⟨#[]⟩))
    replace hp4 := (bC BP.out 4).trans (rfl : _ = some (Value.slice none 0 0))
    replace hp5 := (bC BP.out 5).trans (rfl : _ = some (Value.string x1))
    replace hp6 := (bC BP.out 6).trans (rfl : _ = some (Value.slice Ax x2.length cx))
    replace hp7 := (bC BP.out 7).trans (rfl : _ = some (Value.bool true))
    replace hp8 := (bC BP.out 8).trans (rfl : _ = some (Value.bool true))
    replace hp9 := (bC BP.out 9).trans (rfl : _ = some (Value.int .i64 a))
    replace ho0 := (bC BO.out 0).trans (rfl : _ = some (Value.int .i64 0))
    replace ho1 := (bC BO.out 1).trans (rfl : _ = some (Value.string ⟨#[]⟩))
    replace ho2 := (bC BO.out 2).trans (rfl : _ = some (Value.slice none 0 0))
    replace ho3 := (bC BO.out 3).trans (rfl : _ = some (Value.string ⟨#[]⟩))
    replace ho4 := (bC BO.out 4).trans (rfl : _ = some (Value.slice none 0 0))
    replace ho5 := (bC BO.out 5).trans (rfl : _ = some (Value.string ⟨#[]⟩))
    replace ho6 := (bC BO.out 6).trans (rfl : _ = some (Value.slice none 0 0))
    replace ho7 := (bC BO.out 7).trans (rfl : _ = some (Value.bool false))
    replace ho8 := (bC BO.out 8).trans (rfl : _ = some (Value.bool false))
    replace ho9 := (bC BO.out 9).trans (rfl : _ = some (Value.int .i64 0))
    replace hp0f := bF BP.out 0
    replace hp1f := bF BP.out 1
    replace hp2f := bF BP.out 2
    replace hp3f := bF BP.out 3
    replace hp4f := bF BP.out 4
    replace hp5f := bF BP.out 5
    replace hp6f := bF BP.out 6
    replace hp7f := bF BP.out 7
    replace hp8f := bF BP.out 8
    replace hp9f := bF BP.out 9
    replace ho0f := bF BO.out 0
    replace ho1f := bF BO.out 1
    replace ho2f := bF BO.out 2
    replace ho3f := bF BO.out 3
    replace ho4f := bF BO.out 4
    replace ho5f := bF BO.out 5
    replace ho6f := bF BO.out 6
    replace ho7f := bF BO.out 7
    replace ho8f := bF BO.out 8
    replace ho9f := bF BO.out 9
    go_wp2
    generalize hN : ((((((((((W10.setCell ⟨go, 0, none⟩ (.int .i64 a)).setCell ⟨go, 1, none⟩ (.string ⟨#[]⟩)).setCell ⟨go, 2, none⟩ (.slice none 0 0)).setCell ⟨go, 3, none⟩ (.string ⟨#[]⟩)).setCell ⟨go, 4, none⟩ (.slice none 0 0)).setCell ⟨go, 5, none⟩ (.string x1)).setCell ⟨go, 6, none⟩ (.slice Ax x2.length cx)).setCell ⟨go, 7, none⟩ (.bool true)).setCell ⟨go, 8, none⟩ (.bool true)).setCell ⟨go, 9, none⟩ (.int .i64 a)) = W11
    have eN : W11 = putL W10 go 0 [.int .i64 a, .string ⟨#[]⟩, .slice none 0 0, .string ⟨#[]⟩, .slice none 0 0, .string x1, .slice Ax x2.length cx, .bool true, .bool true, .int .i64 a] := by rw [← hN]; simp only [putL]
    have BO' := aM (show W11.heap[go]? = some (.cells #[.int .i64 a, .string ⟨#[]⟩, .slice none 0 0, .string ⟨#[]⟩, .slice none 0 0, .string x1, .slice Ax x2.length cx, .bool true, .bool true, .int .i64 a] 38 (0, 0)) from by rw [eN, blk_sets [.int .i64 a, .string ⟨#[]⟩, .slice none 0 0, .string ⟨#[]⟩, .slice none 0 0, .string x1, .slice Ax x2.length cx, .bool true, .bool true, .int .i64 a] 0 _ _ BO.out]; simp only [setsL, List.setIfInBounds_toArray, List.set_cons_zero, List.set_cons_succ])
    have BP' := aM (show W11.heap[gp]? = some (.cells #[.int .i64 a, .string ⟨#[]⟩, .slice none 0 0, .string ⟨#[]⟩, .slice none 0 0, .string x1, .slice Ax x2.length cx, .bool true, .bool true, .int .i64 a] 38 (0, 0)) from by rw [eN]; exact blk_sets_far Ngpgo.out [.int .i64 a, .string ⟨#[]⟩, .slice none 0 0, .string ⟨#[]⟩, .slice none 0 0, .string x1, .slice Ax x2.length cx, .bool true, .bool true, .int .i64 a] 0 _ BP.out)
    have BR' := aM (show W11.heap[gr]? = some (.cells #[.int .i64 f, .int .i64 t, .bool true] 28 (0, 0)) from by rw [eN]; exact blk_sets_far Ngogr.out.symm [.int .i64 a, .string ⟨#[]⟩, .slice none 0 0, .string ⟨#[]⟩, .slice none 0 0, .string x1, .slice Ax x2.length cx, .bool true, .bool true, .int .i64 a] 0 _ BR.out)
    have BX' := aM (show W11.heap[gx]? = some (.cells #[.string x1, .slice Ax x2.length cx] 24 (0, 0)) from by rw [eN]; exact blk_sets_far Ngxgo.out [.int .i64 a, .string ⟨#[]⟩, .slice none 0 0, .string ⟨#[]⟩, .slice none 0 0, .string x1, .slice Ax x2.length cx, .bool true, .bool true, .int .i64 a] 0 _ BX.out)
    have HB' := aM (show Below w.heap.size w W11 from by rw [eN]; exact below_sets Ggo.out [.int .i64 a, .string ⟨#[]⟩, .slice none 0 0, .string ⟨#[]⟩, .slice none 0 0, .string x1, .slice Ax x2.length cx, .bool true, .bool true, .int .i64 a] 0 _ HB.out)
    have HD' := aM (show DeskAt w0 g A c ov W11 s l v y d0 from by rw [eN]; exact DeskAt.others (by decide) (by decide) (Nat.le_trans HS.out Ggo.out) [.int .i64 a, .string ⟨#[]⟩, .slice none 0 0, .string ⟨#[]⟩, .slice none 0 0, .string x1, .slice Ax x2.length cx, .bool true, .bool true, .int .i64 a] 0 _ _ BO.out HD.out)
    have HX' := aM (show Kd.R k68 68 W11 w.heap.size (fun _ => True) (.slice Ax x2.length cx : Value) x2 from by rw [eN]; exact R_sets (by decide) [.int .i64 a, .string ⟨#[]⟩, .slice none 0 0, .string ⟨#[]⟩, .slice none 0 0, .string x1, .slice Ax x2.length cx, .bool true, .bool true, .int .i64 a] 0 _ _ BO.out HX.out)
    clear hN eN  BO BP BR BX HB HD HX hp0 hp1 hp2 hp3 hp4 hp5 hp6 hp7 hp8 hp9 ho0 ho1 ho2 ho3 ho4 ho5 ho6 ho7 ho8 ho9 hp0f hp1f hp2f hp3f hp4f hp5f hp6f hp7f hp8f hp9f ho0f ho1f ho2f ho3f ho4f ho5f ho6f ho7f ho8f ho9f
    have BO := BO'
    have BP := BP'
    have BR := BR'
    have BX := BX'
    have HB := HB'
    have HD := HD'
    have HX := HX'
    clear BO' BP' BR' BX' HB' HD' HX'
    refine bodyPost_ret (results_ct rfl _ _ go 38 #[.int .i64 a, .string ⟨#[]⟩, .slice none 0 0, .string ⟨#[]⟩, .slice none 0 0, .string x1, .slice Ax x2.length cx, .bool true, .bool true, .int .i64 a] (0, 0) _ rfl BO.out Tryz.underlying38 rfl (by kernel_rfl)) rfl ?_
    exact ⟨_, _, _, rfl, Kd.R_nil _ _ _ _ _, Kd.R_nil _ _ _ _ _, R_nil2 HX.out, HB.out⟩
  · have b1 : (op == 121) = false := beq_eq_false_iff_ne.2 h1
    rw [if_neg h1] at hR
    by_cases h2 : op = 100
    · have b2 : (op == 100) = true := beq_iff_eq.2 h2
      rw [if_pos ⟨h2, trivial⟩] at hR
      subst hR
      replace hr2 := (bC BR.out 2).trans (rfl : _ = some (Value.bool true))
      go_wp2
      clear hr2
      have hb := below_drew1 (Below.refl W10.heap.size W10)
      replace BO := aM (bB BO.out hb)
      replace BP := aM (bB BP.out hb)
      replace BR := aM (bB BR.out hb)
      replace BX := aM (bB BX.out hb)
      replace HB := aM (bP HB.out hb)
      replace HD := aM (HD.out.below hb)
      replace HX := aM (Kd.R_below HX.out hb)
      clear hb
      refine start_ (n := 16) (S := fun W => W.cell? ⟨g, 2, none⟩ = some (.string v) ∧ W.cell? ⟨gr, 0, none⟩ = some (.int .i64 f) ∧ W.cell? ⟨gr, 1, none⟩ = some (.int .i64 t)) (ds := []) #[tF,tF,tF,tF,tF,tF,tF,tF,tF,tF,tF,tF,tF,tF,tF,tF] (by kernel_rfl) rfl rfl ⟨(bC HD.out.hg 2).trans rfl, (bC BR.out 0).trans rfl, (bC BR.out 1).trans rfl⟩ (fun hHeld => ?_)
      generalize W10.drew = W11 at BO BP BR BX HB HD HX hHeld ⊢
      refine sv 0 75 #[tT,tF,tF,tF,tF,tF,tF,tF,tF,tF,tF,tF,tF,tF,tF,tF] ?_
      refine sv 1 76 #[tT,tT,tF,tF,tF,tF,tF,tF,tF,tF,tF,tF,tF,tF,tF,tF] ?_
      refine sv 2 77 #[tT,tT,tT,tF,tF,tF,tF,tF,tF,tF,tF,tF,tF,tF,tF,tF] ?_
      refine sv 4 79 #[tT,tT,tT,tF,tT,tF,tF,tF,tF,tF,tF,tF,tF,tF,tF,tF] ?_
      refine sv 6 81 #[tT,tT,tT,tF,tT,tF,tT,tF,tF,tF,tF,tF,tF,tF,tF,tF] ?_
      refine st 3 78 #[tT,tT,tT,tT,tT,tF,tT,tF,tF,tF,tF,tF,tF,tF,tF,tF] hHeld ?_
      refine st 5 80 #[tT,tT,tT,tT,tT,tT,tT,tF,tF,tF,tF,tF,tF,tF,tF,tF] hHeld ?_
      refine st 7 82 #[tT,tT,tT,tT,tT,tT,tT,tT,tF,tF,tF,tF,tF,tF,tF,tF] hHeld ?_
      refine one_ (i := 8) (N := some 83) #[tT,tT,tT,tT,tT,tT,tT,tT,tT,tF,tF,tF,tF,tF,tF,tF] rfl rfl (by kernel_rfl) (by decide) (fun K hK => ?_)
      refine goes_ Tryz.func76 (by kernel_rfl) rfl #[.string v, .int .i64 f, .int .i64 t] (by rfl) rfl rfl (by (try simp only [List.map_toArray, List.map_cons, List.map_nil]); first | done | rfl) ?_
      clear hHeld
      (with_reducible refine (line_Whole.calls k2 v f t q1 q2 q3 _ HF2.out).mono ?_)
      rintro e W12 ⟨rfl, hb⟩
      replace BO := aM (bB BO.out hb)
      replace BP := aM (bB BP.out hb)
      replace BR := aM (bB BR.out hb)
      replace BX := aM (bB BX.out hb)
      replace HB := aM (bP HB.out hb)
      replace HD := aM (HD.out.below hb)
      replace HX := aM (Kd.R_below HX.out hb)
      refine ⟨_, rfl, hK.out _ _ ⟨(bC HD.out.hg 2).trans rfl, (bC BR.out 0).trans rfl, (bC BR.out 1).trans rfl⟩ (fun hHeld => ?_)⟩
      clear hK K hb
      refine norm_ (a' := ?_) ?_ ?_
      rotate_left
      · show Act.put _ (some 83) _ = _
        simp only [Act.put, List.setIfInBounds_toArray, List.set_cons_zero, List.set_cons_succ, i64_w, i32_w]
        rfl
      refine sv 9 74 #[tT,tT,tT,tT,tT,tT,tT,tT,tT,tT,tF,tF,tF,tF,tF,tF] ?_
      refine sv 10 84 #[tT,tT,tT,tT,tT,tT,tT,tT,tT,tT,tT,tF,tF,tF,tF,tF] ?_
      refine sv 11 85 #[tT,tT,tT,tT,tT,tT,tT,tT,tT,tT,tT,tT,tF,tF,tF,tF] ?_
      refine sv 12 86 #[tT,tT,tT,tT,tT,tT,tT,tT,tT,tT,tT,tT,tT,tF,tF,tF] ?_
      refine sv 13 13 #[tT,tT,tT,tT,tT,tT,tT,tT,tT,tT,tT,tT,tT,tT,tF,tF] ?_
      refine sv 14 14 #[tT,tT,tT,tT,tT,tT,tT,tT,tT,tT,tT,tT,tT,tT,tT,tF] ?_
      refine sv 15 15 #[tT,tT,tT,tT,tT,tT,tT,tT,tT,tT,tT,tT,tT,tT,tT,tT] ?_
      refine done_ (by kernel_rfl) ?_
      clear hHeld
      go_wp2_with (first
        | ((with_reducible refine gate_callee (f := 50) rfl ?_); refine goesL_ (some 91) rfl rfl Tryz.func50 (by kernel_rfl) rfl #[.pointer (some ⟨g, 0, none⟩), .int .i64 q1, .int .i64 q2] rfl (by (try simp only [List.map_toArray, List.map_cons, List.map_nil]); first | done | rfl) ?_; (with_reducible refine (turn_at HD.out q1 q2 HU2.out).mono ?_); rintro e W13 ⟨vo, vn, rfl, ho, hn, hb⟩; have HO := aM (rL (Kd.R_new' ho (Kd.R_lt HX.out)) HB.out.size); have HN := aM (rL (Kd.R_new' hn (Kd.R_lt HX.out)) HB.out.size); have HY := aM (R_elder2 HX.out (Kd.R_base ho) (Kd.R_base hn) hb); clear HX; replace BO := aM (bB BO.out hb); replace BP := aM (bB BP.out hb); replace BR := aM (bB BR.out hb); replace BX := aM (bB BX.out hb); replace HB := aM (bP HB.out hb); replace HD := aM (HD.out.below hb); clear ho hn; refine ⟨_, rfl, ?_⟩; clear hb; obtain ⟨Ao, co, rfl⟩ := Kd.R_slice HO.out; obtain ⟨An, cn, rfl⟩ := Kd.R_slice HN.out)
        | ((with_reducible refine gate_dst (N := 16) rfl ?_); refine box_event ?hg (N := 16) ?hd (cs := #[.int .i64 0, .string ⟨#[]⟩, .slice none 0 0, .string ⟨#[]⟩, .slice none 0 0]) (t := 36) ?hr ?_; (case hd => rfl); (case hg => rfl); (case hr => first | (go_simp; done) | (go_simp; rfl)); intro gt hg W14 hbox hb; have Ggt := aM (show w.heap.size ≤ gt from by rw [hg]; exact HB.out.size); have Ngtgr := aM (show gt ≠ gr from by have := blk_lt BR.out; omega); have Ngtgo := aM (show gt ≠ go from by have := blk_lt BO.out; omega); have Ngtgx := aM (show gt ≠ gx from by have := blk_lt BX.out; omega); have Ngtgp := aM (show gt ≠ gp from by have := blk_lt BP.out; omega); replace BO := aM (bB BO.out hb); replace BP := aM (bB BP.out hb); replace BR := aM (bB BR.out hb); replace BX := aM (bB BX.out hb); replace HB := aM (bP HB.out hb); replace HD := aM (HD.out.below hb); replace HO := aM (Kd.R_below HO.out hb); replace HN := aM (Kd.R_below HN.out hb); replace HY := aM (Kd.R_below HY.out hb); have BT := aM hbox; clear hb hbox hg; replace ht0 := (bC BT.out 0).trans (rfl : _ = some (Value.int .i64 0)); replace ht1 := (bC BT.out 1).trans (rfl : _ = some (Value.string ⟨#[]⟩)); replace ht2 := (bC BT.out 2).trans (rfl : _ = some (Value.slice none 0 0)); replace ht3 := (bC BT.out 3).trans (rfl : _ = some (Value.string ⟨#[]⟩)); replace ht4 := (bC BT.out 4).trans (rfl : _ = some (Value.slice none 0 0)); replace ht0f := bF BT.out 0; replace ht1f := bF BT.out 1; replace ht2f := bF BT.out 2; replace ht3f := bF BT.out 3; replace ht4f := bF BT.out 4)
        )
      generalize hN : (((((W14.setCell ⟨gt, 0, none⟩ (.int .i64 z1)).setCell ⟨gt, 1, none⟩ (.string z2)).setCell ⟨gt, 2, none⟩ (.slice Ao z3.length co)).setCell ⟨gt, 3, none⟩ (.string z4)).setCell ⟨gt, 4, none⟩ (.slice An z5.length cn)) = W15
      have eN : W15 = putL W14 gt 0 [.int .i64 z1, .string z2, .slice Ao z3.length co, .string z4, .slice An z5.length cn] := by rw [← hN]; simp only [putL]
      have BO' := aM (show W15.heap[go]? = some (.cells #[.int .i64 0, .string ⟨#[]⟩, .slice none 0 0, .string ⟨#[]⟩, .slice none 0 0, .string ⟨#[]⟩, .slice none 0 0, .bool false, .bool false, .int .i64 0] 38 (0, 0)) from by rw [eN]; exact blk_sets_far Ngtgo.out.symm [.int .i64 z1, .string z2, .slice Ao z3.length co, .string z4, .slice An z5.length cn] 0 _ BO.out)
      have BP' := aM (show W15.heap[gp]? = some (.cells #[.int .i64 a, .string ⟨#[]⟩, .slice none 0 0, .string ⟨#[]⟩, .slice none 0 0, .string x1, .slice Ax x2.length cx, .bool true, .bool true, .int .i64 a] 38 (0, 0)) from by rw [eN]; exact blk_sets_far Ngtgp.out.symm [.int .i64 z1, .string z2, .slice Ao z3.length co, .string z4, .slice An z5.length cn] 0 _ BP.out)
      have BR' := aM (show W15.heap[gr]? = some (.cells #[.int .i64 f, .int .i64 t, .bool true] 28 (0, 0)) from by rw [eN]; exact blk_sets_far Ngtgr.out.symm [.int .i64 z1, .string z2, .slice Ao z3.length co, .string z4, .slice An z5.length cn] 0 _ BR.out)
      have BX' := aM (show W15.heap[gx]? = some (.cells #[.string x1, .slice Ax x2.length cx] 24 (0, 0)) from by rw [eN]; exact blk_sets_far Ngtgx.out.symm [.int .i64 z1, .string z2, .slice Ao z3.length co, .string z4, .slice An z5.length cn] 0 _ BX.out)
      have HB' := aM (show Below w.heap.size w W15 from by rw [eN]; exact below_sets Ggt.out [.int .i64 z1, .string z2, .slice Ao z3.length co, .string z4, .slice An z5.length cn] 0 _ HB.out)
      have HD' := aM (show DeskAt w0 g A c ov W15 s l v y d0 from by rw [eN]; exact DeskAt.others (by decide) (by decide) (Nat.le_trans HS.out Ggt.out) [.int .i64 z1, .string z2, .slice Ao z3.length co, .string z4, .slice An z5.length cn] 0 _ _ BT.out HD.out)
      have HO' := aM (show Kd.R k68 68 W15 w.heap.size (fun k_ => some k_ ≠ ((.slice An z5.length cn : Value) : Value).ownBlock ∧ some k_ ≠ (.slice Ax x2.length cx : Value).ownBlock) (.slice Ao z3.length co : Value) z3 from by rw [eN]; exact R_sets (by decide) [.int .i64 z1, .string z2, .slice Ao z3.length co, .string z4, .slice An z5.length cn] 0 _ _ BT.out HO.out)
      have HN' := aM (show Kd.R k68 68 W15 w.heap.size (fun k_ => some k_ ≠ ((.slice Ao z3.length co : Value) : Value).ownBlock ∧ some k_ ≠ (.slice Ax x2.length cx : Value).ownBlock) (.slice An z5.length cn : Value) z5 from by rw [eN]; exact R_sets (by decide) [.int .i64 z1, .string z2, .slice Ao z3.length co, .string z4, .slice An z5.length cn] 0 _ _ BT.out HN.out)
      have HY' := aM (show Kd.R k68 68 W15 w.heap.size (fun k_ => some k_ ≠ ((.slice Ao z3.length co : Value) : Value).ownBlock ∧ some k_ ≠ ((.slice An z5.length cn : Value) : Value).ownBlock) (.slice Ax x2.length cx : Value) x2 from by rw [eN]; exact R_sets (by decide) [.int .i64 z1, .string z2, .slice Ao z3.length co, .string z4, .slice An z5.length cn] 0 _ _ BT.out HY.out)
      have BT' := aM (show W15.heap[gt]? = some (.cells #[.int .i64 z1, .string z2, .slice Ao z3.length co, .string z4, .slice An z5.length cn] 36 (0, 0)) from by rw [eN, blk_sets [.int .i64 z1, .string z2, .slice Ao z3.length co, .string z4, .slice An z5.length cn] 0 _ _ BT.out]; simp only [setsL, List.setIfInBounds_toArray, List.set_cons_zero, List.set_cons_succ])
      clear hN eN  BO BP BR BX HB HD HO HN HY BT ht0 ht1 ht2 ht3 ht4 ht0f ht1f ht2f ht3f ht4f
      have BO := BO'
      have BP := BP'
      have BR := BR'
      have BX := BX'
      have HB := HB'
      have HD := HD'
      have HO := HO'
      have HN := HN'
      have HY := HY'
      have BT := BT'
      clear BO' BP' BR' BX' HB' HD' HO' HN' HY' BT'
      have hb := below_drew1 (Below.refl W15.heap.size W15)
      replace BO := aM (bB BO.out hb)
      replace BP := aM (bB BP.out hb)
      replace BR := aM (bB BR.out hb)
      replace BX := aM (bB BX.out hb)
      replace HB := aM (bP HB.out hb)
      replace HD := aM (HD.out.below hb)
      replace HO := aM (Kd.R_below HO.out hb)
      replace HN := aM (Kd.R_below HN.out hb)
      replace HY := aM (Kd.R_below HY.out hb)
      replace BT := aM (bB BT.out hb)
      clear hb
      refine start_ (n := 9) (S := fun W => W.cell? ⟨gt, 0, none⟩ = some (.int .i64 z1) ∧ W.cell? ⟨gt, 1, none⟩ = some (.string z2) ∧ W.cell? ⟨gt, 2, none⟩ = some (.slice Ao z3.length co) ∧ W.cell? ⟨gt, 3, none⟩ = some (.string z4) ∧ W.cell? ⟨gt, 4, none⟩ = some (.slice An z5.length cn) ∧ W.cell? ⟨gr, 0, none⟩ = some (.int .i64 f)) (ds := []) #[tF,tF,tF,tF,tF,tF,tF,tF,tF] (by kernel_rfl) rfl rfl ⟨(bC BT.out 0).trans rfl, (bC BT.out 1).trans rfl, (bC BT.out 2).trans rfl, (bC BT.out 3).trans rfl, (bC BT.out 4).trans rfl, (bC BR.out 0).trans rfl⟩ (fun hHeld => ?_)
      generalize W15.drew = W16 at BO BP BR BX HB HD HO HN HY BT hHeld ⊢
      refine sv 1 96 #[tF,tT,tF,tF,tF,tF,tF,tF,tF] ?_
      refine sv 2 97 #[tF,tT,tT,tF,tF,tF,tF,tF,tF] ?_
      refine st 0 95 #[tT,tT,tT,tF,tF,tF,tF,tF,tF] hHeld ?_
      refine sv 5 100 #[tT,tT,tT,tF,tF,tT,tF,tF,tF] ?_
      refine st 3 98 #[tT,tT,tT,tT,tF,tT,tF,tF,tF] hHeld ?_
      refine one_ (i := 4) (N := some 99) #[tT,tT,tT,tT,tT,tT,tF,tF,tF] rfl rfl (by kernel_rfl) (by decide) (fun K hK => ?_)
      refine goes_ Tryz.func77 (by kernel_rfl) rfl #[.string z7, .int .i64 f] (by rfl) rfl rfl (by (try simp only [List.map_toArray, List.map_cons, List.map_nil]); first | done | rfl) ?_
      clear hHeld
      (with_reducible refine (line_First.calls z7 f _ _ (HM.out.below HB.out) HF3.out).mono ?_)
      rintro e W17 ⟨rfl, hb⟩
      replace BO := aM (bB BO.out hb)
      replace BP := aM (bB BP.out hb)
      replace BR := aM (bB BR.out hb)
      replace BX := aM (bB BX.out hb)
      replace HB := aM (bP HB.out hb)
      replace HD := aM (HD.out.below hb)
      replace HO := aM (Kd.R_below HO.out hb)
      replace HN := aM (Kd.R_below HN.out hb)
      replace HY := aM (Kd.R_below HY.out hb)
      replace BT := aM (bB BT.out hb)
      refine ⟨_, rfl, hK.out _ _ ⟨(bC BT.out 0).trans rfl, (bC BT.out 1).trans rfl, (bC BT.out 2).trans rfl, (bC BT.out 3).trans rfl, (bC BT.out 4).trans rfl, (bC BR.out 0).trans rfl⟩ (fun hHeld => ?_)⟩
      clear hK K hb
      refine norm_ (a' := ?_) ?_ ?_
      rotate_left
      · show Act.put _ (some 99) _ = _
        simp only [Act.put, List.setIfInBounds_toArray, List.set_cons_zero, List.set_cons_succ, i64_w, i32_w]
        rfl
      refine one_ (i := 6) (N := none) #[tT,tT,tT,tT,tT,tT,tT,tF,tF] rfl rfl (by kernel_rfl) (by decide) (fun K hK => ?_)
      have hs0 := (bC BP.out 0).trans (rfl : _ = some (Value.int .i64 a))
      have hf0 := bF BP.out 0
      have hs1 := (bC BP.out 1).trans (rfl : _ = some (Value.string ⟨#[]⟩))
      have hf1 := bF BP.out 1
      have hs2 := (bC BP.out 2).trans (rfl : _ = some (Value.slice none 0 0))
      have hf2 := bF BP.out 2
      have hs3 := (bC BP.out 3).trans (rfl : _ = some (Value.string ⟨#[]⟩))
      have hf3 := bF BP.out 3
      have hs4 := (bC BP.out 4).trans (rfl : _ = some (Value.slice none 0 0))
      have hf4 := bF BP.out 4
      refine skip_ (w1 := (((((W17.setCell ⟨gp, 0, none⟩ (.int .i64 z1)).setCell ⟨gp, 1, none⟩ (.string z2)).setCell ⟨gp, 2, none⟩ (.slice Ao z3.length co)).setCell ⟨gp, 3, none⟩ (.string z4)).setCell ⟨gp, 4, none⟩ (.slice An z5.length cn))) (by rfl) rfl ?_ ?_
      · first | (go_simp; done) | (go_simp; rfl)
      generalize hN : (((((W17.setCell ⟨gp, 0, none⟩ (.int .i64 z1)).setCell ⟨gp, 1, none⟩ (.string z2)).setCell ⟨gp, 2, none⟩ (.slice Ao z3.length co)).setCell ⟨gp, 3, none⟩ (.string z4)).setCell ⟨gp, 4, none⟩ (.slice An z5.length cn)) = W18
      have eN : W18 = putL W17 gp 0 [.int .i64 z1, .string z2, .slice Ao z3.length co, .string z4, .slice An z5.length cn] := by rw [← hN]; simp only [putL]
      have BO' := aM (show W18.heap[go]? = some (.cells #[.int .i64 0, .string ⟨#[]⟩, .slice none 0 0, .string ⟨#[]⟩, .slice none 0 0, .string ⟨#[]⟩, .slice none 0 0, .bool false, .bool false, .int .i64 0] 38 (0, 0)) from by rw [eN]; exact blk_sets_far Ngpgo.out.symm [.int .i64 z1, .string z2, .slice Ao z3.length co, .string z4, .slice An z5.length cn] 0 _ BO.out)
      have BP' := aM (show W18.heap[gp]? = some (.cells #[.int .i64 z1, .string z2, .slice Ao z3.length co, .string z4, .slice An z5.length cn, .string x1, .slice Ax x2.length cx, .bool true, .bool true, .int .i64 a] 38 (0, 0)) from by rw [eN, blk_sets [.int .i64 z1, .string z2, .slice Ao z3.length co, .string z4, .slice An z5.length cn] 0 _ _ BP.out]; simp only [setsL, List.setIfInBounds_toArray, List.set_cons_zero, List.set_cons_succ])
      have BR' := aM (show W18.heap[gr]? = some (.cells #[.int .i64 f, .int .i64 t, .bool true] 28 (0, 0)) from by rw [eN]; exact blk_sets_far Ngpgr.out.symm [.int .i64 z1, .string z2, .slice Ao z3.length co, .string z4, .slice An z5.length cn] 0 _ BR.out)
      have BX' := aM (show W18.heap[gx]? = some (.cells #[.string x1, .slice Ax x2.length cx] 24 (0, 0)) from by rw [eN]; exact blk_sets_far Ngpgx.out.symm [.int .i64 z1, .string z2, .slice Ao z3.length co, .string z4, .slice An z5.length cn] 0 _ BX.out)
      have HB' := aM (show Below w.heap.size w W18 from by rw [eN]; exact below_sets Ggp.out [.int .i64 z1, .string z2, .slice Ao z3.length co, .string z4, .slice An z5.length cn] 0 _ HB.out)
      have HD' := aM (show DeskAt w0 g A c ov W18 s l v y d0 from by rw [eN]; exact DeskAt.others (by decide) (by decide) (Nat.le_trans HS.out Ggp.out) [.int .i64 z1, .string z2, .slice Ao z3.length co, .string z4, .slice An z5.length cn] 0 _ _ BP.out HD.out)
      have HO' := aM (show Kd.R k68 68 W18 w.heap.size (fun k_ => some k_ ≠ ((.slice An z5.length cn : Value) : Value).ownBlock ∧ some k_ ≠ (.slice Ax x2.length cx : Value).ownBlock) (.slice Ao z3.length co : Value) z3 from by rw [eN]; exact R_sets (by decide) [.int .i64 z1, .string z2, .slice Ao z3.length co, .string z4, .slice An z5.length cn] 0 _ _ BP.out HO.out)
      have HN' := aM (show Kd.R k68 68 W18 w.heap.size (fun k_ => some k_ ≠ ((.slice Ao z3.length co : Value) : Value).ownBlock ∧ some k_ ≠ (.slice Ax x2.length cx : Value).ownBlock) (.slice An z5.length cn : Value) z5 from by rw [eN]; exact R_sets (by decide) [.int .i64 z1, .string z2, .slice Ao z3.length co, .string z4, .slice An z5.length cn] 0 _ _ BP.out HN.out)
      have HY' := aM (show Kd.R k68 68 W18 w.heap.size (fun k_ => some k_ ≠ ((.slice Ao z3.length co : Value) : Value).ownBlock ∧ some k_ ≠ ((.slice An z5.length cn : Value) : Value).ownBlock) (.slice Ax x2.length cx : Value) x2 from by rw [eN]; exact R_sets (by decide) [.int .i64 z1, .string z2, .slice Ao z3.length co, .string z4, .slice An z5.length cn] 0 _ _ BP.out HY.out)
      have BT' := aM (show W18.heap[gt]? = some (.cells #[.int .i64 z1, .string z2, .slice Ao z3.length co, .string z4, .slice An z5.length cn] 36 (0, 0)) from by rw [eN]; exact blk_sets_far Ngtgp.out [.int .i64 z1, .string z2, .slice Ao z3.length co, .string z4, .slice An z5.length cn] 0 _ BT.out)
      clear hN eN hHeld hs0 hf0 hs1 hf1 hs2 hf2 hs3 hf3 hs4 hf4 BO BP BR BX HB HD HO HN HY BT
      have BO := BO'
      have BP := BP'
      have BR := BR'
      have BX := BX'
      have HB := HB'
      have HD := HD'
      have HO := HO'
      have HN := HN'
      have HY := HY'
      have BT := BT'
      clear BO' BP' BR' BX' HB' HD' HO' HN' HY' BT'
      refine hK.out _ _ ⟨(bC BT.out 0).trans rfl, (bC BT.out 1).trans rfl, (bC BT.out 2).trans rfl, (bC BT.out 3).trans rfl, (bC BT.out 4).trans rfl, (bC BR.out 0).trans rfl⟩ (fun hHeld => ?_)
      clear hK K
      refine sv 7 101 #[tT,tT,tT,tT,tT,tT,tT,tT,tF] ?_
      refine one_ (i := 8) (N := none) #[tT,tT,tT,tT,tT,tT,tT,tT,tT] rfl rfl (by kernel_rfl) (by decide) (fun K hK => ?_)
      have hs0 := (bC BP.out 9).trans (rfl : _ = some (Value.int .i64 a))
      have hf0 := bF BP.out 9
      refine skip_ (w1 := (W18.setCell ⟨gp, 9, none⟩ (.int .i64 (firstS z7 f : Int)))) (by rfl) rfl ?_ ?_
      · first | (go_simp; done) | (go_simp; rfl)
      generalize hN : (W18.setCell ⟨gp, 9, none⟩ (.int .i64 (firstS z7 f : Int))) = W19
      have eN : W19 = putL W18 gp 9 [.int .i64 (firstS z7 f : Int)] := by rw [← hN]; simp only [putL]
      have BO' := aM (show W19.heap[go]? = some (.cells #[.int .i64 0, .string ⟨#[]⟩, .slice none 0 0, .string ⟨#[]⟩, .slice none 0 0, .string ⟨#[]⟩, .slice none 0 0, .bool false, .bool false, .int .i64 0] 38 (0, 0)) from by rw [eN]; exact blk_sets_far Ngpgo.out.symm [.int .i64 (firstS z7 f : Int)] 9 _ BO.out)
      have BP' := aM (show W19.heap[gp]? = some (.cells #[.int .i64 z1, .string z2, .slice Ao z3.length co, .string z4, .slice An z5.length cn, .string x1, .slice Ax x2.length cx, .bool true, .bool true, .int .i64 (firstS z7 f : Int)] 38 (0, 0)) from by rw [eN, blk_sets [.int .i64 (firstS z7 f : Int)] 9 _ _ BP.out]; simp only [setsL, List.setIfInBounds_toArray, List.set_cons_zero, List.set_cons_succ])
      have BR' := aM (show W19.heap[gr]? = some (.cells #[.int .i64 f, .int .i64 t, .bool true] 28 (0, 0)) from by rw [eN]; exact blk_sets_far Ngpgr.out.symm [.int .i64 (firstS z7 f : Int)] 9 _ BR.out)
      have BX' := aM (show W19.heap[gx]? = some (.cells #[.string x1, .slice Ax x2.length cx] 24 (0, 0)) from by rw [eN]; exact blk_sets_far Ngpgx.out.symm [.int .i64 (firstS z7 f : Int)] 9 _ BX.out)
      have HB' := aM (show Below w.heap.size w W19 from by rw [eN]; exact below_sets Ggp.out [.int .i64 (firstS z7 f : Int)] 9 _ HB.out)
      have HD' := aM (show DeskAt w0 g A c ov W19 s l v y d0 from by rw [eN]; exact DeskAt.others (by decide) (by decide) (Nat.le_trans HS.out Ggp.out) [.int .i64 (firstS z7 f : Int)] 9 _ _ BP.out HD.out)
      have HO' := aM (show Kd.R k68 68 W19 w.heap.size (fun k_ => some k_ ≠ ((.slice An z5.length cn : Value) : Value).ownBlock ∧ some k_ ≠ (.slice Ax x2.length cx : Value).ownBlock) (.slice Ao z3.length co : Value) z3 from by rw [eN]; exact R_sets (by decide) [.int .i64 (firstS z7 f : Int)] 9 _ _ BP.out HO.out)
      have HN' := aM (show Kd.R k68 68 W19 w.heap.size (fun k_ => some k_ ≠ ((.slice Ao z3.length co : Value) : Value).ownBlock ∧ some k_ ≠ (.slice Ax x2.length cx : Value).ownBlock) (.slice An z5.length cn : Value) z5 from by rw [eN]; exact R_sets (by decide) [.int .i64 (firstS z7 f : Int)] 9 _ _ BP.out HN.out)
      have HY' := aM (show Kd.R k68 68 W19 w.heap.size (fun k_ => some k_ ≠ ((.slice Ao z3.length co : Value) : Value).ownBlock ∧ some k_ ≠ ((.slice An z5.length cn : Value) : Value).ownBlock) (.slice Ax x2.length cx : Value) x2 from by rw [eN]; exact R_sets (by decide) [.int .i64 (firstS z7 f : Int)] 9 _ _ BP.out HY.out)
      have BT' := aM (show W19.heap[gt]? = some (.cells #[.int .i64 z1, .string z2, .slice Ao z3.length co, .string z4, .slice An z5.length cn] 36 (0, 0)) from by rw [eN]; exact blk_sets_far Ngtgp.out [.int .i64 (firstS z7 f : Int)] 9 _ BT.out)
      clear hN eN hHeld hs0 hf0 BO BP BR BX HB HD HO HN HY BT
      have BO := BO'
      have BP := BP'
      have BR := BR'
      have BX := BX'
      have HB := HB'
      have HD := HD'
      have HO := HO'
      have HN := HN'
      have HY := HY'
      have BT := BT'
      clear BO' BP' BR' BX' HB' HD' HO' HN' HY' BT'
      refine hK.out _ _ ⟨(bC BT.out 0).trans rfl, (bC BT.out 1).trans rfl, (bC BT.out 2).trans rfl, (bC BT.out 3).trans rfl, (bC BT.out 4).trans rfl, (bC BR.out 0).trans rfl⟩ (fun hHeld => ?_)
      clear hK K
      refine done_ (by kernel_rfl) ?_
      clear hHeld
      replace hp0 := (bC BP.out 0).trans (rfl : _ = some (Value.int .i64 z1))
      replace hp1 := (bC BP.out 1).trans (rfl : _ = some (Value.string z2))
      replace hp2 := (bC BP.out 2).trans (rfl : _ = some (Value.slice Ao z3.length co))
      replace hp3 := (bC BP.out 3).trans (rfl : _ = some (Value.string z4))
      replace hp4 := (bC BP.out 4).trans (rfl : _ = some (Value.slice An z5.length cn))
      replace hp5 := (bC BP.out 5).trans (rfl : _ = some (Value.string x1))
      replace hp6 := (bC BP.out 6).trans (rfl : _ = some (Value.slice Ax x2.length cx))
      replace hp7 := (bC BP.out 7).trans (rfl : _ = some (Value.bool true))
      replace hp8 := (bC BP.out 8).trans (rfl : _ = some (Value.bool true))
      replace hp9 := (bC BP.out 9).trans (rfl : _ = some (Value.int .i64 (firstS z7 f : Int)))
      replace ho0 := (bC BO.out 0).trans (rfl : _ = some (Value.int .i64 0))
      replace ho1 := (bC BO.out 1).trans (rfl : _ = some (Value.string ⟨#[]⟩))
      replace ho2 := (bC BO.out 2).trans (rfl : _ = some (Value.slice none 0 0))
      replace ho3 := (bC BO.out 3).trans (rfl : _ = some (Value.string ⟨#[]⟩))
      replace ho4 := (bC BO.out 4).trans (rfl : _ = some (Value.slice none 0 0))
      replace ho5 := (bC BO.out 5).trans (rfl : _ = some (Value.string ⟨#[]⟩))
      replace ho6 := (bC BO.out 6).trans (rfl : _ = some (Value.slice none 0 0))
      replace ho7 := (bC BO.out 7).trans (rfl : _ = some (Value.bool false))
      replace ho8 := (bC BO.out 8).trans (rfl : _ = some (Value.bool false))
      replace ho9 := (bC BO.out 9).trans (rfl : _ = some (Value.int .i64 0))
      replace hp0f := bF BP.out 0
      replace hp1f := bF BP.out 1
      replace hp2f := bF BP.out 2
      replace hp3f := bF BP.out 3
      replace hp4f := bF BP.out 4
      replace hp5f := bF BP.out 5
      replace hp6f := bF BP.out 6
      replace hp7f := bF BP.out 7
      replace hp8f := bF BP.out 8
      replace hp9f := bF BP.out 9
      replace ho0f := bF BO.out 0
      replace ho1f := bF BO.out 1
      replace ho2f := bF BO.out 2
      replace ho3f := bF BO.out 3
      replace ho4f := bF BO.out 4
      replace ho5f := bF BO.out 5
      replace ho6f := bF BO.out 6
      replace ho7f := bF BO.out 7
      replace ho8f := bF BO.out 8
      replace ho9f := bF BO.out 9
      go_wp2
      generalize hN : ((((((((((W19.setCell ⟨go, 0, none⟩ (.int .i64 z1)).setCell ⟨go, 1, none⟩ (.string z2)).setCell ⟨go, 2, none⟩ (.slice Ao z3.length co)).setCell ⟨go, 3, none⟩ (.string z4)).setCell ⟨go, 4, none⟩ (.slice An z5.length cn)).setCell ⟨go, 5, none⟩ (.string x1)).setCell ⟨go, 6, none⟩ (.slice Ax x2.length cx)).setCell ⟨go, 7, none⟩ (.bool true)).setCell ⟨go, 8, none⟩ (.bool true)).setCell ⟨go, 9, none⟩ (.int .i64 (firstS z7 f : Int))) = W20
      have eN : W20 = putL W19 go 0 [.int .i64 z1, .string z2, .slice Ao z3.length co, .string z4, .slice An z5.length cn, .string x1, .slice Ax x2.length cx, .bool true, .bool true, .int .i64 (firstS z7 f : Int)] := by rw [← hN]; simp only [putL]
      have BO' := aM (show W20.heap[go]? = some (.cells #[.int .i64 z1, .string z2, .slice Ao z3.length co, .string z4, .slice An z5.length cn, .string x1, .slice Ax x2.length cx, .bool true, .bool true, .int .i64 (firstS z7 f : Int)] 38 (0, 0)) from by rw [eN, blk_sets [.int .i64 z1, .string z2, .slice Ao z3.length co, .string z4, .slice An z5.length cn, .string x1, .slice Ax x2.length cx, .bool true, .bool true, .int .i64 (firstS z7 f : Int)] 0 _ _ BO.out]; simp only [setsL, List.setIfInBounds_toArray, List.set_cons_zero, List.set_cons_succ])
      have BP' := aM (show W20.heap[gp]? = some (.cells #[.int .i64 z1, .string z2, .slice Ao z3.length co, .string z4, .slice An z5.length cn, .string x1, .slice Ax x2.length cx, .bool true, .bool true, .int .i64 (firstS z7 f : Int)] 38 (0, 0)) from by rw [eN]; exact blk_sets_far Ngpgo.out [.int .i64 z1, .string z2, .slice Ao z3.length co, .string z4, .slice An z5.length cn, .string x1, .slice Ax x2.length cx, .bool true, .bool true, .int .i64 (firstS z7 f : Int)] 0 _ BP.out)
      have BR' := aM (show W20.heap[gr]? = some (.cells #[.int .i64 f, .int .i64 t, .bool true] 28 (0, 0)) from by rw [eN]; exact blk_sets_far Ngogr.out.symm [.int .i64 z1, .string z2, .slice Ao z3.length co, .string z4, .slice An z5.length cn, .string x1, .slice Ax x2.length cx, .bool true, .bool true, .int .i64 (firstS z7 f : Int)] 0 _ BR.out)
      have BX' := aM (show W20.heap[gx]? = some (.cells #[.string x1, .slice Ax x2.length cx] 24 (0, 0)) from by rw [eN]; exact blk_sets_far Ngxgo.out [.int .i64 z1, .string z2, .slice Ao z3.length co, .string z4, .slice An z5.length cn, .string x1, .slice Ax x2.length cx, .bool true, .bool true, .int .i64 (firstS z7 f : Int)] 0 _ BX.out)
      have HB' := aM (show Below w.heap.size w W20 from by rw [eN]; exact below_sets Ggo.out [.int .i64 z1, .string z2, .slice Ao z3.length co, .string z4, .slice An z5.length cn, .string x1, .slice Ax x2.length cx, .bool true, .bool true, .int .i64 (firstS z7 f : Int)] 0 _ HB.out)
      have HD' := aM (show DeskAt w0 g A c ov W20 s l v y d0 from by rw [eN]; exact DeskAt.others (by decide) (by decide) (Nat.le_trans HS.out Ggo.out) [.int .i64 z1, .string z2, .slice Ao z3.length co, .string z4, .slice An z5.length cn, .string x1, .slice Ax x2.length cx, .bool true, .bool true, .int .i64 (firstS z7 f : Int)] 0 _ _ BO.out HD.out)
      have HO' := aM (show Kd.R k68 68 W20 w.heap.size (fun k_ => some k_ ≠ ((.slice An z5.length cn : Value) : Value).ownBlock ∧ some k_ ≠ (.slice Ax x2.length cx : Value).ownBlock) (.slice Ao z3.length co : Value) z3 from by rw [eN]; exact R_sets (by decide) [.int .i64 z1, .string z2, .slice Ao z3.length co, .string z4, .slice An z5.length cn, .string x1, .slice Ax x2.length cx, .bool true, .bool true, .int .i64 (firstS z7 f : Int)] 0 _ _ BO.out HO.out)
      have HN' := aM (show Kd.R k68 68 W20 w.heap.size (fun k_ => some k_ ≠ ((.slice Ao z3.length co : Value) : Value).ownBlock ∧ some k_ ≠ (.slice Ax x2.length cx : Value).ownBlock) (.slice An z5.length cn : Value) z5 from by rw [eN]; exact R_sets (by decide) [.int .i64 z1, .string z2, .slice Ao z3.length co, .string z4, .slice An z5.length cn, .string x1, .slice Ax x2.length cx, .bool true, .bool true, .int .i64 (firstS z7 f : Int)] 0 _ _ BO.out HN.out)
      have HY' := aM (show Kd.R k68 68 W20 w.heap.size (fun k_ => some k_ ≠ ((.slice Ao z3.length co : Value) : Value).ownBlock ∧ some k_ ≠ ((.slice An z5.length cn : Value) : Value).ownBlock) (.slice Ax x2.length cx : Value) x2 from by rw [eN]; exact R_sets (by decide) [.int .i64 z1, .string z2, .slice Ao z3.length co, .string z4, .slice An z5.length cn, .string x1, .slice Ax x2.length cx, .bool true, .bool true, .int .i64 (firstS z7 f : Int)] 0 _ _ BO.out HY.out)
      have BT' := aM (show W20.heap[gt]? = some (.cells #[.int .i64 z1, .string z2, .slice Ao z3.length co, .string z4, .slice An z5.length cn] 36 (0, 0)) from by rw [eN]; exact blk_sets_far Ngtgo.out [.int .i64 z1, .string z2, .slice Ao z3.length co, .string z4, .slice An z5.length cn, .string x1, .slice Ax x2.length cx, .bool true, .bool true, .int .i64 (firstS z7 f : Int)] 0 _ BT.out)
      clear hN eN  BO BP BR BX HB HD HO HN HY BT hp0 hp1 hp2 hp3 hp4 hp5 hp6 hp7 hp8 hp9 ho0 ho1 ho2 ho3 ho4 ho5 ho6 ho7 ho8 ho9 hp0f hp1f hp2f hp3f hp4f hp5f hp6f hp7f hp8f hp9f ho0f ho1f ho2f ho3f ho4f ho5f ho6f ho7f ho8f ho9f
      have BO := BO'
      have BP := BP'
      have BR := BR'
      have BX := BX'
      have HB := HB'
      have HD := HD'
      have HO := HO'
      have HN := HN'
      have HY := HY'
      have BT := BT'
      clear BO' BP' BR' BX' HB' HD' HO' HN' HY' BT'
      refine bodyPost_ret (results_ct rfl _ _ go 38 #[.int .i64 z1, .string z2, .slice Ao z3.length co, .string z4, .slice An z5.length cn, .string x1, .slice Ax x2.length cx, .bool true, .bool true, .int .i64 (firstS z7 f : Int)] (0, 0) _ rfl BO.out Tryz.underlying38 rfl (by kernel_rfl)) rfl ?_
      exact ⟨_, _, _, rfl, HO.out, HN.out, HY.out, HB.out⟩
    · have b2 : (op == 100) = false := beq_eq_false_iff_ne.2 h2
      rw [if_neg (fun hh => h2 hh.1)] at hR
      subst hR
      replace hr2 := (bC BR.out 2).trans (rfl : _ = some (Value.bool true))
      go_wp2_with (first
        | ((with_reducible refine gate_callee (f := 50) rfl ?_); refine goesL_ (some 59) rfl rfl Tryz.func50 (by kernel_rfl) rfl #[.pointer (some ⟨g, 0, none⟩), .int .i64 a, .int .i64 b] rfl (by (try simp only [List.map_toArray, List.map_cons, List.map_nil]); first | done | rfl) ?_; (with_reducible refine (turn_at HD.out a b HU.out).mono ?_); rintro e W11 ⟨vo, vn, rfl, ho, hn, hb⟩; have HO := aM (rL (Kd.R_new' ho (Kd.R_lt HX.out)) HB.out.size); have HN := aM (rL (Kd.R_new' hn (Kd.R_lt HX.out)) HB.out.size); have HY := aM (R_elder2 HX.out (Kd.R_base ho) (Kd.R_base hn) hb); clear HX; replace BO := aM (bB BO.out hb); replace BP := aM (bB BP.out hb); replace BR := aM (bB BR.out hb); replace BX := aM (bB BX.out hb); replace HB := aM (bP HB.out hb); replace HD := aM (HD.out.below hb); clear ho hn; refine ⟨_, rfl, ?_⟩; clear hb; replace hp0 := (bC BP.out 0).trans (rfl : _ = some (Value.int .i64 a)); replace hp1 := (bC BP.out 1).trans (rfl : _ = some (Value.string ⟨#[]⟩)); replace hp2 := (bC BP.out 2).trans (rfl : _ = some (Value.slice none 0 0)); replace hp3 := (bC BP.out 3).trans (rfl : _ = some (Value.string ⟨#[]⟩)); replace hp4 := (bC BP.out 4).trans (rfl : _ = some (Value.slice none 0 0)); replace hp5 := (bC BP.out 5).trans (rfl : _ = some (Value.string x1)); replace hp6 := (bC BP.out 6).trans (rfl : _ = some (Value.slice Ax x2.length cx)); replace hp7 := (bC BP.out 7).trans (rfl : _ = some (Value.bool true)); replace hp8 := (bC BP.out 8).trans (rfl : _ = some (Value.bool true)); replace hp9 := (bC BP.out 9).trans (rfl : _ = some (Value.int .i64 a)); replace ho0 := (bC BO.out 0).trans (rfl : _ = some (Value.int .i64 0)); replace ho1 := (bC BO.out 1).trans (rfl : _ = some (Value.string ⟨#[]⟩)); replace ho2 := (bC BO.out 2).trans (rfl : _ = some (Value.slice none 0 0)); replace ho3 := (bC BO.out 3).trans (rfl : _ = some (Value.string ⟨#[]⟩)); replace ho4 := (bC BO.out 4).trans (rfl : _ = some (Value.slice none 0 0)); replace ho5 := (bC BO.out 5).trans (rfl : _ = some (Value.string ⟨#[]⟩)); replace ho6 := (bC BO.out 6).trans (rfl : _ = some (Value.slice none 0 0)); replace ho7 := (bC BO.out 7).trans (rfl : _ = some (Value.bool false)); replace ho8 := (bC BO.out 8).trans (rfl : _ = some (Value.bool false)); replace ho9 := (bC BO.out 9).trans (rfl : _ = some (Value.int .i64 0)); replace hp0f := bF BP.out 0; replace hp1f := bF BP.out 1; replace hp2f := bF BP.out 2; replace hp3f := bF BP.out 3; replace hp4f := bF BP.out 4; replace hp5f := bF BP.out 5; replace hp6f := bF BP.out 6; replace hp7f := bF BP.out 7; replace hp8f := bF BP.out 8; replace hp9f := bF BP.out 9; replace ho0f := bF BO.out 0; replace ho1f := bF BO.out 1; replace ho2f := bF BO.out 2; replace ho3f := bF BO.out 3; replace ho4f := bF BO.out 4; replace ho5f := bF BO.out 5; replace ho6f := bF BO.out 6; replace ho7f := bF BO.out 7; replace ho8f := bF BO.out 8; replace ho9f := bF BO.out 9; obtain ⟨Ao, co, rfl⟩ := Kd.R_slice HO.out; obtain ⟨An, cn, rfl⟩ := Kd.R_slice HN.out; have hgn := Ngpgo.out.symm; have hgn2 := hgn.symm)
        )
      generalize hN : (((((W11.setCell ⟨gp, 0, none⟩ (.int .i64 u1)).setCell ⟨gp, 1, none⟩ (.string u2)).setCell ⟨gp, 2, none⟩ (.slice Ao u3.length co)).setCell ⟨gp, 3, none⟩ (.string u4)).setCell ⟨gp, 4, none⟩ (.slice An u5.length cn)) = W12
      have eN : W12 = putL W11 gp 0 [.int .i64 u1, .string u2, .slice Ao u3.length co, .string u4, .slice An u5.length cn] := by rw [← hN]; simp only [putL]
      have BO' := aM (show W12.heap[go]? = some (.cells #[.int .i64 0, .string ⟨#[]⟩, .slice none 0 0, .string ⟨#[]⟩, .slice none 0 0, .string ⟨#[]⟩, .slice none 0 0, .bool false, .bool false, .int .i64 0] 38 (0, 0)) from by rw [eN]; exact blk_sets_far Ngpgo.out.symm [.int .i64 u1, .string u2, .slice Ao u3.length co, .string u4, .slice An u5.length cn] 0 _ BO.out)
      have BP' := aM (show W12.heap[gp]? = some (.cells #[.int .i64 u1, .string u2, .slice Ao u3.length co, .string u4, .slice An u5.length cn, .string x1, .slice Ax x2.length cx, .bool true, .bool true, .int .i64 a] 38 (0, 0)) from by rw [eN, blk_sets [.int .i64 u1, .string u2, .slice Ao u3.length co, .string u4, .slice An u5.length cn] 0 _ _ BP.out]; simp only [setsL, List.setIfInBounds_toArray, List.set_cons_zero, List.set_cons_succ])
      have BR' := aM (show W12.heap[gr]? = some (.cells #[.int .i64 f, .int .i64 t, .bool true] 28 (0, 0)) from by rw [eN]; exact blk_sets_far Ngpgr.out.symm [.int .i64 u1, .string u2, .slice Ao u3.length co, .string u4, .slice An u5.length cn] 0 _ BR.out)
      have BX' := aM (show W12.heap[gx]? = some (.cells #[.string x1, .slice Ax x2.length cx] 24 (0, 0)) from by rw [eN]; exact blk_sets_far Ngpgx.out.symm [.int .i64 u1, .string u2, .slice Ao u3.length co, .string u4, .slice An u5.length cn] 0 _ BX.out)
      have HB' := aM (show Below w.heap.size w W12 from by rw [eN]; exact below_sets Ggp.out [.int .i64 u1, .string u2, .slice Ao u3.length co, .string u4, .slice An u5.length cn] 0 _ HB.out)
      have HD' := aM (show DeskAt w0 g A c ov W12 s l v y d0 from by rw [eN]; exact DeskAt.others (by decide) (by decide) (Nat.le_trans HS.out Ggp.out) [.int .i64 u1, .string u2, .slice Ao u3.length co, .string u4, .slice An u5.length cn] 0 _ _ BP.out HD.out)
      have HO' := aM (show Kd.R k68 68 W12 w.heap.size (fun k_ => some k_ ≠ ((.slice An u5.length cn : Value) : Value).ownBlock ∧ some k_ ≠ (.slice Ax x2.length cx : Value).ownBlock) (.slice Ao u3.length co : Value) u3 from by rw [eN]; exact R_sets (by decide) [.int .i64 u1, .string u2, .slice Ao u3.length co, .string u4, .slice An u5.length cn] 0 _ _ BP.out HO.out)
      have HN' := aM (show Kd.R k68 68 W12 w.heap.size (fun k_ => some k_ ≠ ((.slice Ao u3.length co : Value) : Value).ownBlock ∧ some k_ ≠ (.slice Ax x2.length cx : Value).ownBlock) (.slice An u5.length cn : Value) u5 from by rw [eN]; exact R_sets (by decide) [.int .i64 u1, .string u2, .slice Ao u3.length co, .string u4, .slice An u5.length cn] 0 _ _ BP.out HN.out)
      have HY' := aM (show Kd.R k68 68 W12 w.heap.size (fun k_ => some k_ ≠ ((.slice Ao u3.length co : Value) : Value).ownBlock ∧ some k_ ≠ ((.slice An u5.length cn : Value) : Value).ownBlock) (.slice Ax x2.length cx : Value) x2 from by rw [eN]; exact R_sets (by decide) [.int .i64 u1, .string u2, .slice Ao u3.length co, .string u4, .slice An u5.length cn] 0 _ _ BP.out HY.out)
      clear hN eN  BO BP BR BX HB HD HO HN HY hp0 hp1 hp2 hp3 hp4 hp5 hp6 hp7 hp8 hp9 ho0 ho1 ho2 ho3 ho4 ho5 ho6 ho7 ho8 ho9 hp0f hp1f hp2f hp3f hp4f hp5f hp6f hp7f hp8f hp9f ho0f ho1f ho2f ho3f ho4f ho5f ho6f ho7f ho8f ho9f
      have BO := BO'
      have BP := BP'
      have BR := BR'
      have BX := BX'
      have HB := HB'
      have HD := HD'
      have HO := HO'
      have HN := HN'
      have HY := HY'
      clear BO' BP' BR' BX' HB' HD' HO' HN' HY'
      generalize hN : ((((((((((W12.setCell ⟨go, 0, none⟩ (.int .i64 u1)).setCell ⟨go, 1, none⟩ (.string u2)).setCell ⟨go, 2, none⟩ (.slice Ao u3.length co)).setCell ⟨go, 3, none⟩ (.string u4)).setCell ⟨go, 4, none⟩ (.slice An u5.length cn)).setCell ⟨go, 5, none⟩ (.string x1)).setCell ⟨go, 6, none⟩ (.slice Ax x2.length cx)).setCell ⟨go, 7, none⟩ (.bool true)).setCell ⟨go, 8, none⟩ (.bool true)).setCell ⟨go, 9, none⟩ (.int .i64 a)) = W13
      have eN : W13 = putL W12 go 0 [.int .i64 u1, .string u2, .slice Ao u3.length co, .string u4, .slice An u5.length cn, .string x1, .slice Ax x2.length cx, .bool true, .bool true, .int .i64 a] := by rw [← hN]; simp only [putL]
      have BO' := aM (show W13.heap[go]? = some (.cells #[.int .i64 u1, .string u2, .slice Ao u3.length co, .string u4, .slice An u5.length cn, .string x1, .slice Ax x2.length cx, .bool true, .bool true, .int .i64 a] 38 (0, 0)) from by rw [eN, blk_sets [.int .i64 u1, .string u2, .slice Ao u3.length co, .string u4, .slice An u5.length cn, .string x1, .slice Ax x2.length cx, .bool true, .bool true, .int .i64 a] 0 _ _ BO.out]; simp only [setsL, List.setIfInBounds_toArray, List.set_cons_zero, List.set_cons_succ])
      have BP' := aM (show W13.heap[gp]? = some (.cells #[.int .i64 u1, .string u2, .slice Ao u3.length co, .string u4, .slice An u5.length cn, .string x1, .slice Ax x2.length cx, .bool true, .bool true, .int .i64 a] 38 (0, 0)) from by rw [eN]; exact blk_sets_far Ngpgo.out [.int .i64 u1, .string u2, .slice Ao u3.length co, .string u4, .slice An u5.length cn, .string x1, .slice Ax x2.length cx, .bool true, .bool true, .int .i64 a] 0 _ BP.out)
      have BR' := aM (show W13.heap[gr]? = some (.cells #[.int .i64 f, .int .i64 t, .bool true] 28 (0, 0)) from by rw [eN]; exact blk_sets_far Ngogr.out.symm [.int .i64 u1, .string u2, .slice Ao u3.length co, .string u4, .slice An u5.length cn, .string x1, .slice Ax x2.length cx, .bool true, .bool true, .int .i64 a] 0 _ BR.out)
      have BX' := aM (show W13.heap[gx]? = some (.cells #[.string x1, .slice Ax x2.length cx] 24 (0, 0)) from by rw [eN]; exact blk_sets_far Ngxgo.out [.int .i64 u1, .string u2, .slice Ao u3.length co, .string u4, .slice An u5.length cn, .string x1, .slice Ax x2.length cx, .bool true, .bool true, .int .i64 a] 0 _ BX.out)
      have HB' := aM (show Below w.heap.size w W13 from by rw [eN]; exact below_sets Ggo.out [.int .i64 u1, .string u2, .slice Ao u3.length co, .string u4, .slice An u5.length cn, .string x1, .slice Ax x2.length cx, .bool true, .bool true, .int .i64 a] 0 _ HB.out)
      have HD' := aM (show DeskAt w0 g A c ov W13 s l v y d0 from by rw [eN]; exact DeskAt.others (by decide) (by decide) (Nat.le_trans HS.out Ggo.out) [.int .i64 u1, .string u2, .slice Ao u3.length co, .string u4, .slice An u5.length cn, .string x1, .slice Ax x2.length cx, .bool true, .bool true, .int .i64 a] 0 _ _ BO.out HD.out)
      have HO' := aM (show Kd.R k68 68 W13 w.heap.size (fun k_ => some k_ ≠ ((.slice An u5.length cn : Value) : Value).ownBlock ∧ some k_ ≠ (.slice Ax x2.length cx : Value).ownBlock) (.slice Ao u3.length co : Value) u3 from by rw [eN]; exact R_sets (by decide) [.int .i64 u1, .string u2, .slice Ao u3.length co, .string u4, .slice An u5.length cn, .string x1, .slice Ax x2.length cx, .bool true, .bool true, .int .i64 a] 0 _ _ BO.out HO.out)
      have HN' := aM (show Kd.R k68 68 W13 w.heap.size (fun k_ => some k_ ≠ ((.slice Ao u3.length co : Value) : Value).ownBlock ∧ some k_ ≠ (.slice Ax x2.length cx : Value).ownBlock) (.slice An u5.length cn : Value) u5 from by rw [eN]; exact R_sets (by decide) [.int .i64 u1, .string u2, .slice Ao u3.length co, .string u4, .slice An u5.length cn, .string x1, .slice Ax x2.length cx, .bool true, .bool true, .int .i64 a] 0 _ _ BO.out HN.out)
      have HY' := aM (show Kd.R k68 68 W13 w.heap.size (fun k_ => some k_ ≠ ((.slice Ao u3.length co : Value) : Value).ownBlock ∧ some k_ ≠ ((.slice An u5.length cn : Value) : Value).ownBlock) (.slice Ax x2.length cx : Value) x2 from by rw [eN]; exact R_sets (by decide) [.int .i64 u1, .string u2, .slice Ao u3.length co, .string u4, .slice An u5.length cn, .string x1, .slice Ax x2.length cx, .bool true, .bool true, .int .i64 a] 0 _ _ BO.out HY.out)
      clear hN eN  BO BP BR BX HB HD HO HN HY
      have BO := BO'
      have BP := BP'
      have BR := BR'
      have BX := BX'
      have HB := HB'
      have HD := HD'
      have HO := HO'
      have HN := HN'
      have HY := HY'
      clear BO' BP' BR' BX' HB' HD' HO' HN' HY'
      refine bodyPost_ret (results_ct rfl _ _ go 38 #[.int .i64 u1, .string u2, .slice Ao u3.length co, .string u4, .slice An u5.length cn, .string x1, .slice Ax x2.length cx, .bool true, .bool true, .int .i64 a] (0, 0) _ rfl BO.out Tryz.underlying38 rfl (by kernel_rfl)) rfl ?_
      exact ⟨_, _, _, rfl, HO.out, HN.out, HY.out, HB.out⟩
theorem take_ok (h : DeskAt w0 g A c ov w s l v y d0) (hv : v.size ≤ 100000) (hM : NumOk w) (op f t : Int) (ln : Bool) (hr : rightD v f t ln = true) :
    Calls Tryz.prog 31 #[.pointer (some ⟨g, 0, none⟩), .int .i32 op, .agg #[.int .i64 f, .int .i64 t, .bool ln]] w fun e w' => Out3 w w' e (takeD s l y v op f t ln) := by
  cases ln with
  | false => exact take_false h hv hM op f t hr
  | true => exact take_true h hv hM op f t
end
end Go.Proofs.YtjkfkiebhgkolaaGreatDoor.PB
end

section
namespace Go.Proofs.YtjkfkiebhgkolaaGreatDoor.PB
open Go.RowKit Go.Proofs.YtjkfkiebhgkolaaGreatDoorW.PrintWords
set_option linter.unusedVariables false
theorem trim_ok (s : ByteArray) (w : World) :
    Calls Tryz.prog 80 #[.string s, .string ⟨#[32, 9]⟩] w fun e w' => e = .returned (.string ⟨(Lib.trimLeftS s.data.toList [32, 9]).toArray⟩) ∧ Below w.heap.size w w' :=
  Go.Proofs.Any.strings_TrimLeft_laid Tryz.lays161 (by kernel_rfl) s ⟨#[32, 9]⟩ w (by decide) (fun j b h => by
    match j, h with
    | 0, h => cases h; decide
    | 1, h => cases h; decide
    | j + 2, h => cases h)
end Go.Proofs.YtjkfkiebhgkolaaGreatDoor.PB
end

section
namespace Go.Proofs.YtjkfkiebhgkolaaGreatDoor.PB
open Go.RowKit Go.Proofs.YtjkfkiebhgkolaaGreatDoorW.PrintWords
set_option linter.unusedVariables false
theorem right_facts {v : ByteArray} {f t : Int} {ln : Bool} (h : rightD v f t ln = true) : 0 ≤ f ∧ f ≤ t ∧ t ≤ (if ln = true then ((ends v).length : Int) - 1 else (v.size : Int)) := by
  simp only [rightD, Bool.and_eq_true, decide_eq_true_eq] at h
  exact h
theorem linesD_nat {v : ByteArray} {f t : Int} {ln : Bool} (h : rightD v f t ln = true) : ∃ a b : Nat, linesD v f t ln = ((a : Int), (b : Int)) ∧ a < (ends v).length ∧ b < (ends v).length := by
  have h1 := right_facts h
  cases ln with
  | true =>
    rw [if_pos rfl] at h1
    exact ⟨f.toNat, t.toNat, by rw [show linesD v f t true = (f, t) from rfl, Int.toNat_of_nonneg h1.1, Int.toNat_of_nonneg (by omega)], by omega, by omega⟩
  | false => exact ⟨_, _, rfl, ofL_lt v _, ofL_lt v _⟩
theorem spliceT_small (s : ByteArray) (l : List S68) (a b : Int) (x : ByteArray) (m : List S68) : (spliceT s l a b x m).1.size ≤ 4096 := by
  unfold spliceT
  split
  · rename_i hw
    split
    · split
      · exact Nat.zero_le _
      · rename_i hg hn
        have h1 := withinT_facts hw
        show (s.extract 0 a.toNat ++ x ++ s.extract b.toNat s.size).size ≤ _
        rw [ByteArray.size_append, ByteArray.size_append, ByteArray.size_extract, ByteArray.size_extract]
        omega
    · exact Nat.zero_le _
  · exact Nat.zero_le _
theorem addD_small {d : TX} {x : ByteArray} {m : List S68} (h : d.1.size ≤ 4096) : (addD d x m).1.size ≤ 4096 := by
  unfold addD
  split
  · exact spliceT_small _ _ _ _ _ _
  · exact h
theorem writeD_small {y : Int} {d : TX} {x : ByteArray} (h : d.1.size ≤ 4096) : (writeD y d x).1.size ≤ 4096 := addD_small h
theorem keepD_small {s : ByteArray} {l : List S68} {d : TX} {a b : Int} (h : d.1.size ≤ 4096) : (keepD s l d a b).1.size ≤ 4096 := addD_small h
theorem trim_size {v : ByteArray} {n : Nat} (h : n < (ends v).length) :
    (⟨(Lib.trimLeftS (v.extract (lineFrom v n) (lineTo v n)).data.toList [32, 9]).toArray⟩ : ByteArray).size + trimL v n = lineTo v n := by
  obtain ⟨h1, h2⟩ := line_range v n h
  have hv : v.data.toList.length = v.size := rfl
  have e : (v.extract (lineFrom v n) (lineTo v n)).data.toList = (v.data.toList.take (lineTo v n)).drop (lineFrom v n) := ext_list _ _ _
  show (Lib.trimLeftS _ _).length + _ = _
  rw [e]
  unfold trimL Lib.trimLeftS
  have e2 : (fun c : UInt8 => ([32, 9] : List UInt8).contains c) = (fun c => c == 32 || c == 9) := by
    funext c
    exact (congrArg ((c == 32) || ·) (Bool.or_false _))
  rw [e2]
  have h3 := congrArg List.length (List.takeWhile_append_dropWhile (p := fun c : UInt8 => c == 32 || c == 9) (l := (v.data.toList.take (lineTo v n)).drop (lineFrom v n)))
  rw [List.length_append, List.length_drop, List.length_take] at h3
  omega
theorem trimL_range {v : ByteArray} {n : Nat} (h : n < (ends v).length) : lineFrom v n ≤ trimL v n ∧ trimL v n ≤ lineTo v n := by
  have := trim_size h
  refine ⟨?_, by omega⟩
  unfold trimL
  omega
end Go.Proofs.YtjkfkiebhgkolaaGreatDoor.PB
end

section
namespace Go.Proofs.YtjkfkiebhgkolaaGreatDoor.PB
open Go.RowKit Go.Maps Go.Proofs.YtjkfkiebhgkolaaGreatDoorW.PrintWords Go.Proofs.YtjkfkiebhgkolaaGreatDoorW.PrintLast Go.Proofs.YtjkfkiebhgkolaaGreatDoorW.PrintMore
set_option maxRecDepth 100000
set_option linter.unusedVariables false
set_option linter.unusedSimpArgs false
attribute [local go_sem] max_two min_two
theorem Turn.sets {B gb : Nat} {S : Nat → Prop} {w : World} (hg : w.heap.size ≤ gb) (hB : B ≤ gb) : ∀ (vs : List Value) (n : Nat) (W : World), Turn B S w W → Turn B S w (putL W gb n vs)
  | [], _, _, h => h
  | v :: vs, n, W, h => Turn.sets hg hB vs (n + 1) _ (h.set (p := ⟨gb, n, none⟩) (.inr hg) hB v)
def Out4 (w0 : World) (g : Nat) (w w' : World) (e : Ending) (r : OX) : Prop := ∃ v2 v4 v6 : Value, e = .returned (.tuple #[.agg #[.int .i64 r.1, .string r.2.1, v2, .string r.2.2.2.1, v4, .string r.2.2.2.2.2.1, v6, .bool r.2.2.2.2.2.2.2.1, .bool r.2.2.2.2.2.2.2.2.1, .int .i64 r.2.2.2.2.2.2.2.2.2.1], .int .i64 r.2.2.2.2.2.2.2.2.2.2]) ∧
  Kd.R k68 68 w' w0.heap.size (fun k_ => some k_ ≠ (v4 : Value).ownBlock ∧ some k_ ≠ (v6 : Value).ownBlock) v2 r.2.2.1 ∧ Kd.R k68 68 w' w0.heap.size (fun k_ => some k_ ≠ (v2 : Value).ownBlock ∧ some k_ ≠ (v6 : Value).ownBlock) v4 r.2.2.2.2.1 ∧ Kd.R k68 68 w' w0.heap.size (fun k_ => some k_ ≠ (v2 : Value).ownBlock ∧ some k_ ≠ (v4 : Value).ownBlock) v6 r.2.2.2.2.2.2.1 ∧ Turn w0.heap.size (fun k => k = g) w w'
theorem Out3.four {w0 w w' : World} {e : Ending} {r : OX} (h : Out3 w w' e r) (hs : w0.heap.size ≤ w.heap.size) (g : Nat) : Out4 w0 g w w' e r := by
  obtain ⟨v2, v4, v6, h1, h2, h3, h4, h5⟩ := h
  exact ⟨v2, v4, v6, h1, rL h2 hs, rL h3 hs, rL h4 hs, Turn.of_below h5 hs⟩
theorem R_andnil {α : Type} {d : Kd α} {e base : Nat} {w : World} {u z : Value} {xs : List α} (h : d.R e w base (fun k => some k ≠ z.ownBlock) u xs) : d.R e w base (fun k => some k ≠ z.ownBlock ∧ some k ≠ (Value.slice none 0 0).ownBlock) u xs := rM h (fun k hk => ⟨hk, by simp [Value.ownBlock]⟩)
theorem wrap_small {x : Int} (h0 : 0 ≤ x) (h1 : x < 1000000000) : wrap64 x = x := by unfold wrap64; omega
theorem max_at (b a : Nat) : (if (b : Int) < (a : Int) then (a : Int) else (b : Int)) = ((max b a : Nat) : Int) := by
  split <;> omega
theorem trim_at (v : ByteArray) (n : Nat) (h : n < (ends v).length) : ∃ z : ByteArray, z.size + trimL v n = lineTo v n ∧ ∀ w : World, Calls Tryz.prog 80 #[.string (v.extract (lineFrom v n) (lineTo v n)), .string ⟨#[32, 9]⟩] w fun e w' => e = .returned (.string z) ∧ Below w.heap.size w w' :=
  ⟨_, trim_size h, fun w => trim_ok _ w⟩
section
variable {w0 : World} {g : Nat} {A : Option Addr} {c : Nat} {ov : Value} {w W : World} {s : ByteArray} {l : List S68} {v : ByteArray} {y : Int} {d : TX}
set_option maxHeartbeats 1000000 in
theorem join_ok (h : DeskAt w0 g A c ov w s l v y d0) (hv : v.size ≤ 100000) (f t : Int) (ln : Bool) (hr : rightD v f t ln = true) (ht : t ≤ 1000000) :
    Calls Tryz.prog 34 #[.pointer (some ⟨g, 0, none⟩), .agg #[.int .i64 f, .int .i64 t, .bool ln]] w fun e w' => Out4 w0 g w w' e (joinD s l y v f t ln) := by
  have HD := aM h
  have HS := aM h.size
  have HT := aM (Turn.refl w0.heap.size (fun k => k = g) w)
  have hrf := right_facts hr
  obtain ⟨a, b, hab, ha, hb0⟩ := linesD_nat hr
  have hnn := ends_len_le v
  have HCT := aM (count_ev v hv)
  unfold joinD
  rw [hab]
  dsimp only
  rw [Int.toNat_natCast, Int.toNat_natCast]
  obtain ⟨a1, ha1⟩ : ∃ a1 : Nat, a1 = a + 1 := ⟨_, rfl⟩
  rw [← ha1]
  obtain ⟨B, hB⟩ : ∃ B : Nat, B = max b a1 := ⟨_, rfl⟩
  rw [← hB]
  have E1 := aM (show wrap64 ((a : Int) + 1) = (a1 : Int) from by rw [ha1]; exact w1n (n := 200000) (by omega) (by omega))
  have HMM := aM (show Builtin.max2 (.int .i64 (b : Int)) (.int .i64 (a1 : Int)) = pure (.int .i64 (B : Int)) from by rw [max2_int, hB, max_at b a1])
  have HAB := aM hab
  have HTT := aM (show 0 ≤ t ∧ t ≤ 1000000 from ⟨by omega, ht⟩)
  have HN := aM hnn
  have HV := aM hv
  have HBB := aM (show a1 ≤ B ∧ B < 200000 ∧ a1 = a + 1 from ⟨by rw [hB]; omega, by rw [hB]; omega, ha1⟩)
  have HA := aM ha
  clear h hab hrf ht hnn hv hB ha1 hb0
  by_cases hc : (ends v).length ≤ B
  · rw [if_pos hc]
    have p1 : ((B : Int) ≥ ((ends v).length : Int)) = True := eq_true (by omega)
    have p2 : (((ends v).length : Int) ≤ (B : Int)) = True := eq_true (by omega)
    have p3 : ((ends v).length ≤ B) = True := eq_true hc
    have e1 := E1.out
    have hm := HMM.out
    go_enter Tryz.func34, Tryz.ntmps34
    go_wp2_with (first
      | ((with_reducible refine gate_dst (N := 3) rfl ?_); refine box_event ?hg (N := 3) ?hd (cs := #[.int .i64 f, .int .i64 t, .bool ln]) (t := 28) ?hr ?_; (case hd => rfl); (case hg => rfl); (case hr => first | (go_simp; done) | (go_simp; rfl)); intro gr hg W1 hbox hb; have Ggr := aM (show w.heap.size ≤ gr from by rw [hg]; exact HT.out.size); replace HT := aM (HT.out.below hb HD.out.size); replace HD := aM (HD.out.below hb); have BR := aM hbox; clear hb hbox hg)
      | ((with_reducible refine gate_dst (N := 4) rfl ?_); refine box_event ?hg (N := 4) ?hd (cs := #[.int .i64 0, .string ⟨#[]⟩, .slice none 0 0, .string ⟨#[]⟩, .slice none 0 0, .string ⟨#[]⟩, .slice none 0 0, .bool false, .bool false, .int .i64 0]) (t := 38) ?hr ?_; (case hd => rfl); (case hg => rfl); (case hr => first | (go_simp; done) | (go_simp; rfl)); intro go hg W2 hbox hb; have Ggo := aM (show w.heap.size ≤ go from by rw [hg]; exact HT.out.size); have Ngogr := aM (show go ≠ gr from by have := blk_lt BR.out; omega); replace HT := aM (HT.out.below hb HD.out.size); replace HD := aM (HD.out.below hb); replace BR := aM (bB BR.out hb); have BO := aM hbox; clear hb hbox hg; replace hr0 := (bC BR.out 0).trans (rfl : _ = some (Value.int .i64 f)); replace hr1 := (bC BR.out 1).trans (rfl : _ = some (Value.int .i64 t)); replace hr2 := (bC BR.out 2).trans (rfl : _ = some (Value.bool ln)))
      | ((with_reducible refine gate_callee (f := 78) rfl ?_); refine goesL_ (some 22) rfl rfl Tryz.func78 (by kernel_rfl) rfl #[.pointer (some ⟨g, 0, none⟩), .agg #[.int .i64 f, .int .i64 t, .bool ln]] rfl (by (try simp only [List.map_toArray, List.map_cons, List.map_nil]); first | done | rfl) ?_; (with_reducible refine (lines_ok HD.out f t HTT.out ln).mono ?_); rintro e W3 ⟨hE, hb⟩; replace HT := aM (HT.out.below hb HD.out.size); replace HD := aM (HD.out.below hb); replace BR := aM (bB BR.out hb); replace BO := aM (bB BO.out hb); rw [HAB.out] at hE; obtain rfl := hE; refine ⟨_, rfl, ?_⟩; clear hb; replace hd2 := (bC HD.out.hg 2).trans (rfl : _ = some (Value.string v)))
      | ((with_reducible refine gate_callee (f := 72) rfl ?_); refine goesL_ (some 34) rfl rfl Tryz.func72 (by kernel_rfl) rfl #[.string v] rfl (by (try simp only [List.map_toArray, List.map_cons, List.map_nil]); first | done | rfl) ?_; (with_reducible refine (line_Count.calls v _ _ HCT.out).mono ?_); rintro e W4 ⟨rfl, hb⟩; replace HT := aM (HT.out.below hb HD.out.size); replace HD := aM (HD.out.below hb); replace BR := aM (bB BR.out hb); replace BO := aM (bB BO.out hb); refine ⟨_, rfl, ?_⟩; clear hb; replace hd2 := (bC HD.out.hg 2).trans (rfl : _ = some (Value.string v)); replace ho0 := (bC BO.out 0).trans (rfl : _ = some (Value.int .i64 0)); replace ho1 := (bC BO.out 1).trans (rfl : _ = some (Value.string ⟨#[]⟩)); replace ho2 := (bC BO.out 2).trans (rfl : _ = some (Value.slice none 0 0)); replace ho3 := (bC BO.out 3).trans (rfl : _ = some (Value.string ⟨#[]⟩)); replace ho4 := (bC BO.out 4).trans (rfl : _ = some (Value.slice none 0 0)); replace ho5 := (bC BO.out 5).trans (rfl : _ = some (Value.string ⟨#[]⟩)); replace ho6 := (bC BO.out 6).trans (rfl : _ = some (Value.slice none 0 0)); replace ho7 := (bC BO.out 7).trans (rfl : _ = some (Value.bool false)); replace ho8 := (bC BO.out 8).trans (rfl : _ = some (Value.bool false)); replace ho9 := (bC BO.out 9).trans (rfl : _ = some (Value.int .i64 0)); replace ho0f := bF BO.out 0; replace ho1f := bF BO.out 1; replace ho2f := bF BO.out 2; replace ho3f := bF BO.out 3; replace ho4f := bF BO.out 4; replace ho5f := bF BO.out 5; replace ho6f := bF BO.out 6; replace ho7f := bF BO.out 7; replace ho8f := bF BO.out 8; replace ho9f := bF BO.out 9)
      )
    generalize hN : ((((((((((W4.setCell ⟨go, 0, none⟩ (.int .i64 0)).setCell ⟨go, 1, none⟩ (.string ⟨#[]⟩)).setCell ⟨go, 2, none⟩ (.slice none 0 0)).setCell ⟨go, 3, none⟩ (.string ⟨#[]⟩)).setCell ⟨go, 4, none⟩ (.slice none 0 0)).setCell ⟨go, 5, none⟩ (.string ⟨#[]⟩)).setCell ⟨go, 6, none⟩ (.slice none 0 0)).setCell ⟨go, 7, none⟩ (.bool false)).setCell ⟨go, 8, none⟩ (.bool false)).setCell ⟨go, 9, none⟩ (.int .i64 0)) = W5
    have eN : W5 = putL W4 go 0 [.int .i64 0, .string ⟨#[]⟩, .slice none 0 0, .string ⟨#[]⟩, .slice none 0 0, .string ⟨#[]⟩, .slice none 0 0, .bool false, .bool false, .int .i64 0] := by rw [← hN]; simp only [putL]
    have HT' := aM (show Turn w0.heap.size (fun k => k = g) w W5 from by rw [eN]; exact Turn.sets Ggo.out (Nat.le_trans HS.out Ggo.out) [.int .i64 0, .string ⟨#[]⟩, .slice none 0 0, .string ⟨#[]⟩, .slice none 0 0, .string ⟨#[]⟩, .slice none 0 0, .bool false, .bool false, .int .i64 0] 0 _ HT.out)
    have HD' := aM (show DeskAt w0 g A c ov W5 s l v y d0 from by rw [eN]; exact DeskAt.others (by decide) (by decide) (Nat.le_trans HS.out Ggo.out) [.int .i64 0, .string ⟨#[]⟩, .slice none 0 0, .string ⟨#[]⟩, .slice none 0 0, .string ⟨#[]⟩, .slice none 0 0, .bool false, .bool false, .int .i64 0] 0 _ _ BO.out HD.out)
    have BR' := aM (show W5.heap[gr]? = some (.cells #[.int .i64 f, .int .i64 t, .bool ln] 28 (0, 0)) from by rw [eN]; exact blk_sets_far Ngogr.out.symm [.int .i64 0, .string ⟨#[]⟩, .slice none 0 0, .string ⟨#[]⟩, .slice none 0 0, .string ⟨#[]⟩, .slice none 0 0, .bool false, .bool false, .int .i64 0] 0 _ BR.out)
    have BO' := aM (show W5.heap[go]? = some (.cells #[.int .i64 0, .string ⟨#[]⟩, .slice none 0 0, .string ⟨#[]⟩, .slice none 0 0, .string ⟨#[]⟩, .slice none 0 0, .bool false, .bool false, .int .i64 0] 38 (0, 0)) from by rw [eN, blk_sets [.int .i64 0, .string ⟨#[]⟩, .slice none 0 0, .string ⟨#[]⟩, .slice none 0 0, .string ⟨#[]⟩, .slice none 0 0, .bool false, .bool false, .int .i64 0] 0 _ _ BO.out]; simp only [setsL, List.setIfInBounds_toArray, List.set_cons_zero, List.set_cons_succ])
    clear hN eN  HT HD BR BO hd2 ho0 ho1 ho2 ho3 ho4 ho5 ho6 ho7 ho8 ho9 ho0f ho1f ho2f ho3f ho4f ho5f ho6f ho7f ho8f ho9f
    have HT := HT'
    have HD := HD'
    have BR := BR'
    have BO := BO'
    clear HT' HD' BR' BO'
    replace hd2 := (bC HD.out.hg 2).trans (rfl : _ = some (Value.string v))
    replace ho0 := (bC BO.out 0).trans (rfl : _ = some (Value.int .i64 0))
    replace ho1 := (bC BO.out 1).trans (rfl : _ = some (Value.string ⟨#[]⟩))
    replace ho2 := (bC BO.out 2).trans (rfl : _ = some (Value.slice none 0 0))
    replace ho3 := (bC BO.out 3).trans (rfl : _ = some (Value.string ⟨#[]⟩))
    replace ho4 := (bC BO.out 4).trans (rfl : _ = some (Value.slice none 0 0))
    replace ho5 := (bC BO.out 5).trans (rfl : _ = some (Value.string ⟨#[]⟩))
    replace ho6 := (bC BO.out 6).trans (rfl : _ = some (Value.slice none 0 0))
    replace ho7 := (bC BO.out 7).trans (rfl : _ = some (Value.bool false))
    replace ho8 := (bC BO.out 8).trans (rfl : _ = some (Value.bool false))
    replace ho9 := (bC BO.out 9).trans (rfl : _ = some (Value.int .i64 0))
    replace ho0f := bF BO.out 0
    replace ho1f := bF BO.out 1
    replace ho2f := bF BO.out 2
    replace ho3f := bF BO.out 3
    replace ho4f := bF BO.out 4
    replace ho5f := bF BO.out 5
    replace ho6f := bF BO.out 6
    replace ho7f := bF BO.out 7
    replace ho8f := bF BO.out 8
    replace ho9f := bF BO.out 9
    refine bodyPost_ret (results_ct rfl _ _ go 38 #[.int .i64 0, .string ⟨#[]⟩, .slice none 0 0, .string ⟨#[]⟩, .slice none 0 0, .string ⟨#[]⟩, .slice none 0 0, .bool false, .bool false, .int .i64 0] (0, 0) _ rfl BO.out Tryz.underlying38 rfl (by kernel_rfl)) rfl ?_
    exact ⟨_, _, _, rfl, Kd.R_nil _ _ _ _ _, Kd.R_nil _ _ _ _ _, Kd.R_nil _ _ _ _ _, HT.out⟩
  · rw [if_neg hc]
    have p1 : ((B : Int) ≥ ((ends v).length : Int)) = False := eq_false (by omega)
    have p2 : (((ends v).length : Int) ≤ (B : Int)) = False := eq_false (by omega)
    have p3 : ((ends v).length ≤ B) = False := eq_false hc
    have HC := aM hc
    generalize hR : joinL s l y v (B - a) a1 (keepD s l d0 (lineFrom v a : Int) (lineTo v a : Int)) 0 = R
    have HR := aM hR
    generalize hu : turnD s l y R.1 (lineFrom v a : Int) (lineTo v B : Int) = u
    have HU := aM hu
    obtain ⟨⟨u1, u2, u3, u4, u5, u6⟩, u7⟩ := u
    obtain ⟨k1, hk1⟩ := (bounds_ev v HV.out a (by omega)).rounds
    have HF1 := aM hk1
    clear hR hu hk1 hc
    unfold turnO
    dsimp only
    generalize hX : (if u6 = 0 then _ else _) = r
    have HX := aM hX
    clear hX
    have e1 := E1.out
    have hm := HMM.out
    go_enter Tryz.func34, Tryz.ntmps34
    go_wp2_with (first
      | ((with_reducible refine gate_dst (N := 3) rfl ?_); refine box_event ?hg (N := 3) ?hd (cs := #[.int .i64 f, .int .i64 t, .bool ln]) (t := 28) ?hr ?_; (case hd => rfl); (case hg => rfl); (case hr => first | (go_simp; done) | (go_simp; rfl)); intro gr hg W1 hbox hb; have Ggr := aM (show w.heap.size ≤ gr from by rw [hg]; exact HT.out.size); replace HT := aM (HT.out.below hb HD.out.size); replace HD := aM (HD.out.below hb); have BR := aM hbox; clear hb hbox hg)
      | ((with_reducible refine gate_dst (N := 4) rfl ?_); refine box_event ?hg (N := 4) ?hd (cs := #[.int .i64 0, .string ⟨#[]⟩, .slice none 0 0, .string ⟨#[]⟩, .slice none 0 0, .string ⟨#[]⟩, .slice none 0 0, .bool false, .bool false, .int .i64 0]) (t := 38) ?hr ?_; (case hd => rfl); (case hg => rfl); (case hr => first | (go_simp; done) | (go_simp; rfl)); intro go hg W2 hbox hb; have Ggo := aM (show w.heap.size ≤ go from by rw [hg]; exact HT.out.size); have Ngogr := aM (show go ≠ gr from by have := blk_lt BR.out; omega); replace HT := aM (HT.out.below hb HD.out.size); replace HD := aM (HD.out.below hb); replace BR := aM (bB BR.out hb); have BO := aM hbox; clear hb hbox hg; replace hr0 := (bC BR.out 0).trans (rfl : _ = some (Value.int .i64 f)); replace hr1 := (bC BR.out 1).trans (rfl : _ = some (Value.int .i64 t)); replace hr2 := (bC BR.out 2).trans (rfl : _ = some (Value.bool ln)))
      | ((with_reducible refine gate_callee (f := 78) rfl ?_); refine goesL_ (some 22) rfl rfl Tryz.func78 (by kernel_rfl) rfl #[.pointer (some ⟨g, 0, none⟩), .agg #[.int .i64 f, .int .i64 t, .bool ln]] rfl (by (try simp only [List.map_toArray, List.map_cons, List.map_nil]); first | done | rfl) ?_; (with_reducible refine (lines_ok HD.out f t HTT.out ln).mono ?_); rintro e W3 ⟨hE, hb⟩; replace HT := aM (HT.out.below hb HD.out.size); replace HD := aM (HD.out.below hb); replace BR := aM (bB BR.out hb); replace BO := aM (bB BO.out hb); rw [HAB.out] at hE; obtain rfl := hE; refine ⟨_, rfl, ?_⟩; clear hb; replace hd2 := (bC HD.out.hg 2).trans (rfl : _ = some (Value.string v)))
      | ((with_reducible refine gate_callee (f := 72) rfl ?_); refine goesL_ (some 34) rfl rfl Tryz.func72 (by kernel_rfl) rfl #[.string v] rfl (by (try simp only [List.map_toArray, List.map_cons, List.map_nil]); first | done | rfl) ?_; (with_reducible refine (line_Count.calls v _ _ HCT.out).mono ?_); rintro e W4 ⟨rfl, hb⟩; replace HT := aM (HT.out.below hb HD.out.size); replace HD := aM (HD.out.below hb); replace BR := aM (bB BR.out hb); replace BO := aM (bB BO.out hb); refine ⟨_, rfl, ?_⟩; clear hb; replace hd2 := (bC HD.out.hg 2).trans (rfl : _ = some (Value.string v)))
      | ((with_reducible refine gate_callee (f := 44) rfl ?_); refine goesL_ (some 43) rfl rfl Tryz.func44 (by kernel_rfl) rfl #[.string v, .int .i64 (a : Int)] rfl (by (try simp only [List.map_toArray, List.map_cons, List.map_nil]); first | done | rfl) ?_; (with_reducible refine (line_Bounds.calls k1 v (a : Int) _ _ _ _ HF1.out).mono ?_); rintro e W5 ⟨rfl, hb⟩; replace HT := aM (HT.out.below hb HD.out.size); replace HD := aM (HD.out.below hb); replace BR := aM (bB BR.out hb); replace BO := aM (bB BO.out hb); refine ⟨_, rfl, ?_⟩; clear hb; replace hd2 := (bC HD.out.hg 2).trans (rfl : _ = some (Value.string v)))
      | ((with_reducible refine gate_callee (f := 79) rfl ?_); refine goesL_ (some 50) rfl rfl Tryz.func79 (by kernel_rfl) rfl #[.pointer (some ⟨g, 0, none⟩), .int .i64 (lineFrom v a : Int), .int .i64 (lineTo v a : Int)] rfl (by (try simp only [List.map_toArray, List.map_cons, List.map_nil]); first | done | rfl) ?_; (with_reducible refine (keep_ok HD.out (lineFrom v a : Int) (lineTo v a : Int)).mono ?_); rintro e W6 ⟨rfl, ov6, hD, hT⟩; replace HT := aM (HT.out.trans hT); replace BR := aM (hT.blk BR.out (HD.out.apart BR.out (by decide))); replace BO := aM (hT.blk BO.out (HD.out.apart BO.out (by decide))); replace HD := aM hD; refine ⟨_, rfl, ?_⟩; clear hD hT; replace hd2 := (bC HD.out.hg 2).trans (rfl : _ = some (Value.string v)))
      )
    have HS1 := aM (show (keepD s l d0 (lineFrom v a : Int) (lineTo v a : Int)).1.size ≤ 4096 from keepD_small (Nat.zero_le _))
    try simp only [e1]
    go_loopg [9, 11, 12] (B - a) (fun kq v9 v11 v12 w' => ∃ (n q : Nat) (x : Int) (ov' : Value) (d' : TX), v9 = .int .i64 (lineTo v (n - 1) : Int) ∧ v11 = .int .i64 x ∧ Aside0 (x = ((lineFrom v a + q : Nat) : Int)) ∧ v12 = .int .i64 (n : Int) ∧ Aside0 (kq + n = B + 1) ∧ Aside0 (a1 ≤ n) ∧ Aside0 (q ≤ 4096) ∧ Aside0 (d'.1.size ≤ 4096) ∧ Aside0 (joinL s l y v kq n d' q = R) ∧ Aside0 (Turn w0.heap.size (fun k => k = g) w w') ∧ Aside0 (DeskAt w0 g A c ov' w' s l v y d') ∧ Aside0 (w'.heap[go]? = some (.cells #[.int .i64 0, .string ⟨#[]⟩, .slice none 0 0, .string ⟨#[]⟩, .slice none 0 0, .string ⟨#[]⟩, .slice none 0 0, .bool false, .bool false, .int .i64 0] 38 (0, 0))))
    case atStart => exact ⟨a1, 0, _, _, _, by rw [HBB.out.2.2]; rfl, rfl, ⟨rfl⟩, rfl, ⟨by have := HBB.out; omega⟩, ⟨Nat.le_refl _⟩, ⟨by omega⟩, HS1, HR, HT, HD, BO⟩
    case round =>
      clear HT HD BO BR e1 hm
      obtain ⟨n, q, x, ov', d', rfl, rfl, HXQ, rfl, HQ, HN1, HQ2, HDS, HR, HT, HD, BO⟩ := hrel
      cases gk with
      | zero =>
        have hn : n = B + 1 := by have := HQ.out; omega
        subst hn
        have pr1 : (((B + 1 : Nat) : Int) ≤ (B : Int)) = False := eq_false (by omega)
        have pr2 : (B + 1 ≤ B) = False := eq_false (by omega)
        have pr3 : ((B : Int) + 1 ≤ (B : Int)) = False := eq_false (by omega)
        have hRR := HR.out
        rw [show joinL s l y v 0 (B + 1) d' q = (d', q) from rfl] at hRR
        subst hRR
        dsimp only at HU HX
        by_cases h6 : u6 = 0
        · subst h6
          have hX := HX.out
          rw [if_pos rfl, ← HXQ.out] at hX
          subst hX
          clear HX
          go_wp2_with (first
            | ((with_reducible refine gate_callee (f := 50) rfl ?_); refine goesL_ (some 102) rfl rfl Tryz.func50 (by kernel_rfl) rfl #[.pointer (some ⟨g, 0, none⟩), .int .i64 (lineFrom v a : Int), .int .i64 (lineTo v B : Int)] rfl (by (try simp only [List.map_toArray, List.map_cons, List.map_nil]); first | done | rfl) ?_; (with_reducible refine (turn_at HD.out (lineFrom v a : Int) (lineTo v B : Int) HU.out).mono ?_); rintro e W8 ⟨vo, vn, rfl, ho, hn, hb⟩; have HO := aM (rL ho HD.out.size); have HN := aM (rL hn HD.out.size); replace HT := aM (HT.out.below hb HD.out.size); replace HD := aM (HD.out.below hb); replace BO := aM (bB BO.out hb); clear ho hn; refine ⟨_, rfl, ?_⟩; clear hb; obtain ⟨Ao, co, rfl⟩ := Kd.R_slice HO.out; obtain ⟨An, cn, rfl⟩ := Kd.R_slice HN.out)
            | ((with_reducible refine gate_dst (N := 16) rfl ?_); refine box_event ?hg (N := 16) ?hd (cs := #[.int .i64 0, .string ⟨#[]⟩, .slice none 0 0, .string ⟨#[]⟩, .slice none 0 0]) (t := 36) ?hr ?_; (case hd => rfl); (case hg => rfl); (case hr => first | (go_simp; done) | (go_simp; rfl)); intro gt hg W9 hbox hb; have Ggt := aM (show w.heap.size ≤ gt from by rw [hg]; exact HT.out.size); have Ngtgo := aM (show gt ≠ go from by have := blk_lt BO.out; omega); replace HT := aM (HT.out.below hb HD.out.size); replace HD := aM (HD.out.below hb); replace BO := aM (bB BO.out hb); replace HO := aM (Kd.R_below HO.out hb); replace HN := aM (Kd.R_below HN.out hb); have BT := aM hbox; clear hb hbox hg; replace ht0 := (bC BT.out 0).trans (rfl : _ = some (Value.int .i64 0)); replace ht1 := (bC BT.out 1).trans (rfl : _ = some (Value.string ⟨#[]⟩)); replace ht2 := (bC BT.out 2).trans (rfl : _ = some (Value.slice none 0 0)); replace ht3 := (bC BT.out 3).trans (rfl : _ = some (Value.string ⟨#[]⟩)); replace ht4 := (bC BT.out 4).trans (rfl : _ = some (Value.slice none 0 0)); replace ht0f := bF BT.out 0; replace ht1f := bF BT.out 1; replace ht2f := bF BT.out 2; replace ht3f := bF BT.out 3; replace ht4f := bF BT.out 4; replace ht0 := (bC BT.out 0).trans (rfl : _ = some (Value.int .i64 0)); replace ht1 := (bC BT.out 1).trans (rfl : _ = some (Value.string ⟨#[]⟩)); replace ht2 := (bC BT.out 2).trans (rfl : _ = some (Value.slice none 0 0)); replace ht3 := (bC BT.out 3).trans (rfl : _ = some (Value.string ⟨#[]⟩)); replace ht4 := (bC BT.out 4).trans (rfl : _ = some (Value.slice none 0 0)); replace ho0 := (bC BO.out 0).trans (rfl : _ = some (Value.int .i64 0)); replace ho1 := (bC BO.out 1).trans (rfl : _ = some (Value.string ⟨#[]⟩)); replace ho2 := (bC BO.out 2).trans (rfl : _ = some (Value.slice none 0 0)); replace ho3 := (bC BO.out 3).trans (rfl : _ = some (Value.string ⟨#[]⟩)); replace ho4 := (bC BO.out 4).trans (rfl : _ = some (Value.slice none 0 0)); replace ho5 := (bC BO.out 5).trans (rfl : _ = some (Value.string ⟨#[]⟩)); replace ho6 := (bC BO.out 6).trans (rfl : _ = some (Value.slice none 0 0)); replace ho7 := (bC BO.out 7).trans (rfl : _ = some (Value.bool false)); replace ho8 := (bC BO.out 8).trans (rfl : _ = some (Value.bool false)); replace ho9 := (bC BO.out 9).trans (rfl : _ = some (Value.int .i64 0)); replace ht0f := bF BT.out 0; replace ht1f := bF BT.out 1; replace ht2f := bF BT.out 2; replace ht3f := bF BT.out 3; replace ht4f := bF BT.out 4; replace ho0f := bF BO.out 0; replace ho1f := bF BO.out 1; replace ho2f := bF BO.out 2; replace ho3f := bF BO.out 3; replace ho4f := bF BO.out 4; replace ho5f := bF BO.out 5; replace ho6f := bF BO.out 6; replace ho7f := bF BO.out 7; replace ho8f := bF BO.out 8; replace ho9f := bF BO.out 9; have hgn := Ngtgo.out; have hgn2 := hgn.symm)
            )
          generalize hN : (((((W9.setCell ⟨gt, 0, none⟩ (.int .i64 u1)).setCell ⟨gt, 1, none⟩ (.string u2)).setCell ⟨gt, 2, none⟩ (.slice Ao u3.length co)).setCell ⟨gt, 3, none⟩ (.string u4)).setCell ⟨gt, 4, none⟩ (.slice An u5.length cn)) = W10
          have eN : W10 = putL W9 gt 0 [.int .i64 u1, .string u2, .slice Ao u3.length co, .string u4, .slice An u5.length cn] := by rw [← hN]; simp only [putL]
          have HT' := aM (show Turn w0.heap.size (fun k => k = g) w W10 from by rw [eN]; exact Turn.sets Ggt.out (Nat.le_trans HS.out Ggt.out) [.int .i64 u1, .string u2, .slice Ao u3.length co, .string u4, .slice An u5.length cn] 0 _ HT.out)
          have HD' := aM (show DeskAt w0 g A c ov' W10 s l v y d' from by rw [eN]; exact DeskAt.others (by decide) (by decide) (Nat.le_trans HS.out Ggt.out) [.int .i64 u1, .string u2, .slice Ao u3.length co, .string u4, .slice An u5.length cn] 0 _ _ BT.out HD.out)
          have BO' := aM (show W10.heap[go]? = some (.cells #[.int .i64 0, .string ⟨#[]⟩, .slice none 0 0, .string ⟨#[]⟩, .slice none 0 0, .string ⟨#[]⟩, .slice none 0 0, .bool false, .bool false, .int .i64 0] 38 (0, 0)) from by rw [eN]; exact blk_sets_far Ngtgo.out.symm [.int .i64 u1, .string u2, .slice Ao u3.length co, .string u4, .slice An u5.length cn] 0 _ BO.out)
          have HO' := aM (show Kd.R k68 68 W10 w0.heap.size (fun k_ => some k_ ≠ ((.slice An u5.length cn : Value) : Value).ownBlock) (.slice Ao u3.length co : Value) u3 from by rw [eN]; exact R_sets (by decide) [.int .i64 u1, .string u2, .slice Ao u3.length co, .string u4, .slice An u5.length cn] 0 _ _ BT.out HO.out)
          have HN' := aM (show Kd.R k68 68 W10 w0.heap.size (fun k_ => some k_ ≠ ((.slice Ao u3.length co : Value) : Value).ownBlock) (.slice An u5.length cn : Value) u5 from by rw [eN]; exact R_sets (by decide) [.int .i64 u1, .string u2, .slice Ao u3.length co, .string u4, .slice An u5.length cn] 0 _ _ BT.out HN.out)
          have BT' := aM (show W10.heap[gt]? = some (.cells #[.int .i64 u1, .string u2, .slice Ao u3.length co, .string u4, .slice An u5.length cn] 36 (0, 0)) from by rw [eN, blk_sets [.int .i64 u1, .string u2, .slice Ao u3.length co, .string u4, .slice An u5.length cn] 0 _ _ BT.out]; simp only [setsL, List.setIfInBounds_toArray, List.set_cons_zero, List.set_cons_succ])
          clear hN eN  HT HD BO HO HN BT ht0 ht1 ht2 ht3 ht4 ho0 ho1 ho2 ho3 ho4 ho5 ho6 ho7 ho8 ho9 ht0f ht1f ht2f ht3f ht4f ho0f ho1f ho2f ho3f ho4f ho5f ho6f ho7f ho8f ho9f
          have HT := HT'
          have HD := HD'
          have BO := BO'
          have HO := HO'
          have HN := HN'
          have BT := BT'
          clear HT' HD' BO' HO' HN' BT'
          generalize hN : ((((((((((W10.setCell ⟨go, 0, none⟩ (.int .i64 u1)).setCell ⟨go, 1, none⟩ (.string u2)).setCell ⟨go, 2, none⟩ (.slice Ao u3.length co)).setCell ⟨go, 3, none⟩ (.string u4)).setCell ⟨go, 4, none⟩ (.slice An u5.length cn)).setCell ⟨go, 5, none⟩ (.string ⟨#[]⟩)).setCell ⟨go, 6, none⟩ (.slice none 0 0)).setCell ⟨go, 7, none⟩ (.bool false)).setCell ⟨go, 8, none⟩ (.bool false)).setCell ⟨go, 9, none⟩ (.int .i64 x)) = W11
          have eN : W11 = putL W10 go 0 [.int .i64 u1, .string u2, .slice Ao u3.length co, .string u4, .slice An u5.length cn, .string ⟨#[]⟩, .slice none 0 0, .bool false, .bool false, .int .i64 x] := by rw [← hN]; simp only [putL]
          have HT' := aM (show Turn w0.heap.size (fun k => k = g) w W11 from by rw [eN]; exact Turn.sets Ggo.out (Nat.le_trans HS.out Ggo.out) [.int .i64 u1, .string u2, .slice Ao u3.length co, .string u4, .slice An u5.length cn, .string ⟨#[]⟩, .slice none 0 0, .bool false, .bool false, .int .i64 x] 0 _ HT.out)
          have HD' := aM (show DeskAt w0 g A c ov' W11 s l v y d' from by rw [eN]; exact DeskAt.others (by decide) (by decide) (Nat.le_trans HS.out Ggo.out) [.int .i64 u1, .string u2, .slice Ao u3.length co, .string u4, .slice An u5.length cn, .string ⟨#[]⟩, .slice none 0 0, .bool false, .bool false, .int .i64 x] 0 _ _ BO.out HD.out)
          have BO' := aM (show W11.heap[go]? = some (.cells #[.int .i64 u1, .string u2, .slice Ao u3.length co, .string u4, .slice An u5.length cn, .string ⟨#[]⟩, .slice none 0 0, .bool false, .bool false, .int .i64 x] 38 (0, 0)) from by rw [eN, blk_sets [.int .i64 u1, .string u2, .slice Ao u3.length co, .string u4, .slice An u5.length cn, .string ⟨#[]⟩, .slice none 0 0, .bool false, .bool false, .int .i64 x] 0 _ _ BO.out]; simp only [setsL, List.setIfInBounds_toArray, List.set_cons_zero, List.set_cons_succ])
          have HO' := aM (show Kd.R k68 68 W11 w0.heap.size (fun k_ => some k_ ≠ ((.slice An u5.length cn : Value) : Value).ownBlock) (.slice Ao u3.length co : Value) u3 from by rw [eN]; exact R_sets (by decide) [.int .i64 u1, .string u2, .slice Ao u3.length co, .string u4, .slice An u5.length cn, .string ⟨#[]⟩, .slice none 0 0, .bool false, .bool false, .int .i64 x] 0 _ _ BO.out HO.out)
          have HN' := aM (show Kd.R k68 68 W11 w0.heap.size (fun k_ => some k_ ≠ ((.slice Ao u3.length co : Value) : Value).ownBlock) (.slice An u5.length cn : Value) u5 from by rw [eN]; exact R_sets (by decide) [.int .i64 u1, .string u2, .slice Ao u3.length co, .string u4, .slice An u5.length cn, .string ⟨#[]⟩, .slice none 0 0, .bool false, .bool false, .int .i64 x] 0 _ _ BO.out HN.out)
          have BT' := aM (show W11.heap[gt]? = some (.cells #[.int .i64 u1, .string u2, .slice Ao u3.length co, .string u4, .slice An u5.length cn] 36 (0, 0)) from by rw [eN]; exact blk_sets_far Ngtgo.out [.int .i64 u1, .string u2, .slice Ao u3.length co, .string u4, .slice An u5.length cn, .string ⟨#[]⟩, .slice none 0 0, .bool false, .bool false, .int .i64 x] 0 _ BT.out)
          clear hN eN  HT HD BO HO HN BT
          have HT := HT'
          have HD := HD'
          have BO := BO'
          have HO := HO'
          have HN := HN'
          have BT := BT'
          clear HT' HD' BO' HO' HN' BT'
          refine bodyPost_ret (results_ct rfl _ _ go 38 #[.int .i64 u1, .string u2, .slice Ao u3.length co, .string u4, .slice An u5.length cn, .string ⟨#[]⟩, .slice none 0 0, .bool false, .bool false, .int .i64 x] (0, 0) _ rfl BO.out Tryz.underlying38 rfl (by kernel_rfl)) rfl ?_
          exact ⟨_, _, _, rfl, R_andnil HO.out, R_andnil HN.out, Kd.R_nil _ _ _ _ _, HT.out⟩
        · have b3 : (u6 != 0) = true := bne_iff_ne.2 h6
          have b4 : (u6 == 0) = false := beq_eq_false_iff_ne.2 h6
          have hX := HX.out
          rw [if_neg h6] at hX
          subst hX
          clear HX h6
          go_wp2_with (first
            | ((with_reducible refine gate_callee (f := 50) rfl ?_); refine goesL_ (some 102) rfl rfl Tryz.func50 (by kernel_rfl) rfl #[.pointer (some ⟨g, 0, none⟩), .int .i64 (lineFrom v a : Int), .int .i64 (lineTo v B : Int)] rfl (by (try simp only [List.map_toArray, List.map_cons, List.map_nil]); first | done | rfl) ?_; (with_reducible refine (turn_at HD.out (lineFrom v a : Int) (lineTo v B : Int) HU.out).mono ?_); rintro e W8 ⟨vo, vn, rfl, ho, hn, hb⟩; have HO := aM (rL ho HD.out.size); have HN := aM (rL hn HD.out.size); replace HT := aM (HT.out.below hb HD.out.size); replace HD := aM (HD.out.below hb); replace BO := aM (bB BO.out hb); clear ho hn; refine ⟨_, rfl, ?_⟩; clear hb; obtain ⟨Ao, co, rfl⟩ := Kd.R_slice HO.out; obtain ⟨An, cn, rfl⟩ := Kd.R_slice HN.out)
            | ((with_reducible refine gate_dst (N := 16) rfl ?_); refine box_event ?hg (N := 16) ?hd (cs := #[.int .i64 0, .string ⟨#[]⟩, .slice none 0 0, .string ⟨#[]⟩, .slice none 0 0]) (t := 36) ?hr ?_; (case hd => rfl); (case hg => rfl); (case hr => first | (go_simp; done) | (go_simp; rfl)); intro gt hg W9 hbox hb; have Ggt := aM (show w.heap.size ≤ gt from by rw [hg]; exact HT.out.size); have Ngtgo := aM (show gt ≠ go from by have := blk_lt BO.out; omega); replace HT := aM (HT.out.below hb HD.out.size); replace HD := aM (HD.out.below hb); replace BO := aM (bB BO.out hb); replace HO := aM (Kd.R_below HO.out hb); replace HN := aM (Kd.R_below HN.out hb); have BT := aM hbox; clear hb hbox hg; replace ht0 := (bC BT.out 0).trans (rfl : _ = some (Value.int .i64 0)); replace ht1 := (bC BT.out 1).trans (rfl : _ = some (Value.string ⟨#[]⟩)); replace ht2 := (bC BT.out 2).trans (rfl : _ = some (Value.slice none 0 0)); replace ht3 := (bC BT.out 3).trans (rfl : _ = some (Value.string ⟨#[]⟩)); replace ht4 := (bC BT.out 4).trans (rfl : _ = some (Value.slice none 0 0)); replace ht0f := bF BT.out 0; replace ht1f := bF BT.out 1; replace ht2f := bF BT.out 2; replace ht3f := bF BT.out 3; replace ht4f := bF BT.out 4; replace ht0 := (bC BT.out 0).trans (rfl : _ = some (Value.int .i64 0)); replace ht1 := (bC BT.out 1).trans (rfl : _ = some (Value.string ⟨#[]⟩)); replace ht2 := (bC BT.out 2).trans (rfl : _ = some (Value.slice none 0 0)); replace ht3 := (bC BT.out 3).trans (rfl : _ = some (Value.string ⟨#[]⟩)); replace ht4 := (bC BT.out 4).trans (rfl : _ = some (Value.slice none 0 0)); replace ho0 := (bC BO.out 0).trans (rfl : _ = some (Value.int .i64 0)); replace ho1 := (bC BO.out 1).trans (rfl : _ = some (Value.string ⟨#[]⟩)); replace ho2 := (bC BO.out 2).trans (rfl : _ = some (Value.slice none 0 0)); replace ho3 := (bC BO.out 3).trans (rfl : _ = some (Value.string ⟨#[]⟩)); replace ho4 := (bC BO.out 4).trans (rfl : _ = some (Value.slice none 0 0)); replace ho5 := (bC BO.out 5).trans (rfl : _ = some (Value.string ⟨#[]⟩)); replace ho6 := (bC BO.out 6).trans (rfl : _ = some (Value.slice none 0 0)); replace ho7 := (bC BO.out 7).trans (rfl : _ = some (Value.bool false)); replace ho8 := (bC BO.out 8).trans (rfl : _ = some (Value.bool false)); replace ho9 := (bC BO.out 9).trans (rfl : _ = some (Value.int .i64 0)); replace ht0f := bF BT.out 0; replace ht1f := bF BT.out 1; replace ht2f := bF BT.out 2; replace ht3f := bF BT.out 3; replace ht4f := bF BT.out 4; replace ho0f := bF BO.out 0; replace ho1f := bF BO.out 1; replace ho2f := bF BO.out 2; replace ho3f := bF BO.out 3; replace ho4f := bF BO.out 4; replace ho5f := bF BO.out 5; replace ho6f := bF BO.out 6; replace ho7f := bF BO.out 7; replace ho8f := bF BO.out 8; replace ho9f := bF BO.out 9; have hgn := Ngtgo.out; have hgn2 := hgn.symm)
            )
          generalize hN : (((((W9.setCell ⟨gt, 0, none⟩ (.int .i64 u1)).setCell ⟨gt, 1, none⟩ (.string u2)).setCell ⟨gt, 2, none⟩ (.slice Ao u3.length co)).setCell ⟨gt, 3, none⟩ (.string u4)).setCell ⟨gt, 4, none⟩ (.slice An u5.length cn)) = W10
          have eN : W10 = putL W9 gt 0 [.int .i64 u1, .string u2, .slice Ao u3.length co, .string u4, .slice An u5.length cn] := by rw [← hN]; simp only [putL]
          have HT' := aM (show Turn w0.heap.size (fun k => k = g) w W10 from by rw [eN]; exact Turn.sets Ggt.out (Nat.le_trans HS.out Ggt.out) [.int .i64 u1, .string u2, .slice Ao u3.length co, .string u4, .slice An u5.length cn] 0 _ HT.out)
          have HD' := aM (show DeskAt w0 g A c ov' W10 s l v y d' from by rw [eN]; exact DeskAt.others (by decide) (by decide) (Nat.le_trans HS.out Ggt.out) [.int .i64 u1, .string u2, .slice Ao u3.length co, .string u4, .slice An u5.length cn] 0 _ _ BT.out HD.out)
          have BO' := aM (show W10.heap[go]? = some (.cells #[.int .i64 0, .string ⟨#[]⟩, .slice none 0 0, .string ⟨#[]⟩, .slice none 0 0, .string ⟨#[]⟩, .slice none 0 0, .bool false, .bool false, .int .i64 0] 38 (0, 0)) from by rw [eN]; exact blk_sets_far Ngtgo.out.symm [.int .i64 u1, .string u2, .slice Ao u3.length co, .string u4, .slice An u5.length cn] 0 _ BO.out)
          have HO' := aM (show Kd.R k68 68 W10 w0.heap.size (fun k_ => some k_ ≠ ((.slice An u5.length cn : Value) : Value).ownBlock) (.slice Ao u3.length co : Value) u3 from by rw [eN]; exact R_sets (by decide) [.int .i64 u1, .string u2, .slice Ao u3.length co, .string u4, .slice An u5.length cn] 0 _ _ BT.out HO.out)
          have HN' := aM (show Kd.R k68 68 W10 w0.heap.size (fun k_ => some k_ ≠ ((.slice Ao u3.length co : Value) : Value).ownBlock) (.slice An u5.length cn : Value) u5 from by rw [eN]; exact R_sets (by decide) [.int .i64 u1, .string u2, .slice Ao u3.length co, .string u4, .slice An u5.length cn] 0 _ _ BT.out HN.out)
          have BT' := aM (show W10.heap[gt]? = some (.cells #[.int .i64 u1, .string u2, .slice Ao u3.length co, .string u4, .slice An u5.length cn] 36 (0, 0)) from by rw [eN, blk_sets [.int .i64 u1, .string u2, .slice Ao u3.length co, .string u4, .slice An u5.length cn] 0 _ _ BT.out]; simp only [setsL, List.setIfInBounds_toArray, List.set_cons_zero, List.set_cons_succ])
          clear hN eN  HT HD BO HO HN BT ht0 ht1 ht2 ht3 ht4 ho0 ho1 ho2 ho3 ho4 ho5 ho6 ho7 ho8 ho9 ht0f ht1f ht2f ht3f ht4f ho0f ho1f ho2f ho3f ho4f ho5f ho6f ho7f ho8f ho9f
          have HT := HT'
          have HD := HD'
          have BO := BO'
          have HO := HO'
          have HN := HN'
          have BT := BT'
          clear HT' HD' BO' HO' HN' BT'
          generalize hN : ((((((((((W10.setCell ⟨go, 0, none⟩ (.int .i64 0)).setCell ⟨go, 1, none⟩ (.string ⟨#[]⟩)).setCell ⟨go, 2, none⟩ (.slice none 0 0)).setCell ⟨go, 3, none⟩ (.string ⟨#[]⟩)).setCell ⟨go, 4, none⟩ (.slice none 0 0)).setCell ⟨go, 5, none⟩ (.string ⟨#[]⟩)).setCell ⟨go, 6, none⟩ (.slice none 0 0)).setCell ⟨go, 7, none⟩ (.bool false)).setCell ⟨go, 8, none⟩ (.bool false)).setCell ⟨go, 9, none⟩ (.int .i64 0)) = W11
          have eN : W11 = putL W10 go 0 [.int .i64 0, .string ⟨#[]⟩, .slice none 0 0, .string ⟨#[]⟩, .slice none 0 0, .string ⟨#[]⟩, .slice none 0 0, .bool false, .bool false, .int .i64 0] := by rw [← hN]; simp only [putL]
          have HT' := aM (show Turn w0.heap.size (fun k => k = g) w W11 from by rw [eN]; exact Turn.sets Ggo.out (Nat.le_trans HS.out Ggo.out) [.int .i64 0, .string ⟨#[]⟩, .slice none 0 0, .string ⟨#[]⟩, .slice none 0 0, .string ⟨#[]⟩, .slice none 0 0, .bool false, .bool false, .int .i64 0] 0 _ HT.out)
          have HD' := aM (show DeskAt w0 g A c ov' W11 s l v y d' from by rw [eN]; exact DeskAt.others (by decide) (by decide) (Nat.le_trans HS.out Ggo.out) [.int .i64 0, .string ⟨#[]⟩, .slice none 0 0, .string ⟨#[]⟩, .slice none 0 0, .string ⟨#[]⟩, .slice none 0 0, .bool false, .bool false, .int .i64 0] 0 _ _ BO.out HD.out)
          have BO' := aM (show W11.heap[go]? = some (.cells #[.int .i64 0, .string ⟨#[]⟩, .slice none 0 0, .string ⟨#[]⟩, .slice none 0 0, .string ⟨#[]⟩, .slice none 0 0, .bool false, .bool false, .int .i64 0] 38 (0, 0)) from by rw [eN, blk_sets [.int .i64 0, .string ⟨#[]⟩, .slice none 0 0, .string ⟨#[]⟩, .slice none 0 0, .string ⟨#[]⟩, .slice none 0 0, .bool false, .bool false, .int .i64 0] 0 _ _ BO.out]; simp only [setsL, List.setIfInBounds_toArray, List.set_cons_zero, List.set_cons_succ])
          have HO' := aM (show Kd.R k68 68 W11 w0.heap.size (fun k_ => some k_ ≠ ((.slice An u5.length cn : Value) : Value).ownBlock) (.slice Ao u3.length co : Value) u3 from by rw [eN]; exact R_sets (by decide) [.int .i64 0, .string ⟨#[]⟩, .slice none 0 0, .string ⟨#[]⟩, .slice none 0 0, .string ⟨#[]⟩, .slice none 0 0, .bool false, .bool false, .int .i64 0] 0 _ _ BO.out HO.out)
          have HN' := aM (show Kd.R k68 68 W11 w0.heap.size (fun k_ => some k_ ≠ ((.slice Ao u3.length co : Value) : Value).ownBlock) (.slice An u5.length cn : Value) u5 from by rw [eN]; exact R_sets (by decide) [.int .i64 0, .string ⟨#[]⟩, .slice none 0 0, .string ⟨#[]⟩, .slice none 0 0, .string ⟨#[]⟩, .slice none 0 0, .bool false, .bool false, .int .i64 0] 0 _ _ BO.out HN.out)
          have BT' := aM (show W11.heap[gt]? = some (.cells #[.int .i64 u1, .string u2, .slice Ao u3.length co, .string u4, .slice An u5.length cn] 36 (0, 0)) from by rw [eN]; exact blk_sets_far Ngtgo.out [.int .i64 0, .string ⟨#[]⟩, .slice none 0 0, .string ⟨#[]⟩, .slice none 0 0, .string ⟨#[]⟩, .slice none 0 0, .bool false, .bool false, .int .i64 0] 0 _ BT.out)
          clear hN eN  HT HD BO HO HN BT
          have HT := HT'
          have HD := HD'
          have BO := BO'
          have HO := HO'
          have HN := HN'
          have BT := BT'
          clear HT' HD' BO' HO' HN' BT'
          refine bodyPost_ret (results_ct rfl _ _ go 38 #[.int .i64 0, .string ⟨#[]⟩, .slice none 0 0, .string ⟨#[]⟩, .slice none 0 0, .string ⟨#[]⟩, .slice none 0 0, .bool false, .bool false, .int .i64 0] (0, 0) _ rfl BO.out Tryz.underlying38 rfl (by kernel_rfl)) rfl ?_
          exact ⟨_, _, _, rfl, Kd.R_nil _ _ _ _ _, Kd.R_nil _ _ _ _ _, Kd.R_nil _ _ _ _ _, HT.out⟩
      | succ k1 =>
        have hnB : n ≤ B := by have := HQ.out; omega
        have hnE : n < (ends v).length := by have := HC.out; omega
        obtain ⟨z, hz, HZ⟩ := trim_at v n hnE
        have hlr := line_range v n hnE
        have htr := trimL_range hnE
        obtain ⟨kb, hkb⟩ := (bounds_ev v HV.out n hnE).rounds
        have HKB := aM hkb
        have hla := line_range v a HA.out
        have E2 := aM (show wrap64 ((lineTo v n : Int) - (z.size : Int)) = (trimL v n : Int) from by have := HV.out; rw [show (lineTo v n : Int) - (z.size : Int) = (trimL v n : Int) from by omega]; exact wrap_small (by omega) (by omega))
        have E3 := aM (show wrap64 ((lineFrom v a : Int) + (d'.1.size : Int)) = ((lineFrom v a + d'.1.size : Nat) : Int) from by have := HV.out; have := HDS.out; rw [← Int.natCast_add]; exact wrap_small (by omega) (by omega))
        have E4 := aM (show wrap64 ((n : Int) + 1) = ((n + 1 : Nat) : Int) from w1n (n := 200000) (by have := HBB.out; omega) (by omega))
        have pr1 : ((n : Int) ≤ (B : Int)) = True := eq_true (by omega)
        have pr2 : (n ≤ B) = True := eq_true hnB
        have q1 : (0 ≤ (lineFrom v n : Int)) = True := eq_true (by omega)
        have q2 : ((lineFrom v n : Int) ≤ (lineTo v n : Int)) = True := eq_true (by omega)
        have q3 : ((lineTo v n : Int) ≤ (v.size : Int)) = True := eq_true (by omega)
        have q4 : (lineFrom v n ≤ lineTo v n) = True := eq_true (by omega)
        have q5 : (lineTo v n ≤ v.size) = True := eq_true (by omega)
        by_cases htl : trimL v n < lineTo v n
        · have r1 : ((trimL v n : Int) < (lineTo v n : Int)) = True := eq_true (by omega)
          have r2 : (trimL v n < lineTo v n) = True := eq_true htl
          have e2 := E2.out
          have e3 := E3.out
          have e4 := E4.out
          replace hd2 := (bC HD.out.hg 2).trans (rfl : _ = some (Value.string v))
          replace hd4 := (bC HD.out.hg 4).trans (rfl : _ = some (Value.string d'.1))
          clear hlr htr hla hkb hz
          go_wp2_with (first
            | ((with_reducible refine gate_callee (f := 44) rfl ?_); refine goesL_ (some 65) rfl rfl Tryz.func44 (by kernel_rfl) rfl #[.string v, .int .i64 (n : Int)] rfl (by (try simp only [List.map_toArray, List.map_cons, List.map_nil]); first | done | rfl) ?_; (with_reducible refine (line_Bounds.calls kb v (n : Int) _ _ _ _ HKB.out).mono ?_); rintro e W8 ⟨rfl, hb⟩; replace HT := aM (HT.out.below hb HD.out.size); replace HD := aM (HD.out.below hb); replace BO := aM (bB BO.out hb); refine ⟨_, rfl, ?_⟩; clear hb; replace hd2 := (bC HD.out.hg 2).trans (rfl : _ = some (Value.string v)); replace hd4 := (bC HD.out.hg 4).trans (rfl : _ = some (Value.string d'.1)))
            | ((with_reducible refine gate_callee (f := 80) rfl ?_); refine goesL_ (some 77) rfl rfl Tryz.func80 (by kernel_rfl) rfl #[.string (v.extract (lineFrom v n) (lineTo v n)), .string ⟨#[32, 9]⟩] rfl (by (try simp only [List.map_toArray, List.map_cons, List.map_nil]); first | done | rfl) ?_; (with_reducible refine (HZ _).mono ?_); rintro e W9 ⟨rfl, hb⟩; replace HT := aM (HT.out.below hb HD.out.size); replace HD := aM (HD.out.below hb); replace BO := aM (bB BO.out hb); refine ⟨_, rfl, ?_⟩; clear hb; replace hd2 := (bC HD.out.hg 2).trans (rfl : _ = some (Value.string v)); replace hd4 := (bC HD.out.hg 4).trans (rfl : _ = some (Value.string d'.1)))
            | ((with_reducible refine gate_callee (f := 48) rfl ?_); refine goesL_ (some 92) rfl rfl Tryz.func48 (by kernel_rfl) rfl #[.pointer (some ⟨g, 0, none⟩), .string ⟨#[32]⟩] rfl (by (try simp only [List.map_toArray, List.map_cons, List.map_nil]); first | done | rfl) ?_; (with_reducible refine (write_ok HD.out ⟨#[32]⟩).mono ?_); rintro e W10 ⟨rfl, ov10, hD, hT⟩; replace HT := aM (HT.out.trans hT); replace BO := aM (hT.blk BO.out (HD.out.apart BO.out (by decide))); replace HD := aM hD; refine ⟨_, rfl, ?_⟩; clear hD hT)
            | ((with_reducible refine gate_callee (f := 79) rfl ?_); refine goesL_ (some 96) rfl rfl Tryz.func79 (by kernel_rfl) rfl #[.pointer (some ⟨g, 0, none⟩), .int .i64 (trimL v n : Int), .int .i64 (lineTo v n : Int)] rfl (by (try simp only [List.map_toArray, List.map_cons, List.map_nil]); first | done | rfl | (rw [← E2.out]; rfl)) ?_; (with_reducible refine (keep_ok HD.out (trimL v n : Int) (lineTo v n : Int)).mono ?_); rintro e W11 ⟨rfl, ov11, hD, hT⟩; replace HT := aM (HT.out.trans hT); replace BO := aM (hT.blk BO.out (HD.out.apart BO.out (by decide))); replace HD := aM hD; refine ⟨_, rfl, ?_⟩; clear hD hT)
            )
          go_roundg k1
          case measure => exact Nat.lt_succ_self k1
          case rel =>
            clear e2 e3 e4
            refine ⟨n + 1, d'.1.size, _, _, _, rfl, rfl, ⟨?_⟩, congrArg (Value.int IntKind.i64) E4.out, ⟨by have := HQ.out; omega⟩, ⟨by have := HN1.out; omega⟩, HDS, ⟨keepD_small (writeD_small HDS.out)⟩, ⟨?_⟩, HT, HD, BO⟩
            · first | exact E3.out | exact (Int.natCast_add _ _).symm | rfl
            rw [← HR.out]
            show _ = joinL s l y v k1 (n + 1) (joinOne s l y v n d') d'.1.size
            unfold joinOne
            rw [if_pos htl]
        · have r1 : ((trimL v n : Int) < (lineTo v n : Int)) = False := eq_false (by omega)
          have r2 : (trimL v n < lineTo v n) = False := eq_false htl
          have e2 := E2.out
          have e3 := E3.out
          have e4 := E4.out
          replace hd2 := (bC HD.out.hg 2).trans (rfl : _ = some (Value.string v))
          replace hd4 := (bC HD.out.hg 4).trans (rfl : _ = some (Value.string d'.1))
          clear hlr htr hla hkb hz
          go_wp2_with (first
            | ((with_reducible refine gate_callee (f := 44) rfl ?_); refine goesL_ (some 65) rfl rfl Tryz.func44 (by kernel_rfl) rfl #[.string v, .int .i64 (n : Int)] rfl (by (try simp only [List.map_toArray, List.map_cons, List.map_nil]); first | done | rfl) ?_; (with_reducible refine (line_Bounds.calls kb v (n : Int) _ _ _ _ HKB.out).mono ?_); rintro e W8 ⟨rfl, hb⟩; replace HT := aM (HT.out.below hb HD.out.size); replace HD := aM (HD.out.below hb); replace BO := aM (bB BO.out hb); refine ⟨_, rfl, ?_⟩; clear hb; replace hd2 := (bC HD.out.hg 2).trans (rfl : _ = some (Value.string v)); replace hd4 := (bC HD.out.hg 4).trans (rfl : _ = some (Value.string d'.1)))
            | ((with_reducible refine gate_callee (f := 80) rfl ?_); refine goesL_ (some 77) rfl rfl Tryz.func80 (by kernel_rfl) rfl #[.string (v.extract (lineFrom v n) (lineTo v n)), .string ⟨#[32, 9]⟩] rfl (by (try simp only [List.map_toArray, List.map_cons, List.map_nil]); first | done | rfl) ?_; (with_reducible refine (HZ _).mono ?_); rintro e W9 ⟨rfl, hb⟩; replace HT := aM (HT.out.below hb HD.out.size); replace HD := aM (HD.out.below hb); replace BO := aM (bB BO.out hb); refine ⟨_, rfl, ?_⟩; clear hb; replace hd2 := (bC HD.out.hg 2).trans (rfl : _ = some (Value.string v)); replace hd4 := (bC HD.out.hg 4).trans (rfl : _ = some (Value.string d'.1)))
            | ((with_reducible refine gate_callee (f := 79) rfl ?_); refine goesL_ (some 96) rfl rfl Tryz.func79 (by kernel_rfl) rfl #[.pointer (some ⟨g, 0, none⟩), .int .i64 (trimL v n : Int), .int .i64 (lineTo v n : Int)] rfl (by (try simp only [List.map_toArray, List.map_cons, List.map_nil]); first | done | rfl | (rw [← E2.out]; rfl)) ?_; (with_reducible refine (keep_ok HD.out (trimL v n : Int) (lineTo v n : Int)).mono ?_); rintro e W10 ⟨rfl, ov10, hD, hT⟩; replace HT := aM (HT.out.trans hT); replace BO := aM (hT.blk BO.out (HD.out.apart BO.out (by decide))); replace HD := aM hD; refine ⟨_, rfl, ?_⟩; clear hD hT)
            )
          go_roundg k1
          case measure => exact Nat.lt_succ_self k1
          case rel =>
            clear e2 e3 e4
            refine ⟨n + 1, d'.1.size, _, _, _, rfl, rfl, ⟨?_⟩, congrArg (Value.int IntKind.i64) E4.out, ⟨by have := HQ.out; omega⟩, ⟨by have := HN1.out; omega⟩, HDS, ⟨keepD_small HDS.out⟩, ⟨?_⟩, HT, HD, BO⟩
            · first | exact E3.out | exact (Int.natCast_add _ _).symm | rfl
            rw [← HR.out]
            show _ = joinL s l y v k1 (n + 1) (joinOne s l y v n d') d'.1.size
            unfold joinOne
            rw [if_neg htl]
end
end Go.Proofs.YtjkfkiebhgkolaaGreatDoor.PB
end

section
namespace Go.Proofs.YtjkfkiebhgkolaaGreatDoor.PB
open Go.RowKit Go.Maps Go.Proofs.YtjkfkiebhgkolaaGreatDoorW.PrintWords Go.Proofs.YtjkfkiebhgkolaaGreatDoorW.PrintLast Go.Proofs.YtjkfkiebhgkolaaGreatDoorW.PrintMore
set_option maxRecDepth 100000
set_option linter.unusedVariables false
set_option linter.unusedSimpArgs false
section
variable {w0 : World} {g : Nat} {A : Option Addr} {c : Nat} {ov : Value} {w W : World} {s : ByteArray} {l : List S68} {v : ByteArray} {y : Int} {d : TX}
theorem Out4.at {w w' : World} {e : Ending} {r : OX} (h : Out4 w0 g w w' e r) {r1 : Int} {r2 : ByteArray} {r3 : List S68} {r4 : ByteArray} {r5 : List S68} {r6 : ByteArray} {r7 : List S68} {r8 r9 : Bool} {r10 r11 : Int} (hr : r = (r1, r2, r3, r4, r5, r6, r7, r8, r9, r10, r11)) : ∃ v2 v4 v6 : Value, e = .returned (.tuple #[.agg #[.int .i64 r1, .string r2, v2, .string r4, v4, .string r6, v6, .bool r8, .bool r9, .int .i64 r10], .int .i64 r11]) ∧ Kd.R k68 68 w' w0.heap.size (fun k_ => some k_ ≠ (v4 : Value).ownBlock ∧ some k_ ≠ (v6 : Value).ownBlock) v2 r3 ∧ Kd.R k68 68 w' w0.heap.size (fun k_ => some k_ ≠ (v2 : Value).ownBlock ∧ some k_ ≠ (v6 : Value).ownBlock) v4 r5 ∧ Kd.R k68 68 w' w0.heap.size (fun k_ => some k_ ≠ (v2 : Value).ownBlock ∧ some k_ ≠ (v4 : Value).ownBlock) v6 r7 ∧ Turn w0.heap.size (fun k => k = g) w w' := by
  subst hr
  exact h
theorem take_at (h : DeskAt w0 g A c ov w s l v y d0) (hv : v.size ≤ 100000) (hM : NumOk w) (op f t : Int) (ln : Bool) (hr : rightD v f t ln = true) {r1 : Int} {r2 : ByteArray} {r3 : List S68} {r4 : ByteArray} {r5 : List S68} {r6 : ByteArray} {r7 : List S68} {r8 r9 : Bool} {r10 r11 : Int} (hD : takeD s l y v op f t ln = (r1, r2, r3, r4, r5, r6, r7, r8, r9, r10, r11)) :
    Calls Tryz.prog 31 #[.pointer (some ⟨g, 0, none⟩), .int .i32 op, .agg #[.int .i64 f, .int .i64 t, .bool ln]] w fun e w' => ∃ v2 v4 v6 : Value, e = .returned (.tuple #[.agg #[.int .i64 r1, .string r2, v2, .string r4, v4, .string r6, v6, .bool r8, .bool r9, .int .i64 r10], .int .i64 r11]) ∧ Kd.R k68 68 w' w0.heap.size (fun k_ => some k_ ≠ (v4 : Value).ownBlock ∧ some k_ ≠ (v6 : Value).ownBlock) v2 r3 ∧ Kd.R k68 68 w' w0.heap.size (fun k_ => some k_ ≠ (v2 : Value).ownBlock ∧ some k_ ≠ (v6 : Value).ownBlock) v4 r5 ∧ Kd.R k68 68 w' w0.heap.size (fun k_ => some k_ ≠ (v2 : Value).ownBlock ∧ some k_ ≠ (v4 : Value).ownBlock) v6 r7 ∧ Turn w0.heap.size (fun k => k = g) w w' :=
  (take_ok h hv hM op f t ln hr).mono fun e w' hh => (hh.four h.size g).at hD
theorem join_at (h : DeskAt w0 g A c ov w s l v y d0) (hv : v.size ≤ 4096) (f t : Int) (ln : Bool) (hr : rightD v f t ln = true) {r1 : Int} {r2 : ByteArray} {r3 : List S68} {r4 : ByteArray} {r5 : List S68} {r6 : ByteArray} {r7 : List S68} {r8 r9 : Bool} {r10 r11 : Int} (hD : joinD s l y v f t ln = (r1, r2, r3, r4, r5, r6, r7, r8, r9, r10, r11)) :
    Calls Tryz.prog 34 #[.pointer (some ⟨g, 0, none⟩), .agg #[.int .i64 f, .int .i64 t, .bool ln]] w fun e w' => ∃ v2 v4 v6 : Value, e = .returned (.tuple #[.agg #[.int .i64 r1, .string r2, v2, .string r4, v4, .string r6, v6, .bool r8, .bool r9, .int .i64 r10], .int .i64 r11]) ∧ Kd.R k68 68 w' w0.heap.size (fun k_ => some k_ ≠ (v4 : Value).ownBlock ∧ some k_ ≠ (v6 : Value).ownBlock) v2 r3 ∧ Kd.R k68 68 w' w0.heap.size (fun k_ => some k_ ≠ (v2 : Value).ownBlock ∧ some k_ ≠ (v6 : Value).ownBlock) v4 r5 ∧ Kd.R k68 68 w' w0.heap.size (fun k_ => some k_ ≠ (v2 : Value).ownBlock ∧ some k_ ≠ (v4 : Value).ownBlock) v6 r7 ∧ Turn w0.heap.size (fun k => k = g) w w' :=
  (join_ok h (by omega) f t ln hr (by
    have := right_facts hr
    have := ends_len_le v
    have h3 := this
    split at * <;> omega)).mono fun e w' hh => hh.at hD
theorem right_at (h : DeskAt w0 g A c ov w s l v y d) (hv : v.size ≤ 100000) (f t : Int) (ln b : Bool) (hb : rightD v f t ln = b) :
    Calls Tryz.prog 30 #[.pointer (some ⟨g, 0, none⟩), .agg #[.int .i64 f, .int .i64 t, .bool ln]] w fun e w' => e = .returned (.bool b) ∧ Below w.heap.size w w' := by
  subst hb
  exact right_ok h hv f t ln
end
def doOps (op : Int) : Bool := decide (op ≠ 62 ∧ op ≠ 60 ∧ op ≠ 126)
def oper_Do.f (a0_0 : ByteArray) (l0_1 : List S68) (a1 a2 a3_0 a3_1 : Int) (a3_2 : Bool) : Option OX := if l0_1.length ≤ big ∧ doOps a2 = true then some (doS a0_0 l0_1 a1 a2 a3_0 a3_1 a3_2) else none
set_option maxHeartbeats 2000000 in
theorem oper_Do.calls (s : ByteArray) (A : Option Addr) (c : Nat) (l : List S68) (y op f t : Int) (ln : Bool) (r1 : Int) (r2 : ByteArray) (r3 : List S68) (r4 : ByteArray) (r5 : List S68) (r6 : ByteArray) (r7 : List S68) (r8 r9 : Bool) (r10 r11 : Int) (w : World) (hMX : NumOk w) (hr : Kd.C k68 w A l.length l) (hc : l.length ≤ c) (h : oper_Do.f s l y op f t ln = some (r1, r2, r3, r4, r5, r6, r7, r8, r9, r10, r11)) :
    Calls Tryz.prog 11 #[.agg #[.string s, .slice A l.length c], .int .u64 y, .int .i32 op, .agg #[.int .i64 f, .int .i64 t, .bool ln]] w fun e w' => ∃ v2 v4 v6 : Value, e = .returned (.tuple #[.agg #[.int .i64 r1, .string r2, v2, .string r4, v4, .string r6, v6, .bool r8, .bool r9, .int .i64 r10], .int .i64 r11]) ∧ Kd.R k68 68 w' w.heap.size (fun k_ => some k_ ≠ (v4 : Value).ownBlock ∧ some k_ ≠ (v6 : Value).ownBlock) v2 r3 ∧ Kd.R k68 68 w' w.heap.size (fun k_ => some k_ ≠ (v2 : Value).ownBlock ∧ some k_ ≠ (v6 : Value).ownBlock) v4 r5 ∧ Kd.R k68 68 w' w.heap.size (fun k_ => some k_ ≠ (v2 : Value).ownBlock ∧ some k_ ≠ (v4 : Value).ownBlock) v6 r7 ∧ Below w.heap.size w w' := by
  unfold oper_Do.f at h
  split at h
  case isFalse => cases h
  rename_i hg
  obtain ⟨hl, hop⟩ := hg
  have hD := Option.some.inj h
  have hvz := view_small s l y
  obtain ⟨k, hk⟩ := (view_ev s l hl y).rounds
  unfold doS at hD
  generalize viewS s l y = vv at hk hD hvz
  obtain ⟨v, er⟩ := vv
  dsimp only at hD hvz
  have HRC := aM hr
  have HCC := aM hc
  have HL := aM hl
  have HF := aM hk
  have HM := aM hMX
  have HV := aM hvz
  clear h hr hc hl hk hMX hvz
  by_cases he : er = 0
  · subst he
    by_cases hR : rightD v f t ln = true
    · rw [if_pos ⟨rfl, hR⟩] at hD
      have HRI := aM hR
      clear hR
      by_cases h1 : op = 100 ∨ op = 121 ∨ op = 99
      · rw [if_pos h1] at hD
        have HDD := aM hD
        clear hD
        rcases h1 with rfl | rfl | rfl
        · go_enter Tryz.func11, Tryz.ntmps11
          go_wp2_with (first
            | ((with_reducible refine gate_dst (N := 4) rfl ?_); refine box_event ?hg (N := 4) ?hd (cs := #[.string s, .slice A l.length c]) (t := 24) ?hr ?_; (case hd => rfl); (case hg => rfl); (case hr => first | (go_simp; done) | (go_simp; rfl)); intro gx hg W1 hbox hb; have Ggx := aM (show w.heap.size ≤ gx from by rw [hg]; exact Nat.le_refl _); have HB := aM hb; have BX := aM hbox; clear hb hbox hg)
            | ((with_reducible refine gate_dst (N := 7) rfl ?_); refine box_event ?hg (N := 7) ?hd (cs := #[.int .i64 f, .int .i64 t, .bool ln]) (t := 28) ?hr ?_; (case hd => rfl); (case hg => rfl); (case hr => first | (go_simp; done) | (go_simp; rfl)); intro gr hg W2 hbox hb; have Ggr := aM (show w.heap.size ≤ gr from by rw [hg]; exact HB.out.size); have Ngrgx := aM (show gr ≠ gx from by have := blk_lt BX.out; omega); replace HB := aM (bP HB.out hb); replace BX := aM (bB BX.out hb); have BR := aM hbox; clear hb hbox hg)
            | ((with_reducible refine gate_dst (N := 8) rfl ?_); refine box_event ?hg (N := 8) ?hd (cs := #[.int .i64 0, .string ⟨#[]⟩, .slice none 0 0, .string ⟨#[]⟩, .slice none 0 0, .string ⟨#[]⟩, .slice none 0 0, .bool false, .bool false, .int .i64 0]) (t := 38) ?hr ?_; (case hd => rfl); (case hg => rfl); (case hr => first | (go_simp; done) | (go_simp; rfl)); intro go hg W3 hbox hb; have Ggo := aM (show w.heap.size ≤ go from by rw [hg]; exact HB.out.size); have Ngogx := aM (show go ≠ gx from by have := blk_lt BX.out; omega); have Ngogr := aM (show go ≠ gr from by have := blk_lt BR.out; omega); replace HB := aM (bP HB.out hb); replace BX := aM (bB BX.out hb); replace BR := aM (bB BR.out hb); have BO := aM hbox; clear hb hbox hg; replace hx0 := (bC BX.out 0).trans (rfl : _ = some (Value.string s)); replace hx1 := (bC BX.out 1).trans (rfl : _ = some (Value.slice A l.length c)))
            | ((with_reducible refine gate_callee (f := 29) rfl ?_); refine goesL_ (some 15) rfl rfl Tryz.func29 (by kernel_rfl) rfl #[.agg #[.string s, .slice A l.length c], .int .u64 y] rfl (by (try simp only [List.map_toArray, List.map_cons, List.map_nil]); first | done | rfl) ?_; (with_reducible refine (open_ok k HL.out (cB_ HRC.out HB.out) HCC.out 0 HF.out).mono ?_); rintro e W4 ⟨g, rfl, hD0, hb⟩; have HD := aM (hD0); have LW := aM (HB.out.size); replace HB := aM (bP HB.out hb); replace BX := aM (bB BX.out hb); replace BR := aM (bB BR.out hb); replace BO := aM (bB BO.out hb); refine ⟨_, rfl, ?_⟩; clear hb; replace hr0 := (bC BR.out 0).trans (rfl : _ = some (Value.int .i64 f)); replace hr1 := (bC BR.out 1).trans (rfl : _ = some (Value.int .i64 t)); replace hr2 := (bC BR.out 2).trans (rfl : _ = some (Value.bool ln)))
            | ((with_reducible refine gate_callee (f := 30) rfl ?_); refine gate_guard (by rfl) ?_; refine goesL_ (some 23) rfl rfl Tryz.func30 (by kernel_rfl) rfl #[.pointer (some ⟨g, 0, none⟩), .agg #[.int .i64 f, .int .i64 t, .bool ln]] rfl (by (try simp only [List.map_toArray, List.map_cons, List.map_nil]); first | done | rfl) ?_; (with_reducible refine (right_at HD.out (by have := HV.out; omega) f t ln true HRI.out).mono ?_); rintro e W5 ⟨rfl, hb⟩; replace HB := aM (bP HB.out hb); replace BX := aM (bB BX.out hb); replace BR := aM (bB BR.out hb); replace BO := aM (bB BO.out hb); replace HD := aM (HD.out.below hb); refine ⟨_, rfl, ?_⟩; clear hb; replace hr0 := (bC BR.out 0).trans (rfl : _ = some (Value.int .i64 f)); replace hr1 := (bC BR.out 1).trans (rfl : _ = some (Value.int .i64 t)); replace hr2 := (bC BR.out 2).trans (rfl : _ = some (Value.bool ln)))
            | ((with_reducible refine gate_callee (f := 31) rfl ?_); refine goesL_ (some 35) rfl rfl Tryz.func31 (by kernel_rfl) rfl #[.pointer (some ⟨g, 0, none⟩), .int .i32 100, .agg #[.int .i64 f, .int .i64 t, .bool ln]] rfl (by (try simp only [List.map_toArray, List.map_cons, List.map_nil]); first | done | rfl) ?_; (with_reducible refine (take_at HD.out (by have := HV.out; omega) (HM.out.below HB.out) 100 f t ln HRI.out HDD.out).mono ?_); rintro e W6 ⟨v2, v4, v6, rfl, ho2, ho4, ho6, hT⟩; refine ⟨_, rfl, ?_⟩; have BO2 := aM (hT.blk BO.out (HD.out.apart BO.out (by decide))); have HB2 := aM (HB.out.trans (hT.bel.mono LW.out)); have H2 := aM (rL ho2 LW.out); have H4 := aM (rL ho4 LW.out); have H6 := aM (rL ho6 LW.out); clear ho2 ho4 ho6 hT HD BX BR BO HB; have BO := BO2; have HB := HB2; clear BO2 HB2; obtain ⟨A2, c2, rfl⟩ := Kd.R_slice H2.out; obtain ⟨A4, c4, rfl⟩ := Kd.R_slice H4.out; obtain ⟨A6, c6, rfl⟩ := Kd.R_slice H6.out; replace ho0 := (bC BO.out 0).trans (rfl : _ = some (Value.int .i64 0)); replace ho1 := (bC BO.out 1).trans (rfl : _ = some (Value.string ⟨#[]⟩)); replace ho2 := (bC BO.out 2).trans (rfl : _ = some (Value.slice none 0 0)); replace ho3 := (bC BO.out 3).trans (rfl : _ = some (Value.string ⟨#[]⟩)); replace ho4 := (bC BO.out 4).trans (rfl : _ = some (Value.slice none 0 0)); replace ho5 := (bC BO.out 5).trans (rfl : _ = some (Value.string ⟨#[]⟩)); replace ho6 := (bC BO.out 6).trans (rfl : _ = some (Value.slice none 0 0)); replace ho7 := (bC BO.out 7).trans (rfl : _ = some (Value.bool false)); replace ho8 := (bC BO.out 8).trans (rfl : _ = some (Value.bool false)); replace ho9 := (bC BO.out 9).trans (rfl : _ = some (Value.int .i64 0)); replace ho0f := bF BO.out 0; replace ho1f := bF BO.out 1; replace ho2f := bF BO.out 2; replace ho3f := bF BO.out 3; replace ho4f := bF BO.out 4; replace ho5f := bF BO.out 5; replace ho6f := bF BO.out 6; replace ho7f := bF BO.out 7; replace ho8f := bF BO.out 8; replace ho9f := bF BO.out 9)
            )
          generalize hN : ((((((((((W6.setCell ⟨go, 0, none⟩ (.int .i64 r1)).setCell ⟨go, 1, none⟩ (.string r2)).setCell ⟨go, 2, none⟩ (.slice A2 r3.length c2)).setCell ⟨go, 3, none⟩ (.string r4)).setCell ⟨go, 4, none⟩ (.slice A4 r5.length c4)).setCell ⟨go, 5, none⟩ (.string r6)).setCell ⟨go, 6, none⟩ (.slice A6 r7.length c6)).setCell ⟨go, 7, none⟩ (.bool r8)).setCell ⟨go, 8, none⟩ (.bool r9)).setCell ⟨go, 9, none⟩ (.int .i64 r10)) = W7
          have eN : W7 = putL W6 go 0 [.int .i64 r1, .string r2, .slice A2 r3.length c2, .string r4, .slice A4 r5.length c4, .string r6, .slice A6 r7.length c6, .bool r8, .bool r9, .int .i64 r10] := by rw [← hN]; simp only [putL]
          have BO' := aM (show W7.heap[go]? = some (.cells #[.int .i64 r1, .string r2, .slice A2 r3.length c2, .string r4, .slice A4 r5.length c4, .string r6, .slice A6 r7.length c6, .bool r8, .bool r9, .int .i64 r10] 38 (0, 0)) from by rw [eN, blk_sets [.int .i64 r1, .string r2, .slice A2 r3.length c2, .string r4, .slice A4 r5.length c4, .string r6, .slice A6 r7.length c6, .bool r8, .bool r9, .int .i64 r10] 0 _ _ BO.out]; simp only [setsL, List.setIfInBounds_toArray, List.set_cons_zero, List.set_cons_succ])
          have HB' := aM (show Below w.heap.size w W7 from by rw [eN]; exact below_sets Ggo.out [.int .i64 r1, .string r2, .slice A2 r3.length c2, .string r4, .slice A4 r5.length c4, .string r6, .slice A6 r7.length c6, .bool r8, .bool r9, .int .i64 r10] 0 _ HB.out)
          have H2' := aM (show Kd.R k68 68 W7 w.heap.size (fun k_ => some k_ ≠ (.slice A4 r5.length c4 : Value).ownBlock ∧ some k_ ≠ (.slice A6 r7.length c6 : Value).ownBlock) (.slice A2 r3.length c2) r3 from by rw [eN]; exact R_sets (by decide) [.int .i64 r1, .string r2, .slice A2 r3.length c2, .string r4, .slice A4 r5.length c4, .string r6, .slice A6 r7.length c6, .bool r8, .bool r9, .int .i64 r10] 0 _ _ BO.out H2.out)
          have H4' := aM (show Kd.R k68 68 W7 w.heap.size (fun k_ => some k_ ≠ (.slice A2 r3.length c2 : Value).ownBlock ∧ some k_ ≠ (.slice A6 r7.length c6 : Value).ownBlock) (.slice A4 r5.length c4) r5 from by rw [eN]; exact R_sets (by decide) [.int .i64 r1, .string r2, .slice A2 r3.length c2, .string r4, .slice A4 r5.length c4, .string r6, .slice A6 r7.length c6, .bool r8, .bool r9, .int .i64 r10] 0 _ _ BO.out H4.out)
          have H6' := aM (show Kd.R k68 68 W7 w.heap.size (fun k_ => some k_ ≠ (.slice A2 r3.length c2 : Value).ownBlock ∧ some k_ ≠ (.slice A4 r5.length c4 : Value).ownBlock) (.slice A6 r7.length c6) r7 from by rw [eN]; exact R_sets (by decide) [.int .i64 r1, .string r2, .slice A2 r3.length c2, .string r4, .slice A4 r5.length c4, .string r6, .slice A6 r7.length c6, .bool r8, .bool r9, .int .i64 r10] 0 _ _ BO.out H6.out)
          clear hN eN  BO HB H2 H4 H6 ho0 ho1 ho2 ho3 ho4 ho5 ho6 ho7 ho8 ho9 ho0f ho1f ho2f ho3f ho4f ho5f ho6f ho7f ho8f ho9f
          have BO := BO'
          have HB := HB'
          have H2 := H2'
          have H4 := H4'
          have H6 := H6'
          clear BO' HB' H2' H4' H6'
          refine bodyPost_ret (results_ct rfl _ _ go 38 #[.int .i64 r1, .string r2, .slice A2 r3.length c2, .string r4, .slice A4 r5.length c4, .string r6, .slice A6 r7.length c6, .bool r8, .bool r9, .int .i64 r10] (0, 0) _ rfl BO.out Tryz.underlying38 rfl (by kernel_rfl)) rfl ?_
          exact ⟨_, _, _, rfl, H2.out, H4.out, H6.out, HB.out⟩
        · go_enter Tryz.func11, Tryz.ntmps11
          go_wp2_with (first
            | ((with_reducible refine gate_dst (N := 4) rfl ?_); refine box_event ?hg (N := 4) ?hd (cs := #[.string s, .slice A l.length c]) (t := 24) ?hr ?_; (case hd => rfl); (case hg => rfl); (case hr => first | (go_simp; done) | (go_simp; rfl)); intro gx hg W1 hbox hb; have Ggx := aM (show w.heap.size ≤ gx from by rw [hg]; exact Nat.le_refl _); have HB := aM hb; have BX := aM hbox; clear hb hbox hg)
            | ((with_reducible refine gate_dst (N := 7) rfl ?_); refine box_event ?hg (N := 7) ?hd (cs := #[.int .i64 f, .int .i64 t, .bool ln]) (t := 28) ?hr ?_; (case hd => rfl); (case hg => rfl); (case hr => first | (go_simp; done) | (go_simp; rfl)); intro gr hg W2 hbox hb; have Ggr := aM (show w.heap.size ≤ gr from by rw [hg]; exact HB.out.size); have Ngrgx := aM (show gr ≠ gx from by have := blk_lt BX.out; omega); replace HB := aM (bP HB.out hb); replace BX := aM (bB BX.out hb); have BR := aM hbox; clear hb hbox hg)
            | ((with_reducible refine gate_dst (N := 8) rfl ?_); refine box_event ?hg (N := 8) ?hd (cs := #[.int .i64 0, .string ⟨#[]⟩, .slice none 0 0, .string ⟨#[]⟩, .slice none 0 0, .string ⟨#[]⟩, .slice none 0 0, .bool false, .bool false, .int .i64 0]) (t := 38) ?hr ?_; (case hd => rfl); (case hg => rfl); (case hr => first | (go_simp; done) | (go_simp; rfl)); intro go hg W3 hbox hb; have Ggo := aM (show w.heap.size ≤ go from by rw [hg]; exact HB.out.size); have Ngogx := aM (show go ≠ gx from by have := blk_lt BX.out; omega); have Ngogr := aM (show go ≠ gr from by have := blk_lt BR.out; omega); replace HB := aM (bP HB.out hb); replace BX := aM (bB BX.out hb); replace BR := aM (bB BR.out hb); have BO := aM hbox; clear hb hbox hg; replace hx0 := (bC BX.out 0).trans (rfl : _ = some (Value.string s)); replace hx1 := (bC BX.out 1).trans (rfl : _ = some (Value.slice A l.length c)))
            | ((with_reducible refine gate_callee (f := 29) rfl ?_); refine goesL_ (some 15) rfl rfl Tryz.func29 (by kernel_rfl) rfl #[.agg #[.string s, .slice A l.length c], .int .u64 y] rfl (by (try simp only [List.map_toArray, List.map_cons, List.map_nil]); first | done | rfl) ?_; (with_reducible refine (open_ok k HL.out (cB_ HRC.out HB.out) HCC.out 0 HF.out).mono ?_); rintro e W4 ⟨g, rfl, hD0, hb⟩; have HD := aM (hD0); have LW := aM (HB.out.size); replace HB := aM (bP HB.out hb); replace BX := aM (bB BX.out hb); replace BR := aM (bB BR.out hb); replace BO := aM (bB BO.out hb); refine ⟨_, rfl, ?_⟩; clear hb; replace hr0 := (bC BR.out 0).trans (rfl : _ = some (Value.int .i64 f)); replace hr1 := (bC BR.out 1).trans (rfl : _ = some (Value.int .i64 t)); replace hr2 := (bC BR.out 2).trans (rfl : _ = some (Value.bool ln)))
            | ((with_reducible refine gate_callee (f := 30) rfl ?_); refine gate_guard (by rfl) ?_; refine goesL_ (some 23) rfl rfl Tryz.func30 (by kernel_rfl) rfl #[.pointer (some ⟨g, 0, none⟩), .agg #[.int .i64 f, .int .i64 t, .bool ln]] rfl (by (try simp only [List.map_toArray, List.map_cons, List.map_nil]); first | done | rfl) ?_; (with_reducible refine (right_at HD.out (by have := HV.out; omega) f t ln true HRI.out).mono ?_); rintro e W5 ⟨rfl, hb⟩; replace HB := aM (bP HB.out hb); replace BX := aM (bB BX.out hb); replace BR := aM (bB BR.out hb); replace BO := aM (bB BO.out hb); replace HD := aM (HD.out.below hb); refine ⟨_, rfl, ?_⟩; clear hb; replace hr0 := (bC BR.out 0).trans (rfl : _ = some (Value.int .i64 f)); replace hr1 := (bC BR.out 1).trans (rfl : _ = some (Value.int .i64 t)); replace hr2 := (bC BR.out 2).trans (rfl : _ = some (Value.bool ln)))
            | ((with_reducible refine gate_callee (f := 31) rfl ?_); refine goesL_ (some 35) rfl rfl Tryz.func31 (by kernel_rfl) rfl #[.pointer (some ⟨g, 0, none⟩), .int .i32 121, .agg #[.int .i64 f, .int .i64 t, .bool ln]] rfl (by (try simp only [List.map_toArray, List.map_cons, List.map_nil]); first | done | rfl) ?_; (with_reducible refine (take_at HD.out (by have := HV.out; omega) (HM.out.below HB.out) 121 f t ln HRI.out HDD.out).mono ?_); rintro e W6 ⟨v2, v4, v6, rfl, ho2, ho4, ho6, hT⟩; refine ⟨_, rfl, ?_⟩; have BO2 := aM (hT.blk BO.out (HD.out.apart BO.out (by decide))); have HB2 := aM (HB.out.trans (hT.bel.mono LW.out)); have H2 := aM (rL ho2 LW.out); have H4 := aM (rL ho4 LW.out); have H6 := aM (rL ho6 LW.out); clear ho2 ho4 ho6 hT HD BX BR BO HB; have BO := BO2; have HB := HB2; clear BO2 HB2; obtain ⟨A2, c2, rfl⟩ := Kd.R_slice H2.out; obtain ⟨A4, c4, rfl⟩ := Kd.R_slice H4.out; obtain ⟨A6, c6, rfl⟩ := Kd.R_slice H6.out; replace ho0 := (bC BO.out 0).trans (rfl : _ = some (Value.int .i64 0)); replace ho1 := (bC BO.out 1).trans (rfl : _ = some (Value.string ⟨#[]⟩)); replace ho2 := (bC BO.out 2).trans (rfl : _ = some (Value.slice none 0 0)); replace ho3 := (bC BO.out 3).trans (rfl : _ = some (Value.string ⟨#[]⟩)); replace ho4 := (bC BO.out 4).trans (rfl : _ = some (Value.slice none 0 0)); replace ho5 := (bC BO.out 5).trans (rfl : _ = some (Value.string ⟨#[]⟩)); replace ho6 := (bC BO.out 6).trans (rfl : _ = some (Value.slice none 0 0)); replace ho7 := (bC BO.out 7).trans (rfl : _ = some (Value.bool false)); replace ho8 := (bC BO.out 8).trans (rfl : _ = some (Value.bool false)); replace ho9 := (bC BO.out 9).trans (rfl : _ = some (Value.int .i64 0)); replace ho0f := bF BO.out 0; replace ho1f := bF BO.out 1; replace ho2f := bF BO.out 2; replace ho3f := bF BO.out 3; replace ho4f := bF BO.out 4; replace ho5f := bF BO.out 5; replace ho6f := bF BO.out 6; replace ho7f := bF BO.out 7; replace ho8f := bF BO.out 8; replace ho9f := bF BO.out 9)
            )
          generalize hN : ((((((((((W6.setCell ⟨go, 0, none⟩ (.int .i64 r1)).setCell ⟨go, 1, none⟩ (.string r2)).setCell ⟨go, 2, none⟩ (.slice A2 r3.length c2)).setCell ⟨go, 3, none⟩ (.string r4)).setCell ⟨go, 4, none⟩ (.slice A4 r5.length c4)).setCell ⟨go, 5, none⟩ (.string r6)).setCell ⟨go, 6, none⟩ (.slice A6 r7.length c6)).setCell ⟨go, 7, none⟩ (.bool r8)).setCell ⟨go, 8, none⟩ (.bool r9)).setCell ⟨go, 9, none⟩ (.int .i64 r10)) = W7
          have eN : W7 = putL W6 go 0 [.int .i64 r1, .string r2, .slice A2 r3.length c2, .string r4, .slice A4 r5.length c4, .string r6, .slice A6 r7.length c6, .bool r8, .bool r9, .int .i64 r10] := by rw [← hN]; simp only [putL]
          have BO' := aM (show W7.heap[go]? = some (.cells #[.int .i64 r1, .string r2, .slice A2 r3.length c2, .string r4, .slice A4 r5.length c4, .string r6, .slice A6 r7.length c6, .bool r8, .bool r9, .int .i64 r10] 38 (0, 0)) from by rw [eN, blk_sets [.int .i64 r1, .string r2, .slice A2 r3.length c2, .string r4, .slice A4 r5.length c4, .string r6, .slice A6 r7.length c6, .bool r8, .bool r9, .int .i64 r10] 0 _ _ BO.out]; simp only [setsL, List.setIfInBounds_toArray, List.set_cons_zero, List.set_cons_succ])
          have HB' := aM (show Below w.heap.size w W7 from by rw [eN]; exact below_sets Ggo.out [.int .i64 r1, .string r2, .slice A2 r3.length c2, .string r4, .slice A4 r5.length c4, .string r6, .slice A6 r7.length c6, .bool r8, .bool r9, .int .i64 r10] 0 _ HB.out)
          have H2' := aM (show Kd.R k68 68 W7 w.heap.size (fun k_ => some k_ ≠ (.slice A4 r5.length c4 : Value).ownBlock ∧ some k_ ≠ (.slice A6 r7.length c6 : Value).ownBlock) (.slice A2 r3.length c2) r3 from by rw [eN]; exact R_sets (by decide) [.int .i64 r1, .string r2, .slice A2 r3.length c2, .string r4, .slice A4 r5.length c4, .string r6, .slice A6 r7.length c6, .bool r8, .bool r9, .int .i64 r10] 0 _ _ BO.out H2.out)
          have H4' := aM (show Kd.R k68 68 W7 w.heap.size (fun k_ => some k_ ≠ (.slice A2 r3.length c2 : Value).ownBlock ∧ some k_ ≠ (.slice A6 r7.length c6 : Value).ownBlock) (.slice A4 r5.length c4) r5 from by rw [eN]; exact R_sets (by decide) [.int .i64 r1, .string r2, .slice A2 r3.length c2, .string r4, .slice A4 r5.length c4, .string r6, .slice A6 r7.length c6, .bool r8, .bool r9, .int .i64 r10] 0 _ _ BO.out H4.out)
          have H6' := aM (show Kd.R k68 68 W7 w.heap.size (fun k_ => some k_ ≠ (.slice A2 r3.length c2 : Value).ownBlock ∧ some k_ ≠ (.slice A4 r5.length c4 : Value).ownBlock) (.slice A6 r7.length c6) r7 from by rw [eN]; exact R_sets (by decide) [.int .i64 r1, .string r2, .slice A2 r3.length c2, .string r4, .slice A4 r5.length c4, .string r6, .slice A6 r7.length c6, .bool r8, .bool r9, .int .i64 r10] 0 _ _ BO.out H6.out)
          clear hN eN  BO HB H2 H4 H6 ho0 ho1 ho2 ho3 ho4 ho5 ho6 ho7 ho8 ho9 ho0f ho1f ho2f ho3f ho4f ho5f ho6f ho7f ho8f ho9f
          have BO := BO'
          have HB := HB'
          have H2 := H2'
          have H4 := H4'
          have H6 := H6'
          clear BO' HB' H2' H4' H6'
          refine bodyPost_ret (results_ct rfl _ _ go 38 #[.int .i64 r1, .string r2, .slice A2 r3.length c2, .string r4, .slice A4 r5.length c4, .string r6, .slice A6 r7.length c6, .bool r8, .bool r9, .int .i64 r10] (0, 0) _ rfl BO.out Tryz.underlying38 rfl (by kernel_rfl)) rfl ?_
          exact ⟨_, _, _, rfl, H2.out, H4.out, H6.out, HB.out⟩
        · go_enter Tryz.func11, Tryz.ntmps11
          go_wp2_with (first
            | ((with_reducible refine gate_dst (N := 4) rfl ?_); refine box_event ?hg (N := 4) ?hd (cs := #[.string s, .slice A l.length c]) (t := 24) ?hr ?_; (case hd => rfl); (case hg => rfl); (case hr => first | (go_simp; done) | (go_simp; rfl)); intro gx hg W1 hbox hb; have Ggx := aM (show w.heap.size ≤ gx from by rw [hg]; exact Nat.le_refl _); have HB := aM hb; have BX := aM hbox; clear hb hbox hg)
            | ((with_reducible refine gate_dst (N := 7) rfl ?_); refine box_event ?hg (N := 7) ?hd (cs := #[.int .i64 f, .int .i64 t, .bool ln]) (t := 28) ?hr ?_; (case hd => rfl); (case hg => rfl); (case hr => first | (go_simp; done) | (go_simp; rfl)); intro gr hg W2 hbox hb; have Ggr := aM (show w.heap.size ≤ gr from by rw [hg]; exact HB.out.size); have Ngrgx := aM (show gr ≠ gx from by have := blk_lt BX.out; omega); replace HB := aM (bP HB.out hb); replace BX := aM (bB BX.out hb); have BR := aM hbox; clear hb hbox hg)
            | ((with_reducible refine gate_dst (N := 8) rfl ?_); refine box_event ?hg (N := 8) ?hd (cs := #[.int .i64 0, .string ⟨#[]⟩, .slice none 0 0, .string ⟨#[]⟩, .slice none 0 0, .string ⟨#[]⟩, .slice none 0 0, .bool false, .bool false, .int .i64 0]) (t := 38) ?hr ?_; (case hd => rfl); (case hg => rfl); (case hr => first | (go_simp; done) | (go_simp; rfl)); intro go hg W3 hbox hb; have Ggo := aM (show w.heap.size ≤ go from by rw [hg]; exact HB.out.size); have Ngogx := aM (show go ≠ gx from by have := blk_lt BX.out; omega); have Ngogr := aM (show go ≠ gr from by have := blk_lt BR.out; omega); replace HB := aM (bP HB.out hb); replace BX := aM (bB BX.out hb); replace BR := aM (bB BR.out hb); have BO := aM hbox; clear hb hbox hg; replace hx0 := (bC BX.out 0).trans (rfl : _ = some (Value.string s)); replace hx1 := (bC BX.out 1).trans (rfl : _ = some (Value.slice A l.length c)))
            | ((with_reducible refine gate_callee (f := 29) rfl ?_); refine goesL_ (some 15) rfl rfl Tryz.func29 (by kernel_rfl) rfl #[.agg #[.string s, .slice A l.length c], .int .u64 y] rfl (by (try simp only [List.map_toArray, List.map_cons, List.map_nil]); first | done | rfl) ?_; (with_reducible refine (open_ok k HL.out (cB_ HRC.out HB.out) HCC.out 0 HF.out).mono ?_); rintro e W4 ⟨g, rfl, hD0, hb⟩; have HD := aM (hD0); have LW := aM (HB.out.size); replace HB := aM (bP HB.out hb); replace BX := aM (bB BX.out hb); replace BR := aM (bB BR.out hb); replace BO := aM (bB BO.out hb); refine ⟨_, rfl, ?_⟩; clear hb; replace hr0 := (bC BR.out 0).trans (rfl : _ = some (Value.int .i64 f)); replace hr1 := (bC BR.out 1).trans (rfl : _ = some (Value.int .i64 t)); replace hr2 := (bC BR.out 2).trans (rfl : _ = some (Value.bool ln)))
            | ((with_reducible refine gate_callee (f := 30) rfl ?_); refine gate_guard (by rfl) ?_; refine goesL_ (some 23) rfl rfl Tryz.func30 (by kernel_rfl) rfl #[.pointer (some ⟨g, 0, none⟩), .agg #[.int .i64 f, .int .i64 t, .bool ln]] rfl (by (try simp only [List.map_toArray, List.map_cons, List.map_nil]); first | done | rfl) ?_; (with_reducible refine (right_at HD.out (by have := HV.out; omega) f t ln true HRI.out).mono ?_); rintro e W5 ⟨rfl, hb⟩; replace HB := aM (bP HB.out hb); replace BX := aM (bB BX.out hb); replace BR := aM (bB BR.out hb); replace BO := aM (bB BO.out hb); replace HD := aM (HD.out.below hb); refine ⟨_, rfl, ?_⟩; clear hb; replace hr0 := (bC BR.out 0).trans (rfl : _ = some (Value.int .i64 f)); replace hr1 := (bC BR.out 1).trans (rfl : _ = some (Value.int .i64 t)); replace hr2 := (bC BR.out 2).trans (rfl : _ = some (Value.bool ln)))
            | ((with_reducible refine gate_callee (f := 31) rfl ?_); refine goesL_ (some 35) rfl rfl Tryz.func31 (by kernel_rfl) rfl #[.pointer (some ⟨g, 0, none⟩), .int .i32 99, .agg #[.int .i64 f, .int .i64 t, .bool ln]] rfl (by (try simp only [List.map_toArray, List.map_cons, List.map_nil]); first | done | rfl) ?_; (with_reducible refine (take_at HD.out (by have := HV.out; omega) (HM.out.below HB.out) 99 f t ln HRI.out HDD.out).mono ?_); rintro e W6 ⟨v2, v4, v6, rfl, ho2, ho4, ho6, hT⟩; refine ⟨_, rfl, ?_⟩; have BO2 := aM (hT.blk BO.out (HD.out.apart BO.out (by decide))); have HB2 := aM (HB.out.trans (hT.bel.mono LW.out)); have H2 := aM (rL ho2 LW.out); have H4 := aM (rL ho4 LW.out); have H6 := aM (rL ho6 LW.out); clear ho2 ho4 ho6 hT HD BX BR BO HB; have BO := BO2; have HB := HB2; clear BO2 HB2; obtain ⟨A2, c2, rfl⟩ := Kd.R_slice H2.out; obtain ⟨A4, c4, rfl⟩ := Kd.R_slice H4.out; obtain ⟨A6, c6, rfl⟩ := Kd.R_slice H6.out; replace ho0 := (bC BO.out 0).trans (rfl : _ = some (Value.int .i64 0)); replace ho1 := (bC BO.out 1).trans (rfl : _ = some (Value.string ⟨#[]⟩)); replace ho2 := (bC BO.out 2).trans (rfl : _ = some (Value.slice none 0 0)); replace ho3 := (bC BO.out 3).trans (rfl : _ = some (Value.string ⟨#[]⟩)); replace ho4 := (bC BO.out 4).trans (rfl : _ = some (Value.slice none 0 0)); replace ho5 := (bC BO.out 5).trans (rfl : _ = some (Value.string ⟨#[]⟩)); replace ho6 := (bC BO.out 6).trans (rfl : _ = some (Value.slice none 0 0)); replace ho7 := (bC BO.out 7).trans (rfl : _ = some (Value.bool false)); replace ho8 := (bC BO.out 8).trans (rfl : _ = some (Value.bool false)); replace ho9 := (bC BO.out 9).trans (rfl : _ = some (Value.int .i64 0)); replace ho0f := bF BO.out 0; replace ho1f := bF BO.out 1; replace ho2f := bF BO.out 2; replace ho3f := bF BO.out 3; replace ho4f := bF BO.out 4; replace ho5f := bF BO.out 5; replace ho6f := bF BO.out 6; replace ho7f := bF BO.out 7; replace ho8f := bF BO.out 8; replace ho9f := bF BO.out 9)
            )
          generalize hN : ((((((((((W6.setCell ⟨go, 0, none⟩ (.int .i64 r1)).setCell ⟨go, 1, none⟩ (.string r2)).setCell ⟨go, 2, none⟩ (.slice A2 r3.length c2)).setCell ⟨go, 3, none⟩ (.string r4)).setCell ⟨go, 4, none⟩ (.slice A4 r5.length c4)).setCell ⟨go, 5, none⟩ (.string r6)).setCell ⟨go, 6, none⟩ (.slice A6 r7.length c6)).setCell ⟨go, 7, none⟩ (.bool r8)).setCell ⟨go, 8, none⟩ (.bool r9)).setCell ⟨go, 9, none⟩ (.int .i64 r10)) = W7
          have eN : W7 = putL W6 go 0 [.int .i64 r1, .string r2, .slice A2 r3.length c2, .string r4, .slice A4 r5.length c4, .string r6, .slice A6 r7.length c6, .bool r8, .bool r9, .int .i64 r10] := by rw [← hN]; simp only [putL]
          have BO' := aM (show W7.heap[go]? = some (.cells #[.int .i64 r1, .string r2, .slice A2 r3.length c2, .string r4, .slice A4 r5.length c4, .string r6, .slice A6 r7.length c6, .bool r8, .bool r9, .int .i64 r10] 38 (0, 0)) from by rw [eN, blk_sets [.int .i64 r1, .string r2, .slice A2 r3.length c2, .string r4, .slice A4 r5.length c4, .string r6, .slice A6 r7.length c6, .bool r8, .bool r9, .int .i64 r10] 0 _ _ BO.out]; simp only [setsL, List.setIfInBounds_toArray, List.set_cons_zero, List.set_cons_succ])
          have HB' := aM (show Below w.heap.size w W7 from by rw [eN]; exact below_sets Ggo.out [.int .i64 r1, .string r2, .slice A2 r3.length c2, .string r4, .slice A4 r5.length c4, .string r6, .slice A6 r7.length c6, .bool r8, .bool r9, .int .i64 r10] 0 _ HB.out)
          have H2' := aM (show Kd.R k68 68 W7 w.heap.size (fun k_ => some k_ ≠ (.slice A4 r5.length c4 : Value).ownBlock ∧ some k_ ≠ (.slice A6 r7.length c6 : Value).ownBlock) (.slice A2 r3.length c2) r3 from by rw [eN]; exact R_sets (by decide) [.int .i64 r1, .string r2, .slice A2 r3.length c2, .string r4, .slice A4 r5.length c4, .string r6, .slice A6 r7.length c6, .bool r8, .bool r9, .int .i64 r10] 0 _ _ BO.out H2.out)
          have H4' := aM (show Kd.R k68 68 W7 w.heap.size (fun k_ => some k_ ≠ (.slice A2 r3.length c2 : Value).ownBlock ∧ some k_ ≠ (.slice A6 r7.length c6 : Value).ownBlock) (.slice A4 r5.length c4) r5 from by rw [eN]; exact R_sets (by decide) [.int .i64 r1, .string r2, .slice A2 r3.length c2, .string r4, .slice A4 r5.length c4, .string r6, .slice A6 r7.length c6, .bool r8, .bool r9, .int .i64 r10] 0 _ _ BO.out H4.out)
          have H6' := aM (show Kd.R k68 68 W7 w.heap.size (fun k_ => some k_ ≠ (.slice A2 r3.length c2 : Value).ownBlock ∧ some k_ ≠ (.slice A4 r5.length c4 : Value).ownBlock) (.slice A6 r7.length c6) r7 from by rw [eN]; exact R_sets (by decide) [.int .i64 r1, .string r2, .slice A2 r3.length c2, .string r4, .slice A4 r5.length c4, .string r6, .slice A6 r7.length c6, .bool r8, .bool r9, .int .i64 r10] 0 _ _ BO.out H6.out)
          clear hN eN  BO HB H2 H4 H6 ho0 ho1 ho2 ho3 ho4 ho5 ho6 ho7 ho8 ho9 ho0f ho1f ho2f ho3f ho4f ho5f ho6f ho7f ho8f ho9f
          have BO := BO'
          have HB := HB'
          have H2 := H2'
          have H4 := H4'
          have H6 := H6'
          clear BO' HB' H2' H4' H6'
          refine bodyPost_ret (results_ct rfl _ _ go 38 #[.int .i64 r1, .string r2, .slice A2 r3.length c2, .string r4, .slice A4 r5.length c4, .string r6, .slice A6 r7.length c6, .bool r8, .bool r9, .int .i64 r10] (0, 0) _ rfl BO.out Tryz.underlying38 rfl (by kernel_rfl)) rfl ?_
          exact ⟨_, _, _, rfl, H2.out, H4.out, H6.out, HB.out⟩
      · rw [if_neg h1] at hD
        have n1 : op ≠ 100 := fun h => h1 (.inl h)
        have n2 : op ≠ 121 := fun h => h1 (.inr (.inl h))
        have n3 : op ≠ 99 := fun h => h1 (.inr (.inr h))
        clear h1
        have c1 : (op == 100) = false := beq_eq_false_iff_ne.2 n1
        have c2 : (op == 121) = false := beq_eq_false_iff_ne.2 n2
        have c3 : (op == 99) = false := beq_eq_false_iff_ne.2 n3
        by_cases h2 : op = 62 ∨ op = 60
        · exact absurd hop (by rcases h2 with rfl | rfl <;> decide)
        · rw [if_neg h2] at hD
          have c4 : (op == 62) = false := beq_eq_false_iff_ne.2 (fun h => h2 (.inl h))
          have c5 : (op == 60) = false := beq_eq_false_iff_ne.2 (fun h => h2 (.inr h))
          by_cases h3 : op = 126
          · exact absurd hop (by subst h3; decide)
          · rw [if_neg h3] at hD
            have c6 : (op == 126) = false := beq_eq_false_iff_ne.2 h3
            by_cases h4 : op = 74
            · rw [if_pos h4] at hD
              have HDD := aM hD
              clear hD
              subst h4
              go_enter Tryz.func11, Tryz.ntmps11
              go_wp2_with (first
                | ((with_reducible refine gate_dst (N := 4) rfl ?_); refine box_event ?hg (N := 4) ?hd (cs := #[.string s, .slice A l.length c]) (t := 24) ?hr ?_; (case hd => rfl); (case hg => rfl); (case hr => first | (go_simp; done) | (go_simp; rfl)); intro gx hg W1 hbox hb; have Ggx := aM (show w.heap.size ≤ gx from by rw [hg]; exact Nat.le_refl _); have HB := aM hb; have BX := aM hbox; clear hb hbox hg)
                | ((with_reducible refine gate_dst (N := 7) rfl ?_); refine box_event ?hg (N := 7) ?hd (cs := #[.int .i64 f, .int .i64 t, .bool ln]) (t := 28) ?hr ?_; (case hd => rfl); (case hg => rfl); (case hr => first | (go_simp; done) | (go_simp; rfl)); intro gr hg W2 hbox hb; have Ggr := aM (show w.heap.size ≤ gr from by rw [hg]; exact HB.out.size); have Ngrgx := aM (show gr ≠ gx from by have := blk_lt BX.out; omega); replace HB := aM (bP HB.out hb); replace BX := aM (bB BX.out hb); have BR := aM hbox; clear hb hbox hg)
                | ((with_reducible refine gate_dst (N := 8) rfl ?_); refine box_event ?hg (N := 8) ?hd (cs := #[.int .i64 0, .string ⟨#[]⟩, .slice none 0 0, .string ⟨#[]⟩, .slice none 0 0, .string ⟨#[]⟩, .slice none 0 0, .bool false, .bool false, .int .i64 0]) (t := 38) ?hr ?_; (case hd => rfl); (case hg => rfl); (case hr => first | (go_simp; done) | (go_simp; rfl)); intro go hg W3 hbox hb; have Ggo := aM (show w.heap.size ≤ go from by rw [hg]; exact HB.out.size); have Ngogx := aM (show go ≠ gx from by have := blk_lt BX.out; omega); have Ngogr := aM (show go ≠ gr from by have := blk_lt BR.out; omega); replace HB := aM (bP HB.out hb); replace BX := aM (bB BX.out hb); replace BR := aM (bB BR.out hb); have BO := aM hbox; clear hb hbox hg; replace hx0 := (bC BX.out 0).trans (rfl : _ = some (Value.string s)); replace hx1 := (bC BX.out 1).trans (rfl : _ = some (Value.slice A l.length c)))
                | ((with_reducible refine gate_callee (f := 29) rfl ?_); refine goesL_ (some 15) rfl rfl Tryz.func29 (by kernel_rfl) rfl #[.agg #[.string s, .slice A l.length c], .int .u64 y] rfl (by (try simp only [List.map_toArray, List.map_cons, List.map_nil]); first | done | rfl) ?_; (with_reducible refine (open_ok k HL.out (cB_ HRC.out HB.out) HCC.out 0 HF.out).mono ?_); rintro e W4 ⟨g, rfl, hD0, hb⟩; have HD := aM (hD0); have LW := aM (HB.out.size); replace HB := aM (bP HB.out hb); replace BX := aM (bB BX.out hb); replace BR := aM (bB BR.out hb); replace BO := aM (bB BO.out hb); refine ⟨_, rfl, ?_⟩; clear hb; replace hr0 := (bC BR.out 0).trans (rfl : _ = some (Value.int .i64 f)); replace hr1 := (bC BR.out 1).trans (rfl : _ = some (Value.int .i64 t)); replace hr2 := (bC BR.out 2).trans (rfl : _ = some (Value.bool ln)))
                | ((with_reducible refine gate_callee (f := 30) rfl ?_); refine gate_guard (by rfl) ?_; refine goesL_ (some 23) rfl rfl Tryz.func30 (by kernel_rfl) rfl #[.pointer (some ⟨g, 0, none⟩), .agg #[.int .i64 f, .int .i64 t, .bool ln]] rfl (by (try simp only [List.map_toArray, List.map_cons, List.map_nil]); first | done | rfl) ?_; (with_reducible refine (right_at HD.out (by have := HV.out; omega) f t ln true HRI.out).mono ?_); rintro e W5 ⟨rfl, hb⟩; replace HB := aM (bP HB.out hb); replace BX := aM (bB BX.out hb); replace BR := aM (bB BR.out hb); replace BO := aM (bB BO.out hb); replace HD := aM (HD.out.below hb); refine ⟨_, rfl, ?_⟩; clear hb; replace hr0 := (bC BR.out 0).trans (rfl : _ = some (Value.int .i64 f)); replace hr1 := (bC BR.out 1).trans (rfl : _ = some (Value.int .i64 t)); replace hr2 := (bC BR.out 2).trans (rfl : _ = some (Value.bool ln)))
                | ((with_reducible refine gate_callee (f := 34) rfl ?_); refine goesL_ (some 58) rfl rfl Tryz.func34 (by kernel_rfl) rfl #[.pointer (some ⟨g, 0, none⟩), .agg #[.int .i64 f, .int .i64 t, .bool ln]] rfl (by (try simp only [List.map_toArray, List.map_cons, List.map_nil]); first | done | rfl) ?_; (with_reducible refine (join_at HD.out HV.out f t ln HRI.out HDD.out).mono ?_); rintro e W6 ⟨v2, v4, v6, rfl, ho2, ho4, ho6, hT⟩; refine ⟨_, rfl, ?_⟩; have BO2 := aM (hT.blk BO.out (HD.out.apart BO.out (by decide))); have HB2 := aM (HB.out.trans (hT.bel.mono LW.out)); have H2 := aM (rL ho2 LW.out); have H4 := aM (rL ho4 LW.out); have H6 := aM (rL ho6 LW.out); clear ho2 ho4 ho6 hT HD BX BR BO HB; have BO := BO2; have HB := HB2; clear BO2 HB2; obtain ⟨A2, c2, rfl⟩ := Kd.R_slice H2.out; obtain ⟨A4, c4, rfl⟩ := Kd.R_slice H4.out; obtain ⟨A6, c6, rfl⟩ := Kd.R_slice H6.out; replace ho0 := (bC BO.out 0).trans (rfl : _ = some (Value.int .i64 0)); replace ho1 := (bC BO.out 1).trans (rfl : _ = some (Value.string ⟨#[]⟩)); replace ho2 := (bC BO.out 2).trans (rfl : _ = some (Value.slice none 0 0)); replace ho3 := (bC BO.out 3).trans (rfl : _ = some (Value.string ⟨#[]⟩)); replace ho4 := (bC BO.out 4).trans (rfl : _ = some (Value.slice none 0 0)); replace ho5 := (bC BO.out 5).trans (rfl : _ = some (Value.string ⟨#[]⟩)); replace ho6 := (bC BO.out 6).trans (rfl : _ = some (Value.slice none 0 0)); replace ho7 := (bC BO.out 7).trans (rfl : _ = some (Value.bool false)); replace ho8 := (bC BO.out 8).trans (rfl : _ = some (Value.bool false)); replace ho9 := (bC BO.out 9).trans (rfl : _ = some (Value.int .i64 0)); replace ho0f := bF BO.out 0; replace ho1f := bF BO.out 1; replace ho2f := bF BO.out 2; replace ho3f := bF BO.out 3; replace ho4f := bF BO.out 4; replace ho5f := bF BO.out 5; replace ho6f := bF BO.out 6; replace ho7f := bF BO.out 7; replace ho8f := bF BO.out 8; replace ho9f := bF BO.out 9)
                )
              generalize hN : ((((((((((W6.setCell ⟨go, 0, none⟩ (.int .i64 r1)).setCell ⟨go, 1, none⟩ (.string r2)).setCell ⟨go, 2, none⟩ (.slice A2 r3.length c2)).setCell ⟨go, 3, none⟩ (.string r4)).setCell ⟨go, 4, none⟩ (.slice A4 r5.length c4)).setCell ⟨go, 5, none⟩ (.string r6)).setCell ⟨go, 6, none⟩ (.slice A6 r7.length c6)).setCell ⟨go, 7, none⟩ (.bool r8)).setCell ⟨go, 8, none⟩ (.bool r9)).setCell ⟨go, 9, none⟩ (.int .i64 r10)) = W7
              have eN : W7 = putL W6 go 0 [.int .i64 r1, .string r2, .slice A2 r3.length c2, .string r4, .slice A4 r5.length c4, .string r6, .slice A6 r7.length c6, .bool r8, .bool r9, .int .i64 r10] := by rw [← hN]; simp only [putL]
              have BO' := aM (show W7.heap[go]? = some (.cells #[.int .i64 r1, .string r2, .slice A2 r3.length c2, .string r4, .slice A4 r5.length c4, .string r6, .slice A6 r7.length c6, .bool r8, .bool r9, .int .i64 r10] 38 (0, 0)) from by rw [eN, blk_sets [.int .i64 r1, .string r2, .slice A2 r3.length c2, .string r4, .slice A4 r5.length c4, .string r6, .slice A6 r7.length c6, .bool r8, .bool r9, .int .i64 r10] 0 _ _ BO.out]; simp only [setsL, List.setIfInBounds_toArray, List.set_cons_zero, List.set_cons_succ])
              have HB' := aM (show Below w.heap.size w W7 from by rw [eN]; exact below_sets Ggo.out [.int .i64 r1, .string r2, .slice A2 r3.length c2, .string r4, .slice A4 r5.length c4, .string r6, .slice A6 r7.length c6, .bool r8, .bool r9, .int .i64 r10] 0 _ HB.out)
              have H2' := aM (show Kd.R k68 68 W7 w.heap.size (fun k_ => some k_ ≠ (.slice A4 r5.length c4 : Value).ownBlock ∧ some k_ ≠ (.slice A6 r7.length c6 : Value).ownBlock) (.slice A2 r3.length c2) r3 from by rw [eN]; exact R_sets (by decide) [.int .i64 r1, .string r2, .slice A2 r3.length c2, .string r4, .slice A4 r5.length c4, .string r6, .slice A6 r7.length c6, .bool r8, .bool r9, .int .i64 r10] 0 _ _ BO.out H2.out)
              have H4' := aM (show Kd.R k68 68 W7 w.heap.size (fun k_ => some k_ ≠ (.slice A2 r3.length c2 : Value).ownBlock ∧ some k_ ≠ (.slice A6 r7.length c6 : Value).ownBlock) (.slice A4 r5.length c4) r5 from by rw [eN]; exact R_sets (by decide) [.int .i64 r1, .string r2, .slice A2 r3.length c2, .string r4, .slice A4 r5.length c4, .string r6, .slice A6 r7.length c6, .bool r8, .bool r9, .int .i64 r10] 0 _ _ BO.out H4.out)
              have H6' := aM (show Kd.R k68 68 W7 w.heap.size (fun k_ => some k_ ≠ (.slice A2 r3.length c2 : Value).ownBlock ∧ some k_ ≠ (.slice A4 r5.length c4 : Value).ownBlock) (.slice A6 r7.length c6) r7 from by rw [eN]; exact R_sets (by decide) [.int .i64 r1, .string r2, .slice A2 r3.length c2, .string r4, .slice A4 r5.length c4, .string r6, .slice A6 r7.length c6, .bool r8, .bool r9, .int .i64 r10] 0 _ _ BO.out H6.out)
              clear hN eN  BO HB H2 H4 H6 ho0 ho1 ho2 ho3 ho4 ho5 ho6 ho7 ho8 ho9 ho0f ho1f ho2f ho3f ho4f ho5f ho6f ho7f ho8f ho9f
              have BO := BO'
              have HB := HB'
              have H2 := H2'
              have H4 := H4'
              have H6 := H6'
              clear BO' HB' H2' H4' H6'
              refine bodyPost_ret (results_ct rfl _ _ go 38 #[.int .i64 r1, .string r2, .slice A2 r3.length c2, .string r4, .slice A4 r5.length c4, .string r6, .slice A6 r7.length c6, .bool r8, .bool r9, .int .i64 r10] (0, 0) _ rfl BO.out Tryz.underlying38 rfl (by kernel_rfl)) rfl ?_
              exact ⟨_, _, _, rfl, H2.out, H4.out, H6.out, HB.out⟩
            · rw [if_neg h4] at hD
              have c7 : (op == 74) = false := beq_eq_false_iff_ne.2 h4
              unfold noO at hD
              simp only [Prod.mk.injEq] at hD
              obtain ⟨rfl, rfl, rfl, rfl, rfl, rfl, rfl, rfl, rfl, rfl, rfl⟩ := hD
              go_enter Tryz.func11, Tryz.ntmps11
              go_wp2_with (first
                | ((with_reducible refine gate_dst (N := 4) rfl ?_); refine box_event ?hg (N := 4) ?hd (cs := #[.string s, .slice A l.length c]) (t := 24) ?hr ?_; (case hd => rfl); (case hg => rfl); (case hr => first | (go_simp; done) | (go_simp; rfl)); intro gx hg W1 hbox hb; have Ggx := aM (show w.heap.size ≤ gx from by rw [hg]; exact Nat.le_refl _); have HB := aM hb; have BX := aM hbox; clear hb hbox hg)
                | ((with_reducible refine gate_dst (N := 7) rfl ?_); refine box_event ?hg (N := 7) ?hd (cs := #[.int .i64 f, .int .i64 t, .bool ln]) (t := 28) ?hr ?_; (case hd => rfl); (case hg => rfl); (case hr => first | (go_simp; done) | (go_simp; rfl)); intro gr hg W2 hbox hb; have Ggr := aM (show w.heap.size ≤ gr from by rw [hg]; exact HB.out.size); have Ngrgx := aM (show gr ≠ gx from by have := blk_lt BX.out; omega); replace HB := aM (bP HB.out hb); replace BX := aM (bB BX.out hb); have BR := aM hbox; clear hb hbox hg)
                | ((with_reducible refine gate_dst (N := 8) rfl ?_); refine box_event ?hg (N := 8) ?hd (cs := #[.int .i64 0, .string ⟨#[]⟩, .slice none 0 0, .string ⟨#[]⟩, .slice none 0 0, .string ⟨#[]⟩, .slice none 0 0, .bool false, .bool false, .int .i64 0]) (t := 38) ?hr ?_; (case hd => rfl); (case hg => rfl); (case hr => first | (go_simp; done) | (go_simp; rfl)); intro go hg W3 hbox hb; have Ggo := aM (show w.heap.size ≤ go from by rw [hg]; exact HB.out.size); have Ngogx := aM (show go ≠ gx from by have := blk_lt BX.out; omega); have Ngogr := aM (show go ≠ gr from by have := blk_lt BR.out; omega); replace HB := aM (bP HB.out hb); replace BX := aM (bB BX.out hb); replace BR := aM (bB BR.out hb); have BO := aM hbox; clear hb hbox hg; replace hx0 := (bC BX.out 0).trans (rfl : _ = some (Value.string s)); replace hx1 := (bC BX.out 1).trans (rfl : _ = some (Value.slice A l.length c)))
                | ((with_reducible refine gate_callee (f := 29) rfl ?_); refine goesL_ (some 15) rfl rfl Tryz.func29 (by kernel_rfl) rfl #[.agg #[.string s, .slice A l.length c], .int .u64 y] rfl (by (try simp only [List.map_toArray, List.map_cons, List.map_nil]); first | done | rfl) ?_; (with_reducible refine (open_ok k HL.out (cB_ HRC.out HB.out) HCC.out 0 HF.out).mono ?_); rintro e W4 ⟨g, rfl, hD0, hb⟩; have HD := aM (hD0); have LW := aM (HB.out.size); replace HB := aM (bP HB.out hb); replace BX := aM (bB BX.out hb); replace BR := aM (bB BR.out hb); replace BO := aM (bB BO.out hb); refine ⟨_, rfl, ?_⟩; clear hb; replace hr0 := (bC BR.out 0).trans (rfl : _ = some (Value.int .i64 f)); replace hr1 := (bC BR.out 1).trans (rfl : _ = some (Value.int .i64 t)); replace hr2 := (bC BR.out 2).trans (rfl : _ = some (Value.bool ln)); replace hr0 := (bC BR.out 0).trans (rfl : _ = some (Value.int .i64 f)); replace hr1 := (bC BR.out 1).trans (rfl : _ = some (Value.int .i64 t)); replace hr2 := (bC BR.out 2).trans (rfl : _ = some (Value.bool ln)); replace ho0 := (bC BO.out 0).trans (rfl : _ = some (Value.int .i64 0)); replace ho1 := (bC BO.out 1).trans (rfl : _ = some (Value.string ⟨#[]⟩)); replace ho2 := (bC BO.out 2).trans (rfl : _ = some (Value.slice none 0 0)); replace ho3 := (bC BO.out 3).trans (rfl : _ = some (Value.string ⟨#[]⟩)); replace ho4 := (bC BO.out 4).trans (rfl : _ = some (Value.slice none 0 0)); replace ho5 := (bC BO.out 5).trans (rfl : _ = some (Value.string ⟨#[]⟩)); replace ho6 := (bC BO.out 6).trans (rfl : _ = some (Value.slice none 0 0)); replace ho7 := (bC BO.out 7).trans (rfl : _ = some (Value.bool false)); replace ho8 := (bC BO.out 8).trans (rfl : _ = some (Value.bool false)); replace ho9 := (bC BO.out 9).trans (rfl : _ = some (Value.int .i64 0)); replace ho0f := bF BO.out 0; replace ho1f := bF BO.out 1; replace ho2f := bF BO.out 2; replace ho3f := bF BO.out 3; replace ho4f := bF BO.out 4; replace ho5f := bF BO.out 5; replace ho6f := bF BO.out 6; replace ho7f := bF BO.out 7; replace ho8f := bF BO.out 8; replace ho9f := bF BO.out 9)
                | ((with_reducible refine gate_callee (f := 30) rfl ?_); refine gate_guard (by rfl) ?_; refine goesL_ (some 23) rfl rfl Tryz.func30 (by kernel_rfl) rfl #[.pointer (some ⟨g, 0, none⟩), .agg #[.int .i64 f, .int .i64 t, .bool ln]] rfl (by (try simp only [List.map_toArray, List.map_cons, List.map_nil]); first | done | rfl) ?_; (with_reducible refine (right_at HD.out (by have := HV.out; omega) f t ln true HRI.out).mono ?_); rintro e W5 ⟨rfl, hb⟩; replace HB := aM (bP HB.out hb); replace BX := aM (bB BX.out hb); replace BR := aM (bB BR.out hb); replace BO := aM (bB BO.out hb); replace HD := aM (HD.out.below hb); refine ⟨_, rfl, ?_⟩; clear hb; replace hr0 := (bC BR.out 0).trans (rfl : _ = some (Value.int .i64 f)); replace hr1 := (bC BR.out 1).trans (rfl : _ = some (Value.int .i64 t)); replace hr2 := (bC BR.out 2).trans (rfl : _ = some (Value.bool ln)); replace ho0 := (bC BO.out 0).trans (rfl : _ = some (Value.int .i64 0)); replace ho1 := (bC BO.out 1).trans (rfl : _ = some (Value.string ⟨#[]⟩)); replace ho2 := (bC BO.out 2).trans (rfl : _ = some (Value.slice none 0 0)); replace ho3 := (bC BO.out 3).trans (rfl : _ = some (Value.string ⟨#[]⟩)); replace ho4 := (bC BO.out 4).trans (rfl : _ = some (Value.slice none 0 0)); replace ho5 := (bC BO.out 5).trans (rfl : _ = some (Value.string ⟨#[]⟩)); replace ho6 := (bC BO.out 6).trans (rfl : _ = some (Value.slice none 0 0)); replace ho7 := (bC BO.out 7).trans (rfl : _ = some (Value.bool false)); replace ho8 := (bC BO.out 8).trans (rfl : _ = some (Value.bool false)); replace ho9 := (bC BO.out 9).trans (rfl : _ = some (Value.int .i64 0)); replace ho0f := bF BO.out 0; replace ho1f := bF BO.out 1; replace ho2f := bF BO.out 2; replace ho3f := bF BO.out 3; replace ho4f := bF BO.out 4; replace ho5f := bF BO.out 5; replace ho6f := bF BO.out 6; replace ho7f := bF BO.out 7; replace ho8f := bF BO.out 8; replace ho9f := bF BO.out 9)
                )
              clear HD
              generalize hN : ((((((((((W5.setCell ⟨go, 0, none⟩ (.int .i64 0)).setCell ⟨go, 1, none⟩ (.string ⟨#[]⟩)).setCell ⟨go, 2, none⟩ (.slice none 0 0)).setCell ⟨go, 3, none⟩ (.string ⟨#[]⟩)).setCell ⟨go, 4, none⟩ (.slice none 0 0)).setCell ⟨go, 5, none⟩ (.string ⟨#[]⟩)).setCell ⟨go, 6, none⟩ (.slice none 0 0)).setCell ⟨go, 7, none⟩ (.bool false)).setCell ⟨go, 8, none⟩ (.bool false)).setCell ⟨go, 9, none⟩ (.int .i64 0)) = W6
              have eN : W6 = putL W5 go 0 [.int .i64 0, .string ⟨#[]⟩, .slice none 0 0, .string ⟨#[]⟩, .slice none 0 0, .string ⟨#[]⟩, .slice none 0 0, .bool false, .bool false, .int .i64 0] := by rw [← hN]; simp only [putL]
              have HB' := aM (show Below w.heap.size w W6 from by rw [eN]; exact below_sets Ggo.out [.int .i64 0, .string ⟨#[]⟩, .slice none 0 0, .string ⟨#[]⟩, .slice none 0 0, .string ⟨#[]⟩, .slice none 0 0, .bool false, .bool false, .int .i64 0] 0 _ HB.out)
              have BX' := aM (show W6.heap[gx]? = some (.cells #[.string s, .slice A l.length c] 24 (0, 0)) from by rw [eN]; exact blk_sets_far Ngogx.out.symm [.int .i64 0, .string ⟨#[]⟩, .slice none 0 0, .string ⟨#[]⟩, .slice none 0 0, .string ⟨#[]⟩, .slice none 0 0, .bool false, .bool false, .int .i64 0] 0 _ BX.out)
              have BR' := aM (show W6.heap[gr]? = some (.cells #[.int .i64 f, .int .i64 t, .bool ln] 28 (0, 0)) from by rw [eN]; exact blk_sets_far Ngogr.out.symm [.int .i64 0, .string ⟨#[]⟩, .slice none 0 0, .string ⟨#[]⟩, .slice none 0 0, .string ⟨#[]⟩, .slice none 0 0, .bool false, .bool false, .int .i64 0] 0 _ BR.out)
              have BO' := aM (show W6.heap[go]? = some (.cells #[.int .i64 0, .string ⟨#[]⟩, .slice none 0 0, .string ⟨#[]⟩, .slice none 0 0, .string ⟨#[]⟩, .slice none 0 0, .bool false, .bool false, .int .i64 0] 38 (0, 0)) from by rw [eN, blk_sets [.int .i64 0, .string ⟨#[]⟩, .slice none 0 0, .string ⟨#[]⟩, .slice none 0 0, .string ⟨#[]⟩, .slice none 0 0, .bool false, .bool false, .int .i64 0] 0 _ _ BO.out]; simp only [setsL, List.setIfInBounds_toArray, List.set_cons_zero, List.set_cons_succ])
              clear hN eN  HB BX BR BO hr0 hr1 hr2 ho0 ho1 ho2 ho3 ho4 ho5 ho6 ho7 ho8 ho9 ho0f ho1f ho2f ho3f ho4f ho5f ho6f ho7f ho8f ho9f
              have HB := HB'
              have BX := BX'
              have BR := BR'
              have BO := BO'
              clear HB' BX' BR' BO'
              refine bodyPost_ret (results_ct rfl _ _ go 38 #[.int .i64 0, .string ⟨#[]⟩, .slice none 0 0, .string ⟨#[]⟩, .slice none 0 0, .string ⟨#[]⟩, .slice none 0 0, .bool false, .bool false, .int .i64 0] (0, 0) _ rfl BO.out Tryz.underlying38 rfl (by kernel_rfl)) rfl ?_
              exact ⟨_, _, _, rfl, Kd.R_nil _ _ _ _ _, Kd.R_nil _ _ _ _ _, Kd.R_nil _ _ _ _ _, HB.out⟩
    · rw [if_neg (fun hh => hR hh.2)] at hD
      have HRI := aM (Bool.eq_false_iff.2 hR)
      clear hR
      unfold noO at hD
      simp only [Prod.mk.injEq] at hD
      obtain ⟨rfl, rfl, rfl, rfl, rfl, rfl, rfl, rfl, rfl, rfl, rfl⟩ := hD
      go_enter Tryz.func11, Tryz.ntmps11
      go_wp2_with (first
        | ((with_reducible refine gate_dst (N := 4) rfl ?_); refine box_event ?hg (N := 4) ?hd (cs := #[.string s, .slice A l.length c]) (t := 24) ?hr ?_; (case hd => rfl); (case hg => rfl); (case hr => first | (go_simp; done) | (go_simp; rfl)); intro gx hg W1 hbox hb; have Ggx := aM (show w.heap.size ≤ gx from by rw [hg]; exact Nat.le_refl _); have HB := aM hb; have BX := aM hbox; clear hb hbox hg)
        | ((with_reducible refine gate_dst (N := 7) rfl ?_); refine box_event ?hg (N := 7) ?hd (cs := #[.int .i64 f, .int .i64 t, .bool ln]) (t := 28) ?hr ?_; (case hd => rfl); (case hg => rfl); (case hr => first | (go_simp; done) | (go_simp; rfl)); intro gr hg W2 hbox hb; have Ggr := aM (show w.heap.size ≤ gr from by rw [hg]; exact HB.out.size); have Ngrgx := aM (show gr ≠ gx from by have := blk_lt BX.out; omega); replace HB := aM (bP HB.out hb); replace BX := aM (bB BX.out hb); have BR := aM hbox; clear hb hbox hg)
        | ((with_reducible refine gate_dst (N := 8) rfl ?_); refine box_event ?hg (N := 8) ?hd (cs := #[.int .i64 0, .string ⟨#[]⟩, .slice none 0 0, .string ⟨#[]⟩, .slice none 0 0, .string ⟨#[]⟩, .slice none 0 0, .bool false, .bool false, .int .i64 0]) (t := 38) ?hr ?_; (case hd => rfl); (case hg => rfl); (case hr => first | (go_simp; done) | (go_simp; rfl)); intro go hg W3 hbox hb; have Ggo := aM (show w.heap.size ≤ go from by rw [hg]; exact HB.out.size); have Ngogx := aM (show go ≠ gx from by have := blk_lt BX.out; omega); have Ngogr := aM (show go ≠ gr from by have := blk_lt BR.out; omega); replace HB := aM (bP HB.out hb); replace BX := aM (bB BX.out hb); replace BR := aM (bB BR.out hb); have BO := aM hbox; clear hb hbox hg; replace hx0 := (bC BX.out 0).trans (rfl : _ = some (Value.string s)); replace hx1 := (bC BX.out 1).trans (rfl : _ = some (Value.slice A l.length c)))
        | ((with_reducible refine gate_callee (f := 29) rfl ?_); refine goesL_ (some 15) rfl rfl Tryz.func29 (by kernel_rfl) rfl #[.agg #[.string s, .slice A l.length c], .int .u64 y] rfl (by (try simp only [List.map_toArray, List.map_cons, List.map_nil]); first | done | rfl) ?_; (with_reducible refine (open_ok k HL.out (cB_ HRC.out HB.out) HCC.out 0 HF.out).mono ?_); rintro e W4 ⟨g, rfl, hD0, hb⟩; have HD := aM (hD0); have LW := aM (HB.out.size); replace HB := aM (bP HB.out hb); replace BX := aM (bB BX.out hb); replace BR := aM (bB BR.out hb); replace BO := aM (bB BO.out hb); refine ⟨_, rfl, ?_⟩; clear hb; replace hr0 := (bC BR.out 0).trans (rfl : _ = some (Value.int .i64 f)); replace hr1 := (bC BR.out 1).trans (rfl : _ = some (Value.int .i64 t)); replace hr2 := (bC BR.out 2).trans (rfl : _ = some (Value.bool ln)); replace hr0 := (bC BR.out 0).trans (rfl : _ = some (Value.int .i64 f)); replace hr1 := (bC BR.out 1).trans (rfl : _ = some (Value.int .i64 t)); replace hr2 := (bC BR.out 2).trans (rfl : _ = some (Value.bool ln)); replace ho0 := (bC BO.out 0).trans (rfl : _ = some (Value.int .i64 0)); replace ho1 := (bC BO.out 1).trans (rfl : _ = some (Value.string ⟨#[]⟩)); replace ho2 := (bC BO.out 2).trans (rfl : _ = some (Value.slice none 0 0)); replace ho3 := (bC BO.out 3).trans (rfl : _ = some (Value.string ⟨#[]⟩)); replace ho4 := (bC BO.out 4).trans (rfl : _ = some (Value.slice none 0 0)); replace ho5 := (bC BO.out 5).trans (rfl : _ = some (Value.string ⟨#[]⟩)); replace ho6 := (bC BO.out 6).trans (rfl : _ = some (Value.slice none 0 0)); replace ho7 := (bC BO.out 7).trans (rfl : _ = some (Value.bool false)); replace ho8 := (bC BO.out 8).trans (rfl : _ = some (Value.bool false)); replace ho9 := (bC BO.out 9).trans (rfl : _ = some (Value.int .i64 0)); replace ho0f := bF BO.out 0; replace ho1f := bF BO.out 1; replace ho2f := bF BO.out 2; replace ho3f := bF BO.out 3; replace ho4f := bF BO.out 4; replace ho5f := bF BO.out 5; replace ho6f := bF BO.out 6; replace ho7f := bF BO.out 7; replace ho8f := bF BO.out 8; replace ho9f := bF BO.out 9)
        | ((with_reducible refine gate_callee (f := 30) rfl ?_); refine gate_guard (by rfl) ?_; refine goesL_ (some 23) rfl rfl Tryz.func30 (by kernel_rfl) rfl #[.pointer (some ⟨g, 0, none⟩), .agg #[.int .i64 f, .int .i64 t, .bool ln]] rfl (by (try simp only [List.map_toArray, List.map_cons, List.map_nil]); first | done | rfl) ?_; (with_reducible refine (right_at HD.out (by have := HV.out; omega) f t ln false HRI.out).mono ?_); rintro e W5 ⟨rfl, hb⟩; replace HB := aM (bP HB.out hb); replace BX := aM (bB BX.out hb); replace BR := aM (bB BR.out hb); replace BO := aM (bB BO.out hb); replace HD := aM (HD.out.below hb); refine ⟨_, rfl, ?_⟩; clear hb; replace hr0 := (bC BR.out 0).trans (rfl : _ = some (Value.int .i64 f)); replace hr1 := (bC BR.out 1).trans (rfl : _ = some (Value.int .i64 t)); replace hr2 := (bC BR.out 2).trans (rfl : _ = some (Value.bool ln)); replace ho0 := (bC BO.out 0).trans (rfl : _ = some (Value.int .i64 0)); replace ho1 := (bC BO.out 1).trans (rfl : _ = some (Value.string ⟨#[]⟩)); replace ho2 := (bC BO.out 2).trans (rfl : _ = some (Value.slice none 0 0)); replace ho3 := (bC BO.out 3).trans (rfl : _ = some (Value.string ⟨#[]⟩)); replace ho4 := (bC BO.out 4).trans (rfl : _ = some (Value.slice none 0 0)); replace ho5 := (bC BO.out 5).trans (rfl : _ = some (Value.string ⟨#[]⟩)); replace ho6 := (bC BO.out 6).trans (rfl : _ = some (Value.slice none 0 0)); replace ho7 := (bC BO.out 7).trans (rfl : _ = some (Value.bool false)); replace ho8 := (bC BO.out 8).trans (rfl : _ = some (Value.bool false)); replace ho9 := (bC BO.out 9).trans (rfl : _ = some (Value.int .i64 0)); replace ho0f := bF BO.out 0; replace ho1f := bF BO.out 1; replace ho2f := bF BO.out 2; replace ho3f := bF BO.out 3; replace ho4f := bF BO.out 4; replace ho5f := bF BO.out 5; replace ho6f := bF BO.out 6; replace ho7f := bF BO.out 7; replace ho8f := bF BO.out 8; replace ho9f := bF BO.out 9)
        )
      clear HD
      generalize hN : ((((((((((W5.setCell ⟨go, 0, none⟩ (.int .i64 0)).setCell ⟨go, 1, none⟩ (.string ⟨#[]⟩)).setCell ⟨go, 2, none⟩ (.slice none 0 0)).setCell ⟨go, 3, none⟩ (.string ⟨#[]⟩)).setCell ⟨go, 4, none⟩ (.slice none 0 0)).setCell ⟨go, 5, none⟩ (.string ⟨#[]⟩)).setCell ⟨go, 6, none⟩ (.slice none 0 0)).setCell ⟨go, 7, none⟩ (.bool false)).setCell ⟨go, 8, none⟩ (.bool false)).setCell ⟨go, 9, none⟩ (.int .i64 0)) = W6
      have eN : W6 = putL W5 go 0 [.int .i64 0, .string ⟨#[]⟩, .slice none 0 0, .string ⟨#[]⟩, .slice none 0 0, .string ⟨#[]⟩, .slice none 0 0, .bool false, .bool false, .int .i64 0] := by rw [← hN]; simp only [putL]
      have HB' := aM (show Below w.heap.size w W6 from by rw [eN]; exact below_sets Ggo.out [.int .i64 0, .string ⟨#[]⟩, .slice none 0 0, .string ⟨#[]⟩, .slice none 0 0, .string ⟨#[]⟩, .slice none 0 0, .bool false, .bool false, .int .i64 0] 0 _ HB.out)
      have BX' := aM (show W6.heap[gx]? = some (.cells #[.string s, .slice A l.length c] 24 (0, 0)) from by rw [eN]; exact blk_sets_far Ngogx.out.symm [.int .i64 0, .string ⟨#[]⟩, .slice none 0 0, .string ⟨#[]⟩, .slice none 0 0, .string ⟨#[]⟩, .slice none 0 0, .bool false, .bool false, .int .i64 0] 0 _ BX.out)
      have BR' := aM (show W6.heap[gr]? = some (.cells #[.int .i64 f, .int .i64 t, .bool ln] 28 (0, 0)) from by rw [eN]; exact blk_sets_far Ngogr.out.symm [.int .i64 0, .string ⟨#[]⟩, .slice none 0 0, .string ⟨#[]⟩, .slice none 0 0, .string ⟨#[]⟩, .slice none 0 0, .bool false, .bool false, .int .i64 0] 0 _ BR.out)
      have BO' := aM (show W6.heap[go]? = some (.cells #[.int .i64 0, .string ⟨#[]⟩, .slice none 0 0, .string ⟨#[]⟩, .slice none 0 0, .string ⟨#[]⟩, .slice none 0 0, .bool false, .bool false, .int .i64 0] 38 (0, 0)) from by rw [eN, blk_sets [.int .i64 0, .string ⟨#[]⟩, .slice none 0 0, .string ⟨#[]⟩, .slice none 0 0, .string ⟨#[]⟩, .slice none 0 0, .bool false, .bool false, .int .i64 0] 0 _ _ BO.out]; simp only [setsL, List.setIfInBounds_toArray, List.set_cons_zero, List.set_cons_succ])
      clear hN eN  HB BX BR BO hr0 hr1 hr2 ho0 ho1 ho2 ho3 ho4 ho5 ho6 ho7 ho8 ho9 ho0f ho1f ho2f ho3f ho4f ho5f ho6f ho7f ho8f ho9f
      have HB := HB'
      have BX := BX'
      have BR := BR'
      have BO := BO'
      clear HB' BX' BR' BO'
      refine bodyPost_ret (results_ct rfl _ _ go 38 #[.int .i64 0, .string ⟨#[]⟩, .slice none 0 0, .string ⟨#[]⟩, .slice none 0 0, .string ⟨#[]⟩, .slice none 0 0, .bool false, .bool false, .int .i64 0] (0, 0) _ rfl BO.out Tryz.underlying38 rfl (by kernel_rfl)) rfl ?_
      exact ⟨_, _, _, rfl, Kd.R_nil _ _ _ _ _, Kd.R_nil _ _ _ _ _, Kd.R_nil _ _ _ _ _, HB.out⟩
  · rw [if_neg (fun hh => he hh.1)] at hD
    have b3 : (er != 0) = true := bne_iff_ne.2 he
    have b4 : (er == 0) = false := beq_eq_false_iff_ne.2 he
    unfold noO at hD
    simp only [Prod.mk.injEq] at hD
    obtain ⟨rfl, rfl, rfl, rfl, rfl, rfl, rfl, rfl, rfl, rfl, rfl⟩ := hD
    go_enter Tryz.func11, Tryz.ntmps11
    go_wp2_with (first
      | ((with_reducible refine gate_dst (N := 4) rfl ?_); refine box_event ?hg (N := 4) ?hd (cs := #[.string s, .slice A l.length c]) (t := 24) ?hr ?_; (case hd => rfl); (case hg => rfl); (case hr => first | (go_simp; done) | (go_simp; rfl)); intro gx hg W1 hbox hb; have Ggx := aM (show w.heap.size ≤ gx from by rw [hg]; exact Nat.le_refl _); have HB := aM hb; have BX := aM hbox; clear hb hbox hg)
      | ((with_reducible refine gate_dst (N := 7) rfl ?_); refine box_event ?hg (N := 7) ?hd (cs := #[.int .i64 f, .int .i64 t, .bool ln]) (t := 28) ?hr ?_; (case hd => rfl); (case hg => rfl); (case hr => first | (go_simp; done) | (go_simp; rfl)); intro gr hg W2 hbox hb; have Ggr := aM (show w.heap.size ≤ gr from by rw [hg]; exact HB.out.size); have Ngrgx := aM (show gr ≠ gx from by have := blk_lt BX.out; omega); replace HB := aM (bP HB.out hb); replace BX := aM (bB BX.out hb); have BR := aM hbox; clear hb hbox hg)
      | ((with_reducible refine gate_dst (N := 8) rfl ?_); refine box_event ?hg (N := 8) ?hd (cs := #[.int .i64 0, .string ⟨#[]⟩, .slice none 0 0, .string ⟨#[]⟩, .slice none 0 0, .string ⟨#[]⟩, .slice none 0 0, .bool false, .bool false, .int .i64 0]) (t := 38) ?hr ?_; (case hd => rfl); (case hg => rfl); (case hr => first | (go_simp; done) | (go_simp; rfl)); intro go hg W3 hbox hb; have Ggo := aM (show w.heap.size ≤ go from by rw [hg]; exact HB.out.size); have Ngogx := aM (show go ≠ gx from by have := blk_lt BX.out; omega); have Ngogr := aM (show go ≠ gr from by have := blk_lt BR.out; omega); replace HB := aM (bP HB.out hb); replace BX := aM (bB BX.out hb); replace BR := aM (bB BR.out hb); have BO := aM hbox; clear hb hbox hg; replace hx0 := (bC BX.out 0).trans (rfl : _ = some (Value.string s)); replace hx1 := (bC BX.out 1).trans (rfl : _ = some (Value.slice A l.length c)))
      | ((with_reducible refine gate_callee (f := 29) rfl ?_); refine goesL_ (some 15) rfl rfl Tryz.func29 (by kernel_rfl) rfl #[.agg #[.string s, .slice A l.length c], .int .u64 y] rfl (by (try simp only [List.map_toArray, List.map_cons, List.map_nil]); first | done | rfl) ?_; (with_reducible refine (open_ok k HL.out (cB_ HRC.out HB.out) HCC.out er HF.out).mono ?_); rintro e W4 ⟨g, rfl, hD0, hb⟩; have HD := aM (hD0); have LW := aM (HB.out.size); replace HB := aM (bP HB.out hb); replace BX := aM (bB BX.out hb); replace BR := aM (bB BR.out hb); replace BO := aM (bB BO.out hb); refine ⟨_, rfl, ?_⟩; clear hb; replace hr0 := (bC BR.out 0).trans (rfl : _ = some (Value.int .i64 f)); replace hr1 := (bC BR.out 1).trans (rfl : _ = some (Value.int .i64 t)); replace hr2 := (bC BR.out 2).trans (rfl : _ = some (Value.bool ln)); replace hr0 := (bC BR.out 0).trans (rfl : _ = some (Value.int .i64 f)); replace hr1 := (bC BR.out 1).trans (rfl : _ = some (Value.int .i64 t)); replace hr2 := (bC BR.out 2).trans (rfl : _ = some (Value.bool ln)); replace ho0 := (bC BO.out 0).trans (rfl : _ = some (Value.int .i64 0)); replace ho1 := (bC BO.out 1).trans (rfl : _ = some (Value.string ⟨#[]⟩)); replace ho2 := (bC BO.out 2).trans (rfl : _ = some (Value.slice none 0 0)); replace ho3 := (bC BO.out 3).trans (rfl : _ = some (Value.string ⟨#[]⟩)); replace ho4 := (bC BO.out 4).trans (rfl : _ = some (Value.slice none 0 0)); replace ho5 := (bC BO.out 5).trans (rfl : _ = some (Value.string ⟨#[]⟩)); replace ho6 := (bC BO.out 6).trans (rfl : _ = some (Value.slice none 0 0)); replace ho7 := (bC BO.out 7).trans (rfl : _ = some (Value.bool false)); replace ho8 := (bC BO.out 8).trans (rfl : _ = some (Value.bool false)); replace ho9 := (bC BO.out 9).trans (rfl : _ = some (Value.int .i64 0)); replace ho0f := bF BO.out 0; replace ho1f := bF BO.out 1; replace ho2f := bF BO.out 2; replace ho3f := bF BO.out 3; replace ho4f := bF BO.out 4; replace ho5f := bF BO.out 5; replace ho6f := bF BO.out 6; replace ho7f := bF BO.out 7; replace ho8f := bF BO.out 8; replace ho9f := bF BO.out 9)
      )
    clear HD
    generalize hN : ((((((((((W4.setCell ⟨go, 0, none⟩ (.int .i64 0)).setCell ⟨go, 1, none⟩ (.string ⟨#[]⟩)).setCell ⟨go, 2, none⟩ (.slice none 0 0)).setCell ⟨go, 3, none⟩ (.string ⟨#[]⟩)).setCell ⟨go, 4, none⟩ (.slice none 0 0)).setCell ⟨go, 5, none⟩ (.string ⟨#[]⟩)).setCell ⟨go, 6, none⟩ (.slice none 0 0)).setCell ⟨go, 7, none⟩ (.bool false)).setCell ⟨go, 8, none⟩ (.bool false)).setCell ⟨go, 9, none⟩ (.int .i64 0)) = W5
    have eN : W5 = putL W4 go 0 [.int .i64 0, .string ⟨#[]⟩, .slice none 0 0, .string ⟨#[]⟩, .slice none 0 0, .string ⟨#[]⟩, .slice none 0 0, .bool false, .bool false, .int .i64 0] := by rw [← hN]; simp only [putL]
    have HB' := aM (show Below w.heap.size w W5 from by rw [eN]; exact below_sets Ggo.out [.int .i64 0, .string ⟨#[]⟩, .slice none 0 0, .string ⟨#[]⟩, .slice none 0 0, .string ⟨#[]⟩, .slice none 0 0, .bool false, .bool false, .int .i64 0] 0 _ HB.out)
    have BX' := aM (show W5.heap[gx]? = some (.cells #[.string s, .slice A l.length c] 24 (0, 0)) from by rw [eN]; exact blk_sets_far Ngogx.out.symm [.int .i64 0, .string ⟨#[]⟩, .slice none 0 0, .string ⟨#[]⟩, .slice none 0 0, .string ⟨#[]⟩, .slice none 0 0, .bool false, .bool false, .int .i64 0] 0 _ BX.out)
    have BR' := aM (show W5.heap[gr]? = some (.cells #[.int .i64 f, .int .i64 t, .bool ln] 28 (0, 0)) from by rw [eN]; exact blk_sets_far Ngogr.out.symm [.int .i64 0, .string ⟨#[]⟩, .slice none 0 0, .string ⟨#[]⟩, .slice none 0 0, .string ⟨#[]⟩, .slice none 0 0, .bool false, .bool false, .int .i64 0] 0 _ BR.out)
    have BO' := aM (show W5.heap[go]? = some (.cells #[.int .i64 0, .string ⟨#[]⟩, .slice none 0 0, .string ⟨#[]⟩, .slice none 0 0, .string ⟨#[]⟩, .slice none 0 0, .bool false, .bool false, .int .i64 0] 38 (0, 0)) from by rw [eN, blk_sets [.int .i64 0, .string ⟨#[]⟩, .slice none 0 0, .string ⟨#[]⟩, .slice none 0 0, .string ⟨#[]⟩, .slice none 0 0, .bool false, .bool false, .int .i64 0] 0 _ _ BO.out]; simp only [setsL, List.setIfInBounds_toArray, List.set_cons_zero, List.set_cons_succ])
    clear hN eN  HB BX BR BO hr0 hr1 hr2 ho0 ho1 ho2 ho3 ho4 ho5 ho6 ho7 ho8 ho9 ho0f ho1f ho2f ho3f ho4f ho5f ho6f ho7f ho8f ho9f
    have HB := HB'
    have BX := BX'
    have BR := BR'
    have BO := BO'
    clear HB' BX' BR' BO'
    refine bodyPost_ret (results_ct rfl _ _ go 38 #[.int .i64 0, .string ⟨#[]⟩, .slice none 0 0, .string ⟨#[]⟩, .slice none 0 0, .string ⟨#[]⟩, .slice none 0 0, .bool false, .bool false, .int .i64 0] (0, 0) _ rfl BO.out Tryz.underlying38 rfl (by kernel_rfl)) rfl ?_
    exact ⟨_, _, _, rfl, Kd.R_nil _ _ _ _ _, Kd.R_nil _ _ _ _ _, Kd.R_nil _ _ _ _ _, HB.out⟩
end Go.Proofs.YtjkfkiebhgkolaaGreatDoor.PB
end

section
namespace Go.Proofs.YtjkfkiebhgkolaaGreatDoor.PB
open Go.RowKit Go.Proofs.YtjkfkiebhgkolaaGreatDoorW.PrintWords Go.Proofs.YtjkfkiebhgkolaaGreatDoorW.PrintLast Go.Proofs.YtjkfkiebhgkolaaGreatDoorW.PrintMore
attribute [local go_sem] max2_int min2_int max_two min_two max_three min_three max_four min_four   
set_option linter.unusedVariables false
set_option linter.unusedSimpArgs false
def keys_May.f (a0 : Int) : Option (Bool) := if a0 ≥ 1 then (if a0 ≤ 27 then (some true) else (if a0 ≥ 32 then (if a0 = 127 then (some false) else ((utf8_ValidRune.f a0).bind fun t206 => (some t206))) else (some false))) else (if a0 ≥ 32 then (if a0 = 127 then (some false) else ((utf8_ValidRune.f a0).bind fun t207 => (some t207))) else (some false))
set_option maxHeartbeats 8000000 in
set_option maxRecDepth 100000 in
theorem keys_May.calls (a0 : Int) (r : Bool) (w : World) (h : keys_May.f a0 = some r) :
  Calls Tryz.prog 42 #[.int .i32 a0] w fun e w' => e = .returned (.bool r) ∧ Below w.heap.size w w' := by
 have HB := aM (Below.refl w.heap.size w)
 have H : (if a0 ≥ 1 then (if a0 ≤ 27 then (some true) else (if a0 ≥ 32 then (if a0 = 127 then (some false) else ((utf8_ValidRune.f a0).bind fun t206 => (some t206))) else (some false))) else (if a0 ≥ 32 then (if a0 = 127 then (some false) else ((utf8_ValidRune.f a0).bind fun t207 => (some t207))) else (some false))) = some r := h
 clear h
 by_cases c2 : a0 ≥ 1
 ·rw [if_pos c2] at H
  have c2b0 : decide (1 ≤ a0) = true := decide_eq_true c2
  clear c2
  by_cases c3 : a0 ≤ 27
  ·rw [if_pos c3] at H
   have c3b0 : decide (a0 ≤ 27) = true := decide_eq_true c3
   clear c3
   obtain rfl := Option.some.inj H
   go_enter Tryz.func42, Tryz.ntmps42
   go_wp2
   go_ret
   exact ⟨by first | rfl | (simp [errW_none, errW_some] <;> rfl) | (simp [*, errW_none, errW_some] <;> rfl), by exact ey HB.out⟩
  ·rw [if_neg c3] at H
   have c3b0 : decide (a0 ≤ 27) = false := decide_eq_false c3
   clear c3
   by_cases c4 : a0 ≥ 32
   ·rw [if_pos c4] at H
    have c4b0 : decide (32 ≤ a0) = true := decide_eq_true c4
    clear c4
    by_cases c5 : a0 = 127
    ·rw [if_pos c5] at H
     have c5b0 : (a0 == 127) = true := beq_iff_eq.mpr c5
     have c5b1 : (a0 != 127) = false := bne_eq_false_iff_eq.mpr c5
     clear c5
     obtain rfl := Option.some.inj H
     go_enter Tryz.func42, Tryz.ntmps42
     go_wp2
     go_ret
     exact ⟨by first | rfl | (simp [errW_none, errW_some] <;> rfl) | (simp [*, errW_none, errW_some] <;> rfl), by exact ey HB.out⟩
    ·rw [if_neg c5] at H
     have c5b0 : (a0 == 127) = false := beq_eq_false_iff_ne.mpr c5
     have c5b1 : (a0 != 127) = true := bne_iff_ne.mpr c5
     replace H := Option.bind_eq_some_iff.mp H
     obtain ⟨t206, A60, H⟩ := H
     replace H : (some t206) = some r := H
     have A6 := aM A60
     clear A60
     obtain rfl := Option.some.inj H
     go_enter Tryz.func42, Tryz.ntmps42
     go_wp2_with (first | (go_at_call 91; (with_reducible refine (utf8_ValidRune.calls a0 t206 _ A6.out).mono ?_); rintro e w7 ⟨rfl, hb⟩; have n0_ := aM (bP (ey HB.out) hb); clear HB; have HB := n0_; clear n0_; (try clear hb); (try clear hb2); (try clear hk); (try clear hi)))
     go_ret
     exact ⟨by first | rfl | (simp [errW_none, errW_some] <;> rfl) | (simp [*, errW_none, errW_some] <;> rfl), by exact ey HB.out⟩
   ·rw [if_neg c4] at H
    have c4b0 : decide (32 ≤ a0) = false := decide_eq_false c4
    clear c4
    obtain rfl := Option.some.inj H
    go_enter Tryz.func42, Tryz.ntmps42
    go_wp2
    go_ret
    exact ⟨by first | rfl | (simp [errW_none, errW_some] <;> rfl) | (simp [*, errW_none, errW_some] <;> rfl), by exact ey HB.out⟩
 ·rw [if_neg c2] at H
  have c2b0 : decide (1 ≤ a0) = false := decide_eq_false c2
  clear c2
  by_cases c8 : a0 ≥ 32
  ·rw [if_pos c8] at H
   have c8b0 : decide (32 ≤ a0) = true := decide_eq_true c8
   clear c8
   by_cases c9 : a0 = 127
   ·rw [if_pos c9] at H
    have c9b0 : (a0 == 127) = true := beq_iff_eq.mpr c9
    have c9b1 : (a0 != 127) = false := bne_eq_false_iff_eq.mpr c9
    clear c9
    obtain rfl := Option.some.inj H
    go_enter Tryz.func42, Tryz.ntmps42
    go_wp2
    go_ret
    exact ⟨by first | rfl | (simp [errW_none, errW_some] <;> rfl) | (simp [*, errW_none, errW_some] <;> rfl), by exact ey HB.out⟩
   ·rw [if_neg c9] at H
    have c9b0 : (a0 == 127) = false := beq_eq_false_iff_ne.mpr c9
    have c9b1 : (a0 != 127) = true := bne_iff_ne.mpr c9
    replace H := Option.bind_eq_some_iff.mp H
    obtain ⟨t207, A100, H⟩ := H
    replace H : (some t207) = some r := H
    have A10 := aM A100
    clear A100
    obtain rfl := Option.some.inj H
    go_enter Tryz.func42, Tryz.ntmps42
    go_wp2_with (first | (go_at_call 91; (with_reducible refine (utf8_ValidRune.calls a0 t207 _ A10.out).mono ?_); rintro e w11 ⟨rfl, hb⟩; have n0_ := aM (bP (ey HB.out) hb); clear HB; have HB := n0_; clear n0_; (try clear hb); (try clear hb2); (try clear hk); (try clear hi)))
    go_ret
    exact ⟨by first | rfl | (simp [errW_none, errW_some] <;> rfl) | (simp [*, errW_none, errW_some] <;> rfl), by exact ey HB.out⟩
  ·rw [if_neg c8] at H
   have c8b0 : decide (32 ≤ a0) = false := decide_eq_false c8
   clear c8
   obtain rfl := Option.some.inj H
   go_enter Tryz.func42, Tryz.ntmps42
   go_wp2
   go_ret
   exact ⟨by first | rfl | (simp [errW_none, errW_some] <;> rfl) | (simp [*, errW_none, errW_some] <;> rfl), by exact ey HB.out⟩
end Go.Proofs.YtjkfkiebhgkolaaGreatDoor.PB
end

section
namespace Go.Proofs.YtjkfkiebhgkolaaGreatDoor.PB
open Go.RowKit Go.Proofs.YtjkfkiebhgkolaaGreatDoorW.PrintWords Go.Proofs.YtjkfkiebhgkolaaGreatDoorW.PrintLast Go.Proofs.YtjkfkiebhgkolaaGreatDoorW.PrintMore
attribute [local go_sem] max2_int min2_int max_two min_two max_three min_three max_four min_four   
set_option linter.unusedVariables false
set_option linter.unusedSimpArgs false
def oper_often.f (a0 : Int) : Option (Int) := some (mn (mx a0 1) 999)
set_option maxHeartbeats 8000000 in
set_option maxRecDepth 100000 in
theorem oper_often.calls (a0 : Int) (r : Int) (w : World) (h : oper_often.f a0 = some r) :
  Calls Tryz.prog 46 #[.int .i64 a0] w fun e w' => e = .returned (.int .i64 r) ∧ Below w.heap.size w w' := by
 have HB := aM (Below.refl w.heap.size w)
 have H : (some (mn (mx a0 1) 999)) = some r := h
 clear h
 obtain ⟨ji2, hji2⟩ : ∃ j_ : Int, (mx a0 1) = j_ := ⟨_, rfl⟩
 replace H : (some (mn (ji2) 999)) = some r := by first | (rw [hji2] at H; exact H) | (simp only [hji2] at H ⊢; exact H)
 (try (have hji2l : 1 ≤ ji2 := by (rw [← hji2]; unfold mx; (repeat' split) <;> omega)))
 (try (have hji2m : 0 ≤ ji2 := by omega))
 have hji2_ : (if a0 < 1 then 1 else a0) = ji2 := hji2
 obtain ⟨ji3, hji3⟩ : ∃ j_ : Int, (mn (ji2) 999) = j_ := ⟨_, rfl⟩
 replace H : (some ji3) = some r := by first | (rw [hji3] at H; exact H) | (simp only [hji3] at H ⊢; exact H)
 have hji3_ : (if 999 < (ji2) then 999 else (ji2)) = ji3 := hji3
 obtain rfl := Option.some.inj H
 go_enter Tryz.func46, Tryz.ntmps46
 go_wp2
 go_ret
 exact ⟨by first | rfl | (simp [errW_none, errW_some] <;> rfl) | (simp only [← hji2, ← hji3]; first | rfl | (simp [errW_none, errW_some] <;> rfl)) | (simp [*, errW_none, errW_some] <;> rfl), by exact ey HB.out⟩
end Go.Proofs.YtjkfkiebhgkolaaGreatDoor.PB
end
