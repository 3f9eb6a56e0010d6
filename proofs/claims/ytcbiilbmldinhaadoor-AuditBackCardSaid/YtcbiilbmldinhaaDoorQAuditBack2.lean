/- What the row hangs on, part 2. -/
import Derived.Test.YtcbiilbmldinhaaDoorProg
import Derived.Laws.BitsAllLaws
import Derived.Laws.Bits128
import Derived.Shelf.Strings.Builder1
import Derived.Shelf.Strings.Builder2
import Derived.Shelf.Strings.OnBuilder
import Derived.Shelf.Strings.BuilderF
import Derived.Shelf.Strings.BuilderK
import Derived.Shelf.Utf8.RuneCount
import Derived.Shelf.Strings.Builder2Cap
import Derived.Shelf.Strconv.Atoi
import Derived.Shelf.Strconv.Itoa0
import Derived.Shelf.Strconv.Itoa1
import Derived.Shelf.LaysM
import Derived.Shelf.Strconv.Itoa2
import Derived.Shelf.Strconv.Itoa3
import Derived.Shelf.Strconv.AtoiErrFast
import Derived.Shelf.Strconv.ParseIntEmpty
import Derived.Shelf.Strconv.AtoiFail
import Derived.Shelf.Strconv.Clone
import Derived.Shelf.Strconv.SyntaxError
import Derived.Shelf.LaysC
import Derived.Shelf.Strconv.ToError
import Derived.Shelf.Strconv.Lower
import Derived.Shelf.Strconv.ParseUint10
import Derived.Shelf.Strconv.ParseUint10Empty
import Derived.Shelf.Strconv.ParseUint10Any
import Derived.Shelf.Strconv.ParseInt10
import Derived.Shelf.Strconv.AtoiLong
import Derived.Shelf.Strconv.AtoiInnerAll
import Derived.Shelf.Strconv.RangeError
import Derived.Shelf.Strconv.ToErrorRange
import Derived.Shelf.Strconv.AtoiAll
import Derived.Shelf.Strconv.ErrVarAll
import Derived.Shelf.Strings.Search1
import Derived.Shelf.Strings.Search2
import Derived.Shelf.Strings.Search3
import Derived.Shelf.Strings.Count
import Derived.Shelf.Strings.Shaped
import Derived.Shelf.Strings.Split
import Derived.Shelf.Strings.SplitShaped
import Derived.Shelf.Unicode.Decode
import Derived.Shelf.Strings.RuneCount
import Derived.Shelf.Strings.Explode
import Derived.Shelf.Unicode.DecodeSlow
import Derived.Shelf.Unicode.DecodeAny
import Derived.Test.YtcbiilbmldinhaaDoorProg
import Derived.Shelf.Strings.SplitCore
import Derived.Lib.AppendIntMem
import Derived.WalkSmall
import Derived.Maps.OwnSet
import Derived.StillTailTactics
import Derived.StillTailTactics
import Derived.Test.YtcbiilbmldinhaaDoorQAuditBack1
section
namespace Go.Proofs.YtcbiilbmldinhaaDoor.PB
open Go.RowKit Go.Proofs.YtcbiilbmldinhaaDoorW.PrintWords Go.Proofs.YtcbiilbmldinhaaDoorW.PrintLast Go.Proofs.YtcbiilbmldinhaaDoorW.PrintMore
theorem qn : type_of% @blk_drewN := @blk_drewN
theorem qd : type_of% @blk_drew := @blk_drew
theorem qa : type_of% @blk_alloc := @blk_alloc
theorem ra : type_of% @Kd.R_alloc := @Kd.R_alloc
theorem rn : type_of% @Kd.R_drewN := @Kd.R_drewN
theorem rd_ : type_of% @Kd.R_drew := @Kd.R_drew
theorem va : type_of% @Kd.V_alloc := @Kd.V_alloc
theorem vn : type_of% @Kd.V_drewN := @Kd.V_drewN
theorem vd : type_of% @Kd.V_drew := @Kd.V_drew
theorem ea : type_of% @below_alloc := @below_alloc
theorem en : type_of% @pw_below_drewN := @pw_below_drewN
theorem ed : type_of% @below_drew1 := @below_drew1
theorem es : type_of% @below_set := @below_set
theorem aM : type_of% @Aside0.mk := @Aside0.mk
theorem bC : type_of% @blk_cell := @blk_cell
theorem bF : type_of% @blk_frozen := @blk_frozen
theorem rF : type_of% @Kd.R_far := @Kd.R_far
theorem bZ : type_of% @below_size := @below_size
theorem bB : type_of% @blk_below := @blk_below
theorem bP : type_of% @below_step := @below_step
theorem rT : type_of% @Kd.R_types := @Kd.R_types
theorem rM : type_of% @Kd.R_mono := @Kd.R_mono
theorem rR : type_of% @Kd.R_reads' := @Kd.R_reads'
theorem cB_ : type_of% @Kd.C_below := @Kd.C_below
theorem rL : type_of% @Kd.R_lower := @Kd.R_lower
theorem rE : type_of% @Kd.R_elder' := @Kd.R_elder'
theorem bR : type_of% @blk_far := @blk_far
theorem bU : type_of% @blk_put := @blk_put
theorem sA : type_of% @List.setIfInBounds_toArray := @List.setIfInBounds_toArray
theorem sZ : type_of% @List.set_cons_zero := @List.set_cons_zero
theorem sS : type_of% @List.set_cons_succ := @List.set_cons_succ
theorem mT : type_of% @List.map_toArray := @List.map_toArray
theorem mC : type_of% @List.map_cons := @List.map_cons
theorem mN : type_of% @List.map_nil := @List.map_nil
theorem lD : type_of% @List.length_drop := @List.length_drop
theorem lT : type_of% @List.length_take := @List.length_take
class Up (W w : World) : Prop where
  b : Below w.heap.size w W
instance (w : World) : Up w w := ⟨Below.refl _ _⟩
instance {W w : World} (o : Obj) [u : Up W w] : Up (W.alloc o) w := ⟨below_alloc u.b o⟩
instance {W w : World} [u : Up W w] : Up W.drew w := ⟨below_drew1 u.b⟩
instance {W w : World} (n : Nat) [u : Up W w] : Up (W.drewN n) w := ⟨pw_below_drewN u.b n⟩
theorem qy {W w : World} {g : Nat} {o : Obj} [u : Up W w] (h : w.heap[g]? = some o) : W.heap[g]? = some o := blk_below h u.b
theorem ry {α : Type} {d : Kd α} {e : TypeId} {W w : World} {base : Nat} {ok : Nat → Prop} {v : Value} {xs : List α} [u : Up W w] (h : d.R e w base ok v xs) : d.R e W base ok v xs := Kd.R_below h u.b
theorem ey {W w v : World} [u : Up W w] (h : Below v.heap.size v w) : Below v.heap.size v W := below_then h h.size u.b
section
variable {P : Program} {ops : Array Oper} {Q : Exit → Act → World → Prop} {md : Region.Mode} {S : World → Prop} {ds : List Nat} {oi : Oper} {v : Value} {fuel : Nat} {l : Array Bool} {a : Act} {w : World} {T : Bool × List (List Nat × List Nat)} {B : List Nat} {a' : Act}
theorem pv (i n : Nat) (l' : Array Bool) (HT : Aside0 (rtab md ops = T)) (h : wpAnyLast P md ops Q S ds fuel l' a' w) (hi : ops[i]? = some oi := by rfl) (hN : oi.dst = some n := by rfl) (hc : anyT T l.toList l'.toList i = true := by kernel_rfl) (hQ : ∀ (c : List PanicEntry) (a : Act) (w : World), Q (.panic c) (a.put oi.dst v) w → Q (.panic c) a w := by exact fun _ _ _ h => h) (hy : Yields P ops oi v a := by exact Or.inl ⟨by rfl, fun w' => by go_simp; with_reducible rfl⟩) (ha : a.put (some n) v = a' := by simp only [Act.put, sA, sZ, sS, i64_w, i32_w]; rfl) : wpAnyLast P md ops Q S ds (fuel + 1) l a w := pure_ l' hi hN (any_of HT.out hc) hQ hy ha h
theorem pu (i n : Nat) (l' : Array Bool) (HT : Aside0 (rtab md ops = T)) (h : wpAnyLast P md ops Q S ds fuel l' a' w) (hi : ops[i]? = some oi := by rfl) (hN : oi.dst = some n := by rfl) (hc : anyT T l.toList l'.toList i = true := by kernel_rfl) (hQ : ∀ (c : List PanicEntry) (a : Act) (w : World), Q (.panic c) (a.put oi.dst undef) w → Q (.panic c) a w := by exact fun _ _ _ h => h) (hy : Yields P ops oi undef a := by exact Or.inr ⟨by rfl, rfl⟩) (ha : a.put (some n) undef = a' := by simp only [Act.put, sA, sZ, sS, i64_w, i32_w]; rfl) : wpAnyLast P md ops Q S ds (fuel + 1) l a w := pure_ l' hi hN (any_of HT.out hc) hQ hy ha h
theorem pt (i n : Nat) (l' : Array Bool) (HT : Aside0 (rtab md ops = T)) (HW : Aside0 (waitsOk T.2 B = true)) (hS : S w) (h : wpAnyLast P md ops Q S ds fuel l' a' w) (hi : ops[i]? = some oi := by rfl) (hN : oi.dst = some n := by rfl) (hc : takeW T B ds l.toList l'.toList i = true := by kernel_rfl) (hQ : ∀ (c : List PanicEntry) (a : Act) (w : World), Q (.panic c) (a.put oi.dst v) w → Q (.panic c) a w := by exact fun _ _ _ h => h) (hy : YieldsIf P ops S oi v a := by exact Or.inl ⟨by rfl, fun w' hs => by (repeat obtain ⟨_, hs⟩ := hs); go_simp; with_reducible rfl⟩) (ha : a.put (some n) v = a' := by simp only [Act.put, sA, sZ, sS, i64_w, i32_w]; rfl) : wpAnyLast P md ops Q S ds (fuel + 1) l a w := take_ l' hi hN (take_ofW HT.out HW.out hc) hQ hy hS ha h
theorem p1 (i : Nat) (N : Option Tmp) (l' : Array Bool) (HT : Aside0 (rtab md ops = T)) (h : ∀ (K : Act → World → Prop), Shut (∀ (a' : Act) (w' : World), S w' → (S w' → wpAnyLast P md ops Q S ds fuel l' a' w') → K a' w') → if Region.wanted oi (yielded ops a.tmps) = true then Oper.wp P oi a w K Q else K (a.put N undef) w) (hi : ops[i]? = some oi := by rfl) (hN : oi.dst = N := by rfl) (hc : (readyT T.snd l.toList == [i] && l.toList.set i true == l'.toList) = true := by kernel_rfl) (hd : i ∉ ds := by decide) : wpAnyLast P md ops Q S ds (fuel + 1) l a w := one_ l' hi hN (one_of HT.out hc) hd h
end
theorem zC {w : World} {g : Nat} {t : TypeId} {cs : Array Value} (h : w.heap[g]? = some (.cells cs t (0, 0))) (i : Nat) (v : Value) (e : cs[i]? = some v := by rfl) : w.cell? ⟨g, i, none⟩ = some v := (bC h i).trans e
abbrev I := true
abbrev O := false
abbrev b0_ : Array Bool := #[O,O,O,O,O,O,O,O,O,O,O,O,O,O,O,O,O,O,O]
abbrev b1_ : Array Bool := #[I,O,O,O,O,O,O,O,O,O,O,O,O,O,O,O,O,O,O]
abbrev b2_ : Array Bool := #[I,O,O,I,O,O,O,O,O,O,O,O,O,O,O,O,O,O,O]
abbrev b3_ : Array Bool := #[I,O,O,I,O,O,I,O,O,O,O,O,O,O,O,O,O,O,O]
abbrev b4_ : Array Bool := #[I,O,O,I,O,O,I,O,O,I,O,O,O,O,O,O,O,O,O]
abbrev b5_ : Array Bool := #[I,O,O,I,O,O,I,O,O,I,O,O,I,O,O,O,O,O,O]
abbrev b6_ : Array Bool := #[I,I,O,I,O,O,I,O,O,I,O,O,I,O,O,O,O,O,O]
abbrev b7_ : Array Bool := #[I,I,O,I,I,O,I,O,O,I,O,O,I,O,O,O,O,O,O]
abbrev b8_ : Array Bool := #[I,I,O,I,I,O,I,I,O,I,O,O,I,O,O,O,O,O,O]
abbrev b9_ : Array Bool := #[I,I,O,I,I,O,I,I,O,I,I,O,I,O,O,O,O,O,O]
abbrev b10_ : Array Bool := #[I,I,O,I,I,O,I,I,O,I,I,O,I,I,O,O,O,O,O]
abbrev b11_ : Array Bool := #[I,I,I,I,I,O,I,I,O,I,I,O,I,I,O,O,O,O,O]
abbrev b12_ : Array Bool := #[I,I,I,I,I,I,I,I,O,I,I,O,I,I,O,O,O,O,O]
abbrev b13_ : Array Bool := #[I,I,I,I,I,I,I,I,I,I,I,O,I,I,O,O,O,O,O]
abbrev b14_ : Array Bool := #[I,I,I,I,I,I,I,I,I,I,I,I,I,I,O,O,O,O,O]
abbrev b15_ : Array Bool := #[I,I,I,I,I,I,I,I,I,I,I,I,I,I,I,O,O,O,O]
abbrev b16_ : Array Bool := #[I,I,I,I,I,I,I,I,I,I,I,I,I,I,I,I,O,O,O]
abbrev b17_ : Array Bool := #[I,I,I,I,I,I,I,I,I,I,I,I,I,I,I,I,I,O,O]
abbrev b18_ : Array Bool := #[I,I,I,I,I,I,I,I,I,I,I,I,I,I,I,I,I,I,O]
abbrev b19_ : Array Bool := #[I,I,I,I,I,I,I,I,I,I,I,I,I,I,I,I,I,I,I]
abbrev b20_ : Array Bool := #[O,O,O,O,O,O,O,O,O,O,O,O,O,O,O,O,O,O]
abbrev b21_ : Array Bool := #[I,O,O,O,O,O,O,O,O,O,O,O,O,O,O,O,O,O]
abbrev b22_ : Array Bool := #[I,I,O,O,O,O,O,O,O,O,O,O,O,O,O,O,O,O]
abbrev b23_ : Array Bool := #[I,I,I,O,O,O,O,O,O,O,O,O,O,O,O,O,O,O]
abbrev b24_ : Array Bool := #[I,I,I,I,O,O,O,O,O,O,O,O,O,O,O,O,O,O]
abbrev b25_ : Array Bool := #[I,I,I,I,I,O,O,O,O,O,O,O,O,O,O,O,O,O]
abbrev b26_ : Array Bool := #[I,I,I,I,I,I,O,O,O,O,O,O,O,O,O,O,O,O]
abbrev b27_ : Array Bool := #[I,I,I,I,I,I,I,O,O,O,O,O,O,O,O,O,O,O]
abbrev b28_ : Array Bool := #[I,I,I,I,I,I,I,I,O,O,O,O,O,O,O,O,O,O]
abbrev b29_ : Array Bool := #[I,I,I,I,I,I,I,I,I,O,O,O,O,O,O,O,O,O]
abbrev b30_ : Array Bool := #[I,I,I,I,I,I,I,I,I,I,O,O,O,O,O,O,O,O]
abbrev b31_ : Array Bool := #[I,I,I,I,I,I,I,I,I,I,I,O,O,O,O,O,O,O]
abbrev b32_ : Array Bool := #[I,I,I,I,I,I,I,I,I,I,I,I,O,O,O,O,O,O]
abbrev b33_ : Array Bool := #[I,I,I,I,I,I,I,I,I,I,I,I,I,O,O,O,O,O]
abbrev b34_ : Array Bool := #[I,I,I,I,I,I,I,I,I,I,I,I,I,I,O,O,O,O]
abbrev b35_ : Array Bool := #[I,I,I,I,I,I,I,I,I,I,I,I,I,I,I,O,O,O]
abbrev b36_ : Array Bool := #[I,I,I,I,I,I,I,I,I,I,I,I,I,I,I,I,O,O]
abbrev b37_ : Array Bool := #[I,I,I,I,I,I,I,I,I,I,I,I,I,I,I,I,I,O]
abbrev b38_ : Array Bool := #[I,I,I,I,I,I,I,I,I,I,I,I,I,I,I,I,I,I]
attribute [local go_sem] max2_int min2_int max_two min_two max_three min_three max_four min_four   
set_option linter.unusedVariables false
set_option linter.unusedSimpArgs false
def errW : Option Int → Value
 | none => .nilIface
 | some c => .iface 109 (.int .i64 c)
theorem errW_none : errW none = .nilIface := rfl
theorem errW_some (c : Int) : errW (some c) = .iface 109 (.int .i64 c) := rfl
theorem info3 : (Tryd.prog.info? 3).map (fun i => (i.zero, i.size, i.bytes)) = some (some (.int .i64 0), 1, 8) := by kernel_rfl
theorem info9 : (Tryd.prog.info? 9).map (fun i => (i.zero, i.size, i.bytes)) = some (some (.string ⟨#[]⟩), 1, 16) := by kernel_rfl
theorem info36 : (Tryd.prog.info? 36).map (fun i => (i.zero, i.size, i.bytes)) = some (some (.agg #[(.int .u64 0), (.int .i64 0), (.int .i64 0), (.int .i64 0), (.int .i64 0)]), 5, 40) := by kernel_rfl
structure S36 where
 f0 : Int
 f1 : Int
 f2 : Int
 f3 : Int
 f4 : Int
def z36 : S36 := ⟨(0 : Int), (0 : Int), (0 : Int), (0 : Int), (0 : Int)⟩
def k36 : Kd S36 := Kd.iso (Kd.pair (Kd.int .u64) (Kd.pair (Kd.int .i64) (Kd.pair (Kd.int .i64) (Kd.pair (Kd.int .i64) (Kd.int .i64))))) (fun x : S36 => (x.f0, x.f1, x.f2, x.f3, x.f4))
theorem k36_open {w : World} {x : S36} {cs : List Value} (h : k36.K w x cs) : cs = [.int .u64 x.f0, .int .i64 x.f1, .int .i64 x.f2, .int .i64 x.f3, .int .i64 x.f4] := by
 obtain ⟨_, _, rfl, rfl, ⟨_, _, rfl, rfl, ⟨_, _, rfl, rfl, ⟨_, _, rfl, rfl, rfl⟩⟩⟩⟩ := h
 exact rfl
theorem k36_mkM (w : World) (base : Nat) (ok : Nat → Prop) (x : S36)  : k36.M w base ok x [.int .u64 x.f0, .int .i64 x.f1, .int .i64 x.f2, .int .i64 x.f3, .int .i64 x.f4] := ⟨[.int .u64 x.f0], [.int .i64 x.f1, .int .i64 x.f2, .int .i64 x.f3, .int .i64 x.f4], rfl, rfl, ⟨[.int .i64 x.f1], [.int .i64 x.f2, .int .i64 x.f3, .int .i64 x.f4], rfl, rfl, ⟨[.int .i64 x.f2], [.int .i64 x.f3, .int .i64 x.f4], rfl, rfl, ⟨[.int .i64 x.f3], [.int .i64 x.f4], rfl, rfl, rfl⟩⟩⟩⟩
def rd_T36 (xs : List S36) (i : Int) : S36 := xs.getD i.toNat z36
theorem at_T36 {w : World} {A : Option Addr} {n : Nat} {xs : List S36} (h : Kd.C k36 w A n xs) (i : Int) (h0 : 0 ≤ i) (h1 : i < n) : ∃ ad , A = some ad ∧ w.cell? (ad.add (i.toNat * 5)) = some (.int .u64 (rd_T36 xs i).f0) ∧ w.cell? ⟨(ad.add (i.toNat * 5)).block, (ad.add (i.toNat * 5)).off + 1, none⟩ = some (.int .i64 (rd_T36 xs i).f1) ∧ w.cell? ⟨(ad.add (i.toNat * 5)).block, (ad.add (i.toNat * 5)).off + 2, none⟩ = some (.int .i64 (rd_T36 xs i).f2) ∧ w.cell? ⟨(ad.add (i.toNat * 5)).block, (ad.add (i.toNat * 5)).off + 3, none⟩ = some (.int .i64 (rd_T36 xs i).f3) ∧ w.cell? ⟨(ad.add (i.toNat * 5)).block, (ad.add (i.toNat * 5)).off + 4, none⟩ = some (.int .i64 (rd_T36 xs i).f4) := by
 obtain ⟨ad, c, e, _, hK, hc0⟩ := Kd.C_get h z36 i h0 h1
 have hc : ∀ j u, c[j]? = some u → w.cell? (ad.add (i.toNat * 5 + j)) = some u := hc0
 obtain rfl := k36_open hK
 exact ⟨ad, e, hc 0 _ rfl, by rw [← add_field _ _ 1 (by omega)]; exact hc 1 _ rfl, by rw [← add_field _ _ 2 (by omega)]; exact hc 2 _ rfl, by rw [← add_field _ _ 3 (by omega)]; exact hc 3 _ rfl, by rw [← add_field _ _ 4 (by omega)]; exact hc 4 _ rfl⟩
structure S38 where
 f0 : Int
 f1 : Int
 f2 : Int
 f3 : Int
 f4 : Int
def k38 : Kd S38 := Kd.iso (Kd.pair (Kd.int .u64) (Kd.pair (Kd.int .i64) (Kd.pair (Kd.int .i64) (Kd.pair (Kd.int .i64) (Kd.int .i64))))) (fun x : S38 => (x.f0, x.f1, x.f2, x.f3, x.f4))
theorem k38_open {w : World} {x : S38} {cs : List Value} (h : k38.K w x cs) : cs = [.int .u64 x.f0, .int .i64 x.f1, .int .i64 x.f2, .int .i64 x.f3, .int .i64 x.f4] := by
 obtain ⟨_, _, rfl, rfl, ⟨_, _, rfl, rfl, ⟨_, _, rfl, rfl, ⟨_, _, rfl, rfl, rfl⟩⟩⟩⟩ := h
 exact rfl
end Go.Proofs.YtcbiilbmldinhaaDoor.PB
end

section
namespace Go.Proofs.YtcbiilbmldinhaaDoor.PB
open Go.RowKit Go.Proofs.YtcbiilbmldinhaaDoorW.PrintWords Go.Proofs.YtcbiilbmldinhaaDoorW.PrintLast Go.Proofs.YtcbiilbmldinhaaDoorW.PrintMore
attribute [local go_sem] max2_int min2_int max_two min_two max_three min_three max_four min_four   
set_option linter.unusedVariables false
set_option linter.unusedSimpArgs false
theorem eqA36 (d : Nat) (w : World) (x0 y0 : Int) (x1 y1 : Int) (x2 y2 : Int) (x3 y3 : Int) (x4 y4 : Int) :
  (Op.equalIn (d + 2) 36 (.agg #[.int .u64 x0, .int .i64 x1, .int .i64 x2, .int .i64 x3, .int .i64 x4]) (.agg #[.int .u64 y0, .int .i64 y1, .int .i64 y2, .int .i64 y3, .int .i64 y4])).run Tryd.prog w = .ok (x0 == y0 && (x1 == y1 && (x2 == y2 && (x3 == y3 && (x4 == y4))))) w := by
 refine eqA_of Tryd.underlying36 (by kernel_rfl) ?_
 refine eqf_cons (by rfl) (by go_simp; rfl) (by go_simp; rfl) (by go_simp) ?_
 refine eqf_cons (by rfl) (by go_simp; rfl) (by go_simp; rfl) (by go_simp) ?_
 refine eqf_cons (by rfl) (by go_simp; rfl) (by go_simp; rfl) (by go_simp) ?_
 refine eqf_cons (by rfl) (by go_simp; rfl) (by go_simp; rfl) (by go_simp) ?_
 exact eqf_last (by rfl) (by go_simp; rfl) (by go_simp; rfl) (by go_simp)
end Go.Proofs.YtcbiilbmldinhaaDoor.PB
end

section
namespace Go.Proofs.YtcbiilbmldinhaaDoor.PB
open Go.RowKit Go.Proofs.YtcbiilbmldinhaaDoorW.PrintWords Go.Proofs.YtcbiilbmldinhaaDoorW.PrintLast Go.Proofs.YtcbiilbmldinhaaDoorW.PrintMore
attribute [local go_sem] max2_int min2_int max_two min_two max_three min_three max_four min_four   
set_option linter.unusedVariables false
set_option linter.unusedSimpArgs false
theorem eqA38 (d : Nat) (w : World) (x0 y0 : Int) (x1 y1 : Int) (x2 y2 : Int) (x3 y3 : Int) (x4 y4 : Int) :
  (Op.equalIn (d + 2) 38 (.agg #[.int .u64 x0, .int .i64 x1, .int .i64 x2, .int .i64 x3, .int .i64 x4]) (.agg #[.int .u64 y0, .int .i64 y1, .int .i64 y2, .int .i64 y3, .int .i64 y4])).run Tryd.prog w = .ok (x0 == y0 && (x1 == y1 && (x2 == y2 && (x3 == y3 && (x4 == y4))))) w := by
 refine eqA_of Tryd.underlying38 (by kernel_rfl) ?_
 refine eqf_cons (by rfl) (by go_simp; rfl) (by go_simp; rfl) (by go_simp) ?_
 refine eqf_cons (by rfl) (by go_simp; rfl) (by go_simp; rfl) (by go_simp) ?_
 refine eqf_cons (by rfl) (by go_simp; rfl) (by go_simp; rfl) (by go_simp) ?_
 refine eqf_cons (by rfl) (by go_simp; rfl) (by go_simp; rfl) (by go_simp) ?_
 exact eqf_last (by rfl) (by go_simp; rfl) (by go_simp; rfl) (by go_simp)
end Go.Proofs.YtcbiilbmldinhaaDoor.PB
end

section
namespace Go.Proofs.YtcbiilbmldinhaaDoor.PB
open Go.RowKit Go.Proofs.YtcbiilbmldinhaaDoorW.PrintWords Go.Proofs.YtcbiilbmldinhaaDoorW.PrintLast Go.Proofs.YtcbiilbmldinhaaDoorW.PrintMore
attribute [local go_sem] max2_int min2_int max_two min_two max_three min_three max_four min_four   
set_option linter.unusedVariables false
set_option linter.unusedSimpArgs false
def bureaulaw18_theirs.f (a0_0 : Int) (a0_1 : Int) (a0_2 : Int) (a0_3 : Int) (a0_4 : Int) : Option (Int × Int × Int × Int × Int) := some (a0_0, a0_1, a0_2, a0_3, a0_4)
set_option maxHeartbeats 8000000 in
set_option maxRecDepth 100000 in
theorem bureaulaw18_theirs.calls (a0_0 : Int) (a0_1 : Int) (a0_2 : Int) (a0_3 : Int) (a0_4 : Int) (r1 : Int) (r2 : Int) (r3 : Int) (r4 : Int) (r5 : Int) (w : World) (h : bureaulaw18_theirs.f a0_0 a0_1 a0_2 a0_3 a0_4 = some (r1, r2, r3, r4, r5)) :
  Calls Tryd.prog 14 #[.agg #[.int .u64 a0_0, .int .i64 a0_1, .int .i64 a0_2, .int .i64 a0_3, .int .i64 a0_4]] w fun e w' => e = .returned (.agg #[.int .u64 r1, .int .i64 r2, .int .i64 r3, .int .i64 r4, .int .i64 r5]) ∧ Below w.heap.size w w' := by
 have hu38 := Tryd.underlying38
 have hu36 := Tryd.underlying36
 have HB := aM (Below.refl w.heap.size w)
 have H : (some (a0_0, a0_1, a0_2, a0_3, a0_4)) = some (r1, r2, r3, r4, r5) := h
 clear h
 simp only [Option.some.injEq, Prod.mk.injEq] at H
 obtain ⟨rfl, rfl, rfl, rfl, rfl⟩ := H
 go_enter Tryd.func14, Tryd.ntmps14
 go_wp2_with (first | ((with_reducible refine gate_dst (N := 1) rfl ?_); refine box_event ?hg (N := 1) ?hd (cs := #[.int .u64 a0_0, .int .i64 a0_1, .int .i64 a0_2, .int .i64 a0_3, .int .i64 a0_4]) (t := 38) ?hr ?_; (case hd | hg => rfl); (case hr => first | (go_simp; done) | (go_simp; rfl)); intro gb156 hg w2 hbox hb; have n0_ := aM (bP (ey HB.out) hb); have n1_ := aM (hbox); have n2_ := aM ((by rw [hg]; exact (bZ (ey HB.out)) : w.heap.size ≤ gb156)); have n3_ := n2_; clear HB; have HB := n0_; have BK156 := n1_; have GW156 := n2_; have GE156 := n3_; clear n0_ n1_ n2_ n3_; clear hb hbox hg) | ((with_reducible refine gate_dst (N := 2) rfl ?_); refine box_event ?hg (N := 2) ?hd (cs := #[.int .u64 0, .int .i64 0, .int .i64 0, .int .i64 0, .int .i64 0]) (t := 36) ?hr ?_; (case hd | hg => rfl); (case hr => first | (go_simp; done) | (go_simp; rfl)); intro gb157 hg w3 hbox hb; have n0_ := aM (bB (g := gb156) (qy BK156.out) hb); have n1_ := aM (bP (by repeat (first | (with_reducible first | exact HB.out | apply ea | apply en | apply ed | refine es ?_ GE156.out) | exact HB.out)) hb); have n2_ := aM (hbox); have n3_ := aM ((by rw [hg]; exact (bZ (by repeat (first | (with_reducible first | exact HB.out | apply ea | apply en | apply ed | refine es ?_ GE156.out) | exact HB.out))) : w.heap.size ≤ gb157)); have n4_ := n3_; have n5_ := aM ((by rw [hg]; exact Nat.ne_of_lt (blk_lt (g := gb156) (qy BK156.out)) : gb156 ≠ gb157)); have n6_ := aM ((by rw [hg]; exact Nat.ne_of_gt (blk_lt (g := gb156) (qy BK156.out)) : gb157 ≠ gb156)); clear BK156 HB; have BK156 := n0_; have HB := n1_; have BK157 := n2_; have GW157 := n3_; have GE157 := n4_; have NB156_157 := n5_; have NB157_156 := n6_; clear n0_ n1_ n2_ n3_ n4_ n5_ n6_; clear hb hbox hg; have hnb4 := NB156_157.out; have hnc4 := NB157_156.out; have hcz5_0 := zC BK156.out 0 (.int .u64 a0_0); have hcz5_1 := zC BK156.out 1 (.int .i64 a0_1); have hcz5_2 := zC BK156.out 2 (.int .i64 a0_2); have hcz5_3 := zC BK156.out 3 (.int .i64 a0_3); have hcz5_4 := zC BK156.out 4 (.int .i64 a0_4); have hfz5_0 := bF BK156.out 0; have hfz5_1 := bF BK156.out 1; have hfz5_2 := bF BK156.out 2; have hfz5_3 := bF BK156.out 3; have hfz5_4 := bF BK156.out 4; have hcz6_0 := zC BK157.out 0 (.int .u64 0); have hcz6_1 := zC BK157.out 1 (.int .i64 0); have hcz6_2 := zC BK157.out 2 (.int .i64 0); have hcz6_3 := zC BK157.out 3 (.int .i64 0); have hcz6_4 := zC BK157.out 4 (.int .i64 0); have hfz6_0 := bF BK157.out 0; have hfz6_1 := bF BK157.out 1; have hfz6_2 := bF BK157.out 2; have hfz6_3 := bF BK157.out 3; have hfz6_4 := bF BK157.out 4))
 refine bodyPost_ret (results_cell_row rfl _ _ gb157 36 #[.int .u64 a0_0, .int .i64 a0_1, .int .i64 a0_2, .int .i64 a0_3, .int .i64 a0_4] (0, 0) _ rfl (by (with_reducible repeat (first | apply qn | apply qd | apply qa)); refine bU (cs := #[.int .u64 a0_0, .int .i64 a0_1, .int .i64 a0_2, .int .i64 a0_3, .int .i64 0]) ?_ 4 _ rfl; (with_reducible repeat (first | apply qn | apply qd | apply qa)); refine bU (cs := #[.int .u64 a0_0, .int .i64 a0_1, .int .i64 a0_2, .int .i64 0, .int .i64 0]) ?_ 3 _ rfl; (with_reducible repeat (first | apply qn | apply qd | apply qa)); refine bU (cs := #[.int .u64 a0_0, .int .i64 a0_1, .int .i64 0, .int .i64 0, .int .i64 0]) ?_ 2 _ rfl; (with_reducible repeat (first | apply qn | apply qd | apply qa)); refine bU (cs := #[.int .u64 a0_0, .int .i64 0, .int .i64 0, .int .i64 0, .int .i64 0]) ?_ 1 _ rfl; (with_reducible repeat (first | apply qn | apply qd | apply qa)); refine bU (cs := #[.int .u64 0, .int .i64 0, .int .i64 0, .int .i64 0, .int .i64 0]) ?_ 0 _ rfl; exact qy BK157.out) Tryd.underlying36 rfl (by kernel_rfl)) rfl ?_
 exact ⟨by first | rfl | (simp [errW_none, errW_some] <;> rfl) | (simp [*, errW_none, errW_some] <;> rfl), by repeat (first | (with_reducible first | exact HB.out | apply ea | apply en | apply ed | refine es ?_ GE156.out | refine es ?_ GE157.out) | exact HB.out)⟩
end Go.Proofs.YtcbiilbmldinhaaDoor.PB
end

section
namespace Go.Proofs.YtcbiilbmldinhaaDoor.PB
open Go.RowKit Go.Proofs.YtcbiilbmldinhaaDoorW.PrintWords Go.Proofs.YtcbiilbmldinhaaDoorW.PrintLast Go.Proofs.YtcbiilbmldinhaaDoorW.PrintMore
attribute [local go_sem] max2_int min2_int max_two min_two max_three min_three max_four min_four   
set_option linter.unusedVariables false
set_option linter.unusedSimpArgs false
def bureauref18_within.f (a0 : Int) : Option (Bool) := if a0 ≥ 0 then (some (decide (a0 ≤ 65535))) else (some false)
set_option maxHeartbeats 8000000 in
set_option maxRecDepth 100000 in
theorem bureauref18_within.calls (a0 : Int) (r : Bool) (w : World) (h : bureauref18_within.f a0 = some r) :
  Calls Tryd.prog 51 #[.int .i64 a0] w fun e w' => e = .returned (.bool r) ∧ Drawn0 w w' := by
 have H : (if a0 ≥ 0 then (some (decide (a0 ≤ 65535))) else (some false)) = some r := h
 clear h
 by_cases c2 : a0 ≥ 0
 ·rw [if_pos c2] at H
  have c2b0 : decide (0 ≤ a0) = true := decide_eq_true c2
  clear c2
  obtain rfl := Option.some.inj H
  go_enter Tryd.func51, Tryd.ntmps51
  go_wp2
  go_ret
  exact ⟨by first | rfl | (simp; done) | (simp [*]; done), by repeat (first | exact Drawn0.refl _ | apply Drawn0.step)⟩
 ·rw [if_neg c2] at H
  have c2b0 : decide (0 ≤ a0) = false := decide_eq_false c2
  clear c2
  obtain rfl := Option.some.inj H
  go_enter Tryd.func51, Tryd.ntmps51
  go_wp2
  go_ret
  exact ⟨by first | rfl | (simp; done) | (simp [*]; done), by repeat (first | exact Drawn0.refl _ | apply Drawn0.step)⟩
end Go.Proofs.YtcbiilbmldinhaaDoor.PB
end

section
namespace Go.Proofs.YtcbiilbmldinhaaDoor.PB
open Go.RowKit Go.Proofs.YtcbiilbmldinhaaDoorW.PrintWords Go.Proofs.YtcbiilbmldinhaaDoorW.PrintLast Go.Proofs.YtcbiilbmldinhaaDoorW.PrintMore
attribute [local go_sem] max2_int min2_int max_two min_two max_three min_three max_four min_four   
set_option linter.unusedVariables false
set_option linter.unusedSimpArgs false
def bureauref18_May.f (a0_0 : Int) (a0_1 : Int) (a0_2 : Int) (a0_3 : Int) (a0_4 : Int) : Option (Bool) := if a0_1 ≥ 1 then (if a0_1 ≤ 4 then ((bureauref18_within.f a0_2).bind fun t162 => (if t162 = true then ((bureauref18_within.f a0_3).bind fun t163 => (if t163 = true then ((bureauref18_within.f a0_4).bind fun t164 => (some t164)) else (some false))) else (some false))) else (some false)) else (some false)
set_option maxHeartbeats 8000000 in
set_option maxRecDepth 100000 in
theorem bureauref18_May.calls (a0_0 : Int) (a0_1 : Int) (a0_2 : Int) (a0_3 : Int) (a0_4 : Int) (r : Bool) (w : World) (h : bureauref18_May.f a0_0 a0_1 a0_2 a0_3 a0_4 = some r) :
  Calls Tryd.prog 30 #[.agg #[.int .u64 a0_0, .int .i64 a0_1, .int .i64 a0_2, .int .i64 a0_3, .int .i64 a0_4]] w fun e w' => e = .returned (.bool r) ∧ Below w.heap.size w w' := by
 have hu38 := Tryd.underlying38
 have HB := aM (Below.refl w.heap.size w)
 have H : (if a0_1 ≥ 1 then (if a0_1 ≤ 4 then ((bureauref18_within.f a0_2).bind fun t162 => (if t162 = true then ((bureauref18_within.f a0_3).bind fun t163 => (if t163 = true then ((bureauref18_within.f a0_4).bind fun t164 => (some t164)) else (some false))) else (some false))) else (some false)) else (some false)) = some r := h
 clear h
 by_cases c2 : a0_1 ≥ 1
 ·rw [if_pos c2] at H
  have c2b0 : decide (1 ≤ a0_1) = true := decide_eq_true c2
  clear c2
  by_cases c3 : a0_1 ≤ 4
  ·rw [if_pos c3] at H
   have c3b0 : decide (a0_1 ≤ 4) = true := decide_eq_true c3
   clear c3
   replace H := Option.bind_eq_some_iff.mp H
   obtain ⟨t162, A40, H⟩ := H
   replace H : (if t162 = true then ((bureauref18_within.f a0_3).bind fun t163 => (if t163 = true then ((bureauref18_within.f a0_4).bind fun t164 => (some t164)) else (some false))) else (some false)) = some r := H
   have A4 := aM A40
   clear A40
   by_cases c5 : t162 = true
   ·subst c5
    have H1 : ((bureauref18_within.f a0_3).bind fun t163 => (if t163 = true then ((bureauref18_within.f a0_4).bind fun t164 => (some t164)) else (some false))) = some r := by rw [if_pos rfl] at H; exact H
    clear H
    have H := H1
    clear H1
    replace H := Option.bind_eq_some_iff.mp H
    obtain ⟨t163, A60, H⟩ := H
    replace H : (if t163 = true then ((bureauref18_within.f a0_4).bind fun t164 => (some t164)) else (some false)) = some r := H
    have A6 := aM A60
    clear A60
    by_cases c7 : t163 = true
    ·subst c7
     have H1 : ((bureauref18_within.f a0_4).bind fun t164 => (some t164)) = some r := by rw [if_pos rfl] at H; exact H
     clear H
     have H := H1
     clear H1
     replace H := Option.bind_eq_some_iff.mp H
     obtain ⟨t164, A80, H⟩ := H
     replace H : (some t164) = some r := H
     have A8 := aM A80
     clear A80
     obtain rfl := Option.some.inj H
     go_enter Tryd.func30, Tryd.ntmps30
     go_wp2_with (first | ((with_reducible refine gate_dst (N := 1) rfl ?_); refine box_event ?hg (N := 1) ?hd (cs := #[.int .u64 a0_0, .int .i64 a0_1, .int .i64 a0_2, .int .i64 a0_3, .int .i64 a0_4]) (t := 38) ?hr ?_; (case hd | hg => rfl); (case hr => first | (go_simp; done) | (go_simp; rfl)); intro gb161 hg w9 hbox hb; have n0_ := aM (bP (ey HB.out) hb); have n1_ := aM (hbox); have n2_ := aM ((by rw [hg]; exact (bZ (ey HB.out)) : w.heap.size ≤ gb161)); have n3_ := n2_; clear HB; have HB := n0_; have BK161 := n1_; have GW161 := n2_; have GE161 := n3_; clear n0_ n1_ n2_ n3_; clear hb hbox hg; have hcz10_0 := zC BK161.out 0 (.int .u64 a0_0); have hcz10_1 := zC BK161.out 1 (.int .i64 a0_1); have hcz10_2 := zC BK161.out 2 (.int .i64 a0_2); have hcz10_3 := zC BK161.out 3 (.int .i64 a0_3); have hcz10_4 := zC BK161.out 4 (.int .i64 a0_4); have hfz10_0 := bF BK161.out 0; have hfz10_1 := bF BK161.out 1; have hfz10_2 := bF BK161.out 2; have hfz10_3 := bF BK161.out 3; have hfz10_4 := bF BK161.out 4) | (go_at_call 51; (with_reducible refine (bureauref18_within.calls a0_2 true _ A4.out).mono ?_); rintro e w' ⟨rfl, ⟨nd, rfl⟩⟩) | (go_at_call 51; (with_reducible refine (bureauref18_within.calls a0_3 true _ A6.out).mono ?_); rintro e w' ⟨rfl, ⟨nd, rfl⟩⟩) | (go_at_call 51; (with_reducible refine (bureauref18_within.calls a0_4 t164 _ A8.out).mono ?_); rintro e w' ⟨rfl, ⟨nd, rfl⟩⟩))
     go_ret
     exact ⟨by first | rfl | (simp [errW_none, errW_some] <;> rfl) | (simp [*, errW_none, errW_some] <;> rfl), by repeat (first | (with_reducible first | exact HB.out | apply ea | apply en | apply ed | refine es ?_ GE161.out) | exact HB.out)⟩
    ·replace c7 := Bool.eq_false_iff.mpr c7
     subst c7
     have H1 : (some false) = some r := by rw [if_neg (show ¬ (false = true) by decide)] at H; exact H
     clear H
     have H := H1
     clear H1
     obtain rfl := Option.some.inj H
     go_enter Tryd.func30, Tryd.ntmps30
     go_wp2_with (first | ((with_reducible refine gate_dst (N := 1) rfl ?_); refine box_event ?hg (N := 1) ?hd (cs := #[.int .u64 a0_0, .int .i64 a0_1, .int .i64 a0_2, .int .i64 a0_3, .int .i64 a0_4]) (t := 38) ?hr ?_; (case hd | hg => rfl); (case hr => first | (go_simp; done) | (go_simp; rfl)); intro gb161 hg w11 hbox hb; have n0_ := aM (bP (ey HB.out) hb); have n1_ := aM (hbox); have n2_ := aM ((by rw [hg]; exact (bZ (ey HB.out)) : w.heap.size ≤ gb161)); have n3_ := n2_; clear HB; have HB := n0_; have BK161 := n1_; have GW161 := n2_; have GE161 := n3_; clear n0_ n1_ n2_ n3_; clear hb hbox hg; have hcz12_0 := zC BK161.out 0 (.int .u64 a0_0); have hcz12_1 := zC BK161.out 1 (.int .i64 a0_1); have hcz12_2 := zC BK161.out 2 (.int .i64 a0_2); have hcz12_3 := zC BK161.out 3 (.int .i64 a0_3); have hcz12_4 := zC BK161.out 4 (.int .i64 a0_4); have hfz12_0 := bF BK161.out 0; have hfz12_1 := bF BK161.out 1; have hfz12_2 := bF BK161.out 2; have hfz12_3 := bF BK161.out 3; have hfz12_4 := bF BK161.out 4) | (go_at_call 51; (with_reducible refine (bureauref18_within.calls a0_2 true _ A4.out).mono ?_); rintro e w' ⟨rfl, ⟨nd, rfl⟩⟩) | (go_at_call 51; (with_reducible refine (bureauref18_within.calls a0_3 false _ A6.out).mono ?_); rintro e w' ⟨rfl, ⟨nd, rfl⟩⟩))
     go_ret
     exact ⟨by first | rfl | (simp [errW_none, errW_some] <;> rfl) | (simp [*, errW_none, errW_some] <;> rfl), by repeat (first | (with_reducible first | exact HB.out | apply ea | apply en | apply ed | refine es ?_ GE161.out) | exact HB.out)⟩
   ·replace c5 := Bool.eq_false_iff.mpr c5
    subst c5
    have H1 : (some false) = some r := by rw [if_neg (show ¬ (false = true) by decide)] at H; exact H
    clear H
    have H := H1
    clear H1
    obtain rfl := Option.some.inj H
    go_enter Tryd.func30, Tryd.ntmps30
    go_wp2_with (first | ((with_reducible refine gate_dst (N := 1) rfl ?_); refine box_event ?hg (N := 1) ?hd (cs := #[.int .u64 a0_0, .int .i64 a0_1, .int .i64 a0_2, .int .i64 a0_3, .int .i64 a0_4]) (t := 38) ?hr ?_; (case hd | hg => rfl); (case hr => first | (go_simp; done) | (go_simp; rfl)); intro gb161 hg w13 hbox hb; have n0_ := aM (bP (ey HB.out) hb); have n1_ := aM (hbox); have n2_ := aM ((by rw [hg]; exact (bZ (ey HB.out)) : w.heap.size ≤ gb161)); have n3_ := n2_; clear HB; have HB := n0_; have BK161 := n1_; have GW161 := n2_; have GE161 := n3_; clear n0_ n1_ n2_ n3_; clear hb hbox hg; have hcz14_0 := zC BK161.out 0 (.int .u64 a0_0); have hcz14_1 := zC BK161.out 1 (.int .i64 a0_1); have hcz14_2 := zC BK161.out 2 (.int .i64 a0_2); have hcz14_3 := zC BK161.out 3 (.int .i64 a0_3); have hcz14_4 := zC BK161.out 4 (.int .i64 a0_4); have hfz14_0 := bF BK161.out 0; have hfz14_1 := bF BK161.out 1; have hfz14_2 := bF BK161.out 2; have hfz14_3 := bF BK161.out 3; have hfz14_4 := bF BK161.out 4) | (go_at_call 51; (with_reducible refine (bureauref18_within.calls a0_2 false _ A4.out).mono ?_); rintro e w' ⟨rfl, ⟨nd, rfl⟩⟩))
    go_ret
    exact ⟨by first | rfl | (simp [errW_none, errW_some] <;> rfl) | (simp [*, errW_none, errW_some] <;> rfl), by repeat (first | (with_reducible first | exact HB.out | apply ea | apply en | apply ed | refine es ?_ GE161.out) | exact HB.out)⟩
  ·rw [if_neg c3] at H
   have c3b0 : decide (a0_1 ≤ 4) = false := decide_eq_false c3
   clear c3
   obtain rfl := Option.some.inj H
   go_enter Tryd.func30, Tryd.ntmps30
   go_wp2_with (first | ((with_reducible refine gate_dst (N := 1) rfl ?_); refine box_event ?hg (N := 1) ?hd (cs := #[.int .u64 a0_0, .int .i64 a0_1, .int .i64 a0_2, .int .i64 a0_3, .int .i64 a0_4]) (t := 38) ?hr ?_; (case hd | hg => rfl); (case hr => first | (go_simp; done) | (go_simp; rfl)); intro gb161 hg w15 hbox hb; have n0_ := aM (bP (ey HB.out) hb); have n1_ := aM (hbox); have n2_ := aM ((by rw [hg]; exact (bZ (ey HB.out)) : w.heap.size ≤ gb161)); have n3_ := n2_; clear HB; have HB := n0_; have BK161 := n1_; have GW161 := n2_; have GE161 := n3_; clear n0_ n1_ n2_ n3_; clear hb hbox hg; have hcz16_0 := zC BK161.out 0 (.int .u64 a0_0); have hcz16_1 := zC BK161.out 1 (.int .i64 a0_1); have hcz16_2 := zC BK161.out 2 (.int .i64 a0_2); have hcz16_3 := zC BK161.out 3 (.int .i64 a0_3); have hcz16_4 := zC BK161.out 4 (.int .i64 a0_4); have hfz16_0 := bF BK161.out 0; have hfz16_1 := bF BK161.out 1; have hfz16_2 := bF BK161.out 2; have hfz16_3 := bF BK161.out 3; have hfz16_4 := bF BK161.out 4))
   go_ret
   exact ⟨by first | rfl | (simp [errW_none, errW_some] <;> rfl) | (simp [*, errW_none, errW_some] <;> rfl), by repeat (first | (with_reducible first | exact HB.out | apply ea | apply en | apply ed | refine es ?_ GE161.out) | exact HB.out)⟩
 ·rw [if_neg c2] at H
  have c2b0 : decide (1 ≤ a0_1) = false := decide_eq_false c2
  clear c2
  obtain rfl := Option.some.inj H
  go_enter Tryd.func30, Tryd.ntmps30
  go_wp2_with (first | ((with_reducible refine gate_dst (N := 1) rfl ?_); refine box_event ?hg (N := 1) ?hd (cs := #[.int .u64 a0_0, .int .i64 a0_1, .int .i64 a0_2, .int .i64 a0_3, .int .i64 a0_4]) (t := 38) ?hr ?_; (case hd | hg => rfl); (case hr => first | (go_simp; done) | (go_simp; rfl)); intro gb161 hg w17 hbox hb; have n0_ := aM (bP (ey HB.out) hb); have n1_ := aM (hbox); have n2_ := aM ((by rw [hg]; exact (bZ (ey HB.out)) : w.heap.size ≤ gb161)); have n3_ := n2_; clear HB; have HB := n0_; have BK161 := n1_; have GW161 := n2_; have GE161 := n3_; clear n0_ n1_ n2_ n3_; clear hb hbox hg; have hcz18_0 := zC BK161.out 0 (.int .u64 a0_0); have hcz18_1 := zC BK161.out 1 (.int .i64 a0_1); have hcz18_2 := zC BK161.out 2 (.int .i64 a0_2); have hcz18_3 := zC BK161.out 3 (.int .i64 a0_3); have hcz18_4 := zC BK161.out 4 (.int .i64 a0_4); have hfz18_0 := bF BK161.out 0; have hfz18_1 := bF BK161.out 1; have hfz18_2 := bF BK161.out 2; have hfz18_3 := bF BK161.out 3; have hfz18_4 := bF BK161.out 4))
  go_ret
  exact ⟨by first | rfl | (simp [errW_none, errW_some] <;> rfl) | (simp [*, errW_none, errW_some] <;> rfl), by repeat (first | (with_reducible first | exact HB.out | apply ea | apply en | apply ed | refine es ?_ GE161.out) | exact HB.out)⟩
end Go.Proofs.YtcbiilbmldinhaaDoor.PB
end

section
namespace Go.Proofs.YtcbiilbmldinhaaDoor.PB
open Go.RowKit Go.Proofs.YtcbiilbmldinhaaDoorW.PrintWords Go.Proofs.YtcbiilbmldinhaaDoorW.PrintLast Go.Proofs.YtcbiilbmldinhaaDoorW.PrintMore
attribute [local go_sem] max2_int min2_int max_two min_two max_three min_three max_four min_four   
set_option linter.unusedVariables false
set_option linter.unusedSimpArgs false
def audit_word.f (a0 : Int) : Option (ByteArray) := if a0 = 1 then (some (⟨#[103, 114, 97, 110, 116]⟩ : ByteArray)) else (if a0 = 2 then (some (⟨#[114, 101, 118, 111, 107, 101]⟩ : ByteArray)) else (if a0 = 3 then (some (⟨#[114, 101, 108, 101, 97, 115, 101]⟩ : ByteArray)) else (if a0 = 4 then (some (⟨#[100, 101, 110, 121]⟩ : ByteArray)) else (some (⟨#[]⟩ : ByteArray)))))
set_option maxHeartbeats 8000000 in
set_option maxRecDepth 100000 in
theorem audit_word.calls (a0 : Int) (r : ByteArray) (w : World) (h : audit_word.f a0 = some r) :
  Calls Tryd.prog 39 #[.int .i64 a0] w fun e w' => e = .returned (.string r) ∧ Drawn0 w w' := by
 have H : (if a0 = 1 then (some (⟨#[103, 114, 97, 110, 116]⟩ : ByteArray)) else (if a0 = 2 then (some (⟨#[114, 101, 118, 111, 107, 101]⟩ : ByteArray)) else (if a0 = 3 then (some (⟨#[114, 101, 108, 101, 97, 115, 101]⟩ : ByteArray)) else (if a0 = 4 then (some (⟨#[100, 101, 110, 121]⟩ : ByteArray)) else (some (⟨#[]⟩ : ByteArray)))))) = some r := h
 clear h
 by_cases c2 : a0 = 1
 ·rw [if_pos c2] at H
  have c2b0 : (a0 == 1) = true := beq_iff_eq.mpr c2
  have c2b1 : (a0 != 1) = false := bne_eq_false_iff_eq.mpr c2
  clear c2
  obtain rfl := Option.some.inj H
  go_enter Tryd.func39, Tryd.ntmps39
  go_wp2
  go_ret
  exact ⟨by first | rfl | (simp; done) | (simp [*]; done), by repeat (first | exact Drawn0.refl _ | apply Drawn0.step)⟩
 ·rw [if_neg c2] at H
  have c2b0 : (a0 == 1) = false := beq_eq_false_iff_ne.mpr c2
  have c2b1 : (a0 != 1) = true := bne_iff_ne.mpr c2
  by_cases c3 : a0 = 2
  ·rw [if_pos c3] at H
   have c3b0 : (a0 == 2) = true := beq_iff_eq.mpr c3
   have c3b1 : (a0 != 2) = false := bne_eq_false_iff_eq.mpr c3
   clear c3
   obtain rfl := Option.some.inj H
   go_enter Tryd.func39, Tryd.ntmps39
   go_wp2
   go_ret
   exact ⟨by first | rfl | (simp; done) | (simp [*]; done), by repeat (first | exact Drawn0.refl _ | apply Drawn0.step)⟩
  ·rw [if_neg c3] at H
   have c3b0 : (a0 == 2) = false := beq_eq_false_iff_ne.mpr c3
   have c3b1 : (a0 != 2) = true := bne_iff_ne.mpr c3
   by_cases c4 : a0 = 3
   ·rw [if_pos c4] at H
    have c4b0 : (a0 == 3) = true := beq_iff_eq.mpr c4
    have c4b1 : (a0 != 3) = false := bne_eq_false_iff_eq.mpr c4
    clear c4
    obtain rfl := Option.some.inj H
    go_enter Tryd.func39, Tryd.ntmps39
    go_wp2
    go_ret
    exact ⟨by first | rfl | (simp; done) | (simp [*]; done), by repeat (first | exact Drawn0.refl _ | apply Drawn0.step)⟩
   ·rw [if_neg c4] at H
    have c4b0 : (a0 == 3) = false := beq_eq_false_iff_ne.mpr c4
    have c4b1 : (a0 != 3) = true := bne_iff_ne.mpr c4
    by_cases c5 : a0 = 4
    ·rw [if_pos c5] at H
     have c5b0 : (a0 == 4) = true := beq_iff_eq.mpr c5
     have c5b1 : (a0 != 4) = false := bne_eq_false_iff_eq.mpr c5
     clear c5
     obtain rfl := Option.some.inj H
     go_enter Tryd.func39, Tryd.ntmps39
     go_wp2
     go_ret
     exact ⟨by first | rfl | (simp; done) | (simp [*]; done), by repeat (first | exact Drawn0.refl _ | apply Drawn0.step)⟩
    ·rw [if_neg c5] at H
     have c5b0 : (a0 == 4) = false := beq_eq_false_iff_ne.mpr c5
     have c5b1 : (a0 != 4) = true := bne_iff_ne.mpr c5
     obtain rfl := Option.some.inj H
     go_enter Tryd.func39, Tryd.ntmps39
     go_wp2
     go_ret
     exact ⟨by first | rfl | (simp; done) | (simp [*]; done), by repeat (first | exact Drawn0.refl _ | apply Drawn0.step)⟩
end Go.Proofs.YtcbiilbmldinhaaDoor.PB
end

section
namespace Go.Proofs.YtcbiilbmldinhaaDoor.PB
open Go.RowKit Go.Proofs.YtcbiilbmldinhaaDoorW.PrintWords Go.Proofs.YtcbiilbmldinhaaDoorW.PrintLast Go.Proofs.YtcbiilbmldinhaaDoorW.PrintMore
attribute [local go_sem] max2_int min2_int max_two min_two max_three min_three max_four min_four   
set_option linter.unusedVariables false
set_option linter.unusedSimpArgs false
def audit_Record_may.l0 : Nat → List Int → Int → Int → Int → Int → Int → Int → Int → Option (Bool)
 | 0, _, _, _, _, _, _, _, _ => none
 | k + 1, x11, x12, x13, x102000, x102001, x102002, x102003, x102004 => if x13 < x12 then (if 0 ≤ x13 then (if x13 < (x11.length : Int) then (if (rd x11 x13) < 0 then (some false) else (if (rd x11 x13) > 65535 then (some false) else (audit_Record_may.l0 k x11 x12 (wrap64 (x13 + 1)) x102000 x102001 x102002 x102003 x102004))) else (none)) else (none)) else ((audit_word.f x102001).bind fun t106 => (some (t106.toList != ([] : List UInt8))))
def audit_Record_may.f (k : Nat) (a0_0 : Int) (a0_1 : Int) (a0_2 : Int) (a0_3 : Int) (a0_4 : Int) : Option (Bool) := (some (([a0_2, a0_3, a0_4] : List Int) : List Int)).bind fun y102 => (audit_Record_may.l0 k y102 (y102.length : Int) 0 a0_0 a0_1 a0_2 a0_3 a0_4)
set_option maxHeartbeats 8000000 in
set_option maxRecDepth 100000 in
theorem audit_Record_may.calls (k : Nat) (a0_0 : Int) (a0_1 : Int) (a0_2 : Int) (a0_3 : Int) (a0_4 : Int) (r : Bool) (w : World) (h : audit_Record_may.f k a0_0 a0_1 a0_2 a0_3 a0_4 = some r) :
  Calls Tryd.prog 33 #[.agg #[.int .u64 a0_0, .int .i64 a0_1, .int .i64 a0_2, .int .i64 a0_3, .int .i64 a0_4]] w fun e w' => e = .returned (.bool r) ∧ Below w.heap.size w w' := by
 have hu36 := Tryd.underlying36
 have HB := aM (Below.refl w.heap.size w)
 have H : ((some (([a0_2, a0_3, a0_4] : List Int) : List Int)).bind fun y102 => (audit_Record_may.l0 k y102 (y102.length : Int) 0 a0_0 a0_1 a0_2 a0_3 a0_4)) = some r := h
 clear h
 obtain ⟨y102, hy102⟩ : ∃ y_ : List Int, y_ = (([a0_2, a0_3, a0_4] : List Int)) := ⟨_, rfl⟩
 replace H : (audit_Record_may.l0 k y102 (y102.length : Int) 0 a0_0 a0_1 a0_2 a0_3 a0_4) = some r := by first | (rw [hy102]; with_reducible exact H) | (have H2_ := (Option.bind_some _ _).symm.trans H; rw [hy102]; with_reducible exact H2_) | (have H2_ := (Option.bind_some _ _).symm.trans H; with_reducible exact H2_) | with_reducible exact H | (rw [hy102]; exact H) | exact H
 have Ny102 := aM hy102
 clear hy102
 have H' := aM H
 clear H
 go_enter Tryd.func33, Tryd.ntmps33
 go_wp2_with (first | ((with_reducible refine gate_dst (N := 1) rfl ?_); refine box_event ?hg (N := 1) ?hd (cs := #[.int .u64 a0_0, .int .i64 a0_1, .int .i64 a0_2, .int .i64 a0_3, .int .i64 a0_4]) (t := 36) ?hr ?_; (case hd | hg => rfl); (case hr => first | (go_simp; done) | (go_simp; rfl)); intro gb101 hg w2 hbox hb; have n0_ := aM (bP (ey HB.out) hb); have n1_ := aM (hbox); have n2_ := aM ((by rw [hg]; exact (bZ (ey HB.out)) : w.heap.size ≤ gb101)); have n3_ := n2_; clear HB; have HB := n0_; have BK101 := n1_; have GW101 := n2_; have GE101 := n3_; clear n0_ n1_ n2_ n3_; clear hb hbox hg; have hcz3_0 := zC BK101.out 0 (.int .u64 a0_0); have hcz3_1 := zC BK101.out 1 (.int .i64 a0_1); have hcz3_2 := zC BK101.out 2 (.int .i64 a0_2); have hcz3_3 := zC BK101.out 3 (.int .i64 a0_3); have hcz3_4 := zC BK101.out 4 (.int .i64 a0_4); have hfz3_0 := bF BK101.out 0; have hfz3_1 := bF BK101.out 1; have hfz3_2 := bF BK101.out 2; have hfz3_3 := bF BK101.out 3; have hfz3_4 := bF BK101.out 4) | ((with_reducible refine gate_dst (N := 11) rfl ?_); refine Kd.R_lit (Kd.int .i64) _ 3 ?hg (N := 11) ?hd (xs := ([a0_2, a0_3, a0_4] : List Int)) (inner := [.int .i64 a0_2, .int .i64 a0_3, .int .i64 a0_4]) (ok := fun _ => True) (okp := fun _ => True) ?hr ?hp (fun _ hk => hk) trivial (Below.refl _ _) (Nat.le_refl _) (by simp) ?_; (case hd | hg => rfl); (case hr => first | (go_simp; done) | (go_simp; rfl)); (case hp => exact (Reps.one (show Kd.M (Kd.int .i64) _ _ _ a0_2 [.int .i64 a0_2] from rfl) (Reps.one (show Kd.M (Kd.int .i64) _ _ _ a0_3 [.int .i64 a0_3] from rfl) (Reps.one (show Kd.M (Kd.int .i64) _ _ _ a0_4 [.int .i64 a0_4] from rfl) (Reps.none _ _))))); intro v103 w4 ho5 hb hg_ hnew_; clear hg_ hnew_; (first | rw [← Ny102.out] at ho5 | (simp only [Int.reduceToNat] at ho5; rw [← Ny102.out] at ho5)); have n0_ := aM (rL ho5 (bZ (by repeat (first | (with_reducible first | exact HB.out | apply ea | apply en | apply ed | refine es ?_ GE101.out) | exact HB.out)))); have n1_ := aM (bB (g := gb101) (qy BK101.out) hb); have n2_ := aM (bP (by repeat (first | (with_reducible first | exact HB.out | apply ea | apply en | apply ed | refine es ?_ GE101.out) | exact HB.out)) hb); clear BK101 HB; have HO104 := n0_; have BK101 := n1_; have HB := n2_; clear n0_ n1_ n2_; clear hb ho5; obtain ⟨Ao6, co6, eo6⟩ := Kd.R_slice HO104.out; subst eo6))
 go_loopg [13] k (fun kq v13 w' => ∃ (x13_1 : Int), v13 = .int .i64 x13_1 ∧ Aside0 (audit_Record_may.l0 kq y102 (y102.length : Int) x13_1 a0_0 a0_1 a0_2 a0_3 a0_4 = some r) ∧ Aside0 (kq ≤ k) ∧ Aside0 (Kd.R (Kd.int .i64) 3 w' w.heap.size (fun _ => True) (.slice Ao6 y102.length co6) y102) ∧ Aside0 (w'.heap[gb101]? = some (.cells #[.int .u64 a0_0, .int .i64 a0_1, .int .i64 a0_2, .int .i64 a0_3, .int .i64 a0_4] 36 (0, 0))) ∧ Aside0 (Below w.heap.size w w'))
 case atStart => exact ⟨(0), (by first | rfl | (simp; done) | (simp [*]; done)), H', ⟨Nat.le_refl _⟩, ⟨by exact ry HO104.out⟩, ⟨by exact qy BK101.out⟩, ⟨by repeat (first | (with_reducible first | exact HB.out | apply ea | apply en | apply ed | refine es ?_ GE101.out) | exact HB.out)⟩⟩
 case round =>
  clear H'
  try clear p2
  try clear c3
  try clear hcz3_0
  try clear hcz3_1
  try clear hcz3_2
  try clear hcz3_3
  try clear hcz3_4
  try clear hfz3_0
  try clear hfz3_1
  try clear hfz3_2
  try clear hfz3_3
  try clear hfz3_4
  obtain ⟨x13_1, rfl, HA, HK1, HO_11, BK101, HB⟩ := hrel
  cases gk with
  | zero => exact absurd HA.out (by simp [audit_Record_may.l0])
  | succ k1 =>
   have H := HA.out
   clear HA
   simp only [audit_Record_may.l0] at H
   by_cases c7 : x13_1 < (y102.length : Int)
   ·rw [if_pos c7] at H
    have c7b0 : decide (x13_1 < (y102.length : Int)) = true := decide_eq_true c7
    clear c7
    by_cases c8 : 0 ≤ x13_1
    ·rw [if_pos c8] at H
     have c8b0 : decide (0 ≤ x13_1) = true := decide_eq_true c8
     clear c8
     by_cases c9 : x13_1 < (y102.length : Int)
     ·rw [if_pos c9] at H
      have c9b0 : decide (x13_1 < (y102.length : Int)) = true := decide_eq_true c9
      clear c9
      by_cases c10 : (rd y102 x13_1) < 0
      ·rw [if_pos c10] at H
       have c10b0 : decide ((rd y102 x13_1) < 0) = true := decide_eq_true c10
       clear c10
       obtain rfl := Option.some.inj H
       have p105 : 0 ≤ (x13_1 : Int) := of_decide_eq_true (by first | (with_reducible assumption) | assumption)
       have q105 : x13_1 < (y102.length : Int) := of_decide_eq_true (by first | (with_reducible assumption) | assumption)
       obtain ⟨ad105, e105, hx105_0⟩ := Kd.at_int (rR HO_11.out).2.2 x13_1 p105 q105
       cases e105
       replace p105 := eq_true p105
       replace q105 := eq_true q105
       go_wp2
       go_ret
       exact ⟨by first | rfl | (simp [errW_none, errW_some] <;> rfl) | (simp [*, errW_none, errW_some] <;> rfl), by repeat (first | (with_reducible first | exact HB.out | apply ea | apply en | apply ed | refine es ?_ GE101.out) | exact HB.out)⟩
      ·rw [if_neg c10] at H
       have c10b0 : decide ((rd y102 x13_1) < 0) = false := decide_eq_false c10
       clear c10
       by_cases c11 : (rd y102 x13_1) > 65535
       ·rw [if_pos c11] at H
        have c11b0 : decide (65535 < (rd y102 x13_1)) = true := decide_eq_true c11
        clear c11
        obtain rfl := Option.some.inj H
        have p105 : 0 ≤ (x13_1 : Int) := of_decide_eq_true (by first | (with_reducible assumption) | assumption)
        have q105 : x13_1 < (y102.length : Int) := of_decide_eq_true (by first | (with_reducible assumption) | assumption)
        obtain ⟨ad105, e105, hx105_0⟩ := Kd.at_int (rR HO_11.out).2.2 x13_1 p105 q105
        cases e105
        replace p105 := eq_true p105
        replace q105 := eq_true q105
        go_wp2
        go_ret
        exact ⟨by first | rfl | (simp [errW_none, errW_some] <;> rfl) | (simp [*, errW_none, errW_some] <;> rfl), by repeat (first | (with_reducible first | exact HB.out | apply ea | apply en | apply ed | refine es ?_ GE101.out) | exact HB.out)⟩
       ·rw [if_neg c11] at H
        have c11b0 : decide (65535 < (rd y102 x13_1)) = false := decide_eq_false c11
        clear c11
        have H' := aM H
        clear H
        have p105 : 0 ≤ (x13_1 : Int) := of_decide_eq_true (by first | (with_reducible assumption) | assumption)
        have q105 : x13_1 < (y102.length : Int) := of_decide_eq_true (by first | (with_reducible assumption) | assumption)
        obtain ⟨ad105, e105, hx105_0⟩ := Kd.at_int (rR HO_11.out).2.2 x13_1 p105 q105
        cases e105
        replace p105 := eq_true p105
        replace q105 := eq_true q105
        go_wp2
        go_roundg k1
        case measure => have := HK1.out; omega
        case rel => exact ⟨(wrap64 (x13_1 + 1)), (by first | rfl | (simp; done) | (simp [*]; done)), H', ⟨by have := HK1.out; omega⟩, ⟨by exact ry HO_11.out⟩, ⟨by exact qy BK101.out⟩, ⟨by repeat (first | (with_reducible first | exact HB.out | apply ea | apply en | apply ed | refine es ?_ GE101.out) | exact HB.out)⟩⟩
     ·rw [if_neg c9] at H
      exact absurd H (by simp)
    ·rw [if_neg c8] at H
     exact absurd H (by simp)
   ·rw [if_neg c7] at H
    have c7b0 : decide (x13_1 < (y102.length : Int)) = false := decide_eq_false c7
    clear c7
    replace H := Option.bind_eq_some_iff.mp H
    obtain ⟨t106, A120, H⟩ := H
    replace H : (some (t106.toList != ([] : List UInt8))) = some r := H
    have A12 := aM A120
    clear A120
    obtain rfl := Option.some.inj H
    have hcz13_0 := zC BK101.out 0 (.int .u64 a0_0)
    have hcz13_1 := zC BK101.out 1 (.int .i64 a0_1)
    have hcz13_2 := zC BK101.out 2 (.int .i64 a0_2)
    have hcz13_3 := zC BK101.out 3 (.int .i64 a0_3)
    have hcz13_4 := zC BK101.out 4 (.int .i64 a0_4)
    have hfz13_0 := bF BK101.out 0
    have hfz13_1 := bF BK101.out 1
    have hfz13_2 := bF BK101.out 2
    have hfz13_3 := bF BK101.out 3
    have hfz13_4 := bF BK101.out 4
    go_wp2_with (first | ((with_reducible refine gate_callee (f := 39) rfl ?_); refine goesL_ (some 26) rfl rfl Tryd.func39 (by kernel_rfl) rfl #[.int .i64 a0_1] rfl (by (try simp only [mT, mC, mN]); first | done | rfl | (simp only [lD, lT]; rfl)) ?_; (with_reducible refine (audit_word.calls a0_1 t106 _ A12.out).mono ?_); rintro e w' ⟨rfl, ⟨nd, rfl⟩⟩; refine ⟨_, rfl, ?_⟩))
    go_ret
    exact ⟨by first | rfl | (simp [errW_none, errW_some]; cases t106.toList <;> rfl) | (simp [errW_none, errW_some] <;> rfl) | (simp [*, errW_none, errW_some] <;> rfl), by repeat (first | (with_reducible first | exact HB.out | apply ea | apply en | apply ed | refine es ?_ GE101.out) | exact HB.out)⟩
end Go.Proofs.YtcbiilbmldinhaaDoor.PB
end

section
namespace Go.Proofs.YtcbiilbmldinhaaDoor.PB
set_option linter.unusedVariables false
def ofBits : List Bool → Nat
  | [] => 0
  | b :: l => 2 * ofBits l + b.toNat
theorem ofBits_testBit (l : List Bool) : ∀ i, (ofBits l).testBit i = l.getD i false := by
  induction l with
  | nil => intro i; simp [ofBits]
  | cons b l ih =>
    intro i
    cases i with
    | zero => cases b <;> simp [ofBits, Nat.testBit_zero] <;> omega
    | succ i =>
      have : (2 * ofBits l + b.toNat) / 2 = ofBits l := by cases b <;> simp <;> omega
      rw [ofBits, Nat.testBit_succ, this, ih i]
      simp
theorem ofBits_lt (l : List Bool) : ofBits l < 2 ^ l.length := by
  induction l with
  | nil => simp [ofBits]
  | cons b l ih =>
    have : b.toNat ≤ 1 := by cases b <;> simp
    simp only [ofBits, List.length_cons, Nat.pow_succ]
    omega
theorem ofBits_eq (l : List Bool) (m : Nat) (hl : l.length = 64) (hm : m < 2 ^ 64) (h : ∀ i, i < 64 → l.getD i false = m.testBit i) : ofBits l = m := by
  apply Nat.eq_of_testBit_eq
  intro i
  rw [ofBits_testBit]
  by_cases hi : i < 64
  · exact h i hi
  · rw [List.getD_eq_getElem?_getD, List.getElem?_eq_none (by omega)]
    exact (Nat.testBit_lt_two_pow (Nat.lt_of_lt_of_le hm (Nat.pow_le_pow_right (by decide) (by omega)))).symm
end Go.Proofs.YtcbiilbmldinhaaDoor.PB
end

section
namespace Go.Proofs.YtcbiilbmldinhaaDoor.PB
def catsOf (l : List Int) : List Bool := (List.range 64).map (fun i : Nat => l.contains (i : Int))
theorem catsOf_len (l : List Int) : (catsOf l).length = 64 := by simp [catsOf]
theorem catsOf_nil : catsOf [] = List.replicate 64 false := by simp [catsOf]; rfl
theorem catsOf_snoc (l : List Int) (m : Nat) (hm : m < 64) : (catsOf l).set m true = catsOf (l ++ [(m : Int)]) := by
  apply List.ext_getElem?
  intro i
  rw [List.getElem?_set]
  unfold catsOf
  simp only [List.getElem?_map, List.length_map, List.length_range]
  by_cases hi : i < 64
  · rw [List.getElem?_range hi]
    by_cases h : m = i
    · subst h; simp [hm]
    · rw [if_neg h, Option.map_some, Option.map_some]
      have : ¬ ((i : Int) = (m : Int)) := by omega
      simp [this]
  · rw [List.getElem?_eq_none (by simpa using hi), if_neg (by omega)]; rfl
theorem catsOf_getD (l : List Int) (i : Nat) (hi : i < 64) : (catsOf l).getD i false = l.contains (i : Int) := by
  unfold catsOf
  rw [List.getD_eq_getElem?_getD, List.getElem?_map, List.getElem?_range hi]; rfl
def catsTo (n k : Nat) : List Int := ((List.range k).filter (fun i => n.testBit i)).map (fun i : Nat => (i : Int))
theorem catsTo_yes (n k : Nat) (h : n.testBit k = true) : catsTo n (k + 1) = catsTo n k ++ [(k : Int)] := by
  unfold catsTo; rw [List.range_succ, List.filter_append]; simp [h]
theorem catsTo_no (n k : Nat) (h : n.testBit k = false) : catsTo n (k + 1) = catsTo n k := by
  unfold catsTo; rw [List.range_succ, List.filter_append]; simp [h]
theorem catsTo_len (n k : Nat) : (catsTo n k).length ≤ k := by
  unfold catsTo; rw [List.length_map]; exact Nat.le_trans (List.length_filter_le _ _) (by simp)
end Go.Proofs.YtcbiilbmldinhaaDoor.PB
end

section
namespace Go.Proofs.YtcbiilbmldinhaaDoor.PB
open Go.RowKit Go.Proofs.YtcbiilbmldinhaaDoorW.PrintWords Go.Proofs.YtcbiilbmldinhaaDoorW.PrintLast Go.Proofs.YtcbiilbmldinhaaDoorW.PrintMore
attribute [local go_sem] max2_int min2_int max_two min_two max_three min_three max_four min_four   
set_option linter.unusedVariables false
set_option linter.unusedSimpArgs false
def bits_OnesCount64.f (a0 : Int) : Option (Int) := some (Go.bits .and .i64 (wrap64 (IntKind.u64.wrap ((IntKind.u64.wrap ((IntKind.u64.wrap ((Go.bits .and .u64 (IntKind.u64.wrap (((IntKind.u64.wrap ((Go.bits .and .u64 ((IntKind.u64.wrap ((Go.bits .and .u64 (a0 / 2) 6148914691236517205) + (Go.bits .and .u64 a0 6148914691236517205))) / 4) 3689348814741910323) + (Go.bits .and .u64 (IntKind.u64.wrap ((Go.bits .and .u64 (a0 / 2) 6148914691236517205) + (Go.bits .and .u64 a0 6148914691236517205))) 3689348814741910323))) / 16) + (IntKind.u64.wrap ((Go.bits .and .u64 ((IntKind.u64.wrap ((Go.bits .and .u64 (a0 / 2) 6148914691236517205) + (Go.bits .and .u64 a0 6148914691236517205))) / 4) 3689348814741910323) + (Go.bits .and .u64 (IntKind.u64.wrap ((Go.bits .and .u64 (a0 / 2) 6148914691236517205) + (Go.bits .and .u64 a0 6148914691236517205))) 3689348814741910323))))) 1085102592571150095) + ((Go.bits .and .u64 (IntKind.u64.wrap (((IntKind.u64.wrap ((Go.bits .and .u64 ((IntKind.u64.wrap ((Go.bits .and .u64 (a0 / 2) 6148914691236517205) + (Go.bits .and .u64 a0 6148914691236517205))) / 4) 3689348814741910323) + (Go.bits .and .u64 (IntKind.u64.wrap ((Go.bits .and .u64 (a0 / 2) 6148914691236517205) + (Go.bits .and .u64 a0 6148914691236517205))) 3689348814741910323))) / 16) + (IntKind.u64.wrap ((Go.bits .and .u64 ((IntKind.u64.wrap ((Go.bits .and .u64 (a0 / 2) 6148914691236517205) + (Go.bits .and .u64 a0 6148914691236517205))) / 4) 3689348814741910323) + (Go.bits .and .u64 (IntKind.u64.wrap ((Go.bits .and .u64 (a0 / 2) 6148914691236517205) + (Go.bits .and .u64 a0 6148914691236517205))) 3689348814741910323))))) 1085102592571150095) / 256))) + ((IntKind.u64.wrap ((Go.bits .and .u64 (IntKind.u64.wrap (((IntKind.u64.wrap ((Go.bits .and .u64 ((IntKind.u64.wrap ((Go.bits .and .u64 (a0 / 2) 6148914691236517205) + (Go.bits .and .u64 a0 6148914691236517205))) / 4) 3689348814741910323) + (Go.bits .and .u64 (IntKind.u64.wrap ((Go.bits .and .u64 (a0 / 2) 6148914691236517205) + (Go.bits .and .u64 a0 6148914691236517205))) 3689348814741910323))) / 16) + (IntKind.u64.wrap ((Go.bits .and .u64 ((IntKind.u64.wrap ((Go.bits .and .u64 (a0 / 2) 6148914691236517205) + (Go.bits .and .u64 a0 6148914691236517205))) / 4) 3689348814741910323) + (Go.bits .and .u64 (IntKind.u64.wrap ((Go.bits .and .u64 (a0 / 2) 6148914691236517205) + (Go.bits .and .u64 a0 6148914691236517205))) 3689348814741910323))))) 1085102592571150095) + ((Go.bits .and .u64 (IntKind.u64.wrap (((IntKind.u64.wrap ((Go.bits .and .u64 ((IntKind.u64.wrap ((Go.bits .and .u64 (a0 / 2) 6148914691236517205) + (Go.bits .and .u64 a0 6148914691236517205))) / 4) 3689348814741910323) + (Go.bits .and .u64 (IntKind.u64.wrap ((Go.bits .and .u64 (a0 / 2) 6148914691236517205) + (Go.bits .and .u64 a0 6148914691236517205))) 3689348814741910323))) / 16) + (IntKind.u64.wrap ((Go.bits .and .u64 ((IntKind.u64.wrap ((Go.bits .and .u64 (a0 / 2) 6148914691236517205) + (Go.bits .and .u64 a0 6148914691236517205))) / 4) 3689348814741910323) + (Go.bits .and .u64 (IntKind.u64.wrap ((Go.bits .and .u64 (a0 / 2) 6148914691236517205) + (Go.bits .and .u64 a0 6148914691236517205))) 3689348814741910323))))) 1085102592571150095) / 256))) / 65536))) + ((IntKind.u64.wrap ((IntKind.u64.wrap ((Go.bits .and .u64 (IntKind.u64.wrap (((IntKind.u64.wrap ((Go.bits .and .u64 ((IntKind.u64.wrap ((Go.bits .and .u64 (a0 / 2) 6148914691236517205) + (Go.bits .and .u64 a0 6148914691236517205))) / 4) 3689348814741910323) + (Go.bits .and .u64 (IntKind.u64.wrap ((Go.bits .and .u64 (a0 / 2) 6148914691236517205) + (Go.bits .and .u64 a0 6148914691236517205))) 3689348814741910323))) / 16) + (IntKind.u64.wrap ((Go.bits .and .u64 ((IntKind.u64.wrap ((Go.bits .and .u64 (a0 / 2) 6148914691236517205) + (Go.bits .and .u64 a0 6148914691236517205))) / 4) 3689348814741910323) + (Go.bits .and .u64 (IntKind.u64.wrap ((Go.bits .and .u64 (a0 / 2) 6148914691236517205) + (Go.bits .and .u64 a0 6148914691236517205))) 3689348814741910323))))) 1085102592571150095) + ((Go.bits .and .u64 (IntKind.u64.wrap (((IntKind.u64.wrap ((Go.bits .and .u64 ((IntKind.u64.wrap ((Go.bits .and .u64 (a0 / 2) 6148914691236517205) + (Go.bits .and .u64 a0 6148914691236517205))) / 4) 3689348814741910323) + (Go.bits .and .u64 (IntKind.u64.wrap ((Go.bits .and .u64 (a0 / 2) 6148914691236517205) + (Go.bits .and .u64 a0 6148914691236517205))) 3689348814741910323))) / 16) + (IntKind.u64.wrap ((Go.bits .and .u64 ((IntKind.u64.wrap ((Go.bits .and .u64 (a0 / 2) 6148914691236517205) + (Go.bits .and .u64 a0 6148914691236517205))) / 4) 3689348814741910323) + (Go.bits .and .u64 (IntKind.u64.wrap ((Go.bits .and .u64 (a0 / 2) 6148914691236517205) + (Go.bits .and .u64 a0 6148914691236517205))) 3689348814741910323))))) 1085102592571150095) / 256))) + ((IntKind.u64.wrap ((Go.bits .and .u64 (IntKind.u64.wrap (((IntKind.u64.wrap ((Go.bits .and .u64 ((IntKind.u64.wrap ((Go.bits .and .u64 (a0 / 2) 6148914691236517205) + (Go.bits .and .u64 a0 6148914691236517205))) / 4) 3689348814741910323) + (Go.bits .and .u64 (IntKind.u64.wrap ((Go.bits .and .u64 (a0 / 2) 6148914691236517205) + (Go.bits .and .u64 a0 6148914691236517205))) 3689348814741910323))) / 16) + (IntKind.u64.wrap ((Go.bits .and .u64 ((IntKind.u64.wrap ((Go.bits .and .u64 (a0 / 2) 6148914691236517205) + (Go.bits .and .u64 a0 6148914691236517205))) / 4) 3689348814741910323) + (Go.bits .and .u64 (IntKind.u64.wrap ((Go.bits .and .u64 (a0 / 2) 6148914691236517205) + (Go.bits .and .u64 a0 6148914691236517205))) 3689348814741910323))))) 1085102592571150095) + ((Go.bits .and .u64 (IntKind.u64.wrap (((IntKind.u64.wrap ((Go.bits .and .u64 ((IntKind.u64.wrap ((Go.bits .and .u64 (a0 / 2) 6148914691236517205) + (Go.bits .and .u64 a0 6148914691236517205))) / 4) 3689348814741910323) + (Go.bits .and .u64 (IntKind.u64.wrap ((Go.bits .and .u64 (a0 / 2) 6148914691236517205) + (Go.bits .and .u64 a0 6148914691236517205))) 3689348814741910323))) / 16) + (IntKind.u64.wrap ((Go.bits .and .u64 ((IntKind.u64.wrap ((Go.bits .and .u64 (a0 / 2) 6148914691236517205) + (Go.bits .and .u64 a0 6148914691236517205))) / 4) 3689348814741910323) + (Go.bits .and .u64 (IntKind.u64.wrap ((Go.bits .and .u64 (a0 / 2) 6148914691236517205) + (Go.bits .and .u64 a0 6148914691236517205))) 3689348814741910323))))) 1085102592571150095) / 256))) / 65536))) / 4294967296)))) 127)
set_option maxHeartbeats 8000000 in
set_option maxRecDepth 100000 in
theorem bits_OnesCount64.calls (a0 : Int) (r : Int) (w : World) (h : bits_OnesCount64.f a0 = some r) :
  Calls Tryd.prog 67 #[.int .u64 a0] w fun e w' => e = .returned (.int .i64 r) ∧ Drawn0 w w' := by
 have H : (some (Go.bits .and .i64 (wrap64 (IntKind.u64.wrap ((IntKind.u64.wrap ((IntKind.u64.wrap ((Go.bits .and .u64 (IntKind.u64.wrap (((IntKind.u64.wrap ((Go.bits .and .u64 ((IntKind.u64.wrap ((Go.bits .and .u64 (a0 / 2) 6148914691236517205) + (Go.bits .and .u64 a0 6148914691236517205))) / 4) 3689348814741910323) + (Go.bits .and .u64 (IntKind.u64.wrap ((Go.bits .and .u64 (a0 / 2) 6148914691236517205) + (Go.bits .and .u64 a0 6148914691236517205))) 3689348814741910323))) / 16) + (IntKind.u64.wrap ((Go.bits .and .u64 ((IntKind.u64.wrap ((Go.bits .and .u64 (a0 / 2) 6148914691236517205) + (Go.bits .and .u64 a0 6148914691236517205))) / 4) 3689348814741910323) + (Go.bits .and .u64 (IntKind.u64.wrap ((Go.bits .and .u64 (a0 / 2) 6148914691236517205) + (Go.bits .and .u64 a0 6148914691236517205))) 3689348814741910323))))) 1085102592571150095) + ((Go.bits .and .u64 (IntKind.u64.wrap (((IntKind.u64.wrap ((Go.bits .and .u64 ((IntKind.u64.wrap ((Go.bits .and .u64 (a0 / 2) 6148914691236517205) + (Go.bits .and .u64 a0 6148914691236517205))) / 4) 3689348814741910323) + (Go.bits .and .u64 (IntKind.u64.wrap ((Go.bits .and .u64 (a0 / 2) 6148914691236517205) + (Go.bits .and .u64 a0 6148914691236517205))) 3689348814741910323))) / 16) + (IntKind.u64.wrap ((Go.bits .and .u64 ((IntKind.u64.wrap ((Go.bits .and .u64 (a0 / 2) 6148914691236517205) + (Go.bits .and .u64 a0 6148914691236517205))) / 4) 3689348814741910323) + (Go.bits .and .u64 (IntKind.u64.wrap ((Go.bits .and .u64 (a0 / 2) 6148914691236517205) + (Go.bits .and .u64 a0 6148914691236517205))) 3689348814741910323))))) 1085102592571150095) / 256))) + ((IntKind.u64.wrap ((Go.bits .and .u64 (IntKind.u64.wrap (((IntKind.u64.wrap ((Go.bits .and .u64 ((IntKind.u64.wrap ((Go.bits .and .u64 (a0 / 2) 6148914691236517205) + (Go.bits .and .u64 a0 6148914691236517205))) / 4) 3689348814741910323) + (Go.bits .and .u64 (IntKind.u64.wrap ((Go.bits .and .u64 (a0 / 2) 6148914691236517205) + (Go.bits .and .u64 a0 6148914691236517205))) 3689348814741910323))) / 16) + (IntKind.u64.wrap ((Go.bits .and .u64 ((IntKind.u64.wrap ((Go.bits .and .u64 (a0 / 2) 6148914691236517205) + (Go.bits .and .u64 a0 6148914691236517205))) / 4) 3689348814741910323) + (Go.bits .and .u64 (IntKind.u64.wrap ((Go.bits .and .u64 (a0 / 2) 6148914691236517205) + (Go.bits .and .u64 a0 6148914691236517205))) 3689348814741910323))))) 1085102592571150095) + ((Go.bits .and .u64 (IntKind.u64.wrap (((IntKind.u64.wrap ((Go.bits .and .u64 ((IntKind.u64.wrap ((Go.bits .and .u64 (a0 / 2) 6148914691236517205) + (Go.bits .and .u64 a0 6148914691236517205))) / 4) 3689348814741910323) + (Go.bits .and .u64 (IntKind.u64.wrap ((Go.bits .and .u64 (a0 / 2) 6148914691236517205) + (Go.bits .and .u64 a0 6148914691236517205))) 3689348814741910323))) / 16) + (IntKind.u64.wrap ((Go.bits .and .u64 ((IntKind.u64.wrap ((Go.bits .and .u64 (a0 / 2) 6148914691236517205) + (Go.bits .and .u64 a0 6148914691236517205))) / 4) 3689348814741910323) + (Go.bits .and .u64 (IntKind.u64.wrap ((Go.bits .and .u64 (a0 / 2) 6148914691236517205) + (Go.bits .and .u64 a0 6148914691236517205))) 3689348814741910323))))) 1085102592571150095) / 256))) / 65536))) + ((IntKind.u64.wrap ((IntKind.u64.wrap ((Go.bits .and .u64 (IntKind.u64.wrap (((IntKind.u64.wrap ((Go.bits .and .u64 ((IntKind.u64.wrap ((Go.bits .and .u64 (a0 / 2) 6148914691236517205) + (Go.bits .and .u64 a0 6148914691236517205))) / 4) 3689348814741910323) + (Go.bits .and .u64 (IntKind.u64.wrap ((Go.bits .and .u64 (a0 / 2) 6148914691236517205) + (Go.bits .and .u64 a0 6148914691236517205))) 3689348814741910323))) / 16) + (IntKind.u64.wrap ((Go.bits .and .u64 ((IntKind.u64.wrap ((Go.bits .and .u64 (a0 / 2) 6148914691236517205) + (Go.bits .and .u64 a0 6148914691236517205))) / 4) 3689348814741910323) + (Go.bits .and .u64 (IntKind.u64.wrap ((Go.bits .and .u64 (a0 / 2) 6148914691236517205) + (Go.bits .and .u64 a0 6148914691236517205))) 3689348814741910323))))) 1085102592571150095) + ((Go.bits .and .u64 (IntKind.u64.wrap (((IntKind.u64.wrap ((Go.bits .and .u64 ((IntKind.u64.wrap ((Go.bits .and .u64 (a0 / 2) 6148914691236517205) + (Go.bits .and .u64 a0 6148914691236517205))) / 4) 3689348814741910323) + (Go.bits .and .u64 (IntKind.u64.wrap ((Go.bits .and .u64 (a0 / 2) 6148914691236517205) + (Go.bits .and .u64 a0 6148914691236517205))) 3689348814741910323))) / 16) + (IntKind.u64.wrap ((Go.bits .and .u64 ((IntKind.u64.wrap ((Go.bits .and .u64 (a0 / 2) 6148914691236517205) + (Go.bits .and .u64 a0 6148914691236517205))) / 4) 3689348814741910323) + (Go.bits .and .u64 (IntKind.u64.wrap ((Go.bits .and .u64 (a0 / 2) 6148914691236517205) + (Go.bits .and .u64 a0 6148914691236517205))) 3689348814741910323))))) 1085102592571150095) / 256))) + ((IntKind.u64.wrap ((Go.bits .and .u64 (IntKind.u64.wrap (((IntKind.u64.wrap ((Go.bits .and .u64 ((IntKind.u64.wrap ((Go.bits .and .u64 (a0 / 2) 6148914691236517205) + (Go.bits .and .u64 a0 6148914691236517205))) / 4) 3689348814741910323) + (Go.bits .and .u64 (IntKind.u64.wrap ((Go.bits .and .u64 (a0 / 2) 6148914691236517205) + (Go.bits .and .u64 a0 6148914691236517205))) 3689348814741910323))) / 16) + (IntKind.u64.wrap ((Go.bits .and .u64 ((IntKind.u64.wrap ((Go.bits .and .u64 (a0 / 2) 6148914691236517205) + (Go.bits .and .u64 a0 6148914691236517205))) / 4) 3689348814741910323) + (Go.bits .and .u64 (IntKind.u64.wrap ((Go.bits .and .u64 (a0 / 2) 6148914691236517205) + (Go.bits .and .u64 a0 6148914691236517205))) 3689348814741910323))))) 1085102592571150095) + ((Go.bits .and .u64 (IntKind.u64.wrap (((IntKind.u64.wrap ((Go.bits .and .u64 ((IntKind.u64.wrap ((Go.bits .and .u64 (a0 / 2) 6148914691236517205) + (Go.bits .and .u64 a0 6148914691236517205))) / 4) 3689348814741910323) + (Go.bits .and .u64 (IntKind.u64.wrap ((Go.bits .and .u64 (a0 / 2) 6148914691236517205) + (Go.bits .and .u64 a0 6148914691236517205))) 3689348814741910323))) / 16) + (IntKind.u64.wrap ((Go.bits .and .u64 ((IntKind.u64.wrap ((Go.bits .and .u64 (a0 / 2) 6148914691236517205) + (Go.bits .and .u64 a0 6148914691236517205))) / 4) 3689348814741910323) + (Go.bits .and .u64 (IntKind.u64.wrap ((Go.bits .and .u64 (a0 / 2) 6148914691236517205) + (Go.bits .and .u64 a0 6148914691236517205))) 3689348814741910323))))) 1085102592571150095) / 256))) / 65536))) / 4294967296)))) 127)) = some r := h
 clear h
 obtain rfl := Option.some.inj H
 go_enter Tryd.func67, Tryd.ntmps67
 go_wp2
 go_ret
 exact ⟨by first | rfl | (simp; done) | (simp [*]; done), by repeat (first | exact Drawn0.refl _ | apply Drawn0.step)⟩
end Go.Proofs.YtcbiilbmldinhaaDoor.PB
end

section
namespace Go.Proofs.YtcbiilbmldinhaaDoor.PB
open Go.RowKit Go.Proofs.YtcbiilbmldinhaaDoorW.PrintWords Go.Proofs.YtcbiilbmldinhaaDoorW.PrintLast Go.Proofs.YtcbiilbmldinhaaDoorW.PrintMore
attribute [local go_sem] max2_int min2_int max_two min_two max_three min_three max_four min_four
set_option linter.unusedVariables false
set_option linter.unusedSimpArgs false
theorem ones_bound (a : Int) : ∃ n : Nat, n ≤ 127 ∧ bits_OnesCount64.f a = some (n : Int) := by
  unfold bits_OnesCount64.f
  generalize wrap64 _ = x
  obtain ⟨h1, h2⟩ : 0 ≤ Go.bits .and .i64 x 127 ∧ Go.bits .and .i64 x 127 ≤ 127 := by
    rw [i64_and127]; omega
  exact ⟨(Go.bits .and .i64 x 127).toNat, by omega, by rw [Int.toNat_of_nonneg h1]⟩
theorem mark_bit (n k : Nat) (hn : n < 2 ^ 64) : (Go.bits .and .u64 ((n : Int) / 2 ^ k) 1 == 1) = n.testBit k := by
  have e : (n : Int) / 2 ^ k = ((n / 2 ^ k : Nat) : Int) := by rw [Int.natCast_ediv, Int.natCast_pow]; rfl
  have hle : n / 2 ^ k ≤ n := Nat.div_le_self _ _
  rw [e]
  have := u64_and_nat (n / 2 ^ k) 1 (by omega) (by decide)
  rw [show ((1 : Nat) : Int) = 1 from rfl] at this
  rw [this, Nat.and_one_is_mod, Nat.testBit_eq_decide_div_mod_eq, Bool.eq_iff_iff, decide_eq_true_iff, beq_iff_eq]
  omega
set_option maxHeartbeats 4000000 in
set_option maxRecDepth 100000 in
theorem label_Cats_calls (n : Nat) (hn : n < 2 ^ 64) (w : World) :
    Calls Tryd.prog 56 #[.int .u64 (n : Int)] w fun e w' => ∃ v0_ : Value, e = .returned (v0_) ∧ Kd.R (Kd.int .i64) 3 w' w.heap.size (fun _ => True) v0_ (catsTo n 64) ∧ Below w.heap.size w w' := by
  obtain ⟨c, hc, h1⟩ := ones_bound (n : Int)
  have HO := aM (fun W => bits_OnesCount64.calls (n : Int) (c : Int) W h1)
  have hmk : ∀ W : World, (Instr.makeSlice 92 (.int .i64 0) (.int .i64 (c : Int))).run Tryd.prog W = .ok (.slice (some ⟨W.heap.size, 0, none⟩) 0 c) (W.alloc (.cells (madeCells #[.int .i64 0] c) 3)) := by
    intro W
    obtain ⟨i0, hi, hzz⟩ := Option.map_eq_some_iff.1 info3
    simp only [Prod.mk.injEq] at hzz
    obtain ⟨hz0, hz1, hz2⟩ := hzz
    have hr := run_make (P := Tryd.prog) W 92 3 i0 (.int .i64 0) Tryd.underlying92 hi hz0 .i64 .i64 0 (c : Int) (by omega) (by omega) (by rw [hz2]; omega) (by omega)
    rw [hz1] at hr
    simp only [Int.toNat_natCast, Nat.mul_one] at hr
    exact hr
  have HC := aM hc
  clear h1 hc
  go_enter Tryd.func56, Tryd.ntmps56
  go_wp2_with fail
  refine (HO.out _).mono ?_
  rintro e w1 ⟨rfl, hd⟩
  have HB0 := aM ((hd.below).alloc (hd.below.size) (.cells (madeCells #[.int .i64 0] c) 3))
  go_wp2
  generalize hW : w1.alloc (.cells (madeCells #[.int .i64 0] c) 3) = w2 at *
  have HR0 : Aside0 (Kd.R (Kd.int .i64) 3 w2 w.heap.size (fun _ => True) (.slice (some ⟨w1.heap.size, 0, none⟩) 0 c) []) := ⟨by
    rw [← hW]
    have := HC.out
    exact Kd.R_of_own (World.ownsRow_made w1 _ c hd.below.size (by unfold maxLen; omega) (by rw [size_madeCells, Nat.mul_one])) (fun _ _ => trivial)⟩
  clear hW
  go_loopw [3, 8] (fun v3 v8 wr => ∃ (k : Nat), k ≤ 64 ∧ v8 = .int .i64 k ∧ Aside0 (Kd.R (Kd.int .i64) 3 wr w.heap.size (fun _ => True) v3 (catsTo n k)) ∧ Aside0 (Below w.heap.size w wr)) (fun _ i _ => 64 - (intOf i).toNat)
  case atStart => exact ⟨0, by omega, rfl, HR0, HB0⟩
  case round =>
    obtain ⟨k, hk, rfl, HO, HB⟩ := hrel
    by_cases hlt : k < 64
    · have hk0 : (0 : Int) ≤ (k : Int) := by omega
      have hk1 : (k : Int) < 64 := by omega
      have HL := aM (catsTo_len n k)
      have hb := mark_bit n k hn
      cases hx : n.testBit k
      · have HN := aM (catsTo_no n k hx)
        rw [hx] at hb
        clear hx
        go_wp2
        exact ⟨⟨k + 1, by omega, by go_num, ⟨by rw [HN.out]; exact HO.out⟩, HB⟩, by simp [intOf]; omega⟩
      · have HN := aM (catsTo_yes n k hx)
        rw [hx] at hb
        clear hx
        generalize catsTo n k = xs at *
        go_wp2_with (first | ((with_reducible refine gate_builtin (b := .append) (xs := #[.tmp 16, .tmp 18]) rfl ?_); at_builtin; refine Kd.R_append (Kd.int .i64) (w0 := w) w.heap.size rfl (.tmp 16) (.tmp 18) 92 3 (.int .i64 0) 8 rfl Tryd.underlying92 info3 rfl (by decide) (by omega) u3 xs (k : Int) [.int .i64 (k : Int)] (fun _ => True) (fun _ => False) rfl rfl ?aP (fun _ hk => hk.elim) ?aF ?aO ?aB ?aS ?aL ?_; (case aP => exact rfl); (case aB => exact (by repeat (first | (with_reducible first | exact HB.out | apply ea | apply en | apply ed) | exact HB.out))); (case aF => exact (fun _ _ => trivial)); (case aO => exact (by (with_reducible repeat (first | apply ra | apply rn | apply rd_)); exact HO.out)); (case aS => exact (bZ (by repeat (first | (with_reducible first | exact HB.out | apply ea | apply en | apply ed) | exact HB.out)))); (case aL => have := HL.out; omega); intro v144 w7 ho hb hg hat; have HBn := aM hb; have HOn := aM ho; clear ho hb hg hat))
        exact ⟨⟨k + 1, by omega, by go_num, ⟨by rw [HN.out]; exact HOn.out⟩, HBn⟩, by simp [intOf]; omega⟩
    · obtain rfl : k = 64 := by omega
      go_wp2
      go_ret
      exact ⟨_, rfl, HO.out, HB.out⟩
def label_Cats.f (a0 : Int) : Option (List Int) := if 0 ≤ a0 ∧ a0 < 18446744073709551616 then some (catsTo a0.toNat 64) else none
theorem label_Cats.calls (a0 : Int) (r : List Int) (w : World) (h : label_Cats.f a0 = some r) :
    Calls Tryd.prog 56 #[.int .u64 a0] w fun e w' => ∃ v0_ : Value, e = .returned (v0_) ∧ Kd.R (Kd.int .i64) 3 w' w.heap.size (fun _ => True) v0_ r ∧ Below w.heap.size w w' := by
  unfold label_Cats.f at h
  split at h
  case isFalse => cases h
  rename_i hc
  injection h with h
  subst h
  obtain ⟨a, rfl⟩ := Int.eq_ofNat_of_zero_le hc.1
  exact label_Cats_calls a (by omega) w
end Go.Proofs.YtcbiilbmldinhaaDoor.PB
end

section
namespace Go.Proofs
open Go.Shelf
def Tryd.lays156_ren : Go.Shelf.Ren := ⟨fun | 156 => 38 | 165 => 52 | 166 => 53 | 169 => 54 | 240 => 64 | 241 => 65 | 276 => 76 | 277 => 77 | n => n, fun | 31 => 77 | 9 => 9 | 3 => 3 | 4 => 4 | 0 => 0 | 20 => 20 | 72 => 96 | 76 => 83 | 70 => 93 | 37 => 94 | 75 => 82 | 127 => 104 | 164 => 115 | 5 => 5 | 80 => 98 | n => n, fun | n => n⟩
theorem Tryd.lays156 : Go.Proofs.Lays.n156 Tryd.prog Tryd.lays156_ren := {
  mixed := by kernel_rfl
  f156 := Tryd.func38.trans (congrArg some (by kernel_rfl))
  f165 := Tryd.func52.trans (congrArg some (by kernel_rfl))
  f166 := Tryd.func53.trans (congrArg some (by kernel_rfl))
  f169 := Tryd.func54.trans (congrArg some (by kernel_rfl))
  f240 := Tryd.func64.trans (congrArg some (by kernel_rfl))
  f241 := Tryd.func65.trans (congrArg some (by kernel_rfl))
  f276 := Tryd.func76.trans (congrArg some (by kernel_rfl))
  f277 := Tryd.func77.trans (congrArg some (by kernel_rfl))
  t0 := Tryd.underlying0
  a0 := Tryd.isAgg0
  z0 := Tryd.sizeOf0
  v0 := Tryd.zeroValue0
  t3 := Tryd.underlying3
  a3 := Tryd.isAgg3
  z3 := Tryd.sizeOf3
  v3 := Tryd.zeroValue3
  t4 := Tryd.underlying4
  a4 := Tryd.isAgg4
  z4 := Tryd.sizeOf4
  v4 := Tryd.zeroValue4
  t9 := Tryd.underlying9
  a9 := Tryd.isAgg9
  z9 := Tryd.sizeOf9
  v9 := Tryd.zeroValue9
  t20 := Tryd.underlying20
  a20 := Tryd.isAgg20
  z20 := Tryd.sizeOf20
  v20 := Tryd.zeroValue20
  t31 := Tryd.underlying77
  a31 := Tryd.isAgg77
  z31 := Tryd.sizeOf77
  v31 := Tryd.zeroValue77
  t37 := Tryd.underlying94
  a37 := Tryd.isAgg94
  z37 := Tryd.sizeOf94
  v37 := Tryd.zeroValue94
  t70 := Tryd.underlying93
  a70 := Tryd.isAgg93
  z70 := Tryd.sizeOf93
  v70 := Tryd.zeroValue93
  t72 := Tryd.underlying96
  a72 := Tryd.isAgg96
  z72 := Tryd.sizeOf96
  v72 := Tryd.zeroValue96
  t75 := Tryd.underlying82
  a75 := Tryd.isAgg82
  z75 := Tryd.sizeOf82
  v75 := Tryd.zeroValue82
  t76 := Tryd.underlying83
  a76 := Tryd.isAgg83
  z76 := Tryd.sizeOf83
  v76 := Tryd.zeroValue83
  t127 := Tryd.underlying104
  a127 := Tryd.isAgg104
  z127 := Tryd.sizeOf104
  v127 := Tryd.zeroValue104
  t164 := Tryd.underlying115
  a164 := Tryd.isAgg115
  z164 := Tryd.sizeOf115
  v164 := Tryd.zeroValue115 }
theorem Tryd.Builder_Extra_156 : Builder.Extra Tryd.prog Tryd.lays156_ren := {
  sizeBuilder := by kernel_rfl
  liesBuilder := by kernel_rfl
  t5 := Tryd.underlying5
  a5 := Tryd.isAgg5
  z5 := Tryd.sizeOf5
  v5 := Tryd.zeroValue5
  infoByte := by kernel_rfl
  cellsByte := by kernel_rfl
  sizeByte := by kernel_rfl
  neB5 := by decide }
open Go.RowKit in

theorem Tryd.strings_Join_none (a : Option Addr) (c : Nat) (sep : ByteArray) (w : World) :
    Calls Tryd.prog 38 #[.slice a 0 c, .string sep] w fun e w' => e = .returned (.string ⟨#[]⟩) ∧ w' = w := Any.strings_Join_none Tryd.lays156 Tryd.Builder_Extra_156 a c sep w
open Go.RowKit in

theorem Tryd.strings_Join (bk o c : Nat) (xs : List ByteArray) (sep : ByteArray) (w : World) (hcells : ∀ (j : Nat) x, xs[j]? = some x → w.cell? ⟨bk, o + j, none⟩ = some (.string x)) (hbk : bk < w.heap.size) (hN : xs.length ≤ 140737488355328) (hcap : xs.length ≤ c) (hlen : (Lib.join (xs.map (·.data.toList)) sep.data.toList).length ≤ 140737488355328) :
    Calls Tryd.prog 38 #[.slice (some ⟨bk, o, none⟩) xs.length c, .string sep] w fun e w' => e = .returned (.string ⟨(Lib.join (xs.map (·.data.toList)) sep.data.toList).toArray⟩) ∧ Below w.heap.size w w' := Any.strings_Join Tryd.lays156 Tryd.Builder_Extra_156 bk o c xs sep w hcells hbk hN hcap hlen
def Tryd.laysM171_ren : Go.Shelf.Ren := ⟨fun | 171 => 40 | 243 => 55 | 246 => 66 | 283 => 78 | 284 => 79 | 285 => 80 | 286 => 81 | 129 => 90 | 317 => 89 | 318 => 91 | 319 => 92 | 320 => 93 | 337 => 101 | 338 => 102 | n => n, fun | 3 => 3 | 9 => 9 | 2 => 2 | 4 => 4 | 171 => 118 | 0 => 0 | 53 => 33 | 37 => 94 | 5 => 5 | 173 => 120 | 212 => 134 | 51 => 135 | 20 => 20 | 213 => 136 | 46 => 122 | 232 => 150 | 233 => 151 | n => n, fun | 17 => 3 | 18 => 6 | 19 => 7 | n => n⟩
theorem Tryd.laysM171 : Go.Proofs.LaysM.n171 Tryd.prog Tryd.laysM171_ren := {
  mixed := by kernel_rfl
  f129 := Tryd.func90.trans (congrArg some (by kernel_rfl))
  f171 := Tryd.func40.trans (congrArg some (by kernel_rfl))
  f243 := Tryd.func55.trans (congrArg some (by kernel_rfl))
  f246 := Tryd.func66.trans (congrArg some (by kernel_rfl))
  f283 := Tryd.func78.trans (congrArg some (by kernel_rfl))
  f284 := Tryd.func79.trans (congrArg some (by kernel_rfl))
  f285 := Tryd.func80.trans (congrArg some (by kernel_rfl))
  f286 := Tryd.func81.trans (congrArg some (by kernel_rfl))
  f317 := Tryd.func89.trans (congrArg some (by kernel_rfl))
  f318 := Tryd.func91.trans (congrArg some (by kernel_rfl))
  f319 := Tryd.func92.trans (congrArg some (by kernel_rfl))
  f320 := Tryd.func93.trans (congrArg some (by kernel_rfl))
  f337 := Tryd.func101.trans (congrArg some (by kernel_rfl))
  f338 := Tryd.func102.trans (congrArg some (by kernel_rfl))
  t0 := Tryd.underlying0
  a0 := Tryd.isAgg0
  z0 := Tryd.sizeOf0
  v0 := Tryd.zeroValue0
  t2 := Tryd.underlying2
  a2 := Tryd.isAgg2
  z2 := Tryd.sizeOf2
  v2 := Tryd.zeroValue2
  t3 := Tryd.underlying3
  a3 := Tryd.isAgg3
  z3 := Tryd.sizeOf3
  v3 := Tryd.zeroValue3
  t4 := Tryd.underlying4
  a4 := Tryd.isAgg4
  z4 := Tryd.sizeOf4
  v4 := Tryd.zeroValue4
  t5 := Tryd.underlying5
  a5 := Tryd.isAgg5
  z5 := Tryd.sizeOf5
  v5 := Tryd.zeroValue5
  t9 := Tryd.underlying9
  a9 := Tryd.isAgg9
  z9 := Tryd.sizeOf9
  v9 := Tryd.zeroValue9
  t20 := Tryd.underlying20
  a20 := Tryd.isAgg20
  z20 := Tryd.sizeOf20
  v20 := Tryd.zeroValue20
  t37 := Tryd.underlying94
  a37 := Tryd.isAgg94
  z37 := Tryd.sizeOf94
  v37 := Tryd.zeroValue94
  t46 := Tryd.underlying122
  a46 := Tryd.isAgg122
  z46 := Tryd.sizeOf122
  v46 := Tryd.zeroValue122
  t51 := Tryd.underlying135
  a51 := Tryd.isAgg135
  z51 := Tryd.sizeOf135
  v51 := Tryd.zeroValue135
  t53 := Tryd.underlying33
  a53 := Tryd.isAgg33
  z53 := Tryd.sizeOf33
  v53 := Tryd.zeroValue33
  t171 := Tryd.underlying118
  a171 := Tryd.isAgg118
  z171 := Tryd.sizeOf118
  v171 := Tryd.zeroValue118
  t173 := Tryd.underlying120
  a173 := Tryd.isAgg120
  z173 := Tryd.sizeOf120
  v173 := Tryd.zeroValue120
  t212 := Tryd.underlying134
  a212 := Tryd.isAgg134
  z212 := Tryd.sizeOf134
  v212 := Tryd.zeroValue134
  t213 := Tryd.underlying136
  a213 := Tryd.isAgg136
  z213 := Tryd.sizeOf136
  t232 := Tryd.underlying150
  a232 := Tryd.isAgg150
  z232 := Tryd.sizeOf150
  v232 := Tryd.zeroValue150
  t233 := Tryd.underlying151
  a233 := Tryd.isAgg151
  z233 := Tryd.sizeOf151
  v233 := Tryd.zeroValue151
  g17 := by kernel_rfl
  g18 := by kernel_rfl
  g19 := by kernel_rfl
  i0 := by kernel_rfl
  i2 := by kernel_rfl
  i3 := by kernel_rfl
  i4 := by kernel_rfl
  i5 := by kernel_rfl
  i9 := by kernel_rfl
  i20 := by kernel_rfl
  i37 := by kernel_rfl
  i46 := by kernel_rfl
  i51 := by kernel_rfl
  i53 := by kernel_rfl
  i171 := by kernel_rfl
  i173 := by kernel_rfl
  i212 := by kernel_rfl
  i232 := by kernel_rfl
  i233 := by kernel_rfl
  m17 := by kernel_rfl
  m18 := by kernel_rfl
  m19 := by kernel_rfl }
open Go.RowKit Go.Sort Go.Lib in

theorem Tryd.strconv_Itoa (n : Int) (h0 : -9223372036854775808 ≤ n) (h1 : n ≤ 9223372036854775807) (w : World) (htab : Lib.TabIs Tryd.prog w "internal/strconv.uint64pow10" .u64 Lib.pow10Tab) :
    Calls Tryd.prog 40 #[.int .i64 n] w fun e w' => e = .returned (.string ⟨(Lib.itoa n).toArray⟩) ∧ ∃ k os, w' = grow (w.drewN k) os := Any.strconv_Itoa Tryd.laysM171 n h0 h1 w htab
def Tryd.lays171_ren : Go.Shelf.Ren := ⟨fun | 171 => 40 | 243 => 55 | 246 => 66 | 283 => 78 | 284 => 79 | 285 => 80 | 286 => 81 | 129 => 90 | 317 => 89 | 318 => 91 | 319 => 92 | 320 => 93 | 337 => 101 | 338 => 102 | n => n, fun | 3 => 3 | 9 => 9 | 2 => 2 | 4 => 4 | 171 => 118 | 0 => 0 | 53 => 33 | 37 => 94 | 5 => 5 | 173 => 120 | 212 => 134 | 51 => 135 | 20 => 20 | 213 => 136 | 46 => 122 | 232 => 150 | 233 => 151 | n => n, fun | 17 => 3 | 18 => 6 | 19 => 7 | n => n⟩
theorem Tryd.lays171 : Go.Proofs.Lays.n171 Tryd.prog Tryd.lays171_ren := {
  mixed := by kernel_rfl
  f129 := Tryd.func90.trans (congrArg some (by kernel_rfl))
  f171 := Tryd.func40.trans (congrArg some (by kernel_rfl))
  f243 := Tryd.func55.trans (congrArg some (by kernel_rfl))
  f246 := Tryd.func66.trans (congrArg some (by kernel_rfl))
  f283 := Tryd.func78.trans (congrArg some (by kernel_rfl))
  f284 := Tryd.func79.trans (congrArg some (by kernel_rfl))
  f285 := Tryd.func80.trans (congrArg some (by kernel_rfl))
  f286 := Tryd.func81.trans (congrArg some (by kernel_rfl))
  f317 := Tryd.func89.trans (congrArg some (by kernel_rfl))
  f318 := Tryd.func91.trans (congrArg some (by kernel_rfl))
  f319 := Tryd.func92.trans (congrArg some (by kernel_rfl))
  f320 := Tryd.func93.trans (congrArg some (by kernel_rfl))
  f337 := Tryd.func101.trans (congrArg some (by kernel_rfl))
  f338 := Tryd.func102.trans (congrArg some (by kernel_rfl))
  t0 := Tryd.underlying0
  a0 := Tryd.isAgg0
  z0 := Tryd.sizeOf0
  v0 := Tryd.zeroValue0
  t2 := Tryd.underlying2
  a2 := Tryd.isAgg2
  z2 := Tryd.sizeOf2
  v2 := Tryd.zeroValue2
  t3 := Tryd.underlying3
  a3 := Tryd.isAgg3
  z3 := Tryd.sizeOf3
  v3 := Tryd.zeroValue3
  t4 := Tryd.underlying4
  a4 := Tryd.isAgg4
  z4 := Tryd.sizeOf4
  v4 := Tryd.zeroValue4
  t5 := Tryd.underlying5
  a5 := Tryd.isAgg5
  z5 := Tryd.sizeOf5
  v5 := Tryd.zeroValue5
  t9 := Tryd.underlying9
  a9 := Tryd.isAgg9
  z9 := Tryd.sizeOf9
  v9 := Tryd.zeroValue9
  t20 := Tryd.underlying20
  a20 := Tryd.isAgg20
  z20 := Tryd.sizeOf20
  v20 := Tryd.zeroValue20
  t37 := Tryd.underlying94
  a37 := Tryd.isAgg94
  z37 := Tryd.sizeOf94
  v37 := Tryd.zeroValue94
  t46 := Tryd.underlying122
  a46 := Tryd.isAgg122
  z46 := Tryd.sizeOf122
  v46 := Tryd.zeroValue122
  t51 := Tryd.underlying135
  a51 := Tryd.isAgg135
  z51 := Tryd.sizeOf135
  v51 := Tryd.zeroValue135
  t53 := Tryd.underlying33
  a53 := Tryd.isAgg33
  z53 := Tryd.sizeOf33
  v53 := Tryd.zeroValue33
  t171 := Tryd.underlying118
  a171 := Tryd.isAgg118
  z171 := Tryd.sizeOf118
  v171 := Tryd.zeroValue118
  t173 := Tryd.underlying120
  a173 := Tryd.isAgg120
  z173 := Tryd.sizeOf120
  v173 := Tryd.zeroValue120
  t212 := Tryd.underlying134
  a212 := Tryd.isAgg134
  z212 := Tryd.sizeOf134
  v212 := Tryd.zeroValue134
  t213 := Tryd.underlying136
  a213 := Tryd.isAgg136
  z213 := Tryd.sizeOf136
  t232 := Tryd.underlying150
  a232 := Tryd.isAgg150
  z232 := Tryd.sizeOf150
  v232 := Tryd.zeroValue150
  t233 := Tryd.underlying151
  a233 := Tryd.isAgg151
  z233 := Tryd.sizeOf151
  v233 := Tryd.zeroValue151
  g17 := by kernel_rfl
  g18 := by kernel_rfl
  g19 := by kernel_rfl }
open Go.RowKit Go.Sort Go.Lib in

theorem Tryd.strconv_Itoa_small (i : Nat) (hi : i < 100) (w : World) :
    Calls Tryd.prog 40 #[.int .i64 i] w fun e w' => e = .returned (.string ⟨(Lib.decDigits i).toArray⟩) ∧ w' = w := Any.strconv_Itoa_small Tryd.lays171 i hi w
def Tryd.laysC172_ren : Go.Shelf.Ren := ⟨fun | 172 => 46 | 244 => 60 | 245 => 61 | 247 => 71 | 279 => 72 | 280 => 73 | 281 => 74 | 282 => 75 | 287 => 86 | 316 => 87 | 171 => 40 | 205 => 88 | 321 => 99 | 322 => 100 | 243 => 55 | 246 => 66 | 283 => 78 | 284 => 79 | 285 => 80 | 286 => 81 | 129 => 90 | 317 => 89 | 318 => 91 | 319 => 92 | 320 => 93 | 337 => 101 | 338 => 102 | n => n, fun | 9 => 9 | 3 => 3 | 75 => 82 | 76 => 83 | 4 => 4 | 5 => 5 | 167 => 109 | 37 => 94 | 0 => 0 | 85 => 110 | 2 => 2 | 168 => 112 | 53 => 33 | 175 => 126 | 46 => 122 | 210 => 130 | 127 => 104 | 145 => 142 | 143 => 140 | 21 => 21 | 171 => 118 | 173 => 120 | 212 => 134 | 51 => 135 | 20 => 20 | 213 => 136 | 232 => 150 | 233 => 151 | 80 => 98 | n => n, fun | 15 => 0 | 16 => 1 | 17 => 3 | 18 => 6 | 19 => 7 | n => n⟩
theorem Tryd.laysC172 : Go.Proofs.LaysC.n172 Tryd.prog Tryd.laysC172_ren := {
  mixed := by kernel_rfl
  f129 := Tryd.func90.trans (congrArg some (by kernel_rfl))
  f171 := Tryd.func40.trans (congrArg some (by kernel_rfl))
  f172 := Tryd.func46.trans (congrArg some (by kernel_rfl))
  f205 := Tryd.func88.trans (congrArg some (by kernel_rfl))
  f243 := Tryd.func55.trans (congrArg some (by kernel_rfl))
  f244 := Tryd.func60.trans (congrArg some (by kernel_rfl))
  f245 := Tryd.func61.trans (congrArg some (by kernel_rfl))
  f246 := Tryd.func66.trans (congrArg some (by kernel_rfl))
  f247 := Tryd.func71.trans (congrArg some (by kernel_rfl))
  f279 := Tryd.func72.trans (congrArg some (by kernel_rfl))
  f280 := Tryd.func73.trans (congrArg some (by kernel_rfl))
  f281 := Tryd.func74.trans (congrArg some (by kernel_rfl))
  f282 := Tryd.func75.trans (congrArg some (by kernel_rfl))
  f283 := Tryd.func78.trans (congrArg some (by kernel_rfl))
  f284 := Tryd.func79.trans (congrArg some (by kernel_rfl))
  f285 := Tryd.func80.trans (congrArg some (by kernel_rfl))
  f286 := Tryd.func81.trans (congrArg some (by kernel_rfl))
  f287 := Tryd.func86.trans (congrArg some (by kernel_rfl))
  f316 := Tryd.func87.trans (congrArg some (by kernel_rfl))
  f317 := Tryd.func89.trans (congrArg some (by kernel_rfl))
  f318 := Tryd.func91.trans (congrArg some (by kernel_rfl))
  f319 := Tryd.func92.trans (congrArg some (by kernel_rfl))
  f320 := Tryd.func93.trans (congrArg some (by kernel_rfl))
  f321 := Tryd.func99.trans (congrArg some (by kernel_rfl))
  f322 := Tryd.func100.trans (congrArg some (by kernel_rfl))
  f337 := Tryd.func101.trans (congrArg some (by kernel_rfl))
  f338 := Tryd.func102.trans (congrArg some (by kernel_rfl))
  t0 := Tryd.underlying0
  a0 := Tryd.isAgg0
  z0 := Tryd.sizeOf0
  v0 := Tryd.zeroValue0
  t2 := Tryd.underlying2
  a2 := Tryd.isAgg2
  z2 := Tryd.sizeOf2
  v2 := Tryd.zeroValue2
  t3 := Tryd.underlying3
  a3 := Tryd.isAgg3
  z3 := Tryd.sizeOf3
  v3 := Tryd.zeroValue3
  t4 := Tryd.underlying4
  a4 := Tryd.isAgg4
  z4 := Tryd.sizeOf4
  v4 := Tryd.zeroValue4
  t5 := Tryd.underlying5
  a5 := Tryd.isAgg5
  z5 := Tryd.sizeOf5
  v5 := Tryd.zeroValue5
  t9 := Tryd.underlying9
  a9 := Tryd.isAgg9
  z9 := Tryd.sizeOf9
  v9 := Tryd.zeroValue9
  t20 := Tryd.underlying20
  a20 := Tryd.isAgg20
  z20 := Tryd.sizeOf20
  v20 := Tryd.zeroValue20
  t21 := Tryd.underlying21
  a21 := Tryd.isAgg21
  z21 := Tryd.sizeOf21
  v21 := Tryd.zeroValue21
  t37 := Tryd.underlying94
  a37 := Tryd.isAgg94
  z37 := Tryd.sizeOf94
  v37 := Tryd.zeroValue94
  t46 := Tryd.underlying122
  a46 := Tryd.isAgg122
  z46 := Tryd.sizeOf122
  v46 := Tryd.zeroValue122
  t51 := Tryd.underlying135
  a51 := Tryd.isAgg135
  z51 := Tryd.sizeOf135
  v51 := Tryd.zeroValue135
  t53 := Tryd.underlying33
  a53 := Tryd.isAgg33
  z53 := Tryd.sizeOf33
  v53 := Tryd.zeroValue33
  t75 := Tryd.underlying82
  a75 := Tryd.isAgg82
  z75 := Tryd.sizeOf82
  v75 := Tryd.zeroValue82
  t76 := Tryd.underlying83
  a76 := Tryd.isAgg83
  z76 := Tryd.sizeOf83
  v76 := Tryd.zeroValue83
  t85 := Tryd.underlying110
  a85 := Tryd.isAgg110
  z85 := Tryd.sizeOf110
  v85 := Tryd.zeroValue110
  t127 := Tryd.underlying104
  a127 := Tryd.isAgg104
  z127 := Tryd.sizeOf104
  v127 := Tryd.zeroValue104
  t143 := Tryd.underlying140
  a143 := Tryd.isAgg140
  z143 := Tryd.sizeOf140
  v143 := Tryd.zeroValue140
  t145 := Tryd.underlying142
  a145 := Tryd.isAgg142
  z145 := Tryd.sizeOf142
  v145 := Tryd.zeroValue142
  t167 := Tryd.underlying109
  a167 := Tryd.isAgg109
  z167 := Tryd.sizeOf109
  v167 := Tryd.zeroValue109
  t168 := Tryd.underlying112
  a168 := Tryd.isAgg112
  z168 := Tryd.sizeOf112
  v168 := Tryd.zeroValue112
  t171 := Tryd.underlying118
  a171 := Tryd.isAgg118
  z171 := Tryd.sizeOf118
  v171 := Tryd.zeroValue118
  t173 := Tryd.underlying120
  a173 := Tryd.isAgg120
  z173 := Tryd.sizeOf120
  v173 := Tryd.zeroValue120
  t175 := Tryd.underlying126
  a175 := Tryd.isAgg126
  z175 := Tryd.sizeOf126
  v175 := Tryd.zeroValue126
  t210 := Tryd.underlying130
  a210 := Tryd.isAgg130
  z210 := Tryd.sizeOf130
  v210 := Tryd.zeroValue130
  t212 := Tryd.underlying134
  a212 := Tryd.isAgg134
  z212 := Tryd.sizeOf134
  v212 := Tryd.zeroValue134
  t213 := Tryd.underlying136
  a213 := Tryd.isAgg136
  z213 := Tryd.sizeOf136
  t232 := Tryd.underlying150
  a232 := Tryd.isAgg150
  z232 := Tryd.sizeOf150
  v232 := Tryd.zeroValue150
  t233 := Tryd.underlying151
  a233 := Tryd.isAgg151
  z233 := Tryd.sizeOf151
  v233 := Tryd.zeroValue151
  g15 := by kernel_rfl
  g16 := by kernel_rfl
  g17 := by kernel_rfl
  g18 := by kernel_rfl
  g19 := by kernel_rfl
  t80 := Tryd.underlying98
  a80 := Tryd.isAgg98
  z80 := Tryd.sizeOf98
  v80 := Tryd.zeroValue98
  i0 := by kernel_rfl
  i2 := by kernel_rfl
  i3 := by kernel_rfl
  i4 := by kernel_rfl
  i5 := by kernel_rfl
  i9 := by kernel_rfl
  i20 := by kernel_rfl
  i21 := by kernel_rfl
  i37 := by kernel_rfl
  i46 := by kernel_rfl
  i51 := by kernel_rfl
  i53 := by kernel_rfl
  i75 := by kernel_rfl
  i76 := by kernel_rfl
  i80 := by kernel_rfl
  i85 := by kernel_rfl
  i127 := by kernel_rfl
  i143 := by kernel_rfl
  i145 := by kernel_rfl
  i167 := by kernel_rfl
  i168 := by kernel_rfl
  i171 := by kernel_rfl
  i173 := by kernel_rfl
  i175 := by kernel_rfl
  i210 := by kernel_rfl
  i212 := by kernel_rfl
  i232 := by kernel_rfl
  i233 := by kernel_rfl
  m15 := by kernel_rfl
  m16 := by kernel_rfl
  m17 := by kernel_rfl
  m18 := by kernel_rfl
  m19 := by kernel_rfl
  c0 := by kernel_rfl
  c2 := by kernel_rfl
  c3 := by kernel_rfl
  c4 := by kernel_rfl
  c5 := by kernel_rfl
  c9 := by kernel_rfl
  c20 := by kernel_rfl
  c21 := by kernel_rfl
  c37 := by kernel_rfl
  c46 := by kernel_rfl
  c51 := by kernel_rfl
  c53 := by kernel_rfl
  c75 := by kernel_rfl
  c76 := by kernel_rfl
  c80 := by kernel_rfl
  c85 := by kernel_rfl
  c127 := by kernel_rfl
  c143 := by kernel_rfl
  c145 := by kernel_rfl
  c167 := by kernel_rfl
  c168 := by kernel_rfl
  c171 := by kernel_rfl
  c173 := by kernel_rfl
  c175 := by kernel_rfl
  c210 := by kernel_rfl
  c212 := by kernel_rfl
  c213 := by kernel_rfl
  c232 := by kernel_rfl
  c233 := by kernel_rfl }
open Go.RowKit in

theorem Tryd.strconv_Atoi_ok (s : ByteArray) (hmax : s.size ≤ 9223372036854775806) (v : Int) (h : Lib.atoiAll s.data.toList = .ok v) (w : World) :
    Calls Tryd.prog 46 #[.string s] w fun e w' => e = .returned (.tuple #[.int .i64 v, .nilIface]) ∧ (w' = w ∨ ∃ t, w' = Lib.bytesWorld w 5 t) := Any.strconv_Atoi_ok Tryd.laysC172 s hmax v h w
open Go.RowKit in
theorem Tryd.strconv_Atoi_syntax_var (s : ByteArray) (hlim : s.size ≤ 281474976710656) (h : Lib.atoiAll s.data.toList = .«syntax») (tp : TypeId) (p : Value) (w : World) (hvar : w.var? Tryd.prog "strconv.ErrSyntax" = some #[.iface tp p]) :
    Calls Tryd.prog 46 #[.string s] w fun e w' => ∃ N, e = .returned (.tuple #[.int .i64 0, .iface 112 (.pointer (some ⟨N, 0, none⟩))]) ∧ w.heap.size ≤ N ∧ w'.heap[N]? = some (.cells #[.string ⟨#[65, 116, 111, 105]⟩, .string s, .iface tp p] 130 (0, 0)) ∧ Below w.heap.size w w' := Any.strconv_Atoi_syntax_var Tryd.laysC172 s hlim h tp p w hvar
open Go.RowKit in
theorem Tryd.strconv_Atoi_range_var (s : ByteArray) (hlim : s.size ≤ 281474976710656) (h : Lib.atoiAll s.data.toList = .range) (tp : TypeId) (p : Value) (w : World) (hvar : w.var? Tryd.prog "strconv.ErrRange" = some #[.iface tp p]) :
    Calls Tryd.prog 46 #[.string s] w fun e w' => ∃ N, e = .returned (.tuple #[.int .i64 (Lib.atoiSat s.data.toList), .iface 112 (.pointer (some ⟨N, 0, none⟩))]) ∧ w.heap.size ≤ N ∧ w'.heap[N]? = some (.cells #[.string ⟨#[65, 116, 111, 105]⟩, .string s, .iface tp p] 130 (0, 0)) ∧ Below w.heap.size w w' := Any.strconv_Atoi_range_var Tryd.laysC172 s hlim h tp p w hvar
def Tryd.lays143_ren : Go.Shelf.Ren := ⟨fun | 143 => 70 | 219 => 85 | 217 => 95 | 225 => 96 | 224 => 97 | 267 => 98 | 266 => 103 | 314 => 104 | n => n, fun | 9 => 9 | 3 => 3 | 4 => 4 | 5 => 5 | 46 => 122 | 146 => 148 | 51 => 135 | n => n, fun | 1 => 2 | n => n⟩
theorem Tryd.lays143 : Go.Proofs.Lays.n143 Tryd.prog Tryd.lays143_ren := {
  mixed := by kernel_rfl
  f143 := Tryd.func70.trans (congrArg some (by kernel_rfl))
  f217 := Tryd.func95.trans (congrArg some (by kernel_rfl))
  f219 := Tryd.func85.trans (congrArg some (by kernel_rfl))
  f224 := Tryd.func97.trans (congrArg some (by kernel_rfl))
  f225 := Tryd.func96.trans (congrArg some (by kernel_rfl))
  f266 := Tryd.func103.trans (congrArg some (by kernel_rfl))
  f267 := Tryd.func98.trans (congrArg some (by kernel_rfl))
  f314 := Tryd.func104.trans (congrArg some (by kernel_rfl))
  t3 := Tryd.underlying3
  a3 := Tryd.isAgg3
  z3 := Tryd.sizeOf3
  v3 := Tryd.zeroValue3
  t4 := Tryd.underlying4
  a4 := Tryd.isAgg4
  z4 := Tryd.sizeOf4
  v4 := Tryd.zeroValue4
  t5 := Tryd.underlying5
  a5 := Tryd.isAgg5
  z5 := Tryd.sizeOf5
  v5 := Tryd.zeroValue5
  t9 := Tryd.underlying9
  a9 := Tryd.isAgg9
  z9 := Tryd.sizeOf9
  v9 := Tryd.zeroValue9
  t46 := Tryd.underlying122
  a46 := Tryd.isAgg122
  z46 := Tryd.sizeOf122
  v46 := Tryd.zeroValue122
  t51 := Tryd.underlying135
  a51 := Tryd.isAgg135
  z51 := Tryd.sizeOf135
  v51 := Tryd.zeroValue135
  t146 := Tryd.underlying148
  a146 := Tryd.isAgg148
  z146 := Tryd.sizeOf148
  v146 := Tryd.zeroValue148
  g1 := by kernel_rfl }
open Go.RowKit Go.Lib in

theorem Tryd.strings_Index_one (s : ByteArray) (c : UInt8) (w : World) :
    Calls Tryd.prog 70 #[.string s, .string ⟨#[c]⟩] w fun e w' => e = .returned (.int .i64 (Lib.indexByte s.data.toList c)) ∧ w' = w := Any.strings_Index_one Tryd.lays143 s c w
def Tryd.lays138_ren : Go.Shelf.Ren := ⟨fun | 138 => 69 | 195 => 82 | 218 => 84 | 143 => 70 | 219 => 85 | 217 => 95 | 225 => 96 | 224 => 97 | 267 => 98 | 266 => 103 | 314 => 104 | n => n, fun | 9 => 9 | 3 => 3 | 4 => 4 | 5 => 5 | 0 => 0 | 46 => 122 | 146 => 148 | 51 => 135 | n => n, fun | 1 => 2 | n => n⟩
theorem Tryd.lays138 : Go.Proofs.Lays.n138 Tryd.prog Tryd.lays138_ren := {
  mixed := by kernel_rfl
  f138 := Tryd.func69.trans (congrArg some (by kernel_rfl))
  f143 := Tryd.func70.trans (congrArg some (by kernel_rfl))
  f195 := Tryd.func82.trans (congrArg some (by kernel_rfl))
  f217 := Tryd.func95.trans (congrArg some (by kernel_rfl))
  f218 := Tryd.func84.trans (congrArg some (by kernel_rfl))
  f219 := Tryd.func85.trans (congrArg some (by kernel_rfl))
  f224 := Tryd.func97.trans (congrArg some (by kernel_rfl))
  f225 := Tryd.func96.trans (congrArg some (by kernel_rfl))
  f266 := Tryd.func103.trans (congrArg some (by kernel_rfl))
  f267 := Tryd.func98.trans (congrArg some (by kernel_rfl))
  f314 := Tryd.func104.trans (congrArg some (by kernel_rfl))
  t0 := Tryd.underlying0
  a0 := Tryd.isAgg0
  z0 := Tryd.sizeOf0
  v0 := Tryd.zeroValue0
  t3 := Tryd.underlying3
  a3 := Tryd.isAgg3
  z3 := Tryd.sizeOf3
  v3 := Tryd.zeroValue3
  t4 := Tryd.underlying4
  a4 := Tryd.isAgg4
  z4 := Tryd.sizeOf4
  v4 := Tryd.zeroValue4
  t5 := Tryd.underlying5
  a5 := Tryd.isAgg5
  z5 := Tryd.sizeOf5
  v5 := Tryd.zeroValue5
  t9 := Tryd.underlying9
  a9 := Tryd.isAgg9
  z9 := Tryd.sizeOf9
  v9 := Tryd.zeroValue9
  t46 := Tryd.underlying122
  a46 := Tryd.isAgg122
  z46 := Tryd.sizeOf122
  v46 := Tryd.zeroValue122
  t51 := Tryd.underlying135
  a51 := Tryd.isAgg135
  z51 := Tryd.sizeOf135
  v51 := Tryd.zeroValue135
  t146 := Tryd.underlying148
  a146 := Tryd.isAgg148
  z146 := Tryd.sizeOf148
  v146 := Tryd.zeroValue148
  g1 := by kernel_rfl }
open Go.RowKit Go.Lib in

theorem Tryd.strings_Count_one (s : ByteArray) (c : UInt8) (w : World) :
    Calls Tryd.prog 69 #[.string s, .string ⟨#[c]⟩] w fun e w' => e = .returned (.int .i64 (Lib.countByte s.data.toList c)) ∧ w' = w := Any.strings_Count_one Tryd.lays138 s c w
def Tryd.lays221_ren : Go.Shelf.Ren := ⟨fun | 221 => 59 | 268 => 68 | 138 => 69 | 143 => 70 | 195 => 82 | 197 => 83 | 218 => 84 | 219 => 85 | 260 => 94 | 217 => 95 | 225 => 96 | 224 => 97 | 267 => 98 | 266 => 103 | 314 => 104 | n => n, fun | 9 => 9 | 3 => 3 | 31 => 77 | 4 => 4 | 0 => 0 | 105 => 123 | 21 => 21 | 5 => 5 | 46 => 122 | 119 => 144 | 139 => 147 | 138 => 146 | 146 => 148 | 51 => 135 | n => n, fun | 1 => 2 | 3 => 4 | 4 => 5 | n => n⟩
theorem Tryd.lays221 : Go.Proofs.Lays.n221 Tryd.prog Tryd.lays221_ren := {
  mixed := by kernel_rfl
  f138 := Tryd.func69.trans (congrArg some (by kernel_rfl))
  f143 := Tryd.func70.trans (congrArg some (by kernel_rfl))
  f195 := Tryd.func82.trans (congrArg some (by kernel_rfl))
  f197 := Tryd.func83.trans (congrArg some (by kernel_rfl))
  f217 := Tryd.func95.trans (congrArg some (by kernel_rfl))
  f218 := Tryd.func84.trans (congrArg some (by kernel_rfl))
  f219 := Tryd.func85.trans (congrArg some (by kernel_rfl))
  f221 := Tryd.func59.trans (congrArg some (by kernel_rfl))
  f224 := Tryd.func97.trans (congrArg some (by kernel_rfl))
  f225 := Tryd.func96.trans (congrArg some (by kernel_rfl))
  f260 := Tryd.func94.trans (congrArg some (by kernel_rfl))
  f266 := Tryd.func103.trans (congrArg some (by kernel_rfl))
  f267 := Tryd.func98.trans (congrArg some (by kernel_rfl))
  f268 := Tryd.func68.trans (congrArg some (by kernel_rfl))
  f314 := Tryd.func104.trans (congrArg some (by kernel_rfl))
  t0 := Tryd.underlying0
  a0 := Tryd.isAgg0
  z0 := Tryd.sizeOf0
  v0 := Tryd.zeroValue0
  t3 := Tryd.underlying3
  a3 := Tryd.isAgg3
  z3 := Tryd.sizeOf3
  v3 := Tryd.zeroValue3
  t4 := Tryd.underlying4
  a4 := Tryd.isAgg4
  z4 := Tryd.sizeOf4
  v4 := Tryd.zeroValue4
  t5 := Tryd.underlying5
  a5 := Tryd.isAgg5
  z5 := Tryd.sizeOf5
  v5 := Tryd.zeroValue5
  t9 := Tryd.underlying9
  a9 := Tryd.isAgg9
  z9 := Tryd.sizeOf9
  v9 := Tryd.zeroValue9
  t21 := Tryd.underlying21
  a21 := Tryd.isAgg21
  z21 := Tryd.sizeOf21
  v21 := Tryd.zeroValue21
  t31 := Tryd.underlying77
  a31 := Tryd.isAgg77
  z31 := Tryd.sizeOf77
  v31 := Tryd.zeroValue77
  t46 := Tryd.underlying122
  a46 := Tryd.isAgg122
  z46 := Tryd.sizeOf122
  v46 := Tryd.zeroValue122
  t51 := Tryd.underlying135
  a51 := Tryd.isAgg135
  z51 := Tryd.sizeOf135
  v51 := Tryd.zeroValue135
  t105 := Tryd.underlying123
  a105 := Tryd.isAgg123
  z105 := Tryd.sizeOf123
  v105 := Tryd.zeroValue123
  t119 := Tryd.underlying144
  a119 := Tryd.isAgg144
  z119 := Tryd.sizeOf144
  t138 := Tryd.underlying146
  a138 := Tryd.isAgg146
  z138 := Tryd.sizeOf146
  v138 := Tryd.zeroValue146
  t139 := Tryd.underlying147
  a139 := Tryd.isAgg147
  z139 := Tryd.sizeOf147
  v139 := Tryd.zeroValue147
  t146 := Tryd.underlying148
  a146 := Tryd.isAgg148
  z146 := Tryd.sizeOf148
  v146 := Tryd.zeroValue148
  g1 := by kernel_rfl
  g3 := by kernel_rfl
  g4 := by kernel_rfl }
def Tryd.lays146_ren : Go.Shelf.Ren := ⟨fun | 146 => 45 | 221 => 59 | 268 => 68 | 138 => 69 | 143 => 70 | 195 => 82 | 197 => 83 | 218 => 84 | 219 => 85 | 260 => 94 | 217 => 95 | 225 => 96 | 224 => 97 | 267 => 98 | 266 => 103 | 314 => 104 | n => n, fun | 9 => 9 | 31 => 77 | 3 => 3 | 4 => 4 | 0 => 0 | 105 => 123 | 21 => 21 | 5 => 5 | 46 => 122 | 119 => 144 | 139 => 147 | 138 => 146 | 146 => 148 | 51 => 135 | n => n, fun | 1 => 2 | 3 => 4 | 4 => 5 | n => n⟩
theorem Tryd.lays146 : Go.Proofs.Lays.n146 Tryd.prog Tryd.lays146_ren := {
  mixed := by kernel_rfl
  f138 := Tryd.func69.trans (congrArg some (by kernel_rfl))
  f143 := Tryd.func70.trans (congrArg some (by kernel_rfl))
  f146 := Tryd.func45.trans (congrArg some (by kernel_rfl))
  f195 := Tryd.func82.trans (congrArg some (by kernel_rfl))
  f197 := Tryd.func83.trans (congrArg some (by kernel_rfl))
  f217 := Tryd.func95.trans (congrArg some (by kernel_rfl))
  f218 := Tryd.func84.trans (congrArg some (by kernel_rfl))
  f219 := Tryd.func85.trans (congrArg some (by kernel_rfl))
  f221 := Tryd.func59.trans (congrArg some (by kernel_rfl))
  f224 := Tryd.func97.trans (congrArg some (by kernel_rfl))
  f225 := Tryd.func96.trans (congrArg some (by kernel_rfl))
  f260 := Tryd.func94.trans (congrArg some (by kernel_rfl))
  f266 := Tryd.func103.trans (congrArg some (by kernel_rfl))
  f267 := Tryd.func98.trans (congrArg some (by kernel_rfl))
  f268 := Tryd.func68.trans (congrArg some (by kernel_rfl))
  f314 := Tryd.func104.trans (congrArg some (by kernel_rfl))
  t0 := Tryd.underlying0
  a0 := Tryd.isAgg0
  z0 := Tryd.sizeOf0
  v0 := Tryd.zeroValue0
  t3 := Tryd.underlying3
  a3 := Tryd.isAgg3
  z3 := Tryd.sizeOf3
  v3 := Tryd.zeroValue3
  t4 := Tryd.underlying4
  a4 := Tryd.isAgg4
  z4 := Tryd.sizeOf4
  v4 := Tryd.zeroValue4
  t5 := Tryd.underlying5
  a5 := Tryd.isAgg5
  z5 := Tryd.sizeOf5
  v5 := Tryd.zeroValue5
  t9 := Tryd.underlying9
  a9 := Tryd.isAgg9
  z9 := Tryd.sizeOf9
  v9 := Tryd.zeroValue9
  t21 := Tryd.underlying21
  a21 := Tryd.isAgg21
  z21 := Tryd.sizeOf21
  v21 := Tryd.zeroValue21
  t31 := Tryd.underlying77
  a31 := Tryd.isAgg77
  z31 := Tryd.sizeOf77
  v31 := Tryd.zeroValue77
  t46 := Tryd.underlying122
  a46 := Tryd.isAgg122
  z46 := Tryd.sizeOf122
  v46 := Tryd.zeroValue122
  t51 := Tryd.underlying135
  a51 := Tryd.isAgg135
  z51 := Tryd.sizeOf135
  v51 := Tryd.zeroValue135
  t105 := Tryd.underlying123
  a105 := Tryd.isAgg123
  z105 := Tryd.sizeOf123
  v105 := Tryd.zeroValue123
  t119 := Tryd.underlying144
  a119 := Tryd.isAgg144
  z119 := Tryd.sizeOf144
  t138 := Tryd.underlying146
  a138 := Tryd.isAgg146
  z138 := Tryd.sizeOf146
  v138 := Tryd.zeroValue146
  t139 := Tryd.underlying147
  a139 := Tryd.isAgg147
  z139 := Tryd.sizeOf147
  v139 := Tryd.zeroValue147
  t146 := Tryd.underlying148
  a146 := Tryd.isAgg148
  z146 := Tryd.sizeOf148
  v146 := Tryd.zeroValue148
  g1 := by kernel_rfl
  g3 := by kernel_rfl
  g4 := by kernel_rfl }
open Go.RowKit Go.Lib in

theorem Tryd.strings_Split (s sep : ByteArray) (m : Int) (w : World) (hs : s.size < 4294967281) (hm : w.cell? ⟨2, 0, none⟩ = some (.int .i64 m)) (h1 : 1 ≤ sep.size) :
    Calls Tryd.prog 45 #[.string s, .string sep] w fun e w' =>
      e = .returned (.slice (some ⟨w.heap.size, 0, none⟩) (Lib.countB s sep + 1) (Lib.countB s sep + 1)) ∧ w' = w.alloc (.cells ((Lib.splitB sep 0 (Lib.countB s sep) s).map Value.string).toArray 9) := Any.strings_Split Tryd.lays146 (by kernel_rfl) s sep m w hs hm h1
end Go.Proofs
end

section
namespace Go.Proofs.YtcbiilbmldinhaaDoor.PB
open Go.RowKit Go.Proofs.YtcbiilbmldinhaaDoorW.PrintWords Go.Proofs.YtcbiilbmldinhaaDoorW.PrintLast Go.Proofs.YtcbiilbmldinhaaDoorW.PrintMore
set_option linter.unusedVariables false
set_option linter.unusedSimpArgs false
def strconv_Itoa_40.f (a0 : Int) : Option ByteArray := if 0 ≤ a0 ∧ a0 < 100 then some ⟨(Lib.decDigits a0.toNat).toArray⟩ else none
theorem strconv_Itoa_40.calls (a0 : Int) (r : ByteArray) (w : World) (h : strconv_Itoa_40.f a0 = some r) :
    Calls Tryd.prog 40 #[.int .i64 a0] w fun e w' => e = .returned (.string r) ∧ Below w.heap.size w w' := by
  unfold strconv_Itoa_40.f at h
  split at h
  case isFalse => cases h
  rename_i hc
  injection h with h
  subst h
  obtain ⟨a, rfl⟩ := Int.eq_ofNat_of_zero_le hc.1
  refine (Tryd.strconv_Itoa_small a (by omega) w).mono fun e w' ⟨he, hw⟩ => ?_
  subst hw
  exact ⟨he, Below.refl _ _⟩
theorem cell_spot {w : World} {a : Addr} {v : Value} (h : w.cell? a = some v) : a.spot = none := by
  unfold World.cell? at h
  split at h
  · split at h
    · cases h
    · rename_i hs
      cases hq : a.spot with
      | none => rfl
      | some x => rw [hq] at hs; simp at hs
  · cases h
def strings_Join.f (l0 : List ByteArray) (a1 : ByteArray) : Option ByteArray := if l0.length ≤ 140737488355328 ∧ (Lib.join (l0.map (fun x : ByteArray => x.data.toList)) a1.data.toList).length ≤ 140737488355328 then some ⟨(Lib.join (l0.map (fun x : ByteArray => x.data.toList)) a1.data.toList).toArray⟩ else none
theorem strings_Join.calls (A0 : Option Addr) (c0 : Nat) (l0 : List ByteArray) (a1 : ByteArray) (r : ByteArray) (w : World) (hr0 : Kd.C Kd.string w A0 l0.length l0) (hc0 : l0.length ≤ c0) (h : strings_Join.f l0 a1 = some r) :
    Calls Tryd.prog 38 #[.slice A0 l0.length c0, .string a1] w fun e w' => e = .returned (.string r) ∧ Below w.heap.size w w' := by
  unfold strings_Join.f at h
  split at h
  case isFalse => cases h
  rename_i hc
  injection h with h
  subst h
  cases l0 with
  | nil =>
    refine (Tryd.strings_Join_none A0 c0 a1 w).mono fun e w' ⟨he, hw⟩ => ?_
    subst hw
    exact ⟨he, Below.refl _ _⟩
  | cons x xs =>
    obtain ⟨ad, rfl, hx0⟩ := Kd.at_string hr0 0 (by omega) (by simp)
    have hs := cell_spot hx0
    obtain ⟨b, o, sp⟩ := ad
    have hsp : sp = none := by
      have : (Addr.add ⟨b, o, sp⟩ (0 : Int).toNat) = ⟨b, o, sp⟩ := rfl
      rw [this] at hs
      exact hs
    subst hsp
    have hcells : ∀ (j : Nat) y, (x :: xs)[j]? = some y → w.cell? ⟨b, o + j, none⟩ = some (.string y) := by
      intro j y hy
      have hj := (List.getElem?_eq_some_iff.1 hy).1
      obtain ⟨ad', e', hx'⟩ := Kd.at_string hr0 (j : Int) (by omega) (by omega)
      obtain rfl : (⟨b, o, none⟩ : Addr) = ad' := by injection e'
      rw [Int.toNat_natCast, Addr.add_lit] at hx'
      rw [hx']
      unfold rdOf
      rw [Int.toNat_natCast, List.getD_eq_getElem?_getD, hy]
      rfl
    have hb := World.block_lt_of_cell? w _ (hcells 0 x rfl)
    exact Tryd.strings_Join b o c0 (x :: xs) a1 w hcells hb hc.1 hc0 hc.2
set_option maxHeartbeats 1000000 in
theorem Split_one (s : ByteArray) (c : UInt8) (w : World) (hs : s.size < 4294967281) :
    Calls Tryd.prog 45 #[.string s, .string ⟨#[c]⟩] w fun e w' =>
      e = .returned (.slice (some ⟨w.heap.size, 0, none⟩) (Lib.countB s ⟨#[c]⟩ + 1) (Lib.countB s ⟨#[c]⟩ + 1)) ∧ w' = w.alloc (.cells ((Lib.splitB ⟨#[c]⟩ 0 (Lib.countB s ⟨#[c]⟩) s).map Value.string).toArray 9) := by
  have h1 : 1 ≤ (⟨#[c]⟩ : ByteArray).size := Nat.le_refl 1
  have hle := Lib.countB_le ⟨#[c]⟩ h1 s.size s (Nat.le_refl _)
  have hlen := Lib.splitB_all ⟨#[c]⟩ h1 0 _ s rfl
  have c0 := Any.strings_genSplit_core Tryd.lays221 (by kernel_rfl) s ⟨#[c]⟩ 0 (-1) (Lib.countB s ⟨#[c]⟩ + 1) w hs h1 (Nat.zero_le _)
    (fun x cs hx => (Tryd.strings_Index_one x c _).mono fun e w' ⟨he, hw⟩ => ⟨by rw [he]; show _ = Ending.returned (Value.int .i64 (Lib.index x.data.toList [c])); rw [Lib.index_one], hw⟩)
    ((Tryd.strings_Count_one s c w).mono fun e w' ⟨he, hw⟩ => ⟨by rw [he]; show _ = Ending.returned (Value.int .i64 ((Lib.count s.data.toList [c] : Nat) : Int)); rw [Lib.count_one]; rfl, hw⟩)
    (by decide) (by decide) (by rw [if_pos (by decide)]; omega)
  rw [Nat.add_sub_cancel, hlen] at c0
  have e2 : Lib.cellsOf (Lib.splitB ⟨#[c]⟩ 0 (Lib.countB s ⟨#[c]⟩) s) (Lib.countB s ⟨#[c]⟩ + 1) = ((Lib.splitB ⟨#[c]⟩ 0 (Lib.countB s ⟨#[c]⟩) s).map Value.string).toArray := by rw [← hlen]; exact Lib.cellsOf_full _
  rw [e2] at c0
  have C0 := aM c0
  clear c0 e2 hlen hle h1
  go_enter Tryd.func45, Tryd.ntmps45
  go_wp2_with (go_at_call 59; refine C0.out.mono ?_; rintro e w' ⟨rfl, hw⟩; rw [hw])
  go_ret
  exact ⟨rfl, rfl⟩
def strings_Split.f (a0 a1 : ByteArray) : Option (List ByteArray) := if a1.size = 1 ∧ a0.size < 4294967281 then some (Lib.splitB a1 0 (Lib.countB a0 a1) a0) else none
theorem strings_Split.calls (a0 a1 : ByteArray) (r : List ByteArray) (w : World) (h : strings_Split.f a0 a1 = some r) :
    Calls Tryd.prog 45 #[.string a0, .string a1] w fun e w' => ∃ v0_ : Value, e = .returned (v0_) ∧ Kd.R Kd.string 9 w' w.heap.size (fun _ => True) v0_ r ∧ Below w.heap.size w w' := by
  unfold strings_Split.f at h
  split at h
  case isFalse => cases h
  rename_i hc
  injection h with h
  subst h
  obtain ⟨c, rfl⟩ := Lib.one_byte a1 hc.1
  have hle := Lib.countB_le ⟨#[c]⟩ (Nat.le_refl 1) a0.size a0 (Nat.le_refl _)
  have hlen := Lib.splitB_all ⟨#[c]⟩ (Nat.le_refl 1) 0 _ a0 rfl
  refine (Split_one a0 c w hc.2).mono fun e w' ⟨he, hw⟩ => ?_
  subst hw
  refine ⟨_, he, ?_, (Below.refl _ _).alloc (Nat.le_refl _) _⟩
  have hl2 : Lib.countB a0 ⟨#[c]⟩ + 1 ≤ 9223372036854775807 := by omega
  generalize Lib.splitB ⟨#[c]⟩ 0 (Lib.countB a0 ⟨#[c]⟩) a0 = xs at *
  generalize Lib.countB a0 ⟨#[c]⟩ = n at *
  refine Kd.R_of_own ⟨by simp [encs], Or.inr ⟨w.heap.size, n + 1, (xs.map Value.string).toArray, by rw [hlen], Nat.le_refl _, heap_alloc_new _ _, by omega, by unfold maxLen; exact hl2, by simp [hlen], by simp only [encs]; rw [List.take_of_length_le (by simp [hlen])]⟩⟩ (fun _ _ => trivial)
end Go.Proofs.YtcbiilbmldinhaaDoor.PB
end

section
namespace Go.Proofs.YtcbiilbmldinhaaDoor.PB
open Go.RowKit Go.Proofs.YtcbiilbmldinhaaDoorW.PrintWords Go.Proofs.YtcbiilbmldinhaaDoorW.PrintLast Go.Proofs.YtcbiilbmldinhaaDoorW.PrintMore
attribute [local go_sem] max2_int min2_int max_two min_two max_three min_three max_four min_four   
set_option linter.unusedVariables false
set_option linter.unusedSimpArgs false
def label_Print.l0 : Nat → List ByteArray → List Int → Int → Int → Option (ByteArray)
 | 0, _, _, _, _ => none
 | k + 1, x3, x9, x10, x11 => if x11 < x10 then (if 0 ≤ x11 then (if x11 < (x9.length : Int) then ((strconv_Itoa_40.f (rd x9 x11)).bind fun t137 => (if x3.length < 8796093022208 then (label_Print.l0 k (x3 ++ [t137]) x9 x10 (wrap64 (x11 + 1))) else (none))) else (none)) else (none)) else ((strings_Join.f x3 (⟨#[46]⟩ : ByteArray)).bind fun t141 => (some t141))
def label_Print.f (k : Nat) (a0 : Int) : Option (ByteArray) := if a0 = 0 then (some (⟨#[45]⟩ : ByteArray)) else ((label_Cats.f a0).bind fun t133 => (label_Print.l0 k ([] : List ByteArray) t133 (t133.length : Int) 0))
set_option maxHeartbeats 8000000 in
set_option maxRecDepth 100000 in
theorem label_Print.calls (k : Nat) (a0 : Int) (r : ByteArray) (w : World) (h : label_Print.f k a0 = some r) :
  Calls Tryd.prog 41 #[.int .u64 a0] w fun e w' => e = .returned (.string r) ∧ Below w.heap.size w w' := by
 have HB := aM (Below.refl w.heap.size w)
 have H : (if a0 = 0 then (some (⟨#[45]⟩ : ByteArray)) else ((label_Cats.f a0).bind fun t133 => (label_Print.l0 k ([] : List ByteArray) t133 (t133.length : Int) 0))) = some r := h
 clear h
 by_cases c2 : a0 = 0
 ·rw [if_pos c2] at H
  have c2b0 : (a0 == 0) = true := beq_iff_eq.mpr c2
  have c2b1 : (a0 != 0) = false := bne_eq_false_iff_eq.mpr c2
  clear c2
  obtain rfl := Option.some.inj H
  go_enter Tryd.func41, Tryd.ntmps41
  go_wp2
  go_ret
  exact ⟨by first | rfl | (simp [errW_none, errW_some] <;> rfl) | (simp [*, errW_none, errW_some] <;> rfl), by exact ey HB.out⟩
 ·rw [if_neg c2] at H
  have c2b0 : (a0 == 0) = false := beq_eq_false_iff_ne.mpr c2
  have c2b1 : (a0 != 0) = true := bne_iff_ne.mpr c2
  replace H := Option.bind_eq_some_iff.mp H
  obtain ⟨t133, A30, H⟩ := H
  replace H : (label_Print.l0 k ([] : List ByteArray) t133 (t133.length : Int) 0) = some r := H
  have A3 := aM A30
  clear A30
  have H' := aM H
  clear H
  go_enter Tryd.func41, Tryd.ntmps41
  go_wp2_with (first | ((with_reducible refine gate_callee (f := 56) rfl ?_); refine goesL_ (some 9) rfl rfl Tryd.func56 (by kernel_rfl) rfl #[.int .u64 a0] rfl (by (try simp only [mT, mC, mN]); first | done | rfl | (simp only [lD, lT]; rfl)) ?_; (with_reducible refine (label_Cats.calls a0 t133 _ A3.out).mono ?_); rintro e w4 ⟨v134, rfl, ho0, hb⟩; refine ⟨_, rfl, ?_⟩; have n0_ := aM (rL ho0 (bZ (ey HB.out))); have n1_ := aM (bP (ey HB.out) hb); clear HB; have HO135 := n0_; have HB := n1_; clear n0_ n1_; (try clear hb); (try clear hb2); (try clear hk); (try clear hi); (try clear ho0); obtain ⟨Ao5, co5, eo5⟩ := Kd.R_slice HO135.out; subst eo5))
  go_loopg [3, 11] k (fun kq v3 v11 w' => ∃ (x3_1 : List ByteArray) (x11_1 : Int), v11 = .int .i64 x11_1 ∧ Aside0 (label_Print.l0 kq x3_1 t133 (t133.length : Int) x11_1 = some r) ∧ Aside0 (kq ≤ k) ∧ Aside0 (Kd.R Kd.string 9 w' w.heap.size (fun _ => True) v3 x3_1) ∧ Aside0 (Kd.R (Kd.int .i64) 3 w' w.heap.size (fun _ => True) (.slice Ao5 t133.length co5) t133) ∧ Aside0 (Below w.heap.size w w'))
  case atStart => exact ⟨(([] : List ByteArray)), (0), (by first | rfl | (simp; done) | (simp [*]; done)), H', ⟨Nat.le_refl _⟩, ⟨by first | exact Kd.R_nil _ _ _ _ _ | exact Kd.N_nil _ _ _ _ _ | exact Kd.V_nil _ _ _ _ _ | exact Kd.Q_nil _ _ _ _ _ | exact Kd.S_nil _ _ _ _ _⟩, ⟨by exact ry HO135.out⟩, ⟨by exact ey HB.out⟩⟩
  case round =>
   clear H'
   try clear c2
   try clear c2b0
   try clear c2b1
   try clear p2
   try clear c4
   try clear c5
   obtain ⟨x3_1, x11_1, rfl, HA, HK1, HO_3, HO_9, HB⟩ := hrel
   cases gk with
   | zero => exact absurd HA.out (by simp [label_Print.l0])
   | succ k1 =>
    have H := HA.out
    clear HA
    simp only [label_Print.l0] at H
    by_cases c6 : x11_1 < (t133.length : Int)
    ·rw [if_pos c6] at H
     have c6b0 : decide (x11_1 < (t133.length : Int)) = true := decide_eq_true c6
     clear c6
     by_cases c7 : 0 ≤ x11_1
     ·rw [if_pos c7] at H
      have c7b0 : decide (0 ≤ x11_1) = true := decide_eq_true c7
      clear c7
      by_cases c8 : x11_1 < (t133.length : Int)
      ·rw [if_pos c8] at H
       have c8b0 : decide (x11_1 < (t133.length : Int)) = true := decide_eq_true c8
       clear c8
       replace H := Option.bind_eq_some_iff.mp H
       obtain ⟨t137, A90, H⟩ := H
       replace H : (if x3_1.length < 8796093022208 then (label_Print.l0 k1 (x3_1 ++ [t137]) t133 (t133.length : Int) (wrap64 (x11_1 + 1))) else (none)) = some r := H
       have A9 := aM A90
       clear A90
       by_cases c10 : x3_1.length < 8796093022208
       ·rw [if_pos c10] at H
        have LMc10 := aM c10
        clear c10
        obtain ⟨y138, hy138⟩ : ∃ y_ : List ByteArray, y_ = (x3_1 ++ [t137]) := ⟨_, rfl⟩
        replace H : (label_Print.l0 k1 y138 t133 (t133.length : Int) (wrap64 (x11_1 + 1))) = some r := by first | (rw [hy138]; with_reducible exact H) | (have H2_ := (Option.bind_some _ _).symm.trans H; rw [hy138]; with_reducible exact H2_) | (have H2_ := (Option.bind_some _ _).symm.trans H; with_reducible exact H2_) | with_reducible exact H | (rw [hy138]; exact H) | exact H
        have Ny138 := aM hy138
        clear hy138
        have H' := aM H
        clear H
        have p136 : 0 ≤ (x11_1 : Int) := of_decide_eq_true (by first | (with_reducible assumption) | assumption)
        have q136 : x11_1 < (t133.length : Int) := of_decide_eq_true (by first | (with_reducible assumption) | assumption)
        obtain ⟨ad136, e136, hx136_0⟩ := Kd.at_int (rR HO_9.out).2.2 x11_1 p136 q136
        cases e136
        replace p136 := eq_true p136
        replace q136 := eq_true q136
        go_wp2_with (first | ((with_reducible refine gate_callee (f := 40) rfl ?_); refine goesL_ (some 17) rfl rfl Tryd.func40 (by kernel_rfl) rfl #[.int .i64 (rd t133 x11_1)] rfl (by (try simp only [mT, mC, mN]); first | done | rfl | (simp only [lD, lT]; rfl)) ?_; (with_reducible refine (strconv_Itoa_40.calls (rd t133 x11_1) t137 _ A9.out).mono ?_); rintro e w11 ⟨rfl, hb⟩; refine ⟨_, rfl, ?_⟩; have n0_ := aM (Kd.R_below (ry HO_3.out) hb); have n1_ := aM (Kd.R_below (ry HO_9.out) hb); have n2_ := aM (bP (ey HB.out) hb); clear HO_3 HO_9 HB; have HO_3 := n0_; have HO_9 := n1_; have HB := n2_; clear n0_ n1_ n2_; (try clear hb); (try clear hb2); (try clear hk); (try clear hi)) | ((with_reducible refine gate_builtin (b := .append) (xs := #[.tmp 15, .tmp 18]) rfl ?_); at_builtin; refine Kd.R_append Kd.string (w0 := w) w.heap.size rfl (.tmp 15) (.tmp 18) 77 9 (.string ⟨#[]⟩) 16 rfl Tryd.underlying77 info9 rfl (by decide) (by omega) u3 x3_1 t137 [.string t137] (fun _ => True) (fun _ => False) rfl rfl ?aP (fun _ hk => hk.elim) ?aF ?aO ?aB ?aS ?aL ?_; (case aP => exact rfl); (case aB => exact (ey HB.out)); (case aF => exact (fun _ _ => trivial)); (case aO => exact (ry HO_3.out)); (case aS => exact (bZ (ey HB.out))); (case aL => have := LMc10.out; omega); intro v139 w12 ho hb hg hat; rw [← Ny138.out] at ho; have n0_ := aM (Kd.R_over' (ry HO_9.out) (Kd.R_typed (ry HO_3.out)) (by decide) hg); have n1_ := aM (hb); have n2_ := aM (ho); clear HO_9 HB HO_3; have HO_9 := n0_; have HB := n1_; have HO140 := n2_; clear n0_ n1_ n2_; clear ho hb hg hat))
        go_roundg k1
        case measure => have := HK1.out; omega
        case rel => exact ⟨(y138), (wrap64 (x11_1 + 1)), (by first | rfl | (simp; done) | (simp [*]; done)), H', ⟨by have := HK1.out; omega⟩, ⟨by exact ry HO140.out⟩, ⟨by exact ry HO_9.out⟩, ⟨by exact ey HB.out⟩⟩
       ·rw [if_neg c10] at H
        exact absurd H (by simp)
      ·rw [if_neg c8] at H
       exact absurd H (by simp)
     ·rw [if_neg c7] at H
      exact absurd H (by simp)
    ·rw [if_neg c6] at H
     have c6b0 : decide (x11_1 < (t133.length : Int)) = false := decide_eq_false c6
     clear c6
     replace H := Option.bind_eq_some_iff.mp H
     obtain ⟨t141, A130, H⟩ := H
     replace H : (some t141) = some r := H
     have A13 := aM A130
     clear A130
     obtain rfl := Option.some.inj H
     obtain ⟨Ao14, co14, eo14⟩ := Kd.R_slice HO_3.out
     subst eo14
     go_wp2_with (first | ((with_reducible refine gate_callee (f := 38) rfl ?_); refine goesL_ (some 22) rfl rfl Tryd.func38 (by kernel_rfl) rfl #[.slice Ao14 x3_1.length co14, .string (⟨#[46]⟩ : ByteArray)] rfl (by (try simp only [mT, mC, mN]); first | done | rfl | (simp only [lD, lT]; rfl)) ?_; (with_reducible refine (strings_Join.calls _ _ x3_1 (⟨#[46]⟩ : ByteArray) t141 _ ?side1 ?side2 A13.out).mono ?_); (case side1 => repeat (first | exact (rR HO_3.out).2.2 | (with_reducible refine Kd.C_alloc ?_ _) | (with_reducible refine Kd.C_drewN ?_ _) | (with_reducible refine Kd.C_drew ?_))); (case side2 => exact (rR HO_3.out).2.1); rintro e w15 ⟨rfl, hb⟩; refine ⟨_, rfl, ?_⟩; have n0_ := aM (Kd.R_below (ry HO_3.out) hb); have n1_ := aM (Kd.R_below (ry HO_9.out) hb); have n2_ := aM (bP (ey HB.out) hb); clear HO_3 HO_9 HB; have HO_3 := n0_; have HO_9 := n1_; have HB := n2_; clear n0_ n1_ n2_; (try clear hb); (try clear hb2); (try clear hk); (try clear hi)))
     go_ret
     exact ⟨by first | rfl | (simp [errW_none, errW_some] <;> rfl) | (simp [*, errW_none, errW_some] <;> rfl), by exact ey HB.out⟩
end Go.Proofs.YtcbiilbmldinhaaDoor.PB
end

section
namespace Go.Proofs.YtcbiilbmldinhaaDoor.PB
open Go.RowKit Go.Proofs.YtcbiilbmldinhaaDoorW.PrintWords Go.Proofs.YtcbiilbmldinhaaDoorW.PrintLast Go.Proofs.YtcbiilbmldinhaaDoorW.PrintMore
set_option linter.unusedVariables false
set_option linter.unusedSimpArgs false
structure NumOk (w : World) : Prop where
  tab : Lib.TabIs Tryd.prog w "internal/strconv.uint64pow10" .u64 Lib.pow10Tab
  syn : ∃ tp p, w.var? Tryd.prog "strconv.ErrSyntax" = some #[.iface tp p]
  rng : ∃ tp p, w.var? Tryd.prog "strconv.ErrRange" = some #[.iface tp p]
theorem var_lt {w : World} {n : String} {cs : Array Value} (h : w.var? Tryd.prog n = some cs) : ∃ g, Tryd.prog.globalNamed n = some g ∧ g < w.heap.size := by
  unfold World.var? at h
  obtain ⟨g, hg, h⟩ := Option.bind_eq_some_iff.1 h
  refine ⟨g, hg, ?_⟩
  cases hc : w.heap[g]? with
  | none => rw [hc] at h; cases h
  | some o => exact (Array.getElem?_eq_some_iff.1 hc).1
theorem var_kept {w w1 : World} {n : String} {cs : Array Value} (hb : Below w.heap.size w w1) (h : w.var? Tryd.prog n = some cs) : w1.var? Tryd.prog n = some cs := by
  obtain ⟨g, hg, hl⟩ := var_lt h
  exact var?_below hb hg hl h
theorem NumOk.below {w w1 : World} (h : NumOk w) (hb : Below w.heap.size w w1) : NumOk w1 := by
  obtain ⟨h1, ⟨a, b, h2⟩, ⟨c, d, h3⟩⟩ := h
  exact ⟨var_kept hb h1, ⟨a, b, var_kept hb h2⟩, ⟨c, d, var_kept hb h3⟩⟩
def Itoa2.f (a0 : Int) : Option ByteArray := if -9223372036854775808 ≤ a0 ∧ a0 ≤ 9223372036854775807 then some ⟨(Lib.itoa a0).toArray⟩ else none
theorem Itoa2.calls (a0 : Int) (r : ByteArray) (w : World) (hm : NumOk w) (h : Itoa2.f a0 = some r) :
    Calls Tryd.prog 40 #[.int .i64 a0] w fun e w' => e = .returned (.string r) ∧ Below w.heap.size w w' := by
  unfold Itoa2.f at h
  split at h
  case isFalse => cases h
  rename_i hc
  injection h with h
  subst h
  refine (Tryd.strconv_Itoa a0 hc.1 hc.2 w hm.tab).mono fun e w' ⟨he, k, os, hw⟩ => ?_
  subst hw
  exact ⟨he, Lib.below_grow _ w (Nat.le_refl _) k os⟩
def atoiV (s : ByteArray) : Int := match Lib.atoiAll s.data.toList with
  | .ok v => v
  | .syntax => 0
  | .range => Lib.atoiSat s.data.toList
theorem atoi_ok (s : ByteArray) (w : World) (hm : NumOk w) (hs : s.size ≤ 4096) :
    Calls Tryd.prog 46 #[.string s] w fun e w' => ∃ v, e = .returned (.tuple #[.int .i64 (atoiV s), v]) ∧ Below w.heap.size w w' := by
  unfold atoiV
  cases h : Lib.atoiAll s.data.toList with
  | ok v =>
    refine (Tryd.strconv_Atoi_ok s (by omega) v h w).mono fun e w' ⟨he, hw⟩ => ⟨_, he, ?_⟩
    rcases hw with rfl | ⟨t, rfl⟩
    · exact Below.refl _ _
    · exact Lib.bytesWorld_below _ _ _
  | «syntax» =>
    obtain ⟨tp, p, hv⟩ := hm.syn
    exact (Tryd.strconv_Atoi_syntax_var s (by omega) h tp p w hv).mono fun e w' ⟨N, he, _, _, hb⟩ => ⟨_, he, hb⟩
  | range =>
    obtain ⟨tp, p, hv⟩ := hm.rng
    exact (Tryd.strconv_Atoi_range_var s (by omega) h tp p w hv).mono fun e w' ⟨N, he, _, _, hb⟩ => ⟨_, he, hb⟩
end Go.Proofs.YtcbiilbmldinhaaDoor.PB
end

section
namespace Go.Proofs.YtcbiilbmldinhaaDoor.PB
open Go.RowKit Go.Proofs.YtcbiilbmldinhaaDoorW.PrintWords Go.Proofs.YtcbiilbmldinhaaDoorW.PrintLast Go.Proofs.YtcbiilbmldinhaaDoorW.PrintMore
attribute [local go_sem] max2_int min2_int max_two min_two max_three min_three max_four min_four   
set_option linter.unusedVariables false
set_option linter.unusedSimpArgs false
def audit_Print2.f (k : Nat) (a0_0 : Int) (a0_1 : Int) (a0_2 : Int) (a0_3 : Int) (a0_4 : Int) : Option (ByteArray × Int) := (audit_Record_may.f k a0_0 a0_1 a0_2 a0_3 a0_4).bind fun t143 => (if t143 = true then ((audit_word.f a0_1).bind fun t144 => ((Itoa2.f a0_2).bind fun t145 => ((Itoa2.f a0_3).bind fun t146 => ((Itoa2.f a0_4).bind fun t147 => ((label_Print.f k a0_0).bind fun t148 => ((strings_Join.f (([t144, t145, t146, t147, t148] : List ByteArray)) (⟨#[32]⟩ : ByteArray)).bind fun t152 => (some (t152, 0)))))))) else (some ((⟨#[]⟩ : ByteArray), 2)))
def audit_Print2.T3 : Bool × List (List Nat × List Nat) := (true, [([], []), ([0], [0]), ([1], [1]), ([], []), ([3], [3]), ([4, 2], [4]), ([], []), ([6], [6]), ([7, 5], [7]), ([], []), ([9], [9]), ([10, 8], [10]), ([], []), ([12], [12]), ([13, 11], [13]), ([2, 5, 8, 11, 14], [2, 5, 8, 11, 14]), ([15, 14], [15]), ([16, 16, 0, 1, 2, 3, 4, 5, 6, 7, 8, 9, 10, 11, 12, 13, 14, 15, 16], [16]), ([17, 0, 1, 2, 3, 4, 5, 6, 7, 8, 9, 10, 11, 12, 13, 14, 15, 16, 17], [])])
def audit_Print2.B3 : List Nat := [0, 1, 3, 0, 8, 31, 0, 64, 255, 0, 512, 2047, 0, 4096, 16383, 32767, 65535, 131071, 262143]
theorem audit_Print2.tab3 : rtab .any (opsOf Tryd.f26 3) = audit_Print2.T3 := by kernel_rfl
theorem audit_Print2.bits3 : waitsOk audit_Print2.T3.2 audit_Print2.B3 = true := by kernel_rfl
set_option maxHeartbeats 8000000 in
set_option maxRecDepth 100000 in
theorem audit_Print2.calls (k : Nat) (a0_0 : Int) (a0_1 : Int) (a0_2 : Int) (a0_3 : Int) (a0_4 : Int) (r1 : ByteArray) (r2 : Int) (w : World) (hMX : NumOk w) (h : audit_Print2.f k a0_0 a0_1 a0_2 a0_3 a0_4 = some (r1, r2)) :
  Calls Tryd.prog 26 #[.agg #[.int .u64 a0_0, .int .i64 a0_1, .int .i64 a0_2, .int .i64 a0_3, .int .i64 a0_4]] w fun e w' => e = .returned (.tuple #[.string r1, .int .i64 r2]) ∧ Below w.heap.size w w' := by
 have HMX := aM hMX
 clear hMX
 have hu36 := Tryd.underlying36
 have HB := aM (Below.refl w.heap.size w)
 have H : ((audit_Record_may.f k a0_0 a0_1 a0_2 a0_3 a0_4).bind fun t143 => (if t143 = true then ((audit_word.f a0_1).bind fun t144 => ((Itoa2.f a0_2).bind fun t145 => ((Itoa2.f a0_3).bind fun t146 => ((Itoa2.f a0_4).bind fun t147 => ((label_Print.f k a0_0).bind fun t148 => ((strings_Join.f (([t144, t145, t146, t147, t148] : List ByteArray)) (⟨#[32]⟩ : ByteArray)).bind fun t152 => (some (t152, 0)))))))) else (some ((⟨#[]⟩ : ByteArray), 2)))) = some (r1, r2) := h
 clear h
 replace H := Option.bind_eq_some_iff.mp H
 obtain ⟨t143, A20, H⟩ := H
 replace H : (if t143 = true then ((audit_word.f a0_1).bind fun t144 => ((Itoa2.f a0_2).bind fun t145 => ((Itoa2.f a0_3).bind fun t146 => ((Itoa2.f a0_4).bind fun t147 => ((label_Print.f k a0_0).bind fun t148 => ((strings_Join.f (([t144, t145, t146, t147, t148] : List ByteArray)) (⟨#[32]⟩ : ByteArray)).bind fun t152 => (some (t152, 0)))))))) else (some ((⟨#[]⟩ : ByteArray), 2))) = some (r1, r2) := H
 have A2 := aM A20
 clear A20
 by_cases c3 : t143 = true
 ·subst c3
  have H1 : ((audit_word.f a0_1).bind fun t144 => ((Itoa2.f a0_2).bind fun t145 => ((Itoa2.f a0_3).bind fun t146 => ((Itoa2.f a0_4).bind fun t147 => ((label_Print.f k a0_0).bind fun t148 => ((strings_Join.f (([t144, t145, t146, t147, t148] : List ByteArray)) (⟨#[32]⟩ : ByteArray)).bind fun t152 => (some (t152, 0)))))))) = some (r1, r2) := by rw [if_pos rfl] at H; exact H
  clear H
  have H := H1
  clear H1
  replace H := Option.bind_eq_some_iff.mp H
  obtain ⟨t144, A40, H⟩ := H
  replace H : ((Itoa2.f a0_2).bind fun t145 => ((Itoa2.f a0_3).bind fun t146 => ((Itoa2.f a0_4).bind fun t147 => ((label_Print.f k a0_0).bind fun t148 => ((strings_Join.f (([t144, t145, t146, t147, t148] : List ByteArray)) (⟨#[32]⟩ : ByteArray)).bind fun t152 => (some (t152, 0))))))) = some (r1, r2) := H
  have A4 := aM A40
  clear A40
  replace H := Option.bind_eq_some_iff.mp H
  obtain ⟨t145, A50, H⟩ := H
  replace H : ((Itoa2.f a0_3).bind fun t146 => ((Itoa2.f a0_4).bind fun t147 => ((label_Print.f k a0_0).bind fun t148 => ((strings_Join.f (([t144, t145, t146, t147, t148] : List ByteArray)) (⟨#[32]⟩ : ByteArray)).bind fun t152 => (some (t152, 0)))))) = some (r1, r2) := H
  have A5 := aM A50
  clear A50
  replace H := Option.bind_eq_some_iff.mp H
  obtain ⟨t146, A60, H⟩ := H
  replace H : ((Itoa2.f a0_4).bind fun t147 => ((label_Print.f k a0_0).bind fun t148 => ((strings_Join.f (([t144, t145, t146, t147, t148] : List ByteArray)) (⟨#[32]⟩ : ByteArray)).bind fun t152 => (some (t152, 0))))) = some (r1, r2) := H
  have A6 := aM A60
  clear A60
  replace H := Option.bind_eq_some_iff.mp H
  obtain ⟨t147, A70, H⟩ := H
  replace H : ((label_Print.f k a0_0).bind fun t148 => ((strings_Join.f (([t144, t145, t146, t147, t148] : List ByteArray)) (⟨#[32]⟩ : ByteArray)).bind fun t152 => (some (t152, 0)))) = some (r1, r2) := H
  have A7 := aM A70
  clear A70
  replace H := Option.bind_eq_some_iff.mp H
  obtain ⟨t148, A80, H⟩ := H
  replace H : ((strings_Join.f (([t144, t145, t146, t147, t148] : List ByteArray)) (⟨#[32]⟩ : ByteArray)).bind fun t152 => (some (t152, 0))) = some (r1, r2) := H
  have A8 := aM A80
  clear A80
  obtain ⟨y149, hy149⟩ : ∃ y_ : List ByteArray, y_ = (([t144, t145, t146, t147, t148] : List ByteArray)) := ⟨_, rfl⟩
  replace H : ((strings_Join.f y149 (⟨#[32]⟩ : ByteArray)).bind fun t152 => (some (t152, 0))) = some (r1, r2) := by first | (rw [hy149]; with_reducible exact H) | (have H2_ := (Option.bind_some _ _).symm.trans H; rw [hy149]; with_reducible exact H2_) | (have H2_ := (Option.bind_some _ _).symm.trans H; with_reducible exact H2_) | with_reducible exact H | (rw [hy149]; exact H) | exact H
  have Ny149 := aM hy149
  clear hy149
  replace H := Option.bind_eq_some_iff.mp H
  obtain ⟨t152, A90, H⟩ := H
  replace H : (some (t152, 0)) = some (r1, r2) := H
  have A9 := aM A90
  clear A90
  simp only [Option.some.injEq, Prod.mk.injEq] at H
  obtain ⟨rfl, rfl⟩ := H
  go_enter Tryd.func26, Tryd.ntmps26
  try go_wp2_with (first | ((with_reducible refine gate_dst (N := 1) rfl ?_); refine box_event ?hg (N := 1) ?hd (cs := #[.int .u64 a0_0, .int .i64 a0_1, .int .i64 a0_2, .int .i64 a0_3, .int .i64 a0_4]) (t := 36) ?hr ?_; (case hd | hg => rfl); (case hr => first | (go_simp; done) | (go_simp; rfl)); intro gb142 hg w10 hbox hb; have n0_ := aM (bP (ey HB.out) hb); have n1_ := aM (hbox); have n2_ := aM ((by rw [hg]; exact (bZ (ey HB.out)) : w.heap.size ≤ gb142)); have n3_ := n2_; clear HB; have HB := n0_; have BK142 := n1_; have GW142 := n2_; have GE142 := n3_; clear n0_ n1_ n2_ n3_; clear hb hbox hg; have hcz11_0 := zC BK142.out 0 (.int .u64 a0_0); have hcz11_1 := zC BK142.out 1 (.int .i64 a0_1); have hcz11_2 := zC BK142.out 2 (.int .i64 a0_2); have hcz11_3 := zC BK142.out 3 (.int .i64 a0_3); have hcz11_4 := zC BK142.out 4 (.int .i64 a0_4); have hfz11_0 := bF BK142.out 0; have hfz11_1 := bF BK142.out 1; have hfz11_2 := bF BK142.out 2; have hfz11_3 := bF BK142.out 3; have hfz11_4 := bF BK142.out 4) | ((with_reducible refine gate_callee (f := 33) rfl ?_); refine goesL_ (some 5) rfl rfl Tryd.func33 (by kernel_rfl) rfl #[.agg #[.int .u64 a0_0, .int .i64 a0_1, .int .i64 a0_2, .int .i64 a0_3, .int .i64 a0_4]] rfl (by (try simp only [mT, mC, mN]); first | done | rfl | (simp only [lD, lT]; rfl)) ?_; (with_reducible refine (audit_Record_may.calls k a0_0 a0_1 a0_2 a0_3 a0_4 true _ A2.out).mono ?_); rintro e w12 ⟨rfl, hb⟩; refine ⟨_, rfl, ?_⟩; have n0_ := aM (bB (g := gb142) (qy BK142.out) hb); have n1_ := aM (bP (by repeat (first | (with_reducible first | exact HB.out | apply ea | apply en | apply ed | refine es ?_ GE142.out) | exact HB.out)) hb); clear BK142 HB; have BK142 := n0_; have HB := n1_; clear n0_ n1_; (try clear hb); (try clear hb2); (try clear hk); (try clear hi)))
  have n0_ := aM (blk_drew BK142.out)
  have n1_ := aM (below_drew1 HB.out)
  clear BK142
  clear HB
  have BK142 := n0_
  have HB := n1_
  clear n0_ n1_
  refine start_ (n := 19) (S := fun w' => w'.cell? ⟨gb142, 0, none⟩ = some (.int .u64 a0_0) ∧ w'.cell? ⟨gb142, 1, none⟩ = some (.int .i64 a0_1) ∧ w'.cell? ⟨gb142, 2, none⟩ = some (.int .i64 a0_2) ∧ w'.cell? ⟨gb142, 3, none⟩ = some (.int .i64 a0_3) ∧ w'.cell? ⟨gb142, 4, none⟩ = some (.int .i64 a0_4)) (ds := []) b0_ (by kernel_rfl) rfl rfl ⟨(bC BK142.out 0).trans rfl, (bC BK142.out 1).trans rfl, (bC BK142.out 2).trans rfl, (bC BK142.out 3).trans rfl, (bC BK142.out 4).trans rfl⟩ (fun hHeld => ?_); refine with_tabW audit_Print2.tab3 audit_Print2.bits3 (fun HT_ HW_ => ?_)
  generalize w12.drew = w13 at BK142 HB hHeld ⊢
  refine pure_ (i := 0) (N := some 7) (v := ?_) (a' := ?_) b1_ rfl rfl (any_of HT_.out (by kernel_rfl)) (fun _ _ _ h => h) (Or.inl ⟨by rfl, ?_⟩) ?_ ?_
  rotate_left
  ·intro w'
   go_simp
   with_reducible rfl
  rotate_left
  ·simp only [Act.put, sA, sZ, sS, i64_w, i32_w]
   rfl
  refine pure_ (i := 3) (N := some 10) (v := ?_) (a' := ?_) b2_ rfl rfl (any_of HT_.out (by kernel_rfl)) (fun _ _ _ h => h) (Or.inl ⟨by rfl, ?_⟩) ?_ ?_
  rotate_left
  ·intro w'
   go_simp
   with_reducible rfl
  rotate_left
  ·simp only [Act.put, sA, sZ, sS, i64_w, i32_w]
   rfl
  refine pure_ (i := 6) (N := some 13) (v := ?_) (a' := ?_) b3_ rfl rfl (any_of HT_.out (by kernel_rfl)) (fun _ _ _ h => h) (Or.inl ⟨by rfl, ?_⟩) ?_ ?_
  rotate_left
  ·intro w'
   go_simp
   with_reducible rfl
  rotate_left
  ·simp only [Act.put, sA, sZ, sS, i64_w, i32_w]
   rfl
  refine pure_ (i := 9) (N := some 16) (v := ?_) (a' := ?_) b4_ rfl rfl (any_of HT_.out (by kernel_rfl)) (fun _ _ _ h => h) (Or.inl ⟨by rfl, ?_⟩) ?_ ?_
  rotate_left
  ·intro w'
   go_simp
   with_reducible rfl
  rotate_left
  ·simp only [Act.put, sA, sZ, sS, i64_w, i32_w]
   rfl
  refine pure_ (i := 12) (N := some 19) (v := ?_) (a' := ?_) b5_ rfl rfl (any_of HT_.out (by kernel_rfl)) (fun _ _ _ h => h) (Or.inl ⟨by rfl, ?_⟩) ?_ ?_
  rotate_left
  ·intro w'
   go_simp
   with_reducible rfl
  rotate_left
  ·simp only [Act.put, sA, sZ, sS, i64_w, i32_w]
   rfl
  refine take_ (i := 1) (N := some 8) (v := ?_) (a' := ?_) b6_ rfl rfl (take_ofW HT_.out HW_.out (by kernel_rfl)) (fun _ _ _ h => h) (Or.inl ⟨by rfl, ?_⟩) hHeld ?_ ?_
  rotate_left
  ·rintro w' ⟨s0, s1, s2, s3, s4⟩
   go_simp
   with_reducible rfl
  rotate_left
  ·simp only [Act.put, sA, sZ, sS, i64_w, i32_w]
   rfl
  refine take_ (i := 4) (N := some 11) (v := ?_) (a' := ?_) b7_ rfl rfl (take_ofW HT_.out HW_.out (by kernel_rfl)) (fun _ _ _ h => h) (Or.inl ⟨by rfl, ?_⟩) hHeld ?_ ?_
  rotate_left
  ·rintro w' ⟨s0, s1, s2, s3, s4⟩
   go_simp
   with_reducible rfl
  rotate_left
  ·simp only [Act.put, sA, sZ, sS, i64_w, i32_w]
   rfl
  refine take_ (i := 7) (N := some 14) (v := ?_) (a' := ?_) b8_ rfl rfl (take_ofW HT_.out HW_.out (by kernel_rfl)) (fun _ _ _ h => h) (Or.inl ⟨by rfl, ?_⟩) hHeld ?_ ?_
  rotate_left
  ·rintro w' ⟨s0, s1, s2, s3, s4⟩
   go_simp
   with_reducible rfl
  rotate_left
  ·simp only [Act.put, sA, sZ, sS, i64_w, i32_w]
   rfl
  refine take_ (i := 10) (N := some 17) (v := ?_) (a' := ?_) b9_ rfl rfl (take_ofW HT_.out HW_.out (by kernel_rfl)) (fun _ _ _ h => h) (Or.inl ⟨by rfl, ?_⟩) hHeld ?_ ?_
  rotate_left
  ·rintro w' ⟨s0, s1, s2, s3, s4⟩
   go_simp
   with_reducible rfl
  rotate_left
  ·simp only [Act.put, sA, sZ, sS, i64_w, i32_w]
   rfl
  refine take_ (i := 13) (N := some 20) (v := ?_) (a' := ?_) b10_ rfl rfl (take_ofW HT_.out HW_.out (by kernel_rfl)) (fun _ _ _ h => h) (Or.inl ⟨by rfl, ?_⟩) hHeld ?_ ?_
  rotate_left
  ·rintro w' ⟨s0, s1, s2, s3, s4⟩
   go_simp
   with_reducible rfl
  rotate_left
  ·simp only [Act.put, sA, sZ, sS, i64_w, i32_w]
   rfl
  refine one_ (i := 2) (N := some 9) b11_ rfl rfl (one_of HT_.out (by kernel_rfl)) (by decide) (fun K hK => ?_)
  refine goes_ Tryd.func39 (by kernel_rfl) rfl #[.int .i64 a0_1] (by rfl) rfl rfl (by (try simp only [mT, mC, mN]); first | done | rfl | (simp only [lD, lT]; rfl)) ?_
  with_reducible refine (audit_word.calls a0_1 t144 _ A4.out).mono ?_
  rintro e w' ⟨rfl, ⟨nd, rfl⟩⟩
  refine ⟨_, rfl, ?_⟩
  refine hK.out _ _ ⟨(bC BK142.out 0).trans rfl, (bC BK142.out 1).trans rfl, (bC BK142.out 2).trans rfl, (bC BK142.out 3).trans rfl, (bC BK142.out 4).trans rfl⟩ (fun hHeld => ?_)
  clear hK K
  refine norm_ (a' := ?_) ?_ ?_
  rotate_left
  ·show Act.put _ (some 9) _ = _
   simp only [Act.put, sA, sZ, sS, i64_w, i32_w]
   rfl
  refine one_ (i := 5) (N := some 12) b12_ rfl rfl (one_of HT_.out (by kernel_rfl)) (by decide) (fun K hK => ?_)
  refine goes_ Tryd.func40 (by kernel_rfl) rfl #[.int .i64 a0_2] (by rfl) rfl rfl (by (try simp only [mT, mC, mN]); first | done | rfl | (simp only [lD, lT]; rfl)) ?_
  with_reducible refine (Itoa2.calls a0_2 t145 _ ?mx1 A5.out).mono ?_
  case mx1 => exact NumOk.below HMX.out (by repeat (first | (with_reducible first | exact HB.out | apply ea | apply en | apply ed | refine es ?_ GE142.out) | exact HB.out))
  rintro e w14 ⟨rfl, hb⟩
  refine ⟨_, rfl, ?_⟩
  have n0_ := aM (bB (g := gb142) (qy BK142.out) hb)
  have n1_ := aM (bP (by repeat (first | (with_reducible first | exact HB.out | apply ea | apply en | apply ed | refine es ?_ GE142.out) | exact HB.out)) hb)
  clear BK142
  clear HB
  have BK142 := n0_
  have HB := n1_
  clear n0_ n1_
  (try clear hb)
  (try clear hb2)
  (try clear hk)
  (try clear hi)
  refine hK.out _ _ ⟨(bC BK142.out 0).trans rfl, (bC BK142.out 1).trans rfl, (bC BK142.out 2).trans rfl, (bC BK142.out 3).trans rfl, (bC BK142.out 4).trans rfl⟩ (fun hHeld => ?_)
  clear hK K
  refine norm_ (a' := ?_) ?_ ?_
  rotate_left
  ·show Act.put _ (some 12) _ = _
   simp only [Act.put, sA, sZ, sS, i64_w, i32_w]
   rfl
  refine one_ (i := 8) (N := some 15) b13_ rfl rfl (one_of HT_.out (by kernel_rfl)) (by decide) (fun K hK => ?_)
  refine goes_ Tryd.func40 (by kernel_rfl) rfl #[.int .i64 a0_3] (by rfl) rfl rfl (by (try simp only [mT, mC, mN]); first | done | rfl | (simp only [lD, lT]; rfl)) ?_
  with_reducible refine (Itoa2.calls a0_3 t146 _ ?mx2 A6.out).mono ?_
  case mx2 => exact NumOk.below HMX.out (by repeat (first | (with_reducible first | exact HB.out | apply ea | apply en | apply ed | refine es ?_ GE142.out) | exact HB.out))
  rintro e w15 ⟨rfl, hb⟩
  refine ⟨_, rfl, ?_⟩
  have n0_ := aM (bB (g := gb142) (qy BK142.out) hb)
  have n1_ := aM (bP (by repeat (first | (with_reducible first | exact HB.out | apply ea | apply en | apply ed | refine es ?_ GE142.out) | exact HB.out)) hb)
  clear BK142
  clear HB
  have BK142 := n0_
  have HB := n1_
  clear n0_ n1_
  (try clear hb)
  (try clear hb2)
  (try clear hk)
  (try clear hi)
  refine hK.out _ _ ⟨(bC BK142.out 0).trans rfl, (bC BK142.out 1).trans rfl, (bC BK142.out 2).trans rfl, (bC BK142.out 3).trans rfl, (bC BK142.out 4).trans rfl⟩ (fun hHeld => ?_)
  clear hK K
  refine norm_ (a' := ?_) ?_ ?_
  rotate_left
  ·show Act.put _ (some 15) _ = _
   simp only [Act.put, sA, sZ, sS, i64_w, i32_w]
   rfl
  refine one_ (i := 11) (N := some 18) b14_ rfl rfl (one_of HT_.out (by kernel_rfl)) (by decide) (fun K hK => ?_)
  refine goes_ Tryd.func40 (by kernel_rfl) rfl #[.int .i64 a0_4] (by rfl) rfl rfl (by (try simp only [mT, mC, mN]); first | done | rfl | (simp only [lD, lT]; rfl)) ?_
  with_reducible refine (Itoa2.calls a0_4 t147 _ ?mx3 A7.out).mono ?_
  case mx3 => exact NumOk.below HMX.out (by repeat (first | (with_reducible first | exact HB.out | apply ea | apply en | apply ed | refine es ?_ GE142.out) | exact HB.out))
  rintro e w16 ⟨rfl, hb⟩
  refine ⟨_, rfl, ?_⟩
  have n0_ := aM (bB (g := gb142) (qy BK142.out) hb)
  have n1_ := aM (bP (by repeat (first | (with_reducible first | exact HB.out | apply ea | apply en | apply ed | refine es ?_ GE142.out) | exact HB.out)) hb)
  clear BK142
  clear HB
  have BK142 := n0_
  have HB := n1_
  clear n0_ n1_
  (try clear hb)
  (try clear hb2)
  (try clear hk)
  (try clear hi)
  refine hK.out _ _ ⟨(bC BK142.out 0).trans rfl, (bC BK142.out 1).trans rfl, (bC BK142.out 2).trans rfl, (bC BK142.out 3).trans rfl, (bC BK142.out 4).trans rfl⟩ (fun hHeld => ?_)
  clear hK K
  refine norm_ (a' := ?_) ?_ ?_
  rotate_left
  ·show Act.put _ (some 18) _ = _
   simp only [Act.put, sA, sZ, sS, i64_w, i32_w]
   rfl
  refine one_ (i := 14) (N := some 21) b15_ rfl rfl (one_of HT_.out (by kernel_rfl)) (by decide) (fun K hK => ?_)
  refine goes_ Tryd.func41 (by kernel_rfl) rfl #[.int .u64 a0_0] (by rfl) rfl rfl (by (try simp only [mT, mC, mN]); first | done | rfl | (simp only [lD, lT]; rfl)) ?_
  with_reducible refine (label_Print.calls k a0_0 t148 _ A8.out).mono ?_
  rintro e w17 ⟨rfl, hb⟩
  refine ⟨_, rfl, ?_⟩
  have n0_ := aM (bB (g := gb142) (qy BK142.out) hb)
  have n1_ := aM (bP (by repeat (first | (with_reducible first | exact HB.out | apply ea | apply en | apply ed | refine es ?_ GE142.out) | exact HB.out)) hb)
  clear BK142
  clear HB
  have BK142 := n0_
  have HB := n1_
  clear n0_ n1_
  (try clear hb)
  (try clear hb2)
  (try clear hk)
  (try clear hi)
  refine hK.out _ _ ⟨(bC BK142.out 0).trans rfl, (bC BK142.out 1).trans rfl, (bC BK142.out 2).trans rfl, (bC BK142.out 3).trans rfl, (bC BK142.out 4).trans rfl⟩ (fun hHeld => ?_)
  clear hK K
  refine norm_ (a' := ?_) ?_ ?_
  rotate_left
  ·show Act.put _ (some 21) _ = _
   simp only [Act.put, sA, sZ, sS, i64_w, i32_w]
   rfl
  refine one_ (i := 15) (N := some 22) b16_ rfl rfl (one_of HT_.out (by kernel_rfl)) (by decide) (fun K hK => ?_)
  refine Kd.R_lit_step Kd.string _ 9 ?hg (N := 22) ?hd (xs := ([t144, t145, t146, t147, t148] : List ByteArray)) (inner := [.string t144, .string t145, .string t146, .string t147, .string t148]) (ok := fun _ => True) (okp := fun _ => True) ?hr ?hp (fun _ hk => hk) trivial (Below.refl _ _) (Nat.le_refl _) (by simp) ?_; (case hd | hg => rfl); (case hr => first | (go_simp; done) | (go_simp; rfl)); (case hp => exact (Reps.one (show Kd.M Kd.string _ _ _ t144 [.string t144] from rfl) (Reps.one (show Kd.M Kd.string _ _ _ t145 [.string t145] from rfl) (Reps.one (show Kd.M Kd.string _ _ _ t146 [.string t146] from rfl) (Reps.one (show Kd.M Kd.string _ _ _ t147 [.string t147] from rfl) (Reps.one (show Kd.M Kd.string _ _ _ t148 [.string t148] from rfl) (Reps.none _ _)))))))
  intro v150 w18 ho19 hb hg_ hnew_
  clear hg_ hnew_
  (first | rw [← Ny149.out] at ho19 | (simp only [Int.reduceToNat] at ho19; rw [← Ny149.out] at ho19))
  have n0_ := aM (rL ho19 (bZ (by repeat (first | (with_reducible first | exact HB.out | apply ea | apply en | apply ed | refine es ?_ GE142.out) | exact HB.out))))
  have n1_ := aM (bB (g := gb142) (qy BK142.out) hb)
  have n2_ := aM (bP (by repeat (first | (with_reducible first | exact HB.out | apply ea | apply en | apply ed | refine es ?_ GE142.out) | exact HB.out)) hb)
  clear BK142
  clear HB
  have HO151 := n0_
  have BK142 := n1_
  have HB := n2_
  clear n0_ n1_ n2_
  clear hb ho19
  obtain ⟨Ao20, co20, eo20⟩ := Kd.R_slice HO151.out
  (first | subst eo20 | (injection eo20 with f1_ f2_ f3_; have f4_ := f1_.symm; have f5_ := f3_.symm; clear f1_ f2_ f3_; subst f4_; subst f5_))
  refine hK.out _ _ ⟨(bC BK142.out 0).trans rfl, (bC BK142.out 1).trans rfl, (bC BK142.out 2).trans rfl, (bC BK142.out 3).trans rfl, (bC BK142.out 4).trans rfl⟩ (fun hHeld => ?_)
  clear hK K
  refine norm_ (a' := ?_) ?_ ?_
  rotate_left
  ·show Act.put _ (some 22) _ = _
   simp only [Act.put, sA, sZ, sS, i64_w, i32_w]
   rfl
  refine one_ (i := 16) (N := some 23) b17_ rfl rfl (one_of HT_.out (by kernel_rfl)) (by decide) (fun K hK => ?_)
  refine goes_ Tryd.func38 (by kernel_rfl) rfl #[.slice Ao20 y149.length co20, .string (⟨#[32]⟩ : ByteArray)] (by rfl) rfl rfl (by (try simp only [mT, mC, mN]); first | done | rfl | (simp only [lD, lT]; rfl)) ?_
  with_reducible refine (strings_Join.calls _ _ y149 (⟨#[32]⟩ : ByteArray) t152 _ ?side1 ?side2 A9.out).mono ?_
  (case side1 => repeat (first | exact (rR HO151.out).2.2 | (with_reducible refine Kd.C_alloc ?_ _) | (with_reducible refine Kd.C_drewN ?_ _) | (with_reducible refine Kd.C_drew ?_)))
  (case side2 => exact (rR HO151.out).2.1)
  rintro e w21 ⟨rfl, hb⟩
  refine ⟨_, rfl, ?_⟩
  have n0_ := aM (Kd.R_below (ry HO151.out) hb)
  have n1_ := aM (bB (g := gb142) (qy BK142.out) hb)
  have n2_ := aM (bP (by repeat (first | (with_reducible first | exact HB.out | apply ea | apply en | apply ed | refine es ?_ GE142.out) | exact HB.out)) hb)
  clear HO151
  clear BK142
  clear HB
  have HO151 := n0_
  have BK142 := n1_
  have HB := n2_
  clear n0_ n1_ n2_
  (try clear hb)
  (try clear hb2)
  (try clear hk)
  (try clear hi)
  refine hK.out _ _ ⟨(bC BK142.out 0).trans rfl, (bC BK142.out 1).trans rfl, (bC BK142.out 2).trans rfl, (bC BK142.out 3).trans rfl, (bC BK142.out 4).trans rfl⟩ (fun hHeld => ?_)
  clear hK K
  refine norm_ (a' := ?_) ?_ ?_
  rotate_left
  ·show Act.put _ (some 23) _ = _
   simp only [Act.put, sA, sZ, sS, i64_w, i32_w]
   rfl
  refine pure_ (i := 17) (N := some 2) (v := ?_) (a' := ?_) b18_ rfl rfl (any_of HT_.out (by kernel_rfl)) (fun _ _ _ h => h) (Or.inl ⟨by rfl, ?_⟩) ?_ ?_
  rotate_left
  ·intro w'
   go_simp
   with_reducible rfl
  rotate_left
  ·simp only [Act.put, sA, sZ, sS, i64_w, i32_w]
   rfl
  refine pure_ (i := 18) (N := some 3) (v := ?_) (a' := ?_) b19_ rfl rfl (any_of HT_.out (by kernel_rfl)) (fun _ _ _ h => h) (Or.inl ⟨by rfl, ?_⟩) ?_ ?_
  rotate_left
  ·intro w'
   go_simp
   with_reducible rfl
  rotate_left
  ·simp only [Act.put, sA, sZ, sS, i64_w, i32_w]
   rfl
  refine done_ (done_of HT_.out (by kernel_rfl)) ?_
  try go_wp2
  go_ret2
  exact ⟨by first | rfl | (simp [errW_none, errW_some] <;> rfl) | (simp [*, errW_none, errW_some] <;> rfl), by repeat (first | (with_reducible first | exact HB.out | apply ea | apply en | apply ed | refine es ?_ GE142.out) | exact HB.out)⟩
 ·replace c3 := Bool.eq_false_iff.mpr c3
  subst c3
  have H1 : (some ((⟨#[]⟩ : ByteArray), 2)) = some (r1, r2) := by rw [if_neg (show ¬ (false = true) by decide)] at H; exact H
  clear H
  have H := H1
  clear H1
  simp only [Option.some.injEq, Prod.mk.injEq] at H
  obtain ⟨rfl, rfl⟩ := H
  go_enter Tryd.func26, Tryd.ntmps26
  go_wp2_with (first | ((with_reducible refine gate_dst (N := 1) rfl ?_); refine box_event ?hg (N := 1) ?hd (cs := #[.int .u64 a0_0, .int .i64 a0_1, .int .i64 a0_2, .int .i64 a0_3, .int .i64 a0_4]) (t := 36) ?hr ?_; (case hd | hg => rfl); (case hr => first | (go_simp; done) | (go_simp; rfl)); intro gb142 hg w22 hbox hb; have n0_ := aM (bP (ey HB.out) hb); have n1_ := aM (hbox); have n2_ := aM ((by rw [hg]; exact (bZ (ey HB.out)) : w.heap.size ≤ gb142)); have n3_ := n2_; clear HB; have HB := n0_; have BK142 := n1_; have GW142 := n2_; have GE142 := n3_; clear n0_ n1_ n2_ n3_; clear hb hbox hg; have hcz23_0 := zC BK142.out 0 (.int .u64 a0_0); have hcz23_1 := zC BK142.out 1 (.int .i64 a0_1); have hcz23_2 := zC BK142.out 2 (.int .i64 a0_2); have hcz23_3 := zC BK142.out 3 (.int .i64 a0_3); have hcz23_4 := zC BK142.out 4 (.int .i64 a0_4); have hfz23_0 := bF BK142.out 0; have hfz23_1 := bF BK142.out 1; have hfz23_2 := bF BK142.out 2; have hfz23_3 := bF BK142.out 3; have hfz23_4 := bF BK142.out 4) | ((with_reducible refine gate_callee (f := 33) rfl ?_); refine goesL_ (some 5) rfl rfl Tryd.func33 (by kernel_rfl) rfl #[.agg #[.int .u64 a0_0, .int .i64 a0_1, .int .i64 a0_2, .int .i64 a0_3, .int .i64 a0_4]] rfl (by (try simp only [mT, mC, mN]); first | done | rfl | (simp only [lD, lT]; rfl)) ?_; (with_reducible refine (audit_Record_may.calls k a0_0 a0_1 a0_2 a0_3 a0_4 false _ A2.out).mono ?_); rintro e w24 ⟨rfl, hb⟩; refine ⟨_, rfl, ?_⟩; have n0_ := aM (bB (g := gb142) (qy BK142.out) hb); have n1_ := aM (bP (by repeat (first | (with_reducible first | exact HB.out | apply ea | apply en | apply ed | refine es ?_ GE142.out) | exact HB.out)) hb); clear BK142 HB; have BK142 := n0_; have HB := n1_; clear n0_ n1_; (try clear hb); (try clear hb2); (try clear hk); (try clear hi)))
  go_ret2
  exact ⟨by first | rfl | (simp [errW_none, errW_some] <;> rfl) | (simp [*, errW_none, errW_some] <;> rfl), by repeat (first | (with_reducible first | exact HB.out | apply ea | apply en | apply ed | refine es ?_ GE142.out) | exact HB.out)⟩
end Go.Proofs.YtcbiilbmldinhaaDoor.PB
end

section
namespace Go.Proofs.YtcbiilbmldinhaaDoor.PB
open Go.RowKit Go.Maps Go.Proofs.YtcbiilbmldinhaaDoorW.PrintWords Go.Proofs.YtcbiilbmldinhaaDoorW.PrintLast Go.Proofs.YtcbiilbmldinhaaDoorW.PrintMore
set_option maxRecDepth 100000
set_option linter.unusedVariables false
set_option linter.unusedSimpArgs false
abbrev iL (a : Int) : DataW Unit := .lit (.int .i64 a)
abbrev kL (L : Int) : Lit := .int .u64 L
theorem lawK : Keyed Tryd.prog 34 := int_keyed Tryd.underlying34
theorem zeroE (w : World) : (zeroValue 3).run Tryd.prog w = .ok (.int .i64 0) w := by kernel_rfl
theorem mapne (b : Nat) (w : World) : (binOp BinOp.neq 53 (.map (some b)) (.map none)).run Tryd.prog w = .ok (.bool true) w := by kernel_rfl
structure LogAt (B g bm : Nat) (v : Value) (w : World) (D : DataW Unit) (xs : List S36) : Prop where
  hg : w.heap[g]? = some (.cells #[.map (some bm), v] 55 (0, 0))
  hm : w.ownsMap Tryd.prog 34 (plainElem Tryd.prog 3) bm 8 D
  hR : Kd.R k36 36 w B (fun _ => True) v xs
  hB : B ≤ g
  hb : B ≤ bm
theorem LogAt.below {B g bm : Nat} {v : Value} {w W : World} {D : DataW Unit} {xs : List S36} (h : LogAt B g bm v w D xs) (hb : Below w.heap.size w W) : LogAt B g bm v W D xs :=
  ⟨bB h.hg hb, h.hm.kept (grown_of_below hb none) (by simp), Kd.R_below h.hR hb, h.hB, h.hb⟩
theorem LogAt.ne {B g bm : Nat} {v : Value} {w : World} {D : DataW Unit} {xs : List S36} (h : LogAt B g bm v w D xs) {i : Nat} {cs : Array Value} {t : TypeId} {fr : Nat × Nat} (hi : w.heap[i]? = some (.cells cs t fr)) : i ≠ bm := by
  rintro rfl
  obtain ⟨es, clock, hb, _⟩ := h.hm
  rw [hi] at hb
  cases hb
section
variable {P : Program} {ops : Array Oper} {Q : Exit → Act → World → Prop} {md : Region.Mode} {S : World → Prop} {ds : List Nat} {oi : Oper} {v : Value} {fuel : Nat} {l : Array Bool} {a : Act} {w : World} {a' : Act}
theorem sv (i n : Nat) (l' : Array Bool) (h : wpAnyLast P md ops Q S ds fuel l' a' w) (hi : ops[i]? = some oi := by rfl) (hN : oi.dst = some n := by rfl) (hc : anyB md ops l l' i = true := by kernel_rfl) (hQ : ∀ (c : List PanicEntry) (a : Act) (w : World), Q (.panic c) (a.put oi.dst v) w → Q (.panic c) a w := by exact fun _ _ _ h => h) (hy : Yields P ops oi v a := by exact Or.inl ⟨by rfl, fun w' => by go_simp; with_reducible rfl⟩) (ha : a.put (some n) v = a' := by simp only [Act.put, List.setIfInBounds_toArray, List.set_cons_zero, List.set_cons_succ, i64_w, i32_w]; rfl) : wpAnyLast P md ops Q S ds (fuel + 1) l a w := pure_ l' hi hN hc hQ hy ha h
theorem st (i n : Nat) (l' : Array Bool) (hS : S w) (h : wpAnyLast P md ops Q S ds fuel l' a' w) (hi : ops[i]? = some oi := by rfl) (hN : oi.dst = some n := by rfl) (hc : takeB md ops ds l l' i = true := by kernel_rfl) (hQ : ∀ (c : List PanicEntry) (a : Act) (w : World), Q (.panic c) (a.put oi.dst v) w → Q (.panic c) a w := by exact fun _ _ _ h => h) (hy : YieldsIf P ops S oi v a := by exact Or.inl ⟨by rfl, fun w' hs => by (repeat obtain ⟨_, hs⟩ := hs); go_simp; with_reducible rfl⟩) (ha : a.put (some n) v = a' := by simp only [Act.put, List.setIfInBounds_toArray, List.set_cons_zero, List.set_cons_succ, i64_w, i32_w]; rfl) : wpAnyLast P md ops Q S ds (fuel + 1) l a w := take_ l' hi hN hc hQ hy hS ha h
end
abbrev tT := true
abbrev tF := false
theorem w1n {i n : Nat} (h : i < n) (hn : n ≤ 1000000000000000) : wrap64 ((i : Int) + 1) = ((i + 1 : Nat) : Int) := by unfold wrap64; omega
theorem wlen {n : Nat} (h : n ≤ 1000000000000000) : wrap64 (n : Int) = (n : Int) := by
  unfold wrap64
  omega
theorem ownsMap_tight {P : Program} {kt : TypeId} {R : Value → Option (DataW Unit × List MemPlace)} {w : World} {b n m : Nat} {D : DataW Unit} (K : Keyed P kt) (h : w.ownsMap P kt R b n D) (hm : Maps.size D ≤ m) : w.ownsMap P kt R b m D := by
  obtain ⟨es, clock, hb, F, _, rfl⟩ := h
  refine ⟨es, clock, hb, F, ?_, rfl⟩
  rwa [Maps.size_eq, length_read] at hm
theorem good_ok {g bm : Nat} {v : Value} {w : World} (hg : w.heap[g]? = some (.cells #[.map (some bm), v] 55 (0, 0))) :
    Calls Tryd.prog 32 #[.pointer (some ⟨g, 0, none⟩)] w fun e w' => e = .returned (.bool true) ∧ w' = w := by
  have c0 : w.cell? ⟨g, 0, none⟩ = some (.map (some bm)) := (bC hg 0).trans rfl
  have hne := mapne bm
  go_enter Tryd.func32, Tryd.ntmps32
  go_wp2
  go_ret
  exact ⟨rfl, rfl⟩
theorem room_ok {B g bm : Nat} {v : Value} {w : World} {D : DataW Unit} {xs : List S36} (h : LogAt B g bm v w D xs) (L : Int) (hL : (kL L).wf = true) :
    Calls Tryd.prog 21 #[.pointer (some ⟨g, 0, none⟩), .int .u64 L] w fun e w' => ∃ c, e = .returned (.int .i64 c) ∧ D.atKey (kL L) (iL 0) = iL c ∧ w' = w := by
  have c0 : w.cell? ⟨g, 0, none⟩ = some (.map (some bm)) := (bC h.hg 0).trans rfl
  have hkey := keyOf_int_mk Tryd.underlying34 hL
  go_enter Tryd.func21, Tryd.ntmps21
  go_wp2_with (first
    | ((with_reducible refine gate_callee (f := 32) rfl ?_); refine goesL_ (some 6) rfl rfl Tryd.func32 (by kernel_rfl) rfl #[.pointer (some ⟨g, 0, none⟩)] rfl (by (try simp only [List.map_toArray, List.map_cons, List.map_nil]); first | done | rfl) ?_; (with_reducible refine (good_ok h.hg).mono ?_); rintro e w3 ⟨rfl, hw⟩; subst w3; refine ⟨_, rfl, ?_⟩)
    | (at_lookup; refine wpList_lookup_own_int _ rfl _ _ 53 rfl 34 3 .i64 lawK Tryd.underlying53 Tryd.underlying3 (zeroE _) bm 8 D rfl h.hm _ _ rfl hkey ?_; intro c hat hwc)
    )
  go_ret
  exact ⟨c, rfl, hat, rfl⟩
theorem add_ok (k : Nat) {B g bm : Nat} {v : Value} {w : World} {D : DataW Unit} {xs : List S36} (h : LogAt B g bm v w D xs) (hBw : B ≤ w.heap.size)
    (a0 a1 a2 a3 a4 : Int) (hL : (kL a0).wf = true) (hmay : audit_Record_may.f k a0 a1 a2 a3 a4 = some true) (hhas : Maps.has D (kL a0) = true) (c : Int) (hc : D.atKey (kL a0) (iL 0) = iL c) (hroom : ¬ c < 1) (hlen : (xs.length + 1) * 40 ≤ 140737488355328) :
    Calls Tryd.prog 13 #[.pointer (some ⟨g, 0, none⟩), .agg #[.int .u64 a0, .int .i64 a1, .int .i64 a2, .int .i64 a3, .int .i64 a4]] w fun e w' =>
      e = .returned (.tuple #[.int .i64 xs.length, .int .i64 0]) ∧ ∃ v', LogAt B g bm v' w' (D.put (kL a0) (iL (wrap64 (c - 1)))) (xs ++ [⟨a0, a1, a2, a3, a4⟩]) ∧ Below B w w' ∧ Kept w w' (fun k => k = g ∨ k = bm ∨ some k = v.ownBlock) ∧ ∀ k, v'.ownBlock = some k → v.ownBlock = some k ∨ w.heap.size ≤ k := by
  have hu36 := Tryd.underlying36
  have hkey := keyOf_int_mk Tryd.underlying34 hL
  have hcr : decide (c < 1) = false := decide_eq_false hroom
  have HL := aM hlen
  have HH := aM h
  clear hlen h
  go_enter Tryd.func13, Tryd.ntmps13
  go_wp2_with (first
    | ((with_reducible refine gate_dst (N := 3) rfl ?_); (try (refine gate_guard (by rfl) ?_; dsimp only)); refine box_event ?hg (N := 3) ?hd (cs := #[.int .u64 a0, .int .i64 a1, .int .i64 a2, .int .i64 a3, .int .i64 a4]) (t := 36) ?hr ?_; (case hd => rfl); (case hg => rfl); (case hr => first | (go_simp; done) | (go_simp; rfl)); intro gb hg w4 hbox hb; have HA := aM (HH.out.below hb); have BK := aM hbox; have HW := aM hb; have GE := aM (show w.heap.size ≤ gb by omega); clear hb hbox hg)
    | ((with_reducible refine gate_callee (f := 32) rfl ?_); refine goesL_ (some 9) rfl rfl Tryd.func32 (by kernel_rfl) rfl #[.pointer (some ⟨g, 0, none⟩)] rfl (by (try simp only [List.map_toArray, List.map_cons, List.map_nil]); first | done | rfl) ?_; (with_reducible refine (good_ok HA.out.hg).mono ?_); rintro e w3 ⟨rfl, hw⟩; subst w3; refine ⟨_, rfl, ?_⟩)
    )
  have c0 : w4.cell? ⟨g, 0, none⟩ = some (.map (some bm)) := (bC HA.out.hg 0).trans rfl
  have hx0 : w4.cell? ⟨gb, 0, none⟩ = some (.int .u64 a0) := (bC BK.out 0).trans rfl
  obtain ⟨v0, ps0, hv0, hrun⟩ : ∃ v0 ps0, plainElem Tryd.prog 3 v0 = some (D.atKey (kL a0) (iL 0), ps0) ∧ ∀ n, (Instr.lookup 53 (.map (some bm)) (.int .u64 a0) true).run Tryd.prog (w4.drewN n) = .ok (.tuple #[v0, .bool (Maps.has D (kL a0))]) (w4.drewN n) := by
    obtain ⟨v0, ps0, hr0, hv0⟩ := HA.out.hm.look_ok lawK Tryd.underlying53 (zeroE _) (plainElem_int Tryd.underlying3 (by decide)) hkey
    refine ⟨v0, ps0, hv0, fun n => ?_⟩
    obtain ⟨v1, ps1, hr1, hv1⟩ := World.ownsMap.look_ok (w := w4.drewN n) HA.out.hm lawK Tryd.underlying53 (zeroE _) (plainElem_int Tryd.underlying3 (by decide)) hkey
    obtain ⟨x0, rfl, e0, _⟩ := plainElem_int_inv Tryd.underlying3 hv0
    obtain ⟨x1, rfl, e1, _⟩ := plainElem_int_inv Tryd.underlying3 hv1
    rw [hr1]
    have h0 := congrArg Prod.fst e0
    have h1 := congrArg Prod.fst e1
    have h2 : (iL x0 : DataW Unit) = iL x1 := h0.symm.trans h1
    injection h2 with h2
    injection h2 with _ h2
    rw [h2]
  obtain ⟨x0, rfl, e0, _⟩ := plainElem_int_inv Tryd.underlying3 hv0
  obtain rfl : x0 = c := by rw [hc] at e0; simpa using (congrArg Prod.fst e0).symm
  rw [hhas] at hrun
  clear hv0 e0
  go_quiet (fail)
  have HA5 := aM (HA.out.below (pw_below_drewN (Below.refl _ _) nq : Below w4.heap.size w4 (w4.drewN nq)))
  have BK5 := aM (blk_drewN BK.out nq)
  have hsz5 : w.heap.size ≤ (w4.drewN nq).heap.size := Nat.le_of_lt (Nat.lt_of_le_of_lt GE.out (blk_lt BK5.out))
  have HW5 := aM (pw_below_drewN HW.out nq)
  generalize w4.drewN nq = w5 at *
  clear HA BK HW c0 hx0 hrun
  have HA := HA5
  have BK := BK5
  have HW := HW5
  clear HA5 BK5 HW5
  have hy0 : w5.cell? ⟨gb, 0, none⟩ = some (.int .u64 a0) := (bC BK.out 0).trans rfl
  have hy1 : w5.cell? ⟨gb, 1, none⟩ = some (.int .i64 a1) := (bC BK.out 1).trans rfl
  have hy2 : w5.cell? ⟨gb, 2, none⟩ = some (.int .i64 a2) := (bC BK.out 2).trans rfl
  have hy3 : w5.cell? ⟨gb, 3, none⟩ = some (.int .i64 a3) := (bC BK.out 3).trans rfl
  have hy4 : w5.cell? ⟨gb, 4, none⟩ = some (.int .i64 a4) := (bC BK.out 4).trans rfl
  go_wp2_with (first
    | ((with_reducible refine gate_callee (f := 33) rfl ?_); refine goesL_ (some 23) rfl rfl Tryd.func33 (by kernel_rfl) rfl #[.agg #[.int .u64 a0, .int .i64 a1, .int .i64 a2, .int .i64 a3, .int .i64 a4]] rfl (by (try simp only [List.map_toArray, List.map_cons, List.map_nil]); first | done | rfl) ?_; (with_reducible refine (audit_Record_may.calls k a0 a1 a2 a3 a4 true _ hmay).mono ?_); rintro e w6 ⟨rfl, hb⟩; refine ⟨_, rfl, ?_⟩; have HA6 := aM (HA.out.below hb); have BK6 := aM (bB BK.out hb); have HW6 := aM (bP HW.out hb); have hsz6 := Nat.le_trans hsz5 hb.size; clear hb)
    )
  clear hy0 hy1 hy2 hy3 hy4 HA BK HW hsz5
  have hz0 : w6.cell? ⟨g, 0, none⟩ = some (.map (some bm)) := (bC HA6.out.hg 0).trans rfl
  have hy0 : w6.cell? ⟨gb, 0, none⟩ = some (.int .u64 a0) := (bC BK6.out 0).trans rfl
  go_still_tail 8, (by kernel_rfl)
  have HA7 := aM (HA6.out.below ((Below.refl _ _).drew : Below w6.heap.size w6 w6.drew))
  have BK7 := aM (blk_drew BK6.out)
  have HW7 := aM (HW6.out.drew)
  have hsz7 : w.heap.size ≤ w6.drew.heap.size := hsz6
  clear HA6 BK6 HW6 hz0 hy0
  change wpList _ _ _ _ _ w6.drew
  generalize w6.drew = w7 at *
  simp only [i64_w]
  go_wp2_with (first
    | (at_mapUpdate; refine wpList_mapUpdate_in _ rfl _ _ _ 53 rfl 34 3 lawK Tryd.underlying53 _ bm 8 D rfl HA7.out.hm (by decide) _ _ _ rfl rfl hkey _ [] (plainElem_int Tryd.underlying3 (wrap64_wf _)) ?_; intro w8 hown8 hturn8)
    )
  have hvb := Kd.R_lt HH.out.hR
  have hgbm := HA7.out.ne HA7.out.hg
  have hbb := HA7.out.ne BK7.out
  have HG8 := aM (blk_grown HA7.out.hg hturn8.grown (by simpa using hgbm))
  have BK8 := aM (blk_grown BK7.out hturn8.grown (by simpa using hbb))
  have HR8 := aM (Kd.R_grown2 HA7.out.hR rfl hturn8.grown (fun k hk e => by
    obtain ⟨cells, hc⟩ := Kd.R_typed HA7.out.hR k e.symm
    cases hk
    exact HA7.out.ne hc rfl))
  have hsz8 : w.heap.size ≤ w8.heap.size := Nat.le_trans hsz7 hturn8.grown.size
  refine start_ (n := 11) (S := fun w' => w'.cell? ⟨g, 1, none⟩ = some v ∧ w'.cell? ⟨gb, 0, none⟩ = some (.int .u64 a0) ∧ w'.cell? ⟨gb, 1, none⟩ = some (.int .i64 a1) ∧ w'.cell? ⟨gb, 2, none⟩ = some (.int .i64 a2) ∧ w'.cell? ⟨gb, 3, none⟩ = some (.int .i64 a3) ∧ w'.cell? ⟨gb, 4, none⟩ = some (.int .i64 a4)) (ds := [10]) #[tF,tF,tF,tF,tF,tF,tF,tF,tF,tF,tF] (by kernel_rfl) rfl rfl ⟨(bC HG8.out 1).trans rfl, (bC BK8.out 0).trans rfl, (bC BK8.out 1).trans rfl, (bC BK8.out 2).trans rfl, (bC BK8.out 3).trans rfl, (bC BK8.out 4).trans rfl⟩ (fun hHeld => ?_)
  refine sv 0 39 #[tT,tF,tF,tF,tF,tF,tF,tF,tF,tF,tF] ?_
  refine sv 1 40 #[tT,tT,tF,tF,tF,tF,tF,tF,tF,tF,tF] ?_
  refine sv 2 41 #[tT,tT,tT,tF,tF,tF,tF,tF,tF,tF,tF] ?_
  refine sv 3 42 #[tT,tT,tT,tT,tF,tF,tF,tF,tF,tF,tF] ?_
  refine st 5 44 #[tT,tT,tT,tT,tF,tT,tF,tF,tF,tF,tF] hHeld ?_
  refine st 4 43 #[tT,tT,tT,tT,tT,tT,tF,tF,tF,tF,tF] hHeld ?_
  have HB9 := aM (((HW7.out.mono hBw).grown hturn8.grown (Nat.le_trans hBw hsz7) (fun k hk => by cases hk; exact HH.out.hb)).drew)
  have HK9 := aM ((Kept.of_grown hturn8.grown (Kept.of_below HW7.out (fun k => k = g ∨ k = bm ∨ some k = v.ownBlock)) (fun k hk => .inl (.inr (.inl (by cases hk; rfl))))).drew)
  have HG9 := aM (blk_drew HG8.out)
  have BK9 := aM (blk_drew BK8.out)
  have HR9 := aM (Kd.R_drew HR8.out)
  have hsz9 : w.heap.size ≤ w8.drew.heap.size := hsz8
  have hm9 : w8.drew.ownsMap Tryd.prog 34 (plainElem Tryd.prog 3) bm (8 + 1) (D.put (kL a0) (iL (wrap64 (x0 - 1)))) := hown8
  generalize w8.drew = w9 at HG9 BK9 HR9 hsz9 hHeld hm9 HB9 HK9 ⊢
  have HM9 := aM hm9
  clear HG8 BK8 HR8 hsz8 hm9 hown8 hturn8 HA7 BK7 HW7 hsz7
  have HB0 := aM hBw
  refine one_ (i := 6) (N := some 45) #[tT,tT,tT,tT,tT,tT,tT,tF,tF,tF,tF] rfl rfl (by kernel_rfl) (by decide) (fun K hK => ?_)
  refine value_ (v := .slice (some ⟨w9.heap.size, 0, none⟩) 1 1) (w1 := w9.alloc (.cells #[.int .u64 a0, .int .i64 a1, .int .i64 a2, .int .i64 a3, .int .i64 a4] 36)) (by rfl) rfl ?_ ?_
  · go_simp
  have HG' := aM (blk_alloc HG9.out (.cells #[.int .u64 a0, .int .i64 a1, .int .i64 a2, .int .i64 a3, .int .i64 a4] 36))
  have BK' := aM (blk_alloc BK9.out (.cells #[.int .u64 a0, .int .i64 a1, .int .i64 a2, .int .i64 a3, .int .i64 a4] 36))
  refine hK.out _ _ ⟨(bC HG'.out 1).trans rfl, (bC BK'.out 0).trans rfl, (bC BK'.out 1).trans rfl, (bC BK'.out 2).trans rfl, (bC BK'.out 3).trans rfl, (bC BK'.out 4).trans rfl⟩ (fun hHeld => ?_)
  clear hK K HG' BK'
  refine norm_ (a' := ?_) ?_ ?_
  rotate_left
  · show Act.put _ (some 45) _ = _
    simp only [Act.put, List.setIfInBounds_toArray, List.set_cons_zero, List.set_cons_succ]
    rfl
  refine one_ (i := 7) (N := some 46) #[tT,tT,tT,tT,tT,tT,tT,tT,tF,tF,tF] rfl rfl (by kernel_rfl) (by decide) (fun K hK => ?_)
  refine Kd.R_append_step k36 (w0 := w) B (by rfl) (.tmp 43) (.tmp 45) 43 36 (.agg #[(.int .u64 0), (.int .i64 0), (.int .i64 0), (.int .i64 0), (.int .i64 0)]) 40 rfl Tryd.underlying43 info36 rfl (by decide) (by omega) v xs (⟨a0, a1, a2, a3, a4⟩ : S36) [.int .u64 a0, .int .i64 a1, .int .i64 a2, .int .i64 a3, .int .i64 a4] (fun _ => True) (fun _ => False) rfl rfl (k36_mkM _ _ _ _) (fun _ h => h.elim) (fun _ _ => trivial) HR9.out HB9.out (Nat.le_trans HB0.out hsz9) HL.out ?_
  intro v1 w10 ho hb hg1 hat
  obtain ⟨A1, c1, e1⟩ := Kd.R_slice ho
  rw [List.length_append, List.length_singleton] at e1
  subst e1
  have hgv := Kd.R_ne HR9.out HG9.out (by decide)
  have hgbv : some gb ≠ v.ownBlock := fun e => by have := hvb gb e.symm; have := GE.out; omega
  have hbmv : some bm ≠ v.ownBlock := fun e => by
    obtain ⟨cells, hc⟩ := Kd.R_typed HR9.out bm e.symm
    obtain ⟨es, clock, h2, _⟩ := HM9.out
    rw [h2] at hc
    cases hc
  have HG := aM (blk_grown HG9.out hg1 hgv)
  have BK := aM (blk_grown BK9.out hg1 hgbv)
  have HM := aM (HM9.out.kept hg1 hbmv)
  have HB := aM hb
  have HK := aM (Kept.of_grown hg1 HK9.out (fun k hk => .inl (.inr (.inr hk.symm))))
  have HO := aM ho
  have HQ := aM (show ∀ k, (Value.slice A1 (xs.length + 1) c1).ownBlock = some k → v.ownBlock = some k ∨ w.heap.size ≤ k from fun k hk => hat.elim (fun h => .inl (h ▸ hk)) (fun ⟨b, hb, hle⟩ => .inr (by rw [hb] at hk; cases hk; exact Nat.le_trans hsz9 hle)))
  clear ho hb hg1 hat HG9 BK9 HM9 HB9 HK9 HR9 hsz9
  refine hK.out _ _ ⟨(bC HG.out 1).trans rfl, (bC BK.out 0).trans rfl, (bC BK.out 1).trans rfl, (bC BK.out 2).trans rfl, (bC BK.out 3).trans rfl, (bC BK.out 4).trans rfl⟩ (fun hHeld => ?_)
  clear hK K
  refine norm_ (a' := ?_) ?_ ?_
  rotate_left
  · show Act.put _ (some 46) _ = _
    simp only [Act.put, List.setIfInBounds_toArray, List.set_cons_zero, List.set_cons_succ]
    rfl
  refine sv 8 47 #[tT,tT,tT,tT,tT,tT,tT,tT,tT,tF,tF] ?_
  refine sv 9 48 #[tT,tT,tT,tT,tT,tT,tT,tT,tT,tT,tF] ?_
  refine last_ (i := 10) (N := none) #[tT,tT,tT,tT,tT,tT,tT,tT,tT,tT,tT] rfl rfl (by kernel_rfl) (by decide) (fun K hK => ?_)
  have hs1 : w10.cell? ⟨g, 1, none⟩ = some v := (bC HG.out 1).trans rfl
  have hf1 := bF HG.out 1
  refine skip_ (w1 := ?_) (by rfl) rfl ?_ ?_
  rotate_left
  · go_simp
    rfl
  refine hK.out _ _ (done_ (by kernel_rfl) ?_)
  clear hK K
  have HG2 := aM (bU (cs' := #[.map (some bm), .slice A1 (xs.length + 1) c1]) HG.out 1 (.slice A1 (xs.length + 1) c1) rfl)
  have hq1 := (bC HG2.out 1).trans (rfl : _ = some (Value.slice A1 (xs.length + 1) c1))
  go_wp2
  go_ret2
  refine ⟨?_, _, ⟨HG2.out, ?_, Kd.R_set HO.out HG.out (by decide) _ _, HH.out.hB, HH.out.hb⟩, HB.out.setCell HH.out.hB _, HK.out.setCell (.inl (.inl rfl)) _, HQ.out⟩
  · rw [wlen (by have := HL.out; omega)]
    rfl
  · refine ownsMap_tight lawK (HM.out.setCell (hgbm.symm) _) ?_
    rw [Maps.size_put (HH.out.hm.tidy lawK), if_pos hhas]
    exact HH.out.hm.size_le
end Go.Proofs.YtcbiilbmldinhaaDoor.PB
end

section
namespace Go.Proofs.YtcbiilbmldinhaaDoor.PB
open Go.RowKit Go.Proofs.YtcbiilbmldinhaaDoorW.PrintWords Go.Proofs.YtcbiilbmldinhaaDoorW.PrintLast Go.Proofs.YtcbiilbmldinhaaDoorW.PrintMore
attribute [local go_sem] max2_int min2_int max_two min_two max_three min_three max_four min_four   
set_option linter.unusedVariables false
set_option linter.unusedSimpArgs false
mutual
def label_category.j0 : Nat → ByteArray → Bool → Option (Int × Bool)
 | 0, _, _ => none
 | k + 1, x0, x23 => if x23 = true then (some (0, false)) else (label_category.l0 k x0 0 (x0.size : Int) 0)
def label_category.l0 : Nat → ByteArray → Int → Int → Int → Option (Int × Bool)
 | 0, _, _, _, _ => none
 | k + 1, x0, x4, x25, x26 => if x26 < x25 then (if 0 ≤ x26 then (if x26 < (x0.size : Int) then (if (bt x0 x26) < 48 then (some (0, false)) else (if (bt x0 x26) > 57 then (some (0, false)) else (label_category.l0 k x0 (wrap64 ((wrap64 (x4 * 10)) + (((bt x0 x26) - 48) % 256))) x25 (wrap64 (x26 + 1))))) else (none)) else (none)) else (some (x4, decide (x4 < 64)))
end
def label_category.f (k : Nat) (a0 : ByteArray) : Option (Int × Bool) := if (a0.size : Int) < 1 then (label_category.j0 k a0 true) else (if (a0.size : Int) > 2 then (label_category.j0 k a0 true) else (if (a0.size : Int) = 2 then (if 0 < (a0.size : Int) then (label_category.j0 k a0 ((bt a0 0) == 48)) else (none)) else (label_category.j0 k a0 false)))
set_option maxHeartbeats 8000000 in
set_option maxRecDepth 100000 in
theorem label_category.calls (k : Nat) (a0 : ByteArray) (r1 : Int) (r2 : Bool) (w : World) (h : label_category.f k a0 = some (r1, r2)) :
  Calls Tryd.prog 62 #[.string a0] w fun e w' => e = .returned (.tuple #[.int .i64 r1, .bool r2]) ∧ Drawn0 w w' := by
 have H : (if (a0.size : Int) < 1 then (label_category.j0 k a0 true) else (if (a0.size : Int) > 2 then (label_category.j0 k a0 true) else (if (a0.size : Int) = 2 then (if 0 < (a0.size : Int) then (label_category.j0 k a0 ((bt a0 0) == 48)) else (none)) else (label_category.j0 k a0 false)))) = some (r1, r2) := h
 clear h
 have HC2 := aM H
 clear H
 go_enter Tryd.func62, Tryd.ntmps62
 go_upto_region 1 with (fail)
 go_cut [23] (fun v23 wc => ∃ (kq : Nat) (x23_1 : Bool), v23 = .bool x23_1 ∧ Aside0 (label_category.j0 kq a0 x23_1 = some (r1, r2)) ∧ Aside0 (kq ≤ k) ∧ Drawn0 w wc)
 case first =>
  have H := HC2.out
  clear HC2
  by_cases c3 : (a0.size : Int) < 1
  ·rw [if_pos c3] at H
   have c3b0 : decide ((a0.size : Int) < 1) = true := decide_eq_true c3
   have c3b1 : decide (a0.size < 1) = true := decide_eq_true (by omega)
   clear c3
   (first | rw [c3b0] | (simp only [i64_w, i32_w]; rw [c3b0]) | skip)
   have H' := aM H
   clear H
   go_wp2
   go_meet
   case rel => exact ⟨_, (true), (by first | rfl | (simp; done) | (simp [*]; done)), H', ⟨by first | omega | exact Nat.le_refl _⟩, by repeat (first | exact Drawn0.refl _ | apply Drawn0.step)⟩
  ·rw [if_neg c3] at H
   have c3b0 : decide ((a0.size : Int) < 1) = false := decide_eq_false c3
   have c3b1 : decide (a0.size < 1) = false := decide_eq_false (by omega)
   clear c3
   (first | rw [c3b0] | (simp only [i64_w, i32_w]; rw [c3b0]) | skip)
   by_cases c4 : (a0.size : Int) > 2
   ·rw [if_pos c4] at H
    have c4b0 : decide (2 < (a0.size : Int)) = true := decide_eq_true c4
    have c4b1 : decide (2 < a0.size) = true := decide_eq_true (by omega)
    clear c4
    have H' := aM H
    clear H
    go_wp2
    go_meet
    case rel => exact ⟨_, (true), (by first | rfl | (simp; done) | (simp [*]; done)), H', ⟨by first | omega | exact Nat.le_refl _⟩, by repeat (first | exact Drawn0.refl _ | apply Drawn0.step)⟩
   ·rw [if_neg c4] at H
    have c4b0 : decide (2 < (a0.size : Int)) = false := decide_eq_false c4
    have c4b1 : decide (2 < a0.size) = false := decide_eq_false (by omega)
    clear c4
    by_cases c5 : (a0.size : Int) = 2
    ·rw [if_pos c5] at H
     have c5b0 : ((a0.size : Int) == 2) = true := beq_iff_eq.mpr c5
     have c5b1 : ((a0.size : Int) != 2) = false := bne_eq_false_iff_eq.mpr c5
     clear c5
     by_cases c6 : 0 < (a0.size : Int)
     ·rw [if_pos c6] at H
      have c6b0 : decide (0 < (a0.size : Int)) = true := decide_eq_true c6
      have c6b1 : decide (0 < a0.size) = true := decide_eq_true (by omega)
      clear c6
      have H' := aM H
      clear H
      have p7 : 0 ≤ (0 : Int) := (by omega)
      have q7 : 0 < a0.size := (by have : (0 : Int) < (a0.size : Int) := of_decide_eq_true (by first | (with_reducible assumption) | assumption); omega)
      have hx7 : ∀ h : 0 < a0.size, ((a0[0]'h).toNat : Int) = bt a0 0 := bt_at a0 0
      clear p7
      have qi7 : (0 < (a0.size : Int)) = True := eq_true (of_decide_eq_true (by first | (with_reducible assumption) | assumption))
      replace q7 := eq_true q7
      go_wp2
      go_meet
      case rel => exact ⟨_, (((bt a0 0) == 48)), (by first | rfl | (simp; done) | (simp [*]; done)), H', ⟨by first | omega | exact Nat.le_refl _⟩, by repeat (first | exact Drawn0.refl _ | apply Drawn0.step)⟩
     ·rw [if_neg c6] at H
      exact absurd H (by simp)
    ·rw [if_neg c5] at H
     have c5b0 : ((a0.size : Int) == 2) = false := beq_eq_false_iff_ne.mpr c5
     have c5b1 : ((a0.size : Int) != 2) = true := bne_iff_ne.mpr c5
     have H' := aM H
     clear H
     go_wp2
     go_meet
     case rel => exact ⟨_, (false), (by first | rfl | (simp; done) | (simp [*]; done)), H', ⟨by first | omega | exact Nat.le_refl _⟩, by repeat (first | exact Drawn0.refl _ | apply Drawn0.step)⟩
 case rest =>
  clear HC2
  try clear p2
  try clear c3
  try clear c3b0
  try clear c3b1
  try clear c4
  try clear c4b0
  try clear c4b1
  try clear c5
  try clear c5b0
  try clear c5b1
  try clear c6
  try clear c6b0
  try clear c6b1
  try clear p7
  try clear q7
  try clear hx7
  try clear qi7
  try clear p7
  try clear q7
  obtain ⟨kq, x23_1, rfl, HA, HJ1, ⟨mc1, rfl⟩⟩ := hcut
  cases kq with
  | zero => exact absurd HA.out (by simp [label_category.j0])
  | succ kj1 =>
   have H := HA.out
   clear HA
   simp only [label_category.j0] at H
   by_cases c8 : x23_1 = true
   ·subst c8
    have H1 : (some (0, false)) = some (r1, r2) := by rw [if_pos rfl] at H; exact H
    clear H
    have H := H1
    clear H1
    simp only [Option.some.injEq, Prod.mk.injEq] at H
    obtain ⟨rfl, rfl⟩ := H
    go_wp2
    go_ret2
    exact ⟨by first | rfl | (simp; done) | (simp [*]; done), by repeat (first | exact Drawn0.refl _ | apply Drawn0.step)⟩
   ·replace c8 := Bool.eq_false_iff.mpr c8
    subst c8
    have H1 : (label_category.l0 kj1 a0 0 (a0.size : Int) 0) = some (r1, r2) := by rw [if_neg (show ¬ (false = true) by decide)] at H; exact H
    clear H
    have H := H1
    clear H1
    have H' := aM H
    clear H
    go_wp2
    go_loopg [4, 26] kj1 (fun kq v4 v26 w' => ∃ (x4_2 : Int) (x26_2 : Int), v4 = .int .i64 x4_2 ∧ v26 = .int .i64 x26_2 ∧ Aside0 (label_category.l0 kq a0 x4_2 (a0.size : Int) x26_2 = some (r1, r2)) ∧ Aside0 (kq ≤ kj1) ∧ Drawn0 w w')
    case atStart => exact ⟨(0), (0), (by first | rfl | (simp; done) | (simp [*]; done)), (by first | rfl | (simp; done) | (simp [*]; done)), H', ⟨Nat.le_refl _⟩, by repeat (first | exact Drawn0.refl _ | apply Drawn0.step)⟩
    case round =>
     clear H'
     try clear c1
     try clear p2
     try clear c3
     try clear c3b0
     try clear c3b1
     try clear c4
     try clear c4b0
     try clear c4b1
     try clear c5
     try clear c5b0
     try clear c5b1
     try clear c6
     try clear c6b0
     try clear c6b1
     try clear p7
     try clear q7
     try clear hx7
     try clear qi7
     try clear c8
     try clear p2
     try clear p7
     try clear q7
     obtain ⟨x4_2, x26_2, rfl, rfl, HA, HK2, ⟨m2, rfl⟩⟩ := hrel
     cases gk with
     | zero => exact absurd HA.out (by simp [label_category.l0])
     | succ k2 =>
      have H := HA.out
      clear HA
      simp only [label_category.l0] at H
      by_cases c9 : x26_2 < (a0.size : Int)
      ·rw [if_pos c9] at H
       have c9b0 : decide (x26_2 < (a0.size : Int)) = true := decide_eq_true c9
       clear c9
       by_cases c10 : 0 ≤ x26_2
       ·rw [if_pos c10] at H
        have c10b0 : decide (0 ≤ x26_2) = true := decide_eq_true c10
        clear c10
        by_cases c11 : x26_2 < (a0.size : Int)
        ·rw [if_pos c11] at H
         have c11b0 : decide (x26_2 < (a0.size : Int)) = true := decide_eq_true c11
         clear c11
         by_cases c13 : (bt a0 x26_2) < 48
         ·rw [if_pos c13] at H
          have c13b0 : decide ((bt a0 x26_2) < 48) = true := decide_eq_true c13
          clear c13
          simp only [Option.some.injEq, Prod.mk.injEq] at H
          obtain ⟨rfl, rfl⟩ := H
          have p12 : 0 ≤ (x26_2 : Int) := of_decide_eq_true (by first | (with_reducible assumption) | assumption)
          have q12 : x26_2 < (a0.size : Int) := of_decide_eq_true (by first | (with_reducible assumption) | assumption)
          have hx12 := bt_at a0 x26_2
          replace p12 := eq_true p12
          replace q12 := eq_true q12
          go_wp2
          go_ret2
          exact ⟨by first | rfl | (simp; done) | (simp [*]; done), by repeat (first | exact Drawn0.refl _ | apply Drawn0.step)⟩
         ·rw [if_neg c13] at H
          have c13b0 : decide ((bt a0 x26_2) < 48) = false := decide_eq_false c13
          clear c13
          by_cases c15 : (bt a0 x26_2) > 57
          ·rw [if_pos c15] at H
           have c15b0 : decide (57 < (bt a0 x26_2)) = true := decide_eq_true c15
           clear c15
           simp only [Option.some.injEq, Prod.mk.injEq] at H
           obtain ⟨rfl, rfl⟩ := H
           have p12 : 0 ≤ (x26_2 : Int) := of_decide_eq_true (by first | (with_reducible assumption) | assumption)
           have q12 : x26_2 < (a0.size : Int) := of_decide_eq_true (by first | (with_reducible assumption) | assumption)
           have hx12 := bt_at a0 x26_2
           replace p12 := eq_true p12
           replace q12 := eq_true q12
           have p14 : 0 ≤ (x26_2 : Int) := of_decide_eq_true (by first | (with_reducible assumption) | assumption)
           have q14 : x26_2 < (a0.size : Int) := of_decide_eq_true (by first | (with_reducible assumption) | assumption)
           have hx14 := bt_at a0 x26_2
           replace p14 := eq_true p14
           replace q14 := eq_true q14
           go_wp2
           go_ret2
           exact ⟨by first | rfl | (simp; done) | (simp [*]; done), by repeat (first | exact Drawn0.refl _ | apply Drawn0.step)⟩
          ·rw [if_neg c15] at H
           have c15b0 : decide (57 < (bt a0 x26_2)) = false := decide_eq_false c15
           clear c15
           have H' := aM H
           clear H
           have p12 : 0 ≤ (x26_2 : Int) := of_decide_eq_true (by first | (with_reducible assumption) | assumption)
           have q12 : x26_2 < (a0.size : Int) := of_decide_eq_true (by first | (with_reducible assumption) | assumption)
           have hx12 := bt_at a0 x26_2
           replace p12 := eq_true p12
           replace q12 := eq_true q12
           have p14 : 0 ≤ (x26_2 : Int) := of_decide_eq_true (by first | (with_reducible assumption) | assumption)
           have q14 : x26_2 < (a0.size : Int) := of_decide_eq_true (by first | (with_reducible assumption) | assumption)
           have hx14 := bt_at a0 x26_2
           replace p14 := eq_true p14
           replace q14 := eq_true q14
           have p16 : 0 ≤ (x26_2 : Int) := of_decide_eq_true (by first | (with_reducible assumption) | assumption)
           have q16 : x26_2 < (a0.size : Int) := of_decide_eq_true (by first | (with_reducible assumption) | assumption)
           have hx16 := bt_at a0 x26_2
           replace p16 := eq_true p16
           replace q16 := eq_true q16
           go_wp2
           go_roundg k2
           case measure => have := HJ1.out; have := HK2.out; omega
           case rel => exact ⟨(wrap64 ((wrap64 (x4_2 * 10)) + (((bt a0 x26_2) - 48) % 256))), (wrap64 (x26_2 + 1)), (by first | rfl | (simp; done) | (simp [*]; done)), (by first | rfl | (simp; done) | (simp [*]; done)), H', ⟨by have := HJ1.out; have := HK2.out; omega⟩, by repeat (first | exact Drawn0.refl _ | apply Drawn0.step)⟩
        ·rw [if_neg c11] at H
         exact absurd H (by simp)
       ·rw [if_neg c10] at H
        exact absurd H (by simp)
      ·rw [if_neg c9] at H
       have c9b0 : decide (x26_2 < (a0.size : Int)) = false := decide_eq_false c9
       clear c9
       simp only [Option.some.injEq, Prod.mk.injEq] at H
       obtain ⟨rfl, rfl⟩ := H
       go_wp2
       go_ret2
       exact ⟨by first | rfl | (simp; done) | (simp [*]; done), by repeat (first | exact Drawn0.refl _ | apply Drawn0.step)⟩
end Go.Proofs.YtcbiilbmldinhaaDoor.PB
end

section
namespace Go.Proofs.YtcbiilbmldinhaaDoor.PB
open Go.RowKit Go.Proofs.YtcbiilbmldinhaaDoorW.PrintWords Go.Proofs.YtcbiilbmldinhaaDoorW.PrintLast Go.Proofs.YtcbiilbmldinhaaDoorW.PrintMore
attribute [local go_sem] max2_int min2_int max_two min_two max_three min_three max_four min_four   
set_option linter.unusedVariables false
set_option linter.unusedSimpArgs false
def label_Parse.l0 : Nat → Int → Int → List ByteArray → Int → Int → Option (Int × Int)
 | 0, _, _, _, _, _ => none
 | k + 1, x4, x5, x13, x14, x15 => if x15 < x14 then (if 0 ≤ x15 then (if x15 < (x13.length : Int) then ((label_category.f k (rdOf ByteArray.empty x13 x15)).bind fun bt270 => (if bt270.2 = true then (if bt270.1 ≤ x5 then (some (0, 5)) else (if 0 ≤ bt270.1 then (label_Parse.l0 k (Go.bits .or .u64 x4 (shl .u64 1 bt270.1)) bt270.1 x13 x14 (wrap64 (x15 + 1))) else (none))) else (some (0, 5)))) else (none)) else (none)) else (some (x4, 0))
def label_Parse.f (k : Nat) (a0 : ByteArray) : Option (Int × Int) := if a0.toList = ([45] : List UInt8) then (some (0, 0)) else ((strings_Split.f a0 (⟨#[46]⟩ : ByteArray)).bind fun t266 => (label_Parse.l0 k 0 (-1) t266 (t266.length : Int) 0))
set_option maxHeartbeats 8000000 in
set_option maxRecDepth 100000 in
theorem label_Parse.calls (k : Nat) (a0 : ByteArray) (r1 : Int) (r2 : Int) (w : World) (h : label_Parse.f k a0 = some (r1, r2)) :
  Calls Tryd.prog 47 #[.string a0] w fun e w' => e = .returned (.tuple #[.int .u64 r1, .int .i64 r2]) ∧ Below w.heap.size w w' := by
 have HB := aM (Below.refl w.heap.size w)
 have H : (if a0.toList = ([45] : List UInt8) then (some (0, 0)) else ((strings_Split.f a0 (⟨#[46]⟩ : ByteArray)).bind fun t266 => (label_Parse.l0 k 0 (-1) t266 (t266.length : Int) 0))) = some (r1, r2) := h
 clear h
 by_cases c2 : a0.toList = ([45] : List UInt8)
 ·rw [if_pos c2] at H
  have c2b0 : (a0.toList == ([45] : List UInt8)) = true := beq_iff_eq.mpr c2
  have c2b1 : (a0.toList != ([45] : List UInt8)) = false := bne_eq_false_iff_eq.mpr c2
  clear c2
  simp only [Option.some.injEq, Prod.mk.injEq] at H
  obtain ⟨rfl, rfl⟩ := H
  go_enter Tryd.func47, Tryd.ntmps47
  go_wp2
  go_ret2
  exact ⟨by first | rfl | (simp [errW_none, errW_some] <;> rfl) | (simp [*, errW_none, errW_some] <;> rfl), by exact ey HB.out⟩
 ·rw [if_neg c2] at H
  have c2b0 : (a0.toList == ([45] : List UInt8)) = false := beq_eq_false_iff_ne.mpr c2
  have c2b1 : (a0.toList != ([45] : List UInt8)) = true := bne_iff_ne.mpr c2
  replace H := Option.bind_eq_some_iff.mp H
  obtain ⟨t266, A30, H⟩ := H
  replace H : (label_Parse.l0 k 0 (-1) t266 (t266.length : Int) 0) = some (r1, r2) := H
  have A3 := aM A30
  clear A30
  have H' := aM H
  clear H
  go_enter Tryd.func47, Tryd.ntmps47
  go_wp2_with (first | ((with_reducible refine gate_callee (f := 45) rfl ?_); refine goesL_ (some 13) rfl rfl Tryd.func45 (by kernel_rfl) rfl #[.string a0, .string (⟨#[46]⟩ : ByteArray)] rfl (by (try simp only [mT, mC, mN]); first | done | rfl | (simp only [lD, lT]; rfl)) ?_; (with_reducible refine (strings_Split.calls a0 (⟨#[46]⟩ : ByteArray) t266 _ A3.out).mono ?_); rintro e w4 ⟨v267, rfl, ho0, hb⟩; refine ⟨_, rfl, ?_⟩; have n0_ := aM (rL ho0 (bZ (ey HB.out))); have n1_ := aM (bP (ey HB.out) hb); clear HB; have HO268 := n0_; have HB := n1_; clear n0_ n1_; (try clear hb); (try clear hb2); (try clear hk); (try clear hi); (try clear ho0); obtain ⟨Ao5, co5, eo5⟩ := Kd.R_slice HO268.out; subst eo5))
  go_loopg [4, 5, 15] k (fun kq v4 v5 v15 w' => ∃ (x4_1 : Int) (x5_1 : Int) (x15_1 : Int), v4 = .int .u64 x4_1 ∧ v5 = .int .i64 x5_1 ∧ v15 = .int .i64 x15_1 ∧ Aside0 (label_Parse.l0 kq x4_1 x5_1 t266 (t266.length : Int) x15_1 = some (r1, r2)) ∧ Aside0 (kq ≤ k) ∧ Aside0 (Kd.R Kd.string 9 w' w.heap.size (fun _ => True) (.slice Ao5 t266.length co5) t266) ∧ Aside0 (Below w.heap.size w w'))
  case atStart => exact ⟨(0), ((-1)), (0), (by first | rfl | (simp; done) | (simp [*]; done)), (by first | rfl | (simp; done) | (simp [*]; done)), (by first | rfl | (simp; done) | (simp [*]; done)), H', ⟨Nat.le_refl _⟩, ⟨by exact ry HO268.out⟩, ⟨by exact ey HB.out⟩⟩
  case round =>
   clear H'
   try clear c2
   try clear c2b0
   try clear c2b1
   try clear p2
   try clear c4
   obtain ⟨x4_1, x5_1, x15_1, rfl, rfl, rfl, HA, HK1, HO_13, HB⟩ := hrel
   cases gk with
   | zero => exact absurd HA.out (by simp [label_Parse.l0])
   | succ k1 =>
    have H := HA.out
    clear HA
    simp only [label_Parse.l0] at H
    by_cases c6 : x15_1 < (t266.length : Int)
    ·rw [if_pos c6] at H
     have c6b0 : decide (x15_1 < (t266.length : Int)) = true := decide_eq_true c6
     clear c6
     by_cases c7 : 0 ≤ x15_1
     ·rw [if_pos c7] at H
      have c7b0 : decide (0 ≤ x15_1) = true := decide_eq_true c7
      clear c7
      by_cases c8 : x15_1 < (t266.length : Int)
      ·rw [if_pos c8] at H
       have c8b0 : decide (x15_1 < (t266.length : Int)) = true := decide_eq_true c8
       clear c8
       replace H := Option.bind_eq_some_iff.mp H
       obtain ⟨⟨t270, t271⟩, A90, H⟩ := H
       replace H : (if t271 = true then (if t270 ≤ x5_1 then (some (0, 5)) else (if 0 ≤ t270 then (label_Parse.l0 k1 (Go.bits .or .u64 x4_1 (shl .u64 1 t270)) t270 t266 (t266.length : Int) (wrap64 (x15_1 + 1))) else (none))) else (some (0, 5))) = some (r1, r2) := H
       have A9 := aM A90
       clear A90
       by_cases c10 : t271 = true
       ·subst c10
        have H1 : (if t270 ≤ x5_1 then (some (0, 5)) else (if 0 ≤ t270 then (label_Parse.l0 k1 (Go.bits .or .u64 x4_1 (shl .u64 1 t270)) t270 t266 (t266.length : Int) (wrap64 (x15_1 + 1))) else (none))) = some (r1, r2) := by rw [if_pos rfl] at H; exact H
        clear H
        have H := H1
        clear H1
        by_cases c11 : t270 ≤ x5_1
        ·rw [if_pos c11] at H
         have c11b0 : decide (t270 ≤ x5_1) = true := decide_eq_true c11
         clear c11
         simp only [Option.some.injEq, Prod.mk.injEq] at H
         obtain ⟨rfl, rfl⟩ := H
         have p269 : 0 ≤ (x15_1 : Int) := of_decide_eq_true (by first | (with_reducible assumption) | assumption)
         have q269 : x15_1 < (t266.length : Int) := of_decide_eq_true (by first | (with_reducible assumption) | assumption)
         obtain ⟨ad269, e269, hx269_0⟩ := Kd.at_string (rR HO_13.out).2.2 x15_1 p269 q269
         cases e269
         replace p269 := eq_true p269
         replace q269 := eq_true q269
         go_wp2_with (first | ((with_reducible refine gate_callee (f := 62) rfl ?_); refine goesL_ (some 21) rfl rfl Tryd.func62 (by kernel_rfl) rfl #[.string (rdOf ByteArray.empty t266 x15_1)] rfl (by (try simp only [mT, mC, mN]); first | done | rfl | (simp only [lD, lT]; rfl)) ?_; (with_reducible refine (label_category.calls k1 (rdOf ByteArray.empty t266 x15_1) t270 true _ A9.out).mono ?_); rintro e w' ⟨rfl, ⟨nd, rfl⟩⟩; refine ⟨_, rfl, ?_⟩))
         go_ret2
         exact ⟨by first | rfl | (simp [errW_none, errW_some] <;> rfl) | (simp [*, errW_none, errW_some] <;> rfl), by exact ey HB.out⟩
        ·rw [if_neg c11] at H
         have c11b0 : decide (t270 ≤ x5_1) = false := decide_eq_false c11
         clear c11
         by_cases c12 : 0 ≤ t270
         ·rw [if_pos c12] at H
          have c12b0 := eq_true c12
          have c12b1 : decide (0 ≤ t270) = true := decide_eq_true c12
          clear c12
          obtain ⟨ji13, hji13⟩ : ∃ j_ : Int, (shl .u64 1 t270) = j_ := ⟨_, rfl⟩
          replace H : (label_Parse.l0 k1 (Go.bits .or .u64 x4_1 (ji13)) t270 t266 (t266.length : Int) (wrap64 (x15_1 + 1))) = some (r1, r2) := by first | (rw [hji13] at H; exact H) | (simp only [hji13] at H ⊢; exact H)
          (try rw [hji13] at A9)
          have hji13_ : (IntKind.u64.wrap (1 * 2 ^ min t270.toNat 64)) = ji13 := hji13
          have hji13z : t270 ≤ 64 → (IntKind.u64.wrap (1 * 2 ^ t270.toNat)) = ji13 := shl_small hji13
          have hji13u : (IntKind.u64.wrap (2 ^ min t270.toNat 64)) = ji13 := by have h_ := hji13_; rw [Int.one_mul] at h_; exact h_
          have hji13v : t270 ≤ 64 → (IntKind.u64.wrap (2 ^ t270.toNat)) = ji13 := fun hle_ => by have h_ := hji13z hle_; rw [Int.one_mul] at h_; exact h_
          have H' := aM H
          clear H
          have p269 : 0 ≤ (x15_1 : Int) := of_decide_eq_true (by first | (with_reducible assumption) | assumption)
          have q269 : x15_1 < (t266.length : Int) := of_decide_eq_true (by first | (with_reducible assumption) | assumption)
          obtain ⟨ad269, e269, hx269_0⟩ := Kd.at_string (rR HO_13.out).2.2 x15_1 p269 q269
          cases e269
          replace p269 := eq_true p269
          replace q269 := eq_true q269
          go_wp2_with (first | ((with_reducible refine gate_callee (f := 62) rfl ?_); refine goesL_ (some 21) rfl rfl Tryd.func62 (by kernel_rfl) rfl #[.string (rdOf ByteArray.empty t266 x15_1)] rfl (by (try simp only [mT, mC, mN]); first | done | rfl | (simp only [lD, lT]; rfl)) ?_; (with_reducible refine (label_category.calls k1 (rdOf ByteArray.empty t266 x15_1) t270 true _ A9.out).mono ?_); rintro e w' ⟨rfl, ⟨nd, rfl⟩⟩; refine ⟨_, rfl, ?_⟩))
          go_roundg k1
          case measure => have := HK1.out; omega
          case rel => exact ⟨(Go.bits .or .u64 x4_1 (ji13)), (t270), (wrap64 (x15_1 + 1)), (by first | rfl | (simp; done) | (simp only [← hji13] <;> (first | rfl | simp)) | (simp [*]; done)), (by first | rfl | (simp; done) | (simp [*]; done)), (by first | rfl | (simp; done) | (simp [*]; done)), H', ⟨by have := HK1.out; omega⟩, ⟨by exact ry HO_13.out⟩, ⟨by exact ey HB.out⟩⟩
         ·rw [if_neg c12] at H
          exact absurd H (by simp)
       ·replace c10 := Bool.eq_false_iff.mpr c10
        subst c10
        have H1 : (some (0, 5)) = some (r1, r2) := by rw [if_neg (show ¬ (false = true) by decide)] at H; exact H
        clear H
        have H := H1
        clear H1
        simp only [Option.some.injEq, Prod.mk.injEq] at H
        obtain ⟨rfl, rfl⟩ := H
        have p269 : 0 ≤ (x15_1 : Int) := of_decide_eq_true (by first | (with_reducible assumption) | assumption)
        have q269 : x15_1 < (t266.length : Int) := of_decide_eq_true (by first | (with_reducible assumption) | assumption)
        obtain ⟨ad269, e269, hx269_0⟩ := Kd.at_string (rR HO_13.out).2.2 x15_1 p269 q269
        cases e269
        replace p269 := eq_true p269
        replace q269 := eq_true q269
        go_wp2_with (first | ((with_reducible refine gate_callee (f := 62) rfl ?_); refine goesL_ (some 21) rfl rfl Tryd.func62 (by kernel_rfl) rfl #[.string (rdOf ByteArray.empty t266 x15_1)] rfl (by (try simp only [mT, mC, mN]); first | done | rfl | (simp only [lD, lT]; rfl)) ?_; (with_reducible refine (label_category.calls k1 (rdOf ByteArray.empty t266 x15_1) t270 false _ A9.out).mono ?_); rintro e w' ⟨rfl, ⟨nd, rfl⟩⟩; refine ⟨_, rfl, ?_⟩))
        go_ret2
        exact ⟨by first | rfl | (simp [errW_none, errW_some] <;> rfl) | (simp [*, errW_none, errW_some] <;> rfl), by exact ey HB.out⟩
      ·rw [if_neg c8] at H
       exact absurd H (by simp)
     ·rw [if_neg c7] at H
      exact absurd H (by simp)
    ·rw [if_neg c6] at H
     have c6b0 : decide (x15_1 < (t266.length : Int)) = false := decide_eq_false c6
     clear c6
     simp only [Option.some.injEq, Prod.mk.injEq] at H
     obtain ⟨rfl, rfl⟩ := H
     go_wp2
     go_ret2
     exact ⟨by first | rfl | (simp [errW_none, errW_some] <;> rfl) | (simp [*, errW_none, errW_some] <;> rfl), by exact ey HB.out⟩
end Go.Proofs.YtcbiilbmldinhaaDoor.PB
end

section
namespace Go.Proofs.YtcbiilbmldinhaaDoor.PB
open Go.RowKit Go.Proofs.YtcbiilbmldinhaaDoorW.PrintWords Go.Proofs.YtcbiilbmldinhaaDoorW.PrintLast Go.Proofs.YtcbiilbmldinhaaDoorW.PrintMore
set_option maxRecDepth 100000
set_option linter.unusedVariables false
set_option linter.unusedSimpArgs false
def wordB (a : Int) : ByteArray := if a = 1 then ⟨#[103, 114, 97, 110, 116]⟩ else if a = 2 then ⟨#[114, 101, 118, 111, 107, 101]⟩ else if a = 3 then ⟨#[114, 101, 108, 101, 97, 115, 101]⟩ else if a = 4 then ⟨#[100, 101, 110, 121]⟩ else ⟨#[]⟩
theorem wordB_eq (a : Int) : audit_word.f a = some (wordB a) := by
  unfold audit_word.f wordB
  repeat' split
  all_goals first | rfl | contradiction
def kindUpto (p : ByteArray) : Nat → Int
  | 0 => 0
  | n + 1 => if (wordB ((n : Int) + 1)).toList = p.toList then ((n : Int) + 1) else kindUpto p n
theorem p5 {p : List ByteArray} (h : p.length = 5) : ∃ x0 x1 x2 x3 x4, p = [x0, x1, x2, x3, x4] := by
  match p, h with
  | [x0, x1, x2, x3, x4], _ => exact ⟨x0, x1, x2, x3, x4, rfl⟩
abbrev zR : Array Value := #[.int .u64 0, .int .i64 0, .int .i64 0, .int .i64 0, .int .i64 0]
set_option maxHeartbeats 8000000 in
theorem aparse_ok (k : Nat) (s : ByteArray) (w : World) (hm : NumOk w) (hs : s.size ≤ 4096) (x0 x1 x2 x3 x4 : ByteArray) (L z e1 : Int) (t : ByteArray)
    (hp : strings_Split.f s ⟨#[32]⟩ = some [x0, x1, x2, x3, x4]) (hL : label_Parse.f k x4 = some (L, z)) (hP : audit_Print2.f k L (kindUpto x0 4) (atoiV x1) (atoiV x2) (atoiV x3) = some (t, e1))
    (h1 : x1.size ≤ 4096) (h2 : x2.size ≤ 4096) (h3 : x3.size ≤ 4096) (q : Bool) (hq : (e1 = 0 ∧ t.toList = s.toList) ↔ q = true) :
    Calls Tryd.prog 28 #[.string s] w fun e w' => e = .returned (.tuple #[if q then .agg #[.int .u64 L, .int .i64 (kindUpto x0 4), .int .i64 (atoiV x1), .int .i64 (atoiV x2), .int .i64 (atoiV x3)] else .agg zR, .int .i64 (if q then 0 else 5)]) ∧ Below w.heap.size w w' := by
  have hu36 := Tryd.underlying36
  have HM := aM hm
  have HP := aM hp
  have HQ := aM hq
  have HPR := aM hP
  have HLB := aM hL
  clear hm hp hq hP hL
  go_enter Tryd.func28, Tryd.ntmps28
  go_wp2_with (first
    | ((with_reducible refine gate_dst (N := 2) rfl ?_); refine box_event ?hg (N := 2) ?hd (cs := zR) (t := 36) ?hr ?_; (case hd => rfl); (case hg => rfl); (case hr => first | (go_simp; done) | (go_simp; rfl)); intro g2 hg w2 hbox hb; have HB2 := aM hb; have HX2 := aM hbox; have GE2 := aM (Nat.le_of_eq hg.symm); clear hb hbox hg)
    | ((with_reducible refine gate_callee (f := 45) rfl ?_); refine goesL_ (some 12) rfl rfl Tryd.func45 (by kernel_rfl) rfl #[.string s, .string ⟨#[32]⟩] rfl (by (try simp only [List.map_toArray, List.map_cons, List.map_nil]); first | done | rfl) ?_; (with_reducible refine (strings_Split.calls s ⟨#[32]⟩ _ _ HP.out).mono ?_); rintro e w3 ⟨v3, rfl, ho, hb⟩; refine ⟨_, rfl, ?_⟩; obtain ⟨gA, c, rfl, -, -, -⟩ := Kd.R_form ho (by simp); have HO3 := aM (rL ho HB2.out.size); have HB3 := aM (bP HB2.out hb); have HX3 := aM (bB HX2.out hb); clear ho hb)
    | ((with_reducible refine gate_dst (N := 5) rfl ?_); refine box_event ?hg (N := 5) ?hd (cs := zR) (t := 36) ?hr ?_; (case hd => rfl); (case hg => rfl); (case hr => first | (go_simp; done) | (go_simp; rfl)); intro g5 hg w5 hbox hb; have HB5 := aM (bP HB3.out hb); have HX5 := aM hbox; have HY5 := aM (bB HX3.out hb); have HO5 := aM (Kd.R_below HO3.out hb); have NE := aM (show g5 ≠ g2 from fun e => by have := blk_lt HX3.out; omega); have GE5 := aM (Nat.le_trans HB3.out.size (Nat.le_of_eq hg.symm)); clear hb hbox hg)
    )
  go_loopg [6] 4 (fun kq v6 w' => ∃ i : Nat, v6 = .int .i64 ((i : Int) + 1) ∧ Aside0 (kq + i = 4) ∧ Aside0 (w'.heap[g5]? = some (.cells #[.int .u64 0, .int .i64 (kindUpto x0 i), .int .i64 0, .int .i64 0, .int .i64 0] 36 (0, 0))) ∧ Aside0 (w'.heap[g2]? = some (.cells zR 36 (0, 0))) ∧ Aside0 (Kd.R Kd.string 9 w' w.heap.size (fun _ => True) (.slice (some ⟨gA, 0, none⟩) 5 c) [x0, x1, x2, x3, x4]) ∧ Aside0 (Below w.heap.size w w'))
  case atStart => exact ⟨0, rfl, ⟨rfl⟩, HX5, HY5, HO5, HB5⟩
  case round =>
    clear HX5 HY5 HO5 HB5
    obtain ⟨i, rfl, HI, HX, HY, HO, HB⟩ := hrel
    have hi := HI.out
    by_cases c1 : i < 4
    · cases gk with
      | zero => exact absurd hi (by omega)
      | succ k1 =>
        have c1b : decide ((i : Int) + 1 ≤ 4) = true := decide_eq_true (by omega)
        have p1 : ((i : Int) + 1 ≤ 4) = True := eq_true (by omega)
        have hx : ∀ {W : World}, Kd.R Kd.string 9 W w.heap.size (fun _ => True) (.slice (some ⟨gA, 0, none⟩) 5 c) [x0, x1, x2, x3, x4] → W.cell? ⟨gA, 0, none⟩ = some (.string x0) := fun h => (Kd.R_cell ⟨#[]⟩ h 0 (by omega) (by simp)).1
        go_wp2
        have HX1 := aM (blk_drew HX.out)
        have HY1 := aM (blk_drew HY.out)
        have HO1 := aM (Kd.R_drew HO.out)
        have HB1 := aM (below_drew1 HB.out)
        refine start_ (n := 6) (S := fun w' => w'.cell? ⟨gA, 0, none⟩ = some (.string x0)) (ds := []) #[tF,tF,tF,tF,tF,tF] (by kernel_rfl) rfl rfl (hx HO1.out) (fun hHeld => ?_)
        generalize World.drew _ = w6 at HX1 HY1 HO1 HB1 hHeld ⊢
        clear HX HY HO HB
        refine sv 0 21 #[tT,tF,tF,tF,tF,tF] ?_
        refine sv 2 23 #[tT,tF,tT,tF,tF,tF] ?_
        refine sv 3 24 #[tT,tF,tT,tT,tF,tF] ?_
        refine st 4 25 #[tT,tF,tT,tT,tT,tF] hHeld ?_
        refine one_ (i := 1) (N := some 22) #[tT,tT,tT,tT,tT,tF] rfl rfl (by kernel_rfl) (by decide) (fun K hK => ?_)
        refine goes_ Tryd.func39 (by kernel_rfl) rfl #[.int .i64 ((i : Int) + 1)] (by rfl) rfl rfl (by (try simp only [List.map_toArray, List.map_cons, List.map_nil]); first | done | rfl) ?_
        refine (audit_word.calls _ _ _ (wordB_eq _)).mono ?_
        rintro e w7 ⟨rfl, nd, rfl⟩
        refine ⟨_, rfl, ?_⟩
        have HX2 := aM (blk_drewN HX1.out nd)
        have HY2 := aM (blk_drewN HY1.out nd)
        have HO2 := aM (Kd.R_drewN HO1.out nd)
        have HB2 := aM (pw_below_drewN HB1.out nd)
        refine hK.out _ _ (hx HO2.out) (fun hHeld => ?_)
        clear hK K HX1 HY1 HO1 HB1
        generalize World.drewN _ _ = w7 at HX2 HY2 HO2 HB2 hHeld ⊢
        refine norm_ (a' := ?_) ?_ ?_
        rotate_left
        · show Act.put _ (some 22) _ = _
          simp only [Act.put, List.setIfInBounds_toArray, List.set_cons_zero, List.set_cons_succ, i64_w, i32_w]
          rfl
        have hc1 := (bC HX2.out 1).trans (rfl : _ = some (Value.int .i64 (kindUpto x0 i)))
        have hf1 := bF HX2.out 1
        have hk : ∀ b : Bool, ((wordB ((i : Int) + 1)).toList == x0.toList) = b → kindUpto x0 (i + 1) = if b then ((i : Int) + 1) else kindUpto x0 i := fun b hb => by
          show (if (wordB ((i : Int) + 1)).toList = x0.toList then ((i : Int) + 1) else kindUpto x0 i) = _
          cases b
          · rw [if_neg (beq_eq_false_iff_ne.1 hb), if_neg (by decide)]
          · rw [if_pos (beq_iff_eq.1 hb), if_pos rfl]
        have HK := aM hk
        clear hk
        have hwr : wrap64 (((i : Int) + 1) + 1) = ((i + 1 : Nat) : Int) + 1 := by unfold wrap64; omega
        cases he : (wordB ((i : Int) + 1)).toList == x0.toList
        · refine sv 5 26 #[tT,tT,tT,tT,tT,tT] ?_
          refine done_ (by kernel_rfl) ?_
          go_wp2
          go_roundg k1
          case measure => have := HI.out; omega
          case rel => exact ⟨i + 1, rfl, ⟨by have := HI.out; omega⟩, ⟨by rw [HK.out false he]; exact HX2.out⟩, HY2, HO2, HB2⟩
        · refine sv 5 26 #[tT,tT,tT,tT,tT,tT] ?_
          refine done_ (by kernel_rfl) ?_
          have HX3 := aM (bU (cs' := #[.int .u64 0, .int .i64 ((i : Int) + 1), .int .i64 0, .int .i64 0, .int .i64 0]) HX2.out 1 (.int .i64 ((i : Int) + 1)) rfl)
          go_wp2
          go_roundg k1
          case measure => have := HI.out; omega
          case rel => exact ⟨i + 1, rfl, ⟨by have := HI.out; omega⟩, ⟨by rw [HK.out true he]; exact HX3.out⟩, ⟨bR HY2.out (fun e => NE.out e.symm) _⟩, ⟨Kd.R_set HO2.out HX2.out (by decide) _ _⟩, ⟨HB2.out.setCell GE5.out _⟩⟩
    · obtain rfl : i = 4 := by omega
      have c1b : decide (((4 : Nat) : Int) + 1 ≤ 4) = false := decide_eq_false (by omega)
      have hx : ∀ {W : World} (i : Nat) (h : i < 5), Kd.R Kd.string 9 W w.heap.size (fun _ => True) (.slice (some ⟨gA, 0, none⟩) 5 c) [x0, x1, x2, x3, x4] → W.cell? ⟨gA, i, none⟩ = some (.string ([x0, x1, x2, x3, x4].getD i ⟨#[]⟩)) := fun i hi h => by
        have h2 := (Kd.R_cell ⟨#[]⟩ h (i : Int) (by omega) (by simp; omega)).1
        rw [rdOf, Int.toNat_natCast] at h2
        exact h2
      have HXX := aM @hx
      clear hx
      go_wp2
      have HXA := aM (blk_alloc HX.out (.cells #[.pointer (some ⟨g5, 2, none⟩), .pointer (some ⟨g5, 3, none⟩), .pointer (some ⟨g5, 4, none⟩)] 79))
      have HYA := aM (blk_alloc HY.out (.cells #[.pointer (some ⟨g5, 2, none⟩), .pointer (some ⟨g5, 3, none⟩), .pointer (some ⟨g5, 4, none⟩)] 79))
      have HOA := aM (Kd.R_alloc HO.out (.cells #[.pointer (some ⟨g5, 2, none⟩), .pointer (some ⟨g5, 3, none⟩), .pointer (some ⟨g5, 4, none⟩)] 79))
      have HBA := aM (below_alloc HB.out (.cells #[.pointer (some ⟨g5, 2, none⟩), .pointer (some ⟨g5, 3, none⟩), .pointer (some ⟨g5, 4, none⟩)] 79))
      have HPA := aM (blk_new wr (.cells #[.pointer (some ⟨g5, 2, none⟩), .pointer (some ⟨g5, 3, none⟩), .pointer (some ⟨g5, 4, none⟩)] 79))
      have NP := aM (show wr.heap.size ≠ g5 from fun e => by have := blk_lt HX.out; omega)
      clear HX HY HO HB
      generalize World.alloc wr _ = w8 at HXA HYA HOA HBA HPA ⊢
      generalize wr.heap.size = gp at NP HPA ⊢
      go_loopg [34] 3 (fun kq v34 w' => ∃ i : Nat, v34 = .int .i64 (i : Int) ∧ Aside0 (kq + i = 3) ∧ Aside0 (w'.heap[g5]? = some (.cells #[.int .u64 0, .int .i64 (kindUpto x0 4), .int .i64 (if 0 < i then atoiV x1 else 0), .int .i64 (if 1 < i then atoiV x2 else 0), .int .i64 (if 2 < i then atoiV x3 else 0)] 36 (0, 0))) ∧ Aside0 (w'.heap[g2]? = some (.cells zR 36 (0, 0))) ∧ Aside0 (Kd.R Kd.string 9 w' w.heap.size (fun _ => True) (.slice (some ⟨gA, 0, none⟩) 5 c) [x0, x1, x2, x3, x4]) ∧ Aside0 (w'.heap[gp]? = some (.cells #[.pointer (some ⟨g5, 2, none⟩), .pointer (some ⟨g5, 3, none⟩), .pointer (some ⟨g5, 4, none⟩)] 79 (0, 0))) ∧ Aside0 (Below w.heap.size w w'))
      case atStart => exact ⟨0, rfl, ⟨rfl⟩, HXA, HYA, HOA, HPA, HBA⟩
      case round =>
        clear HXA HYA HOA HBA HPA
        obtain ⟨i, rfl, HI, HX, HY, HO, HPP, HB⟩ := hrel
        have hi := HI.out
        have hi4 : i = 0 ∨ i = 1 ∨ i = 2 ∨ i = 3 := by omega
        rcases hi4 with rfl | rfl | rfl | rfl
        · cases gk with
          | zero => exact absurd hi (by omega)
          | succ k1 =>
            have hp0 : wr.cell? ⟨gp, 0, none⟩ = some (.pointer (some ⟨g5, 2, none⟩)) := (bC HPP.out 0).trans rfl
            have hs0 : wr.cell? ⟨gA, 1, none⟩ = some (.string x1) := HXX.out 1 (by omega) HO.out
            go_wp2_with (first
              | ((with_reducible refine gate_callee (f := 46) rfl ?_); refine goesL_ (some 46) rfl rfl Tryd.func46 (by kernel_rfl) rfl #[.string x1] rfl (by (try simp only [List.map_toArray, List.map_cons, List.map_nil]); first | done | rfl) ?_; (with_reducible refine (atoi_ok x1 _ (HM.out.below HB.out) h1).mono ?_); rintro e w9 ⟨v9, rfl, hb⟩; refine ⟨_, rfl, ?_⟩; have HX9 := aM (bB HX.out hb); have HY9 := aM (bB HY.out hb); have HO9 := aM (Kd.R_below HO.out hb); have HP9 := aM (bB HPP.out hb); have HB9 := aM (bP HB.out hb); clear hb; have hc2 : w9.cell? ⟨g5, 2, none⟩ = some (.int .i64 0) := (bC HX9.out 2).trans (by rfl); have hf2 := bF HX9.out 2)
              )
            have HX10 := aM (bU (cs' := #[.int .u64 0, .int .i64 (kindUpto x0 4), .int .i64 (if 0 < 1 then atoiV x1 else 0), .int .i64 (if 1 < 1 then atoiV x2 else 0), .int .i64 (if 2 < 1 then atoiV x3 else 0)]) HX9.out 2 (.int .i64 (atoiV x1)) (by rfl))
            go_roundg k1
            case measure => have := HI.out; omega
            case rel => exact ⟨1, rfl, ⟨by have := HI.out; omega⟩, HX10, ⟨bR HY9.out (fun e => NE.out e.symm) _⟩, ⟨Kd.R_set HO9.out HX9.out (by decide) _ _⟩, ⟨bR HP9.out NP.out _⟩, ⟨HB9.out.setCell GE5.out _⟩⟩
        · cases gk with
          | zero => exact absurd hi (by omega)
          | succ k1 =>
            have hp0 : wr.cell? ⟨gp, 1, none⟩ = some (.pointer (some ⟨g5, 3, none⟩)) := (bC HPP.out 1).trans rfl
            have hs0 : wr.cell? ⟨gA, 2, none⟩ = some (.string x2) := HXX.out 2 (by omega) HO.out
            go_wp2_with (first
              | ((with_reducible refine gate_callee (f := 46) rfl ?_); refine goesL_ (some 46) rfl rfl Tryd.func46 (by kernel_rfl) rfl #[.string x2] rfl (by (try simp only [List.map_toArray, List.map_cons, List.map_nil]); first | done | rfl) ?_; (with_reducible refine (atoi_ok x2 _ (HM.out.below HB.out) h2).mono ?_); rintro e w9 ⟨v9, rfl, hb⟩; refine ⟨_, rfl, ?_⟩; have HX9 := aM (bB HX.out hb); have HY9 := aM (bB HY.out hb); have HO9 := aM (Kd.R_below HO.out hb); have HP9 := aM (bB HPP.out hb); have HB9 := aM (bP HB.out hb); clear hb; have hc2 : w9.cell? ⟨g5, 3, none⟩ = some (.int .i64 0) := (bC HX9.out 3).trans (by rfl); have hf2 := bF HX9.out 3)
              )
            have HX10 := aM (bU (cs' := #[.int .u64 0, .int .i64 (kindUpto x0 4), .int .i64 (if 0 < 2 then atoiV x1 else 0), .int .i64 (if 1 < 2 then atoiV x2 else 0), .int .i64 (if 2 < 2 then atoiV x3 else 0)]) HX9.out 3 (.int .i64 (atoiV x2)) (by rfl))
            go_roundg k1
            case measure => have := HI.out; omega
            case rel => exact ⟨2, rfl, ⟨by have := HI.out; omega⟩, HX10, ⟨bR HY9.out (fun e => NE.out e.symm) _⟩, ⟨Kd.R_set HO9.out HX9.out (by decide) _ _⟩, ⟨bR HP9.out NP.out _⟩, ⟨HB9.out.setCell GE5.out _⟩⟩
        · cases gk with
          | zero => exact absurd hi (by omega)
          | succ k1 =>
            have hp0 : wr.cell? ⟨gp, 2, none⟩ = some (.pointer (some ⟨g5, 4, none⟩)) := (bC HPP.out 2).trans rfl
            have hs0 : wr.cell? ⟨gA, 3, none⟩ = some (.string x3) := HXX.out 3 (by omega) HO.out
            go_wp2_with (first
              | ((with_reducible refine gate_callee (f := 46) rfl ?_); refine goesL_ (some 46) rfl rfl Tryd.func46 (by kernel_rfl) rfl #[.string x3] rfl (by (try simp only [List.map_toArray, List.map_cons, List.map_nil]); first | done | rfl) ?_; (with_reducible refine (atoi_ok x3 _ (HM.out.below HB.out) h3).mono ?_); rintro e w9 ⟨v9, rfl, hb⟩; refine ⟨_, rfl, ?_⟩; have HX9 := aM (bB HX.out hb); have HY9 := aM (bB HY.out hb); have HO9 := aM (Kd.R_below HO.out hb); have HP9 := aM (bB HPP.out hb); have HB9 := aM (bP HB.out hb); clear hb; have hc2 : w9.cell? ⟨g5, 4, none⟩ = some (.int .i64 0) := (bC HX9.out 4).trans (by rfl); have hf2 := bF HX9.out 4)
              )
            have HX10 := aM (bU (cs' := #[.int .u64 0, .int .i64 (kindUpto x0 4), .int .i64 (if 0 < 3 then atoiV x1 else 0), .int .i64 (if 1 < 3 then atoiV x2 else 0), .int .i64 (if 2 < 3 then atoiV x3 else 0)]) HX9.out 4 (.int .i64 (atoiV x3)) (by rfl))
            go_roundg k1
            case measure => have := HI.out; omega
            case rel => exact ⟨3, rfl, ⟨by have := HI.out; omega⟩, HX10, ⟨bR HY9.out (fun e => NE.out e.symm) _⟩, ⟨Kd.R_set HO9.out HX9.out (by decide) _ _⟩, ⟨bR HP9.out NP.out _⟩, ⟨HB9.out.setCell GE5.out _⟩⟩
        · have hs4 : wr.cell? ⟨gA, 4, none⟩ = some (.string x4) := HXX.out 4 (by omega) HO.out
          have HX := aM (show wr.heap[g5]? = some (.cells #[.int .u64 0, .int .i64 (kindUpto x0 4), .int .i64 (atoiV x1), .int .i64 (atoiV x2), .int .i64 (atoiV x3)] 36 (0, 0)) from HX.out)
          by_cases he : e1 = 0
          · subst he
            by_cases ht : t.toList = s.toList
            · obtain rfl : q = true := HQ.out.1 ⟨rfl, ht⟩
              have ht1 : (t.toList == s.toList) = true := beq_iff_eq.mpr ht
              have ht2 : (t.toList != s.toList) = false := bne_eq_false_iff_eq.mpr ht
              clear ht
              go_wp2_with (first
                | ((with_reducible refine gate_callee (f := 47) rfl ?_); refine goesL_ (some 55) rfl rfl Tryd.func47 (by kernel_rfl) rfl #[.string x4] rfl (by (try simp only [List.map_toArray, List.map_cons, List.map_nil]); first | done | rfl) ?_; (with_reducible refine (label_Parse.calls k x4 L z _ HLB.out).mono ?_); rintro e w9 ⟨rfl, hb⟩; refine ⟨_, rfl, ?_⟩; have HX9 := aM (bB HX.out hb); have HY9 := aM (bB HY.out hb); have HB9 := aM (bP HB.out hb); clear hb; have hc0 : w9.cell? ⟨g5, 0, none⟩ = some (.int .u64 0) := (bC HX9.out 0).trans (by rfl); have hc1 : w9.cell? ⟨g5, 1, none⟩ = some (.int .i64 (kindUpto x0 4)) := (bC HX9.out 1).trans (by rfl); have hc2 : w9.cell? ⟨g5, 2, none⟩ = some (.int .i64 (atoiV x1)) := (bC HX9.out 2).trans (by rfl); have hc3 : w9.cell? ⟨g5, 3, none⟩ = some (.int .i64 (atoiV x2)) := (bC HX9.out 3).trans (by rfl); have hc4 : w9.cell? ⟨g5, 4, none⟩ = some (.int .i64 (atoiV x3)) := (bC HX9.out 4).trans (by rfl); have hf0 := bF HX9.out 0)
                | ((with_reducible refine gate_callee (f := 26) rfl ?_); refine goesL_ (some 61) rfl rfl Tryd.func26 (by kernel_rfl) rfl #[.agg #[.int .u64 L, .int .i64 (kindUpto x0 4), .int .i64 (atoiV x1), .int .i64 (atoiV x2), .int .i64 (atoiV x3)]] rfl (by (try simp only [List.map_toArray, List.map_cons, List.map_nil]); first | done | rfl) ?_; have HX10 := aM (bU (cs' := #[.int .u64 L, .int .i64 (kindUpto x0 4), .int .i64 (atoiV x1), .int .i64 (atoiV x2), .int .i64 (atoiV x3)]) HX9.out 0 (.int .u64 L) (by rfl)); have HY10 := aM (bR (p := ⟨g5, 0, none⟩) HY9.out (fun e => NE.out e.symm) (.int .u64 L)); have HB10 := aM (HB9.out.setCell (p := ⟨g5, 0, none⟩) GE5.out (.int .u64 L)); (with_reducible refine (audit_Print2.calls k _ _ _ _ _ t _ _ (HM.out.below HB10.out) HPR.out).mono ?_); rintro e w10 ⟨rfl, hb⟩; refine ⟨_, rfl, ?_⟩; have HX11 := aM (bB HX10.out hb); have HY11 := aM (bB HY10.out hb); have HB11 := aM (bP HB10.out hb); clear hb; clear hc0 hc1 hc2 hc3 hc4 hf0; have hc0 := (bC HX11.out 0).trans (rfl : _ = some (Value.int .u64 L)); have hc1 := (bC HX11.out 1).trans (rfl : _ = some (Value.int .i64 (kindUpto x0 4))); have hc2 := (bC HX11.out 2).trans (rfl : _ = some (Value.int .i64 (atoiV x1))); have hc3 := (bC HX11.out 3).trans (rfl : _ = some (Value.int .i64 (atoiV x2))); have hc4 := (bC HX11.out 4).trans (rfl : _ = some (Value.int .i64 (atoiV x3))); have hz0 := (bC HY11.out 0).trans (rfl : _ = some (Value.int .u64 0)); have hz1 := (bC HY11.out 1).trans (rfl : _ = some (Value.int .i64 0)); have hz2 := (bC HY11.out 2).trans (rfl : _ = some (Value.int .i64 0)); have hz3 := (bC HY11.out 3).trans (rfl : _ = some (Value.int .i64 0)); have hz4 := (bC HY11.out 4).trans (rfl : _ = some (Value.int .i64 0)); have hfz0 := bF HY11.out 0; have hfz1 := bF HY11.out 1; have hfz2 := bF HY11.out 2; have hfz3 := bF HY11.out 3; have hfz4 := bF HY11.out 4)
                )
              refine bodyPost_ret (results_ct rfl _ _ g2 36 #[.int .u64 L, .int .i64 (kindUpto x0 4), .int .i64 (atoiV x1), .int .i64 (atoiV x2), .int .i64 (atoiV x3)] (0, 0) _ rfl ((blk_set (blk_set (blk_set (blk_set (blk_set HY11.out 0 _) 1 _) 2 _) 3 _) 4 _).trans rfl) Tryd.underlying36 rfl (by kernel_rfl)) rfl ?_
              exact ⟨rfl, by repeat (first | exact HB11.out | refine es ?_ GE2.out)⟩
            · obtain rfl : q = false := by cases q with | true => exact absurd (HQ.out.2 rfl).2 ht | false => rfl
              have ht1 : (t.toList == s.toList) = false := beq_eq_false_iff_ne.mpr ht
              have ht2 : (t.toList != s.toList) = true := bne_iff_ne.mpr ht
              clear ht
              go_wp2_with (first
                | ((with_reducible refine gate_callee (f := 47) rfl ?_); refine goesL_ (some 55) rfl rfl Tryd.func47 (by kernel_rfl) rfl #[.string x4] rfl (by (try simp only [List.map_toArray, List.map_cons, List.map_nil]); first | done | rfl) ?_; (with_reducible refine (label_Parse.calls k x4 L z _ HLB.out).mono ?_); rintro e w9 ⟨rfl, hb⟩; refine ⟨_, rfl, ?_⟩; have HX9 := aM (bB HX.out hb); have HY9 := aM (bB HY.out hb); have HB9 := aM (bP HB.out hb); clear hb; have hc0 : w9.cell? ⟨g5, 0, none⟩ = some (.int .u64 0) := (bC HX9.out 0).trans (by rfl); have hc1 : w9.cell? ⟨g5, 1, none⟩ = some (.int .i64 (kindUpto x0 4)) := (bC HX9.out 1).trans (by rfl); have hc2 : w9.cell? ⟨g5, 2, none⟩ = some (.int .i64 (atoiV x1)) := (bC HX9.out 2).trans (by rfl); have hc3 : w9.cell? ⟨g5, 3, none⟩ = some (.int .i64 (atoiV x2)) := (bC HX9.out 3).trans (by rfl); have hc4 : w9.cell? ⟨g5, 4, none⟩ = some (.int .i64 (atoiV x3)) := (bC HX9.out 4).trans (by rfl); have hf0 := bF HX9.out 0)
                | ((with_reducible refine gate_callee (f := 26) rfl ?_); refine goesL_ (some 61) rfl rfl Tryd.func26 (by kernel_rfl) rfl #[.agg #[.int .u64 L, .int .i64 (kindUpto x0 4), .int .i64 (atoiV x1), .int .i64 (atoiV x2), .int .i64 (atoiV x3)]] rfl (by (try simp only [List.map_toArray, List.map_cons, List.map_nil]); first | done | rfl) ?_; have HX10 := aM (bU (cs' := #[.int .u64 L, .int .i64 (kindUpto x0 4), .int .i64 (atoiV x1), .int .i64 (atoiV x2), .int .i64 (atoiV x3)]) HX9.out 0 (.int .u64 L) (by rfl)); have HY10 := aM (bR (p := ⟨g5, 0, none⟩) HY9.out (fun e => NE.out e.symm) (.int .u64 L)); have HB10 := aM (HB9.out.setCell (p := ⟨g5, 0, none⟩) GE5.out (.int .u64 L)); (with_reducible refine (audit_Print2.calls k _ _ _ _ _ t _ _ (HM.out.below HB10.out) HPR.out).mono ?_); rintro e w10 ⟨rfl, hb⟩; refine ⟨_, rfl, ?_⟩; have HX11 := aM (bB HX10.out hb); have HY11 := aM (bB HY10.out hb); have HB11 := aM (bP HB10.out hb); clear hb; clear hc0 hc1 hc2 hc3 hc4 hf0; have hc0 := (bC HX11.out 0).trans (rfl : _ = some (Value.int .u64 L)); have hc1 := (bC HX11.out 1).trans (rfl : _ = some (Value.int .i64 (kindUpto x0 4))); have hc2 := (bC HX11.out 2).trans (rfl : _ = some (Value.int .i64 (atoiV x1))); have hc3 := (bC HX11.out 3).trans (rfl : _ = some (Value.int .i64 (atoiV x2))); have hc4 := (bC HX11.out 4).trans (rfl : _ = some (Value.int .i64 (atoiV x3))); have hz0 := (bC HY11.out 0).trans (rfl : _ = some (Value.int .u64 0)); have hz1 := (bC HY11.out 1).trans (rfl : _ = some (Value.int .i64 0)); have hz2 := (bC HY11.out 2).trans (rfl : _ = some (Value.int .i64 0)); have hz3 := (bC HY11.out 3).trans (rfl : _ = some (Value.int .i64 0)); have hz4 := (bC HY11.out 4).trans (rfl : _ = some (Value.int .i64 0)); have hfz0 := bF HY11.out 0; have hfz1 := bF HY11.out 1; have hfz2 := bF HY11.out 2; have hfz3 := bF HY11.out 3; have hfz4 := bF HY11.out 4)
                )
              refine bodyPost_ret (results_ct rfl _ _ g2 36 zR (0, 0) _ rfl ((blk_set (blk_set (blk_set (blk_set (blk_set HY11.out 0 _) 1 _) 2 _) 3 _) 4 _).trans rfl) Tryd.underlying36 rfl (by kernel_rfl)) rfl ?_
              exact ⟨rfl, by repeat (first | exact HB11.out | refine es ?_ GE2.out)⟩
          · obtain rfl : q = false := by cases q with | true => exact absurd (HQ.out.2 rfl).1 he | false => rfl
            have he1 : (e1 != 0) = true := bne_iff_ne.mpr he
            have he2 : (e1 == 0) = false := beq_eq_false_iff_ne.mpr he
            go_wp2_with (first
              | ((with_reducible refine gate_callee (f := 47) rfl ?_); refine goesL_ (some 55) rfl rfl Tryd.func47 (by kernel_rfl) rfl #[.string x4] rfl (by (try simp only [List.map_toArray, List.map_cons, List.map_nil]); first | done | rfl) ?_; (with_reducible refine (label_Parse.calls k x4 L z _ HLB.out).mono ?_); rintro e w9 ⟨rfl, hb⟩; refine ⟨_, rfl, ?_⟩; have HX9 := aM (bB HX.out hb); have HY9 := aM (bB HY.out hb); have HB9 := aM (bP HB.out hb); clear hb; have hc0 : w9.cell? ⟨g5, 0, none⟩ = some (.int .u64 0) := (bC HX9.out 0).trans (by rfl); have hc1 : w9.cell? ⟨g5, 1, none⟩ = some (.int .i64 (kindUpto x0 4)) := (bC HX9.out 1).trans (by rfl); have hc2 : w9.cell? ⟨g5, 2, none⟩ = some (.int .i64 (atoiV x1)) := (bC HX9.out 2).trans (by rfl); have hc3 : w9.cell? ⟨g5, 3, none⟩ = some (.int .i64 (atoiV x2)) := (bC HX9.out 3).trans (by rfl); have hc4 : w9.cell? ⟨g5, 4, none⟩ = some (.int .i64 (atoiV x3)) := (bC HX9.out 4).trans (by rfl); have hf0 := bF HX9.out 0)
              | ((with_reducible refine gate_callee (f := 26) rfl ?_); refine goesL_ (some 61) rfl rfl Tryd.func26 (by kernel_rfl) rfl #[.agg #[.int .u64 L, .int .i64 (kindUpto x0 4), .int .i64 (atoiV x1), .int .i64 (atoiV x2), .int .i64 (atoiV x3)]] rfl (by (try simp only [List.map_toArray, List.map_cons, List.map_nil]); first | done | rfl) ?_; have HX10 := aM (bU (cs' := #[.int .u64 L, .int .i64 (kindUpto x0 4), .int .i64 (atoiV x1), .int .i64 (atoiV x2), .int .i64 (atoiV x3)]) HX9.out 0 (.int .u64 L) (by rfl)); have HY10 := aM (bR (p := ⟨g5, 0, none⟩) HY9.out (fun e => NE.out e.symm) (.int .u64 L)); have HB10 := aM (HB9.out.setCell (p := ⟨g5, 0, none⟩) GE5.out (.int .u64 L)); (with_reducible refine (audit_Print2.calls k _ _ _ _ _ t _ _ (HM.out.below HB10.out) HPR.out).mono ?_); rintro e w10 ⟨rfl, hb⟩; refine ⟨_, rfl, ?_⟩; have HX11 := aM (bB HX10.out hb); have HY11 := aM (bB HY10.out hb); have HB11 := aM (bP HB10.out hb); clear hb; clear hc0 hc1 hc2 hc3 hc4 hf0; have hc0 := (bC HX11.out 0).trans (rfl : _ = some (Value.int .u64 L)); have hc1 := (bC HX11.out 1).trans (rfl : _ = some (Value.int .i64 (kindUpto x0 4))); have hc2 := (bC HX11.out 2).trans (rfl : _ = some (Value.int .i64 (atoiV x1))); have hc3 := (bC HX11.out 3).trans (rfl : _ = some (Value.int .i64 (atoiV x2))); have hc4 := (bC HX11.out 4).trans (rfl : _ = some (Value.int .i64 (atoiV x3))); have hz0 := (bC HY11.out 0).trans (rfl : _ = some (Value.int .u64 0)); have hz1 := (bC HY11.out 1).trans (rfl : _ = some (Value.int .i64 0)); have hz2 := (bC HY11.out 2).trans (rfl : _ = some (Value.int .i64 0)); have hz3 := (bC HY11.out 3).trans (rfl : _ = some (Value.int .i64 0)); have hz4 := (bC HY11.out 4).trans (rfl : _ = some (Value.int .i64 0)); have hfz0 := bF HY11.out 0; have hfz1 := bF HY11.out 1; have hfz2 := bF HY11.out 2; have hfz3 := bF HY11.out 3; have hfz4 := bF HY11.out 4)
              )
            refine bodyPost_ret (results_ct rfl _ _ g2 36 zR (0, 0) _ rfl ((blk_set (blk_set (blk_set (blk_set (blk_set HY11.out 0 _) 1 _) 2 _) 3 _) 4 _).trans rfl) Tryd.underlying36 rfl (by kernel_rfl)) rfl ?_
            exact ⟨rfl, by repeat (first | exact HB11.out | refine es ?_ GE2.out)⟩
set_option maxHeartbeats 8000000 in
theorem aparse_not (s : ByteArray) (w : World) (p : List ByteArray) (hp : strings_Split.f s ⟨#[32]⟩ = some p) (hn : p.length ≠ 5) (hl : p.length ≤ 100000) :
    Calls Tryd.prog 28 #[.string s] w fun e w' => e = .returned (.tuple #[.agg zR, .int .i64 5]) ∧ Below w.heap.size w w' := by
  have hu36 := Tryd.underlying36
  have HP := aM hp
  have hn1 : ((p.length : Int) != 5) = true := bne_iff_ne.mpr (by omega)
  have hn2 : ((p.length : Int) == 5) = false := beq_eq_false_iff_ne.mpr (by omega)
  have hn3 : ((p.length : Int) = 5) = False := eq_false (by omega)
  have hn4 : wrap64 (p.length : Int) = (p.length : Int) := by unfold wrap64; omega
  clear hp
  go_enter Tryd.func28, Tryd.ntmps28
  go_wp2_with (first
    | ((with_reducible refine gate_dst (N := 2) rfl ?_); refine box_event ?hg (N := 2) ?hd (cs := zR) (t := 36) ?hr ?_; (case hd => rfl); (case hg => rfl); (case hr => first | (go_simp; done) | (go_simp; rfl)); intro g2 hg w2 hbox hb; have HB2 := aM hb; have HX2 := aM hbox; have GE2 := aM (Nat.le_of_eq hg.symm); clear hb hbox hg)
    | ((with_reducible refine gate_callee (f := 45) rfl ?_); refine goesL_ (some 12) rfl rfl Tryd.func45 (by kernel_rfl) rfl #[.string s, .string ⟨#[32]⟩] rfl (by (try simp only [List.map_toArray, List.map_cons, List.map_nil]); first | done | rfl) ?_; (with_reducible refine (strings_Split.calls s ⟨#[32]⟩ _ _ HP.out).mono ?_); rintro e w3 ⟨v3, rfl, ho, hb⟩; refine ⟨_, rfl, ?_⟩; obtain ⟨A, c, rfl⟩ := Kd.R_slice ho; have HB3 := aM (bP HB2.out hb); have HX3 := aM (bB HX2.out hb); clear ho hb; have hz0 := (bC HX3.out 0).trans (rfl : _ = some (Value.int .u64 0)); have hz1 := (bC HX3.out 1).trans (rfl : _ = some (Value.int .i64 0)); have hz2 := (bC HX3.out 2).trans (rfl : _ = some (Value.int .i64 0)); have hz3 := (bC HX3.out 3).trans (rfl : _ = some (Value.int .i64 0)); have hz4 := (bC HX3.out 4).trans (rfl : _ = some (Value.int .i64 0)); have hfz0 := bF HX3.out 0; have hfz1 := bF HX3.out 1; have hfz2 := bF HX3.out 2; have hfz3 := bF HX3.out 3; have hfz4 := bF HX3.out 4)
    )
  refine bodyPost_ret (results_ct rfl _ _ g2 36 zR (0, 0) _ rfl ((blk_set (blk_set (blk_set (blk_set (blk_set HX3.out 0 _) 1 _) 2 _) 3 _) 4 _).trans rfl) Tryd.underlying36 rfl (by kernel_rfl)) rfl ?_
  exact ⟨rfl, by repeat (first | exact HB3.out | refine es ?_ GE2.out)⟩
def audit_Parse.f (k : Nat) (s : ByteArray) : Option (Int × Int × Int × Int × Int × Int) :=
  if s.size ≤ 4096 then (strings_Split.f s ⟨#[32]⟩).bind fun p =>
    if p.length = 5 then (if p.all (fun x => decide (x.size ≤ 4096)) = true then
      (label_Parse.f k (p.getD 4 ⟨#[]⟩)).bind fun lz =>
        (audit_Print2.f k lz.1 (kindUpto (p.getD 0 ⟨#[]⟩) 4) (atoiV (p.getD 1 ⟨#[]⟩)) (atoiV (p.getD 2 ⟨#[]⟩)) (atoiV (p.getD 3 ⟨#[]⟩))).bind fun te =>
          some (if te.2 = 0 ∧ te.1.toList = s.toList then (lz.1, kindUpto (p.getD 0 ⟨#[]⟩) 4, atoiV (p.getD 1 ⟨#[]⟩), atoiV (p.getD 2 ⟨#[]⟩), atoiV (p.getD 3 ⟨#[]⟩), 0) else (0, 0, 0, 0, 0, 5))
      else none)
    else (if p.length ≤ 100000 then some (0, 0, 0, 0, 0, 5) else none)
  else none
theorem audit_Parse.calls (k : Nat) (a0 : ByteArray) (r1 r2 r3 r4 r5 r6 : Int) (w : World) (hMX : NumOk w) (h : audit_Parse.f k a0 = some (r1, r2, r3, r4, r5, r6)) :
    Calls Tryd.prog 28 #[.string a0] w fun e w' => e = .returned (.tuple #[.agg #[.int .u64 r1, .int .i64 r2, .int .i64 r3, .int .i64 r4, .int .i64 r5], .int .i64 r6]) ∧ Below w.heap.size w w' := by
  unfold audit_Parse.f at h
  split at h
  case isFalse => cases h
  rename_i hs
  obtain ⟨p, hp, h⟩ := Option.bind_eq_some_iff.1 h
  by_cases hl : p.length = 5
  · rw [if_pos hl] at h
    split at h
    case isFalse => cases h
    rename_i hall
    obtain ⟨x0, x1, x2, x3, x4, rfl⟩ := p5 hl
    obtain ⟨⟨L, z⟩, hL, h⟩ := Option.bind_eq_some_iff.1 h
    obtain ⟨⟨t, e1⟩, hP, h⟩ := Option.bind_eq_some_iff.1 h
    simp only [List.all_cons, List.all_nil, Bool.and_true, Bool.and_eq_true, decide_eq_true_eq] at hall
    have h := Option.some.inj h
    by_cases hq : e1 = 0 ∧ t.toList = a0.toList
    · have h2 := aparse_ok k a0 w hMX hs x0 x1 x2 x3 x4 L z e1 t hp hL hP hall.2.1 hall.2.2.1 hall.2.2.2.1 true (by simp [hq])
      rw [if_pos hq] at h
      cases h
      exact h2
    · have h2 := aparse_ok k a0 w hMX hs x0 x1 x2 x3 x4 L z e1 t hp hL hP hall.2.1 hall.2.2.1 hall.2.2.2.1 false (by simp [hq])
      rw [if_neg hq] at h
      cases h
      exact h2
  · rw [if_neg hl] at h
    split at h
    case isFalse => cases h
    rename_i hn
    cases h
    exact aparse_not a0 w p hp hl hn
end Go.Proofs.YtcbiilbmldinhaaDoor.PB
end

section
namespace Go.Proofs.YtcbiilbmldinhaaDoor.PB
open Go.RowKit Go.Proofs.YtcbiilbmldinhaaDoorW.PrintWords Go.Proofs.YtcbiilbmldinhaaDoorW.PrintLast Go.Proofs.YtcbiilbmldinhaaDoorW.PrintMore
attribute [local go_sem] max2_int min2_int max_two min_two max_three min_three max_four min_four   
set_option linter.unusedVariables false
set_option linter.unusedSimpArgs false
def label_Below.f (a0 : Int) (a1 : Int) : Option (Bool) := some ((Go.bits .andNot .u64 a0 a1) == 0)
set_option maxHeartbeats 8000000 in
set_option maxRecDepth 100000 in
theorem label_Below.calls (a0 : Int) (a1 : Int) (r : Bool) (w : World) (h : label_Below.f a0 a1 = some r) :
  Calls Tryd.prog 35 #[.int .u64 a0, .int .u64 a1] w fun e w' => e = .returned (.bool r) ∧ Drawn0 w w' := by
 have H : (some ((Go.bits .andNot .u64 a0 a1) == 0)) = some r := h
 clear h
 obtain rfl := Option.some.inj H
 go_enter Tryd.func35, Tryd.ntmps35
 go_wp2
 go_ret
 exact ⟨by first | rfl | (simp; done) | (simp [*]; done), by repeat (first | exact Drawn0.refl _ | apply Drawn0.step)⟩
end Go.Proofs.YtcbiilbmldinhaaDoor.PB
end

section
namespace Go.Proofs.YtcbiilbmldinhaaDoor.PB
open Go.RowKit Go.Maps Go.Proofs.YtcbiilbmldinhaaDoorW.PrintWords Go.Proofs.YtcbiilbmldinhaaDoorW.PrintLast Go.Proofs.YtcbiilbmldinhaaDoorW.PrintMore
set_option maxRecDepth 100000
set_option linter.unusedVariables false
set_option linter.unusedSimpArgs false
def newD (l : List Int) (q : Int) : DataW Unit := l.foldl (fun D x => D.put (kL x) (iL q)) (.map [])
theorem newD_snoc (l : List Int) (q x : Int) : newD (l ++ [x]) q = (newD l q).put (kL x) (iL q) := by simp [newD, List.foldl_append]
theorem keyL (x : Int) : WideAt.IsKeyLit (kL x) := by trivial
theorem newD_tidy (q : Int) (l : List Int) : Maps.Tidy (newD l q) ∧ Maps.size (newD l q) ≤ l.length := by
  suffices h : ∀ (l r : List Int), Maps.Tidy (newD r q) ∧ Maps.size (newD r q) ≤ r.length → Maps.Tidy (newD (r ++ l) q) ∧ Maps.size (newD (r ++ l) q) ≤ (r ++ l).length from h l [] ⟨Maps.tidy_empty, by simp [newD, Maps.size]⟩
  intro l
  induction l with
  | nil => intro r h; simpa using h
  | cons x l ih =>
    intro r h
    have := ih (r ++ [x]) (by
      rw [newD_snoc]
      refine ⟨h.1.put (keyL x) _, ?_⟩
      rw [Maps.size_put h.1]
      simp only [List.length_append, List.length_singleton]
      split <;> omega)
    simpa using this
theorem new_ok {A0 : Option Addr} {c0 : Nat} {l0 : List Int} {q : Int} {w : World} (hr0 : Kd.C (Kd.int .u64) w A0 l0.length l0) (hc0 : l0.length ≤ c0) (hwf : ∀ x ∈ l0, (kL x).wf = true) (h1 : 1 ≤ l0.length) (h8 : l0.length ≤ 8) (hq1 : 1 ≤ q) (hq2 : q ≤ 1024) (b : Bool) (hsz : (Maps.size (newD l0 q) = l0.length) ↔ b = true) :
    Calls Tryd.prog 11 #[.slice A0 l0.length c0, .int .i64 q] w fun e w' => ∃ g bm, e = .returned (.pointer (if b then some ⟨g, 0, none⟩ else none)) ∧ LogAt w.heap.size g bm (.slice none 0 0) w' (newD l0 q) [] ∧ Below w.heap.size w w' := by
  have hu55 := Tryd.underlying55
  have d1 : decide ((l0.length : Int) < 1) = false := decide_eq_false (by omega)
  have d2 : decide ((l0.length : Int) > 8) = false := decide_eq_false (by omega)
  have d3 : decide (q < 1) = false := decide_eq_false (by omega)
  have d4 : decide (q > 1024) = false := decide_eq_false (by omega)
  have HR0 := aM hr0
  have HC0 := aM hc0
  have HWF := aM hwf
  clear hr0 hc0 hwf
  have hmm := @run_makeMap Tryd.prog
  go_enter Tryd.func11, Tryd.ntmps11
  go_wp2
  have hM0 : LogAt w.heap.size (w.heap.size + 1) w.heap.size (.slice none 0 0) ((w.alloc (.map #[] 0)).alloc (.cells #[.map (some w.heap.size), .slice none 0 0] 55)) (newD [] q) [] := by
    have h := blk_new (w.alloc (.map #[] 0)) (.cells #[.map (some w.heap.size), .slice none 0 0] 55)
    rw [show (w.alloc (.map #[] 0)).heap.size = w.heap.size + 1 by simp] at h
    exact ⟨h, ((World.ownsMap_made w Tryd.prog 34 (plainElem Tryd.prog 3)).alloc _).mono (by omega), Kd.R_nil _ _ _ _ _, by omega, by omega⟩
  have hB0 : Below w.heap.size w ((w.alloc (.map #[] 0)).alloc (.cells #[.map (some w.heap.size), .slice none 0 0] 55)) := ((Below.refl _ _).alloc (Nat.le_refl _) _).alloc (by simp) _
  generalize hW : (w.alloc (.map #[] 0)).alloc (.cells #[.map (some w.heap.size), .slice none 0 0] 55) = W at hM0 hB0 ⊢
  generalize hg : w.heap.size + 1 = g at hM0 ⊢
  have HM := aM hM0
  have HB := aM hB0
  have HS := aM hsz
  have H8 := aM h8
  clear hM0 hB0 hW hg hmm hsz h1 h8 d1 d2 d3 d4
  go_loopg [29] l0.length (fun kq v29 w' => ∃ i : Nat, v29 = .int .i64 (i : Int) ∧ Aside0 (kq + i = l0.length) ∧ Aside0 (LogAt w.heap.size g w.heap.size (.slice none 0 0) w' (newD (l0.take i) q) []) ∧ Aside0 (Below w.heap.size w w'))
  case atStart => exact ⟨0, rfl, ⟨by simp⟩, ⟨by simpa using HM.out⟩, HB⟩
  case round =>
    clear HM HB
    obtain ⟨i, rfl, HI, HM, HB⟩ := hrel
    have hi := HI.out
    by_cases c1 : i < l0.length
    · cases gk with
      | zero => exact absurd hi (by omega)
      | succ k1 =>
        have c1b : decide ((i : Int) < (l0.length : Int)) = true := decide_eq_true (by omega)
        obtain ⟨ad, e1, hx0⟩ := Kd.at_int HR0.out (i : Int) (by omega) (by omega)
        cases e1
        replace hx0 := (HB.out.cell (World.block_lt_of_cell? w _ hx0)).trans hx0
        have p1 : (0 ≤ (i : Int)) = True := eq_true (by omega)
        have q1 : ((i : Int) < (l0.length : Int)) = True := eq_true (by omega)
        rw [Int.toNat_natCast] at hx0
        have c0 : wr.cell? ⟨g, 0, none⟩ = some (.map (some w.heap.size)) := (bC HM.out.hg 0).trans rfl
        have hxi : rd l0 (i : Int) ∈ l0 := by
          unfold rd
          rw [Int.toNat_natCast, List.getD_eq_getElem?_getD, List.getElem?_eq_getElem c1, Option.getD_some]
          exact List.getElem_mem c1
        have hkey := keyOf_int_mk Tryd.underlying34 (HWF.out _ hxi)
        have hqw : (Lit.int .i64 q).wf = true := WalkArith.wf_i64 (by omega)
        go_wp2_with (first
          | (at_mapUpdate; refine wpList_mapUpdate_in _ rfl _ _ _ 53 rfl 34 3 lawK Tryd.underlying53 _ w.heap.size 8 (newD (l0.take i) q) rfl HM.out.hm (by decide) _ _ _ rfl rfl hkey _ [] (plainElem_int Tryd.underlying3 hqw) ?_; intro w8 hown8 hturn8)
          )
        go_roundg k1
        case measure => have := HI.out; omega
        case rel =>
          have hgbm := HM.out.ne HM.out.hg
          have ht : l0.take (i + 1) = l0.take i ++ [rd l0 (i : Int)] := by
            unfold rd
            rw [Int.toNat_natCast, List.getD_eq_getElem?_getD, List.getElem?_eq_getElem c1, Option.getD_some]
            exact (List.take_append_getElem c1).symm
          have hD : newD (l0.take (i + 1)) q = (newD (l0.take i) q).put (kL (rd l0 (i : Int))) (iL q) := by rw [ht, newD_snoc]
          refine ⟨i + 1, ?_, ⟨by have := HI.out; omega⟩, ⟨⟨blk_grown HM.out.hg hturn8.grown (by simpa using hgbm), ?_, Kd.R_nil _ _ _ _ _, HM.out.hB, HM.out.hb⟩⟩, ⟨HB.out.grown hturn8.grown HB.out.size (fun k hk => by cases hk; exact Nat.le_refl _)⟩⟩
          · rw [w1n c1 (by have := H8.out; omega)]
          · refine ownsMap_tight lawK (m := 8) (D := newD (l0.take (i + 1)) q) (by rw [hD]; exact hown8) ?_
            exact Nat.le_trans (newD_tidy q _).2 (by have := H8.out; simp; omega)
    · obtain rfl : i = l0.length := by omega
      have c1b : decide ((l0.length : Int) < (l0.length : Int)) = false := decide_eq_false (by omega)
      have c0 : wr.cell? ⟨g, 0, none⟩ = some (.map (some w.heap.size)) := (bC HM.out.hg 0).trans rfl
      have hMM := HM.out
      rw [List.take_length] at hMM
      have hS := HS.out
      cases b
      · have hq : ((Maps.size (newD l0 q) : Int) != (l0.length : Int)) = true := by
          rw [bne_iff_ne]
          intro e
          have := hS.1 (by omega)
          cases this
        go_wp2_with (first
          | (at_len; refine wpList_len_own _ rfl _ 53 rfl 34 3 Tryd.underlying53 _ w.heap.size 8 (newD l0 q) rfl hMM.hm ?_)
          )
        go_ret
        exact ⟨rfl, ⟨g, _, hMM⟩, HB.out⟩
      · have hq : ((Maps.size (newD l0 q) : Int) != (l0.length : Int)) = false := by
          rw [bne_eq_false_iff_eq]
          have := hS.2 rfl
          omega
        go_wp2_with (first
          | (at_len; refine wpList_len_own _ rfl _ 53 rfl 34 3 Tryd.underlying53 _ w.heap.size 8 (newD l0 q) rfl hMM.hm ?_)
          )
        go_ret
        exact ⟨g, rfl, ⟨_, hMM⟩, HB.out⟩
end Go.Proofs.YtcbiilbmldinhaaDoor.PB
end

section
namespace Go.Proofs.YtcbiilbmldinhaaDoor.PB
open Go.RowKit Go.Maps Go.Proofs.YtcbiilbmldinhaaDoorW.PrintWords Go.Proofs.YtcbiilbmldinhaaDoorW.PrintLast Go.Proofs.YtcbiilbmldinhaaDoorW.PrintMore
set_option maxRecDepth 100000
set_option linter.unusedVariables false
set_option linter.unusedSimpArgs false
theorem sleq (a : Addr) (n c : Nat) (w : World) : (binOp BinOp.eql 43 (.slice (some a) n c) (.slice none 0 0)).run Tryd.prog w = .ok (.bool false) w := by kernel_rfl
theorem slnil (w : World) : (binOp BinOp.eql 43 (.slice none 0 0) (.slice none 0 0)).run Tryd.prog w = .ok (.bool true) w := by kernel_rfl
theorem clone_nil (w : World) : Calls Tryd.prog 34 #[.slice none 0 0] w fun e w' => e = .returned (.slice none 0 0) ∧ w' = w := by
  have h := slnil
  go_enter Tryd.func34, Tryd.ntmps34
  go_wp2
  go_ret
  exact ⟨rfl, rfl⟩
theorem clone_some {a : Addr} {c : Nat} {xs : List S36} {w : World} (hC : Kd.C k36 w (some a) xs.length xs) (hc : xs.length ≤ c) (hl : xs.length * 40 ≤ 140737488355328) :
    Calls Tryd.prog 34 #[.slice (some a) xs.length c] w fun e w' => ∃ v', e = .returned v' ∧ Kd.R k36 36 w' w.heap.size (fun _ => True) v' xs ∧ Below w.heap.size w w' := by
  have h := sleq
  have HC := aM hC
  have HL := aM hl
  clear hC hl
  have HO : Kd.R k36 36 (w.alloc (.cells #[] 36)) w.heap.size (fun _ => True) (.slice (some ⟨w.heap.size, 0, none⟩) 0 0) [] :=
    ⟨fun _ _ => trivial, [], ⟨by simp, .inr ⟨w.heap.size, 0, #[], rfl, Nat.le_refl _, blk_new w _, Nat.le_refl _, by decide, by simp, by simp⟩⟩, Reps.none _ _⟩
  go_enter Tryd.func34, Tryd.ntmps34
  go_wp2_with (first
    | ((with_reducible refine gate_builtin (b := .append) (xs := #[.tmp 5, .tmp 6]) rfl ?_); at_builtin; refine Kd.R_append_rows k36 (w0 := w) w.heap.size rfl (.tmp 5) (.tmp 6) 43 36 (.agg #[(.int .u64 0), (.int .i64 0), (.int .i64 0), (.int .i64 0), (.int .i64 0)]) 40 rfl Tryd.underlying43 info36 rfl (by decide) (by omega) (.slice (some ⟨w.heap.size, 0, none⟩) 0 0) ([] : List S36) xs _ _ _ (fun _ => True) (fun _ => False) rfl rfl HO (Kd.C_alloc HC.out _) (fun _ _ h => h) (fun _ h => h.elim) (fun _ _ => trivial) ((Below.refl _ _).alloc (Nat.le_refl _) _) (by simp) (by have := HL.out; simpa using this) ?_; intro v1 w1 ho hb hg hat; rw [List.nil_append] at ho; have HR := aM ho; have HB := aM hb; clear ho hb hg hat)
    )
  go_ret
  exact ⟨v1, rfl, HR.out, HB.out⟩
theorem all_ok {B g bm : Nat} {v : Value} {w : World} {D : DataW Unit} {xs : List S36} (h : LogAt B g bm v w D xs) (hl : xs.length * 40 ≤ 140737488355328) :
    Calls Tryd.prog 18 #[.pointer (some ⟨g, 0, none⟩)] w fun e w' => ∃ v', e = .returned v' ∧ Kd.R k36 36 w' w.heap.size (fun _ => True) v' xs ∧ Below w.heap.size w w' := by
  have HH := aM h
  clear h
  have hv : v = .slice none 0 0 ∨ ∃ a c, v = .slice (some a) xs.length c := by
    obtain ⟨_, inner, ⟨_, h⟩, _⟩ := HH.out.hR
    rcases h with ⟨h, _⟩ | ⟨g, cap, cur, h, _⟩
    · exact .inl h
    · exact .inr ⟨_, _, h⟩
  rcases hv with rfl | ⟨a, c, rfl⟩
  · have hx : xs = [] := by
      have := (rR HH.out.hR).1
      exact List.length_eq_zero_iff.1 this.symm
    subst hx
    have c1 := (bC HH.out.hg 1).trans (rfl : _ = some (Value.slice none 0 0))
    go_enter Tryd.func18, Tryd.ntmps18
    go_wp2_with (first
      | ((with_reducible refine gate_callee (f := 32) rfl ?_); refine goesL_ (some 4) rfl rfl Tryd.func32 (by kernel_rfl) rfl #[.pointer (some ⟨g, 0, none⟩)] rfl (by (try simp only [List.map_toArray, List.map_cons, List.map_nil]); first | done | rfl) ?_; (with_reducible refine (good_ok HH.out.hg).mono ?_); rintro e w3 ⟨rfl, hw⟩; subst w3; refine ⟨_, rfl, ?_⟩)
      | ((with_reducible refine gate_callee (f := 34) rfl ?_); refine goesL_ (some 10) rfl rfl Tryd.func34 (by kernel_rfl) rfl #[.slice none 0 0] rfl (by (try simp only [List.map_toArray, List.map_cons, List.map_nil]); first | done | rfl) ?_; (with_reducible refine (clone_nil w).mono ?_); rintro e w3 ⟨rfl, hw⟩; subst w3; refine ⟨_, rfl, ?_⟩)
      )
    go_ret
    exact ⟨_, rfl, Kd.R_nil _ _ _ _ _, Below.refl _ _⟩
  · have c1 := (bC HH.out.hg 1).trans (rfl : _ = some (Value.slice (some a) xs.length c))
    obtain ⟨_, hc, hC⟩ := rR HH.out.hR
    have HC := aM hC
    have HL := aM hl
    clear hC hl
    go_enter Tryd.func18, Tryd.ntmps18
    go_wp2_with (first
      | ((with_reducible refine gate_callee (f := 32) rfl ?_); refine goesL_ (some 4) rfl rfl Tryd.func32 (by kernel_rfl) rfl #[.pointer (some ⟨g, 0, none⟩)] rfl (by (try simp only [List.map_toArray, List.map_cons, List.map_nil]); first | done | rfl) ?_; (with_reducible refine (good_ok HH.out.hg).mono ?_); rintro e w3 ⟨rfl, hw⟩; subst w3; refine ⟨_, rfl, ?_⟩)
      | ((with_reducible refine gate_callee (f := 34) rfl ?_); refine goesL_ (some 10) rfl rfl Tryd.func34 (by kernel_rfl) rfl #[.slice (some a) xs.length c] rfl (by (try simp only [List.map_toArray, List.map_cons, List.map_nil]); first | done | rfl) ?_; (with_reducible refine (clone_some HC.out hc HL.out).mono ?_); rintro e w3 ⟨v', rfl, ho, hb⟩; refine ⟨_, rfl, ?_⟩; have HO := aM ho; have HB := aM hb; clear ho hb)
      )
    go_ret
    exact ⟨v', rfl, HO.out, HB.out⟩
end Go.Proofs.YtcbiilbmldinhaaDoor.PB
end

section
namespace Go.Proofs.YtcbiilbmldinhaaDoor.PB
open Go.RowKit Go.Maps Go.Proofs.YtcbiilbmldinhaaDoorW.PrintWords Go.Proofs.YtcbiilbmldinhaaDoorW.PrintLast Go.Proofs.YtcbiilbmldinhaaDoorW.PrintMore
set_option maxRecDepth 100000
set_option linter.unusedVariables false
set_option linter.unusedSimpArgs false
def belowB (a b : Int) : Bool := (Go.bits .andNot .u64 a b) == 0
def seenL (xs : List S36) (L : Int) : List S36 := xs.filter (fun r => belowB r.f0 L)
set_option maxHeartbeats 8000000 in
theorem seen_ok {B g bm : Nat} {v : Value} {w : World} {D : DataW Unit} {xs : List S36} (h : LogAt B g bm v w D xs) (hl : xs.length * 40 ≤ 100000000) (L : Int) :
    Calls Tryd.prog 19 #[.pointer (some ⟨g, 0, none⟩), .int .u64 L] w fun e w' => ∃ v', e = .returned v' ∧ Kd.R k36 36 w' w.heap.size (fun _ => True) v' (seenL xs L) ∧ Below w.heap.size w w' := by
  have hu36 := Tryd.underlying36
  have HH := aM h
  have HL := aM hl
  clear h hl
  go_enter Tryd.func19, Tryd.ntmps19
  go_wp2_with (first
    | ((with_reducible refine gate_callee (f := 18) rfl ?_); refine goesL_ (some 9) rfl rfl Tryd.func18 (by kernel_rfl) rfl #[.pointer (some ⟨g, 0, none⟩)] rfl (by (try simp only [List.map_toArray, List.map_cons, List.map_nil]); first | done | rfl) ?_; (with_reducible refine (all_ok HH.out (by have := HL.out; omega)).mono ?_); rintro e w3 ⟨v', rfl, ho, hb⟩; refine ⟨_, rfl, ?_⟩; obtain ⟨A, c, rfl⟩ := Kd.R_slice ho; have HA := aM ho; have HB := aM hb; clear ho hb)
    )
  go_loopg [5, 11] xs.length (fun kq v5 v11 w' => ∃ i : Nat, v11 = .int .i64 (i : Int) ∧ Aside0 (kq + i = xs.length) ∧ Aside0 (Kd.R k36 36 w' w.heap.size (fun k => some k ≠ (Value.slice A xs.length c).ownBlock) v5 (seenL (xs.take i) L)) ∧ Aside0 (Kd.R k36 36 w' w.heap.size (fun _ => True) (.slice A xs.length c) xs) ∧ Aside0 (Below w.heap.size w w'))
  case atStart => exact ⟨0, rfl, ⟨by simp⟩, ⟨by simpa [seenL] using Kd.R_nil _ _ _ _ _⟩, HA, HB⟩
  case round =>
    clear HA HB
    obtain ⟨i, rfl, HI, HO, HA, HB⟩ := hrel
    have hi := HI.out
    by_cases c1 : i < xs.length
    · cases gk with
      | zero => exact absurd hi (by omega)
      | succ k1 =>
        have c1b : decide ((i : Int) < (xs.length : Int)) = true := decide_eq_true (by omega)
        obtain ⟨ad, e1, hx0, hx1, hx2, hx3, hx4⟩ := at_T36 (rR HA.out).2.2 (i : Int) (by omega) (by omega)
        cases e1
        have p1 : (0 ≤ (i : Int)) = True := eq_true (by omega)
        have q1 : ((i : Int) < (xs.length : Int)) = True := eq_true (by omega)
        rw [Int.toNat_natCast] at hx0 hx1 hx2 hx3 hx4
        go_wp2_with (first
          | ((with_reducible refine gate_dst (N := 7) rfl ?_); refine box_event ?hg (N := 7) ?hd (cs := #[.int .u64 0, .int .i64 0, .int .i64 0, .int .i64 0, .int .i64 0]) (t := 36) ?hr ?_; (case hd => rfl); (case hg => rfl); (case hr => first | (go_simp; done) | (go_simp; rfl)); intro gb hg w6 hbox hb; have BK := aM hbox; have HN := aM hb; have GE := aM (Nat.le_of_eq hg.symm); clear hb hbox hg; have hz0 := (bC BK.out 0).trans (rfl : _ = some (Value.int .u64 0)); have hz1 := (bC BK.out 1).trans (rfl : _ = some (Value.int .i64 0)); have hz2 := (bC BK.out 2).trans (rfl : _ = some (Value.int .i64 0)); have hz3 := (bC BK.out 3).trans (rfl : _ = some (Value.int .i64 0)); have hz4 := (bC BK.out 4).trans (rfl : _ = some (Value.int .i64 0)); have hf0 := bF BK.out 0; have hf1 := bF BK.out 1; have hf2 := bF BK.out 2; have hf3 := bF BK.out 3; have hf4 := bF BK.out 4)
          )
        generalize hW : World.setCell _ ⟨gb, 4, none⟩ _ = w8
        have HW : Below wr.heap.size wr w8 := by
          subst hW
          repeat (first | exact HN.out | refine es ?_ GE.out)
        have BW : w8.heap[gb]? = some (.cells #[.int .u64 (rd_T36 xs (i : Int)).f0, .int .i64 (rd_T36 xs (i : Int)).f1, .int .i64 (rd_T36 xs (i : Int)).f2, .int .i64 (rd_T36 xs (i : Int)).f3, .int .i64 (rd_T36 xs (i : Int)).f4] 36 (0, 0)) := by
          subst hW
          exact (blk_set (blk_set (blk_set (blk_set (blk_set BK.out 0 _) 1 _) 2 _) 3 _) 4 _).trans rfl
        clear hW BK HN hz0 hz1 hz2 hz3 hz4 hf0 hf1 hf2 hf3 hf4 hx0 hx1 hx2 hx3 hx4
        refine (label_Below.calls _ L (belowB (rd_T36 xs (i : Int)).f0 L) _ rfl).mono ?_
        rintro e w9 ⟨rfl, nd, rfl⟩
        have HW9 := aM (pw_below_drewN HW nd)
        have BW9 := aM (blk_drewN BW nd)
        have hle : w8.heap.size = (w8.drewN nd).heap.size := rfl
        generalize w8.drewN nd = w9 at HW9 BW9 ⊢
        clear HW BW hle
        have hHO := aM (Kd.R_below HO.out HW9.out)
        have hHA := aM (Kd.R_below HA.out HW9.out)
        have hHB := aM (bP HB.out HW9.out)
        have hgb : ∀ k, u5.ownBlock = some k → k < gb := fun k hk => Nat.lt_of_lt_of_le (Kd.R_lt HO.out k hk) GE.out
        clear HO HA HB HW9
        have ht : xs.take (i + 1) = xs.take i ++ [rd_T36 xs (i : Int)] := by
          unfold rd_T36
          rw [Int.toNat_natCast, List.getD_eq_getElem?_getD, List.getElem?_eq_getElem c1, Option.getD_some]
          exact (List.take_append_getElem c1).symm
        have hs : seenL (xs.take (i + 1)) L = seenL (xs.take i) L ++ if belowB (rd_T36 xs (i : Int)).f0 L then [rd_T36 xs (i : Int)] else [] := by
          unfold seenL
          rw [ht, List.filter_append, List.filter_cons, List.filter_nil]
        have hsl : (seenL (xs.take i) L).length ≤ xs.length := Nat.le_trans (List.length_filter_le _ _) (List.length_take_le' _ _)
        have HS := aM hs
        have HSL := aM hsl
        clear ht hs hsl
        generalize rd_T36 xs (i : Int) = r at BW9 HS ⊢
        have hc0 := (bC BW9.out 0).trans (rfl : _ = some (Value.int .u64 r.f0))
        have hc1 := (bC BW9.out 1).trans (rfl : _ = some (Value.int .i64 r.f1))
        have hc2 := (bC BW9.out 2).trans (rfl : _ = some (Value.int .i64 r.f2))
        have hc3 := (bC BW9.out 3).trans (rfl : _ = some (Value.int .i64 r.f3))
        have hc4 := (bC BW9.out 4).trans (rfl : _ = some (Value.int .i64 r.f4))
        cases hbl : belowB r.f0 L
        · go_wp2
          go_roundg k1
          case measure => have := HI.out; omega
          case rel => exact ⟨i + 1, by rw [w1n c1 (by have := HL.out; omega)], ⟨by have := HI.out; omega⟩, ⟨by have h := HS.out; rw [hbl] at h; rw [h]; simpa using hHO.out⟩, hHA, hHB⟩
        · go_wp2_with (first
            | ((with_reducible refine gate_builtin (b := .append) (xs := #[.tmp 19, .tmp 21]) rfl ?_); at_builtin; refine Kd.R_append k36 (w0 := w) w.heap.size rfl (.tmp 19) (.tmp 21) 43 36 (.agg #[(.int .u64 0), (.int .i64 0), (.int .i64 0), (.int .i64 0), (.int .i64 0)]) 40 rfl Tryd.underlying43 info36 rfl (by decide) (by omega) u5 (seenL (xs.take i) L) r [.int .u64 r.f0, .int .i64 r.f1, .int .i64 r.f2, .int .i64 r.f3, .int .i64 r.f4] (fun k => some k ≠ (Value.slice (some ad) xs.length c).ownBlock) (fun _ => False) rfl (by first | (go_simp; done) | (go_simp; rfl)) (k36_mkM _ _ _ r) (fun _ hk => hk.elim) (fun k hk e => by have := Kd.R_lt hHA.out k e.symm; omega) hHO.out hHB.out hHB.out.size (by have := HL.out; have := HSL.out; omega) ?_; intro v1 w10 ho hb hg hat; have HA1 := aM (Kd.R_grown2 hHA.out rfl hg (fun k hk => hHO.out.1 k hk)); have HO1 := aM ho; have HB1 := aM hb; clear ho hb hg hat)
            )
          go_roundg k1
          case measure => have := HI.out; omega
          case rel => exact ⟨i + 1, by rw [w1n c1 (by have := HL.out; omega)], ⟨by have := HI.out; omega⟩, ⟨by have h := HS.out; rw [hbl] at h; rw [h]; exact HO1.out⟩, HA1, HB1⟩
    · obtain rfl : i = xs.length := by have := HI.out; omega
      have c1b : decide ((xs.length : Int) < (xs.length : Int)) = false := decide_eq_false (by omega)
      have hO := HO.out
      rw [List.take_length] at hO
      go_wp2
      go_ret
      exact ⟨_, rfl, rM hO (fun _ _ => trivial), HB.out⟩
end Go.Proofs.YtcbiilbmldinhaaDoor.PB
end

section
namespace Go.Proofs.YtcbiilbmldinhaaDoor.PB
open Go.RowKit Go.Proofs.YtcbiilbmldinhaaDoorW.PrintWords Go.Proofs.YtcbiilbmldinhaaDoorW.PrintLast Go.Proofs.YtcbiilbmldinhaaDoorW.PrintMore
attribute [local go_sem] max2_int min2_int max_two min_two max_three min_three max_four min_four   
set_option linter.unusedVariables false
set_option linter.unusedSimpArgs false
def audit_Print.f (k : Nat) (a0_0 : Int) (a0_1 : Int) (a0_2 : Int) (a0_3 : Int) (a0_4 : Int) : Option (ByteArray × Int) := (audit_Record_may.f k a0_0 a0_1 a0_2 a0_3 a0_4).bind fun t143 => (if t143 = true then ((audit_word.f a0_1).bind fun t144 => ((strconv_Itoa_40.f a0_2).bind fun t145 => ((strconv_Itoa_40.f a0_3).bind fun t146 => ((strconv_Itoa_40.f a0_4).bind fun t147 => ((label_Print.f k a0_0).bind fun t148 => ((strings_Join.f (([t144, t145, t146, t147, t148] : List ByteArray)) (⟨#[32]⟩ : ByteArray)).bind fun t152 => (some (t152, 0)))))))) else (some ((⟨#[]⟩ : ByteArray), 2)))
def audit_Print.T3 : Bool × List (List Nat × List Nat) := (true, [([], []), ([0], [0]), ([1], [1]), ([], []), ([3], [3]), ([4, 2], [4]), ([], []), ([6], [6]), ([7, 5], [7]), ([], []), ([9], [9]), ([10, 8], [10]), ([], []), ([12], [12]), ([13, 11], [13]), ([2, 5, 8, 11, 14], [2, 5, 8, 11, 14]), ([15, 14], [15]), ([16, 16, 0, 1, 2, 3, 4, 5, 6, 7, 8, 9, 10, 11, 12, 13, 14, 15, 16], [16]), ([17, 0, 1, 2, 3, 4, 5, 6, 7, 8, 9, 10, 11, 12, 13, 14, 15, 16, 17], [])])
def audit_Print.B3 : List Nat := [0, 1, 3, 0, 8, 31, 0, 64, 255, 0, 512, 2047, 0, 4096, 16383, 32767, 65535, 131071, 262143]
theorem audit_Print.tab3 : rtab .any (opsOf Tryd.f26 3) = audit_Print.T3 := by kernel_rfl
theorem audit_Print.bits3 : waitsOk audit_Print.T3.2 audit_Print.B3 = true := by kernel_rfl
set_option maxHeartbeats 8000000 in
set_option maxRecDepth 100000 in
theorem audit_Print.calls (k : Nat) (a0_0 : Int) (a0_1 : Int) (a0_2 : Int) (a0_3 : Int) (a0_4 : Int) (r1 : ByteArray) (r2 : Int) (w : World) (h : audit_Print.f k a0_0 a0_1 a0_2 a0_3 a0_4 = some (r1, r2)) :
  Calls Tryd.prog 26 #[.agg #[.int .u64 a0_0, .int .i64 a0_1, .int .i64 a0_2, .int .i64 a0_3, .int .i64 a0_4]] w fun e w' => e = .returned (.tuple #[.string r1, .int .i64 r2]) ∧ Below w.heap.size w w' := by
 have hu36 := Tryd.underlying36
 have HB := aM (Below.refl w.heap.size w)
 have H : ((audit_Record_may.f k a0_0 a0_1 a0_2 a0_3 a0_4).bind fun t143 => (if t143 = true then ((audit_word.f a0_1).bind fun t144 => ((strconv_Itoa_40.f a0_2).bind fun t145 => ((strconv_Itoa_40.f a0_3).bind fun t146 => ((strconv_Itoa_40.f a0_4).bind fun t147 => ((label_Print.f k a0_0).bind fun t148 => ((strings_Join.f (([t144, t145, t146, t147, t148] : List ByteArray)) (⟨#[32]⟩ : ByteArray)).bind fun t152 => (some (t152, 0)))))))) else (some ((⟨#[]⟩ : ByteArray), 2)))) = some (r1, r2) := h
 clear h
 replace H := Option.bind_eq_some_iff.mp H
 obtain ⟨t143, A20, H⟩ := H
 replace H : (if t143 = true then ((audit_word.f a0_1).bind fun t144 => ((strconv_Itoa_40.f a0_2).bind fun t145 => ((strconv_Itoa_40.f a0_3).bind fun t146 => ((strconv_Itoa_40.f a0_4).bind fun t147 => ((label_Print.f k a0_0).bind fun t148 => ((strings_Join.f (([t144, t145, t146, t147, t148] : List ByteArray)) (⟨#[32]⟩ : ByteArray)).bind fun t152 => (some (t152, 0)))))))) else (some ((⟨#[]⟩ : ByteArray), 2))) = some (r1, r2) := H
 have A2 := aM A20
 clear A20
 by_cases c3 : t143 = true
 ·subst c3
  have H1 : ((audit_word.f a0_1).bind fun t144 => ((strconv_Itoa_40.f a0_2).bind fun t145 => ((strconv_Itoa_40.f a0_3).bind fun t146 => ((strconv_Itoa_40.f a0_4).bind fun t147 => ((label_Print.f k a0_0).bind fun t148 => ((strings_Join.f (([t144, t145, t146, t147, t148] : List ByteArray)) (⟨#[32]⟩ : ByteArray)).bind fun t152 => (some (t152, 0)))))))) = some (r1, r2) := by rw [if_pos rfl] at H; exact H
  clear H
  have H := H1
  clear H1
  replace H := Option.bind_eq_some_iff.mp H
  obtain ⟨t144, A40, H⟩ := H
  replace H : ((strconv_Itoa_40.f a0_2).bind fun t145 => ((strconv_Itoa_40.f a0_3).bind fun t146 => ((strconv_Itoa_40.f a0_4).bind fun t147 => ((label_Print.f k a0_0).bind fun t148 => ((strings_Join.f (([t144, t145, t146, t147, t148] : List ByteArray)) (⟨#[32]⟩ : ByteArray)).bind fun t152 => (some (t152, 0))))))) = some (r1, r2) := H
  have A4 := aM A40
  clear A40
  replace H := Option.bind_eq_some_iff.mp H
  obtain ⟨t145, A50, H⟩ := H
  replace H : ((strconv_Itoa_40.f a0_3).bind fun t146 => ((strconv_Itoa_40.f a0_4).bind fun t147 => ((label_Print.f k a0_0).bind fun t148 => ((strings_Join.f (([t144, t145, t146, t147, t148] : List ByteArray)) (⟨#[32]⟩ : ByteArray)).bind fun t152 => (some (t152, 0)))))) = some (r1, r2) := H
  have A5 := aM A50
  clear A50
  replace H := Option.bind_eq_some_iff.mp H
  obtain ⟨t146, A60, H⟩ := H
  replace H : ((strconv_Itoa_40.f a0_4).bind fun t147 => ((label_Print.f k a0_0).bind fun t148 => ((strings_Join.f (([t144, t145, t146, t147, t148] : List ByteArray)) (⟨#[32]⟩ : ByteArray)).bind fun t152 => (some (t152, 0))))) = some (r1, r2) := H
  have A6 := aM A60
  clear A60
  replace H := Option.bind_eq_some_iff.mp H
  obtain ⟨t147, A70, H⟩ := H
  replace H : ((label_Print.f k a0_0).bind fun t148 => ((strings_Join.f (([t144, t145, t146, t147, t148] : List ByteArray)) (⟨#[32]⟩ : ByteArray)).bind fun t152 => (some (t152, 0)))) = some (r1, r2) := H
  have A7 := aM A70
  clear A70
  replace H := Option.bind_eq_some_iff.mp H
  obtain ⟨t148, A80, H⟩ := H
  replace H : ((strings_Join.f (([t144, t145, t146, t147, t148] : List ByteArray)) (⟨#[32]⟩ : ByteArray)).bind fun t152 => (some (t152, 0))) = some (r1, r2) := H
  have A8 := aM A80
  clear A80
  obtain ⟨y149, hy149⟩ : ∃ y_ : List ByteArray, y_ = (([t144, t145, t146, t147, t148] : List ByteArray)) := ⟨_, rfl⟩
  replace H : ((strings_Join.f y149 (⟨#[32]⟩ : ByteArray)).bind fun t152 => (some (t152, 0))) = some (r1, r2) := by first | (rw [hy149]; with_reducible exact H) | (have H2_ := (Option.bind_some _ _).symm.trans H; rw [hy149]; with_reducible exact H2_) | (have H2_ := (Option.bind_some _ _).symm.trans H; with_reducible exact H2_) | with_reducible exact H | (rw [hy149]; exact H) | exact H
  have Ny149 := aM hy149
  clear hy149
  replace H := Option.bind_eq_some_iff.mp H
  obtain ⟨t152, A90, H⟩ := H
  replace H : (some (t152, 0)) = some (r1, r2) := H
  have A9 := aM A90
  clear A90
  simp only [Option.some.injEq, Prod.mk.injEq] at H
  obtain ⟨rfl, rfl⟩ := H
  go_enter Tryd.func26, Tryd.ntmps26
  try go_wp2_with (first | ((with_reducible refine gate_dst (N := 1) rfl ?_); refine box_event ?hg (N := 1) ?hd (cs := #[.int .u64 a0_0, .int .i64 a0_1, .int .i64 a0_2, .int .i64 a0_3, .int .i64 a0_4]) (t := 36) ?hr ?_; (case hd | hg => rfl); (case hr => first | (go_simp; done) | (go_simp; rfl)); intro gb142 hg w10 hbox hb; have n0_ := aM (bP (ey HB.out) hb); have n1_ := aM (hbox); have n2_ := aM ((by rw [hg]; exact (bZ (ey HB.out)) : w.heap.size ≤ gb142)); have n3_ := n2_; clear HB; have HB := n0_; have BK142 := n1_; have GW142 := n2_; have GE142 := n3_; clear n0_ n1_ n2_ n3_; clear hb hbox hg; have hcz11_0 := zC BK142.out 0 (.int .u64 a0_0); have hcz11_1 := zC BK142.out 1 (.int .i64 a0_1); have hcz11_2 := zC BK142.out 2 (.int .i64 a0_2); have hcz11_3 := zC BK142.out 3 (.int .i64 a0_3); have hcz11_4 := zC BK142.out 4 (.int .i64 a0_4); have hfz11_0 := bF BK142.out 0; have hfz11_1 := bF BK142.out 1; have hfz11_2 := bF BK142.out 2; have hfz11_3 := bF BK142.out 3; have hfz11_4 := bF BK142.out 4) | ((with_reducible refine gate_callee (f := 33) rfl ?_); refine goesL_ (some 5) rfl rfl Tryd.func33 (by kernel_rfl) rfl #[.agg #[.int .u64 a0_0, .int .i64 a0_1, .int .i64 a0_2, .int .i64 a0_3, .int .i64 a0_4]] rfl (by (try simp only [mT, mC, mN]); first | done | rfl | (simp only [lD, lT]; rfl)) ?_; (with_reducible refine (audit_Record_may.calls k a0_0 a0_1 a0_2 a0_3 a0_4 true _ A2.out).mono ?_); rintro e w12 ⟨rfl, hb⟩; refine ⟨_, rfl, ?_⟩; have n0_ := aM (bB (g := gb142) (qy BK142.out) hb); have n1_ := aM (bP (by repeat (first | (with_reducible first | exact HB.out | apply ea | apply en | apply ed | refine es ?_ GE142.out) | exact HB.out)) hb); clear BK142 HB; have BK142 := n0_; have HB := n1_; clear n0_ n1_; (try clear hb); (try clear hb2); (try clear hk); (try clear hi)))
  have n0_ := aM (blk_drew BK142.out)
  have n1_ := aM (below_drew1 HB.out)
  clear BK142
  clear HB
  have BK142 := n0_
  have HB := n1_
  clear n0_ n1_
  refine start_ (n := 19) (S := fun w' => w'.cell? ⟨gb142, 0, none⟩ = some (.int .u64 a0_0) ∧ w'.cell? ⟨gb142, 1, none⟩ = some (.int .i64 a0_1) ∧ w'.cell? ⟨gb142, 2, none⟩ = some (.int .i64 a0_2) ∧ w'.cell? ⟨gb142, 3, none⟩ = some (.int .i64 a0_3) ∧ w'.cell? ⟨gb142, 4, none⟩ = some (.int .i64 a0_4)) (ds := []) b0_ (by kernel_rfl) rfl rfl ⟨(bC BK142.out 0).trans rfl, (bC BK142.out 1).trans rfl, (bC BK142.out 2).trans rfl, (bC BK142.out 3).trans rfl, (bC BK142.out 4).trans rfl⟩ (fun hHeld => ?_); refine with_tabW audit_Print.tab3 audit_Print.bits3 (fun HT_ HW_ => ?_)
  generalize w12.drew = w13 at BK142 HB hHeld ⊢
  refine pure_ (i := 0) (N := some 7) (v := ?_) (a' := ?_) b1_ rfl rfl (any_of HT_.out (by kernel_rfl)) (fun _ _ _ h => h) (Or.inl ⟨by rfl, ?_⟩) ?_ ?_
  rotate_left
  ·intro w'
   go_simp
   with_reducible rfl
  rotate_left
  ·simp only [Act.put, sA, sZ, sS, i64_w, i32_w]
   rfl
  refine pure_ (i := 3) (N := some 10) (v := ?_) (a' := ?_) b2_ rfl rfl (any_of HT_.out (by kernel_rfl)) (fun _ _ _ h => h) (Or.inl ⟨by rfl, ?_⟩) ?_ ?_
  rotate_left
  ·intro w'
   go_simp
   with_reducible rfl
  rotate_left
  ·simp only [Act.put, sA, sZ, sS, i64_w, i32_w]
   rfl
  refine pure_ (i := 6) (N := some 13) (v := ?_) (a' := ?_) b3_ rfl rfl (any_of HT_.out (by kernel_rfl)) (fun _ _ _ h => h) (Or.inl ⟨by rfl, ?_⟩) ?_ ?_
  rotate_left
  ·intro w'
   go_simp
   with_reducible rfl
  rotate_left
  ·simp only [Act.put, sA, sZ, sS, i64_w, i32_w]
   rfl
  refine pure_ (i := 9) (N := some 16) (v := ?_) (a' := ?_) b4_ rfl rfl (any_of HT_.out (by kernel_rfl)) (fun _ _ _ h => h) (Or.inl ⟨by rfl, ?_⟩) ?_ ?_
  rotate_left
  ·intro w'
   go_simp
   with_reducible rfl
  rotate_left
  ·simp only [Act.put, sA, sZ, sS, i64_w, i32_w]
   rfl
  refine pure_ (i := 12) (N := some 19) (v := ?_) (a' := ?_) b5_ rfl rfl (any_of HT_.out (by kernel_rfl)) (fun _ _ _ h => h) (Or.inl ⟨by rfl, ?_⟩) ?_ ?_
  rotate_left
  ·intro w'
   go_simp
   with_reducible rfl
  rotate_left
  ·simp only [Act.put, sA, sZ, sS, i64_w, i32_w]
   rfl
  refine take_ (i := 1) (N := some 8) (v := ?_) (a' := ?_) b6_ rfl rfl (take_ofW HT_.out HW_.out (by kernel_rfl)) (fun _ _ _ h => h) (Or.inl ⟨by rfl, ?_⟩) hHeld ?_ ?_
  rotate_left
  ·rintro w' ⟨s0, s1, s2, s3, s4⟩
   go_simp
   with_reducible rfl
  rotate_left
  ·simp only [Act.put, sA, sZ, sS, i64_w, i32_w]
   rfl
  refine take_ (i := 4) (N := some 11) (v := ?_) (a' := ?_) b7_ rfl rfl (take_ofW HT_.out HW_.out (by kernel_rfl)) (fun _ _ _ h => h) (Or.inl ⟨by rfl, ?_⟩) hHeld ?_ ?_
  rotate_left
  ·rintro w' ⟨s0, s1, s2, s3, s4⟩
   go_simp
   with_reducible rfl
  rotate_left
  ·simp only [Act.put, sA, sZ, sS, i64_w, i32_w]
   rfl
  refine take_ (i := 7) (N := some 14) (v := ?_) (a' := ?_) b8_ rfl rfl (take_ofW HT_.out HW_.out (by kernel_rfl)) (fun _ _ _ h => h) (Or.inl ⟨by rfl, ?_⟩) hHeld ?_ ?_
  rotate_left
  ·rintro w' ⟨s0, s1, s2, s3, s4⟩
   go_simp
   with_reducible rfl
  rotate_left
  ·simp only [Act.put, sA, sZ, sS, i64_w, i32_w]
   rfl
  refine take_ (i := 10) (N := some 17) (v := ?_) (a' := ?_) b9_ rfl rfl (take_ofW HT_.out HW_.out (by kernel_rfl)) (fun _ _ _ h => h) (Or.inl ⟨by rfl, ?_⟩) hHeld ?_ ?_
  rotate_left
  ·rintro w' ⟨s0, s1, s2, s3, s4⟩
   go_simp
   with_reducible rfl
  rotate_left
  ·simp only [Act.put, sA, sZ, sS, i64_w, i32_w]
   rfl
  refine take_ (i := 13) (N := some 20) (v := ?_) (a' := ?_) b10_ rfl rfl (take_ofW HT_.out HW_.out (by kernel_rfl)) (fun _ _ _ h => h) (Or.inl ⟨by rfl, ?_⟩) hHeld ?_ ?_
  rotate_left
  ·rintro w' ⟨s0, s1, s2, s3, s4⟩
   go_simp
   with_reducible rfl
  rotate_left
  ·simp only [Act.put, sA, sZ, sS, i64_w, i32_w]
   rfl
  refine one_ (i := 2) (N := some 9) b11_ rfl rfl (one_of HT_.out (by kernel_rfl)) (by decide) (fun K hK => ?_)
  refine goes_ Tryd.func39 (by kernel_rfl) rfl #[.int .i64 a0_1] (by rfl) rfl rfl (by (try simp only [mT, mC, mN]); first | done | rfl | (simp only [lD, lT]; rfl)) ?_
  with_reducible refine (audit_word.calls a0_1 t144 _ A4.out).mono ?_
  rintro e w' ⟨rfl, ⟨nd, rfl⟩⟩
  refine ⟨_, rfl, ?_⟩
  refine hK.out _ _ ⟨(bC BK142.out 0).trans rfl, (bC BK142.out 1).trans rfl, (bC BK142.out 2).trans rfl, (bC BK142.out 3).trans rfl, (bC BK142.out 4).trans rfl⟩ (fun hHeld => ?_)
  clear hK K
  refine norm_ (a' := ?_) ?_ ?_
  rotate_left
  ·show Act.put _ (some 9) _ = _
   simp only [Act.put, sA, sZ, sS, i64_w, i32_w]
   rfl
  refine one_ (i := 5) (N := some 12) b12_ rfl rfl (one_of HT_.out (by kernel_rfl)) (by decide) (fun K hK => ?_)
  refine goes_ Tryd.func40 (by kernel_rfl) rfl #[.int .i64 a0_2] (by rfl) rfl rfl (by (try simp only [mT, mC, mN]); first | done | rfl | (simp only [lD, lT]; rfl)) ?_
  with_reducible refine (strconv_Itoa_40.calls a0_2 t145 _ A5.out).mono ?_
  rintro e w14 ⟨rfl, hb⟩
  refine ⟨_, rfl, ?_⟩
  have n0_ := aM (bB (g := gb142) (qy BK142.out) hb)
  have n1_ := aM (bP (by repeat (first | (with_reducible first | exact HB.out | apply ea | apply en | apply ed | refine es ?_ GE142.out) | exact HB.out)) hb)
  clear BK142
  clear HB
  have BK142 := n0_
  have HB := n1_
  clear n0_ n1_
  (try clear hb)
  (try clear hb2)
  (try clear hk)
  (try clear hi)
  refine hK.out _ _ ⟨(bC BK142.out 0).trans rfl, (bC BK142.out 1).trans rfl, (bC BK142.out 2).trans rfl, (bC BK142.out 3).trans rfl, (bC BK142.out 4).trans rfl⟩ (fun hHeld => ?_)
  clear hK K
  refine norm_ (a' := ?_) ?_ ?_
  rotate_left
  ·show Act.put _ (some 12) _ = _
   simp only [Act.put, sA, sZ, sS, i64_w, i32_w]
   rfl
  refine one_ (i := 8) (N := some 15) b13_ rfl rfl (one_of HT_.out (by kernel_rfl)) (by decide) (fun K hK => ?_)
  refine goes_ Tryd.func40 (by kernel_rfl) rfl #[.int .i64 a0_3] (by rfl) rfl rfl (by (try simp only [mT, mC, mN]); first | done | rfl | (simp only [lD, lT]; rfl)) ?_
  with_reducible refine (strconv_Itoa_40.calls a0_3 t146 _ A6.out).mono ?_
  rintro e w15 ⟨rfl, hb⟩
  refine ⟨_, rfl, ?_⟩
  have n0_ := aM (bB (g := gb142) (qy BK142.out) hb)
  have n1_ := aM (bP (by repeat (first | (with_reducible first | exact HB.out | apply ea | apply en | apply ed | refine es ?_ GE142.out) | exact HB.out)) hb)
  clear BK142
  clear HB
  have BK142 := n0_
  have HB := n1_
  clear n0_ n1_
  (try clear hb)
  (try clear hb2)
  (try clear hk)
  (try clear hi)
  refine hK.out _ _ ⟨(bC BK142.out 0).trans rfl, (bC BK142.out 1).trans rfl, (bC BK142.out 2).trans rfl, (bC BK142.out 3).trans rfl, (bC BK142.out 4).trans rfl⟩ (fun hHeld => ?_)
  clear hK K
  refine norm_ (a' := ?_) ?_ ?_
  rotate_left
  ·show Act.put _ (some 15) _ = _
   simp only [Act.put, sA, sZ, sS, i64_w, i32_w]
   rfl
  refine one_ (i := 11) (N := some 18) b14_ rfl rfl (one_of HT_.out (by kernel_rfl)) (by decide) (fun K hK => ?_)
  refine goes_ Tryd.func40 (by kernel_rfl) rfl #[.int .i64 a0_4] (by rfl) rfl rfl (by (try simp only [mT, mC, mN]); first | done | rfl | (simp only [lD, lT]; rfl)) ?_
  with_reducible refine (strconv_Itoa_40.calls a0_4 t147 _ A7.out).mono ?_
  rintro e w16 ⟨rfl, hb⟩
  refine ⟨_, rfl, ?_⟩
  have n0_ := aM (bB (g := gb142) (qy BK142.out) hb)
  have n1_ := aM (bP (by repeat (first | (with_reducible first | exact HB.out | apply ea | apply en | apply ed | refine es ?_ GE142.out) | exact HB.out)) hb)
  clear BK142
  clear HB
  have BK142 := n0_
  have HB := n1_
  clear n0_ n1_
  (try clear hb)
  (try clear hb2)
  (try clear hk)
  (try clear hi)
  refine hK.out _ _ ⟨(bC BK142.out 0).trans rfl, (bC BK142.out 1).trans rfl, (bC BK142.out 2).trans rfl, (bC BK142.out 3).trans rfl, (bC BK142.out 4).trans rfl⟩ (fun hHeld => ?_)
  clear hK K
  refine norm_ (a' := ?_) ?_ ?_
  rotate_left
  ·show Act.put _ (some 18) _ = _
   simp only [Act.put, sA, sZ, sS, i64_w, i32_w]
   rfl
  refine one_ (i := 14) (N := some 21) b15_ rfl rfl (one_of HT_.out (by kernel_rfl)) (by decide) (fun K hK => ?_)
  refine goes_ Tryd.func41 (by kernel_rfl) rfl #[.int .u64 a0_0] (by rfl) rfl rfl (by (try simp only [mT, mC, mN]); first | done | rfl | (simp only [lD, lT]; rfl)) ?_
  with_reducible refine (label_Print.calls k a0_0 t148 _ A8.out).mono ?_
  rintro e w17 ⟨rfl, hb⟩
  refine ⟨_, rfl, ?_⟩
  have n0_ := aM (bB (g := gb142) (qy BK142.out) hb)
  have n1_ := aM (bP (by repeat (first | (with_reducible first | exact HB.out | apply ea | apply en | apply ed | refine es ?_ GE142.out) | exact HB.out)) hb)
  clear BK142
  clear HB
  have BK142 := n0_
  have HB := n1_
  clear n0_ n1_
  (try clear hb)
  (try clear hb2)
  (try clear hk)
  (try clear hi)
  refine hK.out _ _ ⟨(bC BK142.out 0).trans rfl, (bC BK142.out 1).trans rfl, (bC BK142.out 2).trans rfl, (bC BK142.out 3).trans rfl, (bC BK142.out 4).trans rfl⟩ (fun hHeld => ?_)
  clear hK K
  refine norm_ (a' := ?_) ?_ ?_
  rotate_left
  ·show Act.put _ (some 21) _ = _
   simp only [Act.put, sA, sZ, sS, i64_w, i32_w]
   rfl
  refine one_ (i := 15) (N := some 22) b16_ rfl rfl (one_of HT_.out (by kernel_rfl)) (by decide) (fun K hK => ?_)
  refine Kd.R_lit_step Kd.string _ 9 ?hg (N := 22) ?hd (xs := ([t144, t145, t146, t147, t148] : List ByteArray)) (inner := [.string t144, .string t145, .string t146, .string t147, .string t148]) (ok := fun _ => True) (okp := fun _ => True) ?hr ?hp (fun _ hk => hk) trivial (Below.refl _ _) (Nat.le_refl _) (by simp) ?_; (case hd | hg => rfl); (case hr => first | (go_simp; done) | (go_simp; rfl)); (case hp => exact (Reps.one (show Kd.M Kd.string _ _ _ t144 [.string t144] from rfl) (Reps.one (show Kd.M Kd.string _ _ _ t145 [.string t145] from rfl) (Reps.one (show Kd.M Kd.string _ _ _ t146 [.string t146] from rfl) (Reps.one (show Kd.M Kd.string _ _ _ t147 [.string t147] from rfl) (Reps.one (show Kd.M Kd.string _ _ _ t148 [.string t148] from rfl) (Reps.none _ _)))))))
  intro v150 w18 ho19 hb hg_ hnew_
  clear hg_ hnew_
  (first | rw [← Ny149.out] at ho19 | (simp only [Int.reduceToNat] at ho19; rw [← Ny149.out] at ho19))
  have n0_ := aM (rL ho19 (bZ (by repeat (first | (with_reducible first | exact HB.out | apply ea | apply en | apply ed | refine es ?_ GE142.out) | exact HB.out))))
  have n1_ := aM (bB (g := gb142) (qy BK142.out) hb)
  have n2_ := aM (bP (by repeat (first | (with_reducible first | exact HB.out | apply ea | apply en | apply ed | refine es ?_ GE142.out) | exact HB.out)) hb)
  clear BK142
  clear HB
  have HO151 := n0_
  have BK142 := n1_
  have HB := n2_
  clear n0_ n1_ n2_
  clear hb ho19
  obtain ⟨Ao20, co20, eo20⟩ := Kd.R_slice HO151.out
  (first | subst eo20 | (injection eo20 with f1_ f2_ f3_; have f4_ := f1_.symm; have f5_ := f3_.symm; clear f1_ f2_ f3_; subst f4_; subst f5_))
  refine hK.out _ _ ⟨(bC BK142.out 0).trans rfl, (bC BK142.out 1).trans rfl, (bC BK142.out 2).trans rfl, (bC BK142.out 3).trans rfl, (bC BK142.out 4).trans rfl⟩ (fun hHeld => ?_)
  clear hK K
  refine norm_ (a' := ?_) ?_ ?_
  rotate_left
  ·show Act.put _ (some 22) _ = _
   simp only [Act.put, sA, sZ, sS, i64_w, i32_w]
   rfl
  refine one_ (i := 16) (N := some 23) b17_ rfl rfl (one_of HT_.out (by kernel_rfl)) (by decide) (fun K hK => ?_)
  refine goes_ Tryd.func38 (by kernel_rfl) rfl #[.slice Ao20 y149.length co20, .string (⟨#[32]⟩ : ByteArray)] (by rfl) rfl rfl (by (try simp only [mT, mC, mN]); first | done | rfl | (simp only [lD, lT]; rfl)) ?_
  with_reducible refine (strings_Join.calls _ _ y149 (⟨#[32]⟩ : ByteArray) t152 _ ?side1 ?side2 A9.out).mono ?_
  (case side1 => repeat (first | exact (rR HO151.out).2.2 | (with_reducible refine Kd.C_alloc ?_ _) | (with_reducible refine Kd.C_drewN ?_ _) | (with_reducible refine Kd.C_drew ?_)))
  (case side2 => exact (rR HO151.out).2.1)
  rintro e w21 ⟨rfl, hb⟩
  refine ⟨_, rfl, ?_⟩
  have n0_ := aM (Kd.R_below (ry HO151.out) hb)
  have n1_ := aM (bB (g := gb142) (qy BK142.out) hb)
  have n2_ := aM (bP (by repeat (first | (with_reducible first | exact HB.out | apply ea | apply en | apply ed | refine es ?_ GE142.out) | exact HB.out)) hb)
  clear HO151
  clear BK142
  clear HB
  have HO151 := n0_
  have BK142 := n1_
  have HB := n2_
  clear n0_ n1_ n2_
  (try clear hb)
  (try clear hb2)
  (try clear hk)
  (try clear hi)
  refine hK.out _ _ ⟨(bC BK142.out 0).trans rfl, (bC BK142.out 1).trans rfl, (bC BK142.out 2).trans rfl, (bC BK142.out 3).trans rfl, (bC BK142.out 4).trans rfl⟩ (fun hHeld => ?_)
  clear hK K
  refine norm_ (a' := ?_) ?_ ?_
  rotate_left
  ·show Act.put _ (some 23) _ = _
   simp only [Act.put, sA, sZ, sS, i64_w, i32_w]
   rfl
  refine pure_ (i := 17) (N := some 2) (v := ?_) (a' := ?_) b18_ rfl rfl (any_of HT_.out (by kernel_rfl)) (fun _ _ _ h => h) (Or.inl ⟨by rfl, ?_⟩) ?_ ?_
  rotate_left
  ·intro w'
   go_simp
   with_reducible rfl
  rotate_left
  ·simp only [Act.put, sA, sZ, sS, i64_w, i32_w]
   rfl
  refine pure_ (i := 18) (N := some 3) (v := ?_) (a' := ?_) b19_ rfl rfl (any_of HT_.out (by kernel_rfl)) (fun _ _ _ h => h) (Or.inl ⟨by rfl, ?_⟩) ?_ ?_
  rotate_left
  ·intro w'
   go_simp
   with_reducible rfl
  rotate_left
  ·simp only [Act.put, sA, sZ, sS, i64_w, i32_w]
   rfl
  refine done_ (done_of HT_.out (by kernel_rfl)) ?_
  try go_wp2
  go_ret2
  exact ⟨by first | rfl | (simp [errW_none, errW_some] <;> rfl) | (simp [*, errW_none, errW_some] <;> rfl), by repeat (first | (with_reducible first | exact HB.out | apply ea | apply en | apply ed | refine es ?_ GE142.out) | exact HB.out)⟩
 ·replace c3 := Bool.eq_false_iff.mpr c3
  subst c3
  have H1 : (some ((⟨#[]⟩ : ByteArray), 2)) = some (r1, r2) := by rw [if_neg (show ¬ (false = true) by decide)] at H; exact H
  clear H
  have H := H1
  clear H1
  simp only [Option.some.injEq, Prod.mk.injEq] at H
  obtain ⟨rfl, rfl⟩ := H
  go_enter Tryd.func26, Tryd.ntmps26
  go_wp2_with (first | ((with_reducible refine gate_dst (N := 1) rfl ?_); refine box_event ?hg (N := 1) ?hd (cs := #[.int .u64 a0_0, .int .i64 a0_1, .int .i64 a0_2, .int .i64 a0_3, .int .i64 a0_4]) (t := 36) ?hr ?_; (case hd | hg => rfl); (case hr => first | (go_simp; done) | (go_simp; rfl)); intro gb142 hg w22 hbox hb; have n0_ := aM (bP (ey HB.out) hb); have n1_ := aM (hbox); have n2_ := aM ((by rw [hg]; exact (bZ (ey HB.out)) : w.heap.size ≤ gb142)); have n3_ := n2_; clear HB; have HB := n0_; have BK142 := n1_; have GW142 := n2_; have GE142 := n3_; clear n0_ n1_ n2_ n3_; clear hb hbox hg; have hcz23_0 := zC BK142.out 0 (.int .u64 a0_0); have hcz23_1 := zC BK142.out 1 (.int .i64 a0_1); have hcz23_2 := zC BK142.out 2 (.int .i64 a0_2); have hcz23_3 := zC BK142.out 3 (.int .i64 a0_3); have hcz23_4 := zC BK142.out 4 (.int .i64 a0_4); have hfz23_0 := bF BK142.out 0; have hfz23_1 := bF BK142.out 1; have hfz23_2 := bF BK142.out 2; have hfz23_3 := bF BK142.out 3; have hfz23_4 := bF BK142.out 4) | ((with_reducible refine gate_callee (f := 33) rfl ?_); refine goesL_ (some 5) rfl rfl Tryd.func33 (by kernel_rfl) rfl #[.agg #[.int .u64 a0_0, .int .i64 a0_1, .int .i64 a0_2, .int .i64 a0_3, .int .i64 a0_4]] rfl (by (try simp only [mT, mC, mN]); first | done | rfl | (simp only [lD, lT]; rfl)) ?_; (with_reducible refine (audit_Record_may.calls k a0_0 a0_1 a0_2 a0_3 a0_4 false _ A2.out).mono ?_); rintro e w24 ⟨rfl, hb⟩; refine ⟨_, rfl, ?_⟩; have n0_ := aM (bB (g := gb142) (qy BK142.out) hb); have n1_ := aM (bP (by repeat (first | (with_reducible first | exact HB.out | apply ea | apply en | apply ed | refine es ?_ GE142.out) | exact HB.out)) hb); clear BK142 HB; have BK142 := n0_; have HB := n1_; clear n0_ n1_; (try clear hb); (try clear hb2); (try clear hk); (try clear hi)))
  go_ret2
  exact ⟨by first | rfl | (simp [errW_none, errW_some] <;> rfl) | (simp [*, errW_none, errW_some] <;> rfl), by repeat (first | (with_reducible first | exact HB.out | apply ea | apply en | apply ed | refine es ?_ GE142.out) | exact HB.out)⟩
end Go.Proofs.YtcbiilbmldinhaaDoor.PB
end

section
namespace Go.Proofs.YtcbiilbmldinhaaDoor.PB
open Go.RowKit Go.Proofs.YtcbiilbmldinhaaDoorW.PrintWords Go.Proofs.YtcbiilbmldinhaaDoorW.PrintLast Go.Proofs.YtcbiilbmldinhaaDoorW.PrintMore
attribute [local go_sem] max2_int min2_int max_two min_two max_three min_three max_four min_four   
set_option linter.unusedVariables false
set_option linter.unusedSimpArgs false
attribute [local go_sem high] eqA36
def audit_Record_36.l0 : Nat → List (S36) → List (S36) → Int → Int → Option (Bool)
 | 0, _, _, _, _ => none
 | k + 1, x0, x1, x12, x13 => if x13 < x12 then (if 0 ≤ x13 then (if x13 < (x0.length : Int) then (if x13 < (x1.length : Int) then (if (!(((rd_T36 x0 x13).f0) == ((rd_T36 x1 x13).f0)) || (!(((rd_T36 x0 x13).f1) == ((rd_T36 x1 x13).f1)) || (!(((rd_T36 x0 x13).f2) == ((rd_T36 x1 x13).f2)) || (!(((rd_T36 x0 x13).f3) == ((rd_T36 x1 x13).f3)) || (!(((rd_T36 x0 x13).f4) == ((rd_T36 x1 x13).f4))))))) = true then (some false) else (audit_Record_36.l0 k x0 x1 x12 (wrap64 (x13 + 1)))) else (none)) else (none)) else (none)) else (some true)
def audit_Record_36.f (k : Nat) (l0 : List (S36)) (l1 : List (S36)) : Option (Bool) := if (l0.length : Int) = (l1.length : Int) then (audit_Record_36.l0 k l0 l1 (l0.length : Int) 0) else (some false)
set_option maxHeartbeats 8000000 in
set_option maxRecDepth 100000 in
theorem audit_Record_36.calls (k : Nat) (A0 : Option Addr) (c0 : Nat) (l0 : List (S36)) (A1 : Option Addr) (c1 : Nat) (l1 : List (S36)) (r : Bool) (w : World) (hr0 : Kd.C k36 w A0 l0.length l0) (hc0 : l0.length ≤ c0) (hr1 : Kd.C k36 w A1 l1.length l1) (hc1 : l1.length ≤ c1) (h : audit_Record_36.f k l0 l1 = some r) :
  Calls Tryd.prog 36 #[.slice A0 l0.length c0, .slice A1 l1.length c1] w fun e w' => e = .returned (.bool r) ∧ Drawn0 w w' := by
 have hu36 := Tryd.underlying36
 have HR0 := aM hr0
 have HC0 := aM hc0
 clear hr0 hc0
 have HR1 := aM hr1
 have HC1 := aM hc1
 clear hr1 hc1
 have H : (if (l0.length : Int) = (l1.length : Int) then (audit_Record_36.l0 k l0 l1 (l0.length : Int) 0) else (some false)) = some r := h
 clear h
 by_cases c3 : (l0.length : Int) = (l1.length : Int)
 ·rw [if_pos c3] at H
  have c3b0 : ((l0.length : Int) == (l1.length : Int)) = true := beq_iff_eq.mpr c3
  have c3b1 : ((l0.length : Int) != (l1.length : Int)) = false := bne_eq_false_iff_eq.mpr c3
  have c3b2 : (l0.length == l1.length) = true := by first | simpa using c3 | (simp at c3 ⊢; omega)
  clear c3
  have H' := aM H
  clear H
  go_enter Tryd.func36, Tryd.ntmps36
  go_wp2
  repeat (go_quiet (fail); try go_wp2)
  go_loopg [13] k (fun kq v13 w' => ∃ (x13_1 : Int), v13 = .int .i64 x13_1 ∧ Aside0 (audit_Record_36.l0 kq l0 l1 (l0.length : Int) x13_1 = some r) ∧ Aside0 (kq ≤ k) ∧ Drawn0 w w')
  case atStart => exact ⟨(0), (by first | rfl | (simp; done) | (simp [*]; done)), H', ⟨Nat.le_refl _⟩, by repeat (first | exact Drawn0.refl _ | apply Drawn0.step)⟩
  case round =>
   clear H'
   try clear c1
   try clear p2
   try clear c3
   try clear c3b0
   try clear c3b1
   try clear c3b2
   obtain ⟨x13_1, rfl, HA, HK1, ⟨m1, rfl⟩⟩ := hrel
   cases gk with
   | zero => exact absurd HA.out (by simp [audit_Record_36.l0])
   | succ k1 =>
    have H := HA.out
    clear HA
    simp only [audit_Record_36.l0] at H
    by_cases c4 : x13_1 < (l0.length : Int)
    ·rw [if_pos c4] at H
     have c4b0 : decide (x13_1 < (l0.length : Int)) = true := decide_eq_true c4
     clear c4
     by_cases c5 : 0 ≤ x13_1
     ·rw [if_pos c5] at H
      have c5b0 : decide (0 ≤ x13_1) = true := decide_eq_true c5
      clear c5
      by_cases c6 : x13_1 < (l0.length : Int)
      ·rw [if_pos c6] at H
       have c6b0 : decide (x13_1 < (l0.length : Int)) = true := decide_eq_true c6
       clear c6
       by_cases c7 : x13_1 < (l1.length : Int)
       ·rw [if_pos c7] at H
        have c7b0 : decide (x13_1 < (l1.length : Int)) = true := decide_eq_true c7
        clear c7
        by_cases c8 : (!(((rd_T36 l0 x13_1).f0) == ((rd_T36 l1 x13_1).f0)) || (!(((rd_T36 l0 x13_1).f1) == ((rd_T36 l1 x13_1).f1)) || (!(((rd_T36 l0 x13_1).f2) == ((rd_T36 l1 x13_1).f2)) || (!(((rd_T36 l0 x13_1).f3) == ((rd_T36 l1 x13_1).f3)) || (!(((rd_T36 l0 x13_1).f4) == ((rd_T36 l1 x13_1).f4))))))) = true
        ·rw [if_pos c8] at H
         have c8b0 : (!(((rd_T36 l0 x13_1).f0) == ((rd_T36 l1 x13_1).f0)) || (!(((rd_T36 l0 x13_1).f1) == ((rd_T36 l1 x13_1).f1)) || (!(((rd_T36 l0 x13_1).f2) == ((rd_T36 l1 x13_1).f2)) || (!(((rd_T36 l0 x13_1).f3) == ((rd_T36 l1 x13_1).f3)) || (!(((rd_T36 l0 x13_1).f4) == ((rd_T36 l1 x13_1).f4))))))) = true := c8
         clear c8
         obtain rfl := Option.some.inj H
         have p107 : 0 ≤ (x13_1 : Int) := of_decide_eq_true (by first | (with_reducible assumption) | assumption)
         have q107 : x13_1 < (l0.length : Int) := of_decide_eq_true (by first | (with_reducible assumption) | assumption)
         obtain ⟨ad107, e107, hx107_0, hx107_1, hx107_2, hx107_3, hx107_4⟩ := at_T36 HR0.out x13_1 p107 q107
         cases e107
         replace p107 := eq_true p107
         replace q107 := eq_true q107
         have p108 : 0 ≤ (x13_1 : Int) := of_decide_eq_true (by first | (with_reducible assumption) | assumption)
         have q108 : x13_1 < (l1.length : Int) := of_decide_eq_true (by first | (with_reducible assumption) | assumption)
         obtain ⟨ad108, e108, hx108_0, hx108_1, hx108_2, hx108_3, hx108_4⟩ := at_T36 HR1.out x13_1 p108 q108
         cases e108
         replace p108 := eq_true p108
         replace q108 := eq_true q108
         go_wp2
         repeat (go_quiet (fail); try go_wp2)
         go_ret
         exact ⟨by first | rfl | (simp; done) | (simp [*]; done), by repeat (first | exact Drawn0.refl _ | apply Drawn0.step)⟩
        ·rw [if_neg c8] at H
         have c8b0 : (!(((rd_T36 l0 x13_1).f0) == ((rd_T36 l1 x13_1).f0)) || (!(((rd_T36 l0 x13_1).f1) == ((rd_T36 l1 x13_1).f1)) || (!(((rd_T36 l0 x13_1).f2) == ((rd_T36 l1 x13_1).f2)) || (!(((rd_T36 l0 x13_1).f3) == ((rd_T36 l1 x13_1).f3)) || (!(((rd_T36 l0 x13_1).f4) == ((rd_T36 l1 x13_1).f4))))))) = false := by simpa using c8
         clear c8
         have H' := aM H
         clear H
         have p107 : 0 ≤ (x13_1 : Int) := of_decide_eq_true (by first | (with_reducible assumption) | assumption)
         have q107 : x13_1 < (l0.length : Int) := of_decide_eq_true (by first | (with_reducible assumption) | assumption)
         obtain ⟨ad107, e107, hx107_0, hx107_1, hx107_2, hx107_3, hx107_4⟩ := at_T36 HR0.out x13_1 p107 q107
         cases e107
         replace p107 := eq_true p107
         replace q107 := eq_true q107
         have p108 : 0 ≤ (x13_1 : Int) := of_decide_eq_true (by first | (with_reducible assumption) | assumption)
         have q108 : x13_1 < (l1.length : Int) := of_decide_eq_true (by first | (with_reducible assumption) | assumption)
         obtain ⟨ad108, e108, hx108_0, hx108_1, hx108_2, hx108_3, hx108_4⟩ := at_T36 HR1.out x13_1 p108 q108
         cases e108
         replace p108 := eq_true p108
         replace q108 := eq_true q108
         go_wp2
         repeat (go_quiet (fail); try go_wp2)
         go_roundg k1
         case measure => have := HK1.out; omega
         case rel => exact ⟨(wrap64 (x13_1 + 1)), (by first | rfl | (simp; done) | (simp [*]; done)), H', ⟨by have := HK1.out; omega⟩, by repeat (first | exact Drawn0.refl _ | apply Drawn0.step)⟩
       ·rw [if_neg c7] at H
        exact absurd H (by simp)
      ·rw [if_neg c6] at H
       exact absurd H (by simp)
     ·rw [if_neg c5] at H
      exact absurd H (by simp)
    ·rw [if_neg c4] at H
     have c4b0 : decide (x13_1 < (l0.length : Int)) = false := decide_eq_false c4
     clear c4
     obtain rfl := Option.some.inj H
     go_wp2
     repeat (go_quiet (fail); try go_wp2)
     go_ret
     exact ⟨by first | rfl | (simp; done) | (simp [*]; done), by repeat (first | exact Drawn0.refl _ | apply Drawn0.step)⟩
 ·rw [if_neg c3] at H
  have c3b0 : ((l0.length : Int) == (l1.length : Int)) = false := beq_eq_false_iff_ne.mpr c3
  have c3b1 : ((l0.length : Int) != (l1.length : Int)) = true := bne_iff_ne.mpr c3
  have c3b2 : (l0.length == l1.length) = false := by first | simpa using c3 | (simp at c3 ⊢; omega)
  obtain rfl := Option.some.inj H
  go_enter Tryd.func36, Tryd.ntmps36
  go_wp2
  repeat (go_quiet (fail); try go_wp2)
  go_ret
  exact ⟨by first | rfl | (simp; done) | (simp [*]; done), by repeat (first | exact Drawn0.refl _ | apply Drawn0.step)⟩
end Go.Proofs.YtcbiilbmldinhaaDoor.PB
end

section
namespace Go.Proofs.YtcbiilbmldinhaaDoor.PB
open Go.RowKit Go.Proofs.YtcbiilbmldinhaaDoorW.PrintWords Go.Proofs.YtcbiilbmldinhaaDoorW.PrintLast Go.Proofs.YtcbiilbmldinhaaDoorW.PrintMore
attribute [local go_sem] max2_int min2_int max_two min_two max_three min_three max_four min_four   
set_option linter.unusedVariables false
set_option linter.unusedSimpArgs false
def audit_Extends.f (k : Nat) (l0 : List (S36)) (l1 : List (S36)) : Option (Bool) := if (l1.length : Int) ≤ (l0.length : Int) then (if 0 ≤ (l1.length : Int) then ((audit_Record_36.f k (l0.take ((l1.length : Int) : Int).toNat) l1).bind fun t113 => (some t113)) else (none)) else (some false)
set_option maxHeartbeats 8000000 in
set_option maxRecDepth 100000 in
theorem audit_Extends.calls (k : Nat) (A0 : Option Addr) (c0 : Nat) (l0 : List (S36)) (A1 : Option Addr) (c1 : Nat) (l1 : List (S36)) (r : Bool) (w : World) (hr0 : Kd.C k36 w A0 l0.length l0) (hc0 : l0.length ≤ c0) (hr1 : Kd.C k36 w A1 l1.length l1) (hc1 : l1.length ≤ c1) (h : audit_Extends.f k l0 l1 = some r) :
  Calls Tryd.prog 23 #[.slice A0 l0.length c0, .slice A1 l1.length c1] w fun e w' => e = .returned (.bool r) ∧ Drawn0 w w' := by
 have HR0 := aM hr0
 have HC0 := aM hc0
 clear hr0 hc0
 have HR1 := aM hr1
 have HC1 := aM hc1
 clear hr1 hc1
 have H : (if (l1.length : Int) ≤ (l0.length : Int) then (if 0 ≤ (l1.length : Int) then ((audit_Record_36.f k (l0.take ((l1.length : Int) : Int).toNat) l1).bind fun t113 => (some t113)) else (none)) else (some false)) = some r := h
 clear h
 by_cases c3 : (l1.length : Int) ≤ (l0.length : Int)
 ·rw [if_pos c3] at H
  have c3b0 : decide ((l1.length : Int) ≤ (l0.length : Int)) = true := decide_eq_true c3
  have c3b1 : decide (l1.length ≤ l0.length) = true := decide_eq_true (Int.ofNat_le.mp c3)
  clear c3
  by_cases c4 : 0 ≤ (l1.length : Int)
  ·rw [if_pos c4] at H
   have c4b0 := eq_true c4
   have c4b1 : decide (0 ≤ (l1.length : Int)) = true := decide_eq_true c4
   clear c4
   have c5b0 := eq_true (of_decide_eq_true (by first | (with_reducible assumption) | assumption) : (l1.length : Int) ≤ (l0.length : Int))
   obtain ⟨y109, hy109⟩ : ∃ y_ : List (S36), y_ = (l0.take ((l1.length : Int) : Int).toNat) := ⟨_, rfl⟩
   replace H : ((audit_Record_36.f k y109 l1).bind fun t113 => (some t113)) = some r := by first | (rw [hy109]; with_reducible exact H) | (have H2_ := (Option.bind_some _ _).symm.trans H; rw [hy109]; with_reducible exact H2_) | (have H2_ := (Option.bind_some _ _).symm.trans H; with_reducible exact H2_) | with_reducible exact H | (rw [hy109]; exact H) | exact H
   have Ny109 := aM hy109
   clear hy109
   replace H := Option.bind_eq_some_iff.mp H
   obtain ⟨t113, A60, H⟩ := H
   replace H : (some t113) = some r := H
   have A6 := aM A60
   clear A60
   obtain rfl := Option.some.inj H
   have q7 : ((l1.length : Int) : Int) ≤ ((l0.length : Int) : Int) := of_decide_eq_true (by first | (with_reducible assumption) | assumption)
   obtain ⟨i07, hi07, _, hsz7, _⟩ := info_parts info36
   have hroom7 : l0.length ≤ c0 := HC0.out
   have hC7 : Kd.C k36 _ A0 l0.length l0 := HR0.out
   have hcut7 := cut_to (P := Tryd.prog) 43 36 .i64 Tryd.underlying43 hi07 A0 l0.length c0 (l1.length : Int) (of_decide_eq_true (by first | (with_reducible assumption) | assumption)) q7 hroom7
   have hr7 := Kd.C_take (m := ((l1.length : Int) : Int).toNat) hC7 (by omega)
   have hy7 : y109.length = ((l1.length : Int) : Int).toNat := (by rw [Ny109.out, List.length_take]; omega)
   rw [← Ny109.out] at hr7
   rw [← hy7] at hcut7
   have HR112 := aM hr7
   have HC112 := aM (show y109.length ≤ c0 from by omega)
   clear hr7 hC7 hroom7 hi07 hsz7
   have KY7 := aM hy7
   clear hy7
   replace q7 := eq_true q7
   go_enter Tryd.func23, Tryd.ntmps23
   go_wp2_with (first | (go_at_call 36; (with_reducible refine (audit_Record_36.calls k _ _ y109 _ _ l1 t113 _ ?side1 ?side2 ?side3 ?side4 A6.out).mono ?_); (case side1 => repeat (first | exact HR112.out | (with_reducible refine Kd.C_alloc ?_ _) | (with_reducible refine Kd.C_drewN ?_ _) | (with_reducible refine Kd.C_drew ?_))); (case side2 => exact HC112.out); (case side3 => repeat (first | exact HR1.out | (with_reducible refine Kd.C_alloc ?_ _) | (with_reducible refine Kd.C_drewN ?_ _) | (with_reducible refine Kd.C_drew ?_))); (case side4 => exact HC1.out); rintro e w' ⟨rfl, ⟨nd, rfl⟩⟩))
   go_ret
   exact ⟨by first | rfl | (simp; done) | (simp [*]; done), by repeat (first | exact Drawn0.refl _ | apply Drawn0.step)⟩
  ·rw [if_neg c4] at H
   exact absurd H (by simp)
 ·rw [if_neg c3] at H
  have c3b0 : decide ((l1.length : Int) ≤ (l0.length : Int)) = false := decide_eq_false c3
  have c3b1 : decide (l1.length ≤ l0.length) = false := decide_eq_false (fun h => c3 (Int.ofNat_le.mpr h))
  clear c3
  obtain rfl := Option.some.inj H
  go_enter Tryd.func23, Tryd.ntmps23
  go_wp2
  go_ret
  exact ⟨by first | rfl | (simp; done) | (simp [*]; done), by repeat (first | exact Drawn0.refl _ | apply Drawn0.step)⟩
end Go.Proofs.YtcbiilbmldinhaaDoor.PB
end
