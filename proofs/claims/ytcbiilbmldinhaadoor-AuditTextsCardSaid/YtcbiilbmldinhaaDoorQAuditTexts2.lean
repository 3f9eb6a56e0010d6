/- What the row hangs on, part 2. -/
import Derived.Test.YtcbiilbmldinhaaDoorProg
import Derived.Laws.BitsAllLaws
import Derived.Laws.Bits128
import Derived.Shelf.Strings.Builder1
import Derived.Shelf.Strings.Builder2
import Derived.Shelf.Strings.OnBuilder
import Derived.Shelf.Strings.BuilderF
import Derived.Shelf.Strings.BuilderK
import Derived.Shelf.Utf8.RuneCount
import Derived.Shelf.Strings.Builder2Cap
import Derived.Shelf.Strconv.Atoi
import Derived.Shelf.Strconv.Itoa0
import Derived.Shelf.Strconv.Itoa1
import Derived.Shelf.LaysM
import Derived.Shelf.Strconv.Itoa2
import Derived.Shelf.Strconv.Itoa3
import Derived.Shelf.Strconv.AtoiErrFast
import Derived.Shelf.Strconv.ParseIntEmpty
import Derived.Shelf.Strconv.AtoiFail
import Derived.Shelf.Strconv.Clone
import Derived.Shelf.Strconv.SyntaxError
import Derived.Shelf.LaysC
import Derived.Shelf.Strconv.ToError
import Derived.Shelf.Strconv.Lower
import Derived.Shelf.Strconv.ParseUint10
import Derived.Shelf.Strconv.ParseUint10Empty
import Derived.Shelf.Strconv.ParseUint10Any
import Derived.Shelf.Strconv.ParseInt10
import Derived.Shelf.Strconv.AtoiLong
import Derived.Shelf.Strconv.AtoiInnerAll
import Derived.Shelf.Strconv.RangeError
import Derived.Shelf.Strconv.ToErrorRange
import Derived.Shelf.Strconv.AtoiAll
import Derived.Shelf.Strconv.ErrVarAll
import Derived.Shelf.Strings.Search1
import Derived.Shelf.Strings.Search2
import Derived.Shelf.Strings.Search3
import Derived.Shelf.Strings.Count
import Derived.Shelf.Strings.Shaped
import Derived.Shelf.Strings.Split
import Derived.Shelf.Strings.SplitShaped
import Derived.Shelf.Unicode.Decode
import Derived.Shelf.Strings.RuneCount
import Derived.Shelf.Strings.Explode
import Derived.Shelf.Unicode.DecodeSlow
import Derived.Shelf.Unicode.DecodeAny
import Derived.Test.YtcbiilbmldinhaaDoorProg
import Derived.Shelf.Strings.SplitCore
import Derived.Lib.AppendIntMem
import Derived.WalkSmall
import Derived.Deep.MidRow
import Derived.Laws.BitsAllLaws
import Derived.Test.YtcbiilbmldinhaaDoorQAuditTexts1
section
namespace Go.Proofs.YtcbiilbmldinhaaDoor.PB
open Go.RowKit Go.Proofs.YtcbiilbmldinhaaDoorW.PrintWords Go.Proofs.YtcbiilbmldinhaaDoorW.PrintLast Go.Proofs.YtcbiilbmldinhaaDoorW.PrintMore
theorem qn : type_of% @blk_drewN := @blk_drewN
theorem qd : type_of% @blk_drew := @blk_drew
theorem qa : type_of% @blk_alloc := @blk_alloc
theorem ra : type_of% @Kd.R_alloc := @Kd.R_alloc
theorem rn : type_of% @Kd.R_drewN := @Kd.R_drewN
theorem rd_ : type_of% @Kd.R_drew := @Kd.R_drew
theorem va : type_of% @Kd.V_alloc := @Kd.V_alloc
theorem vn : type_of% @Kd.V_drewN := @Kd.V_drewN
theorem vd : type_of% @Kd.V_drew := @Kd.V_drew
theorem ea : type_of% @below_alloc := @below_alloc
theorem en : type_of% @pw_below_drewN := @pw_below_drewN
theorem ed : type_of% @below_drew1 := @below_drew1
theorem es : type_of% @below_set := @below_set
theorem aM : type_of% @Aside0.mk := @Aside0.mk
theorem bC : type_of% @blk_cell := @blk_cell
theorem bF : type_of% @blk_frozen := @blk_frozen
theorem rF : type_of% @Kd.R_far := @Kd.R_far
theorem bZ : type_of% @below_size := @below_size
theorem bB : type_of% @blk_below := @blk_below
theorem bP : type_of% @below_step := @below_step
theorem rT : type_of% @Kd.R_types := @Kd.R_types
theorem rM : type_of% @Kd.R_mono := @Kd.R_mono
theorem rR : type_of% @Kd.R_reads' := @Kd.R_reads'
theorem cB_ : type_of% @Kd.C_below := @Kd.C_below
theorem rL : type_of% @Kd.R_lower := @Kd.R_lower
theorem rE : type_of% @Kd.R_elder' := @Kd.R_elder'
theorem bR : type_of% @blk_far := @blk_far
theorem bU : type_of% @blk_put := @blk_put
theorem sA : type_of% @List.setIfInBounds_toArray := @List.setIfInBounds_toArray
theorem sZ : type_of% @List.set_cons_zero := @List.set_cons_zero
theorem sS : type_of% @List.set_cons_succ := @List.set_cons_succ
theorem mT : type_of% @List.map_toArray := @List.map_toArray
theorem mC : type_of% @List.map_cons := @List.map_cons
theorem mN : type_of% @List.map_nil := @List.map_nil
theorem lD : type_of% @List.length_drop := @List.length_drop
theorem lT : type_of% @List.length_take := @List.length_take
class Up (W w : World) : Prop where
  b : Below w.heap.size w W
instance (w : World) : Up w w := ⟨Below.refl _ _⟩
instance {W w : World} (o : Obj) [u : Up W w] : Up (W.alloc o) w := ⟨below_alloc u.b o⟩
instance {W w : World} [u : Up W w] : Up W.drew w := ⟨below_drew1 u.b⟩
instance {W w : World} (n : Nat) [u : Up W w] : Up (W.drewN n) w := ⟨pw_below_drewN u.b n⟩
theorem qy {W w : World} {g : Nat} {o : Obj} [u : Up W w] (h : w.heap[g]? = some o) : W.heap[g]? = some o := blk_below h u.b
theorem ry {α : Type} {d : Kd α} {e : TypeId} {W w : World} {base : Nat} {ok : Nat → Prop} {v : Value} {xs : List α} [u : Up W w] (h : d.R e w base ok v xs) : d.R e W base ok v xs := Kd.R_below h u.b
theorem ey {W w v : World} [u : Up W w] (h : Below v.heap.size v w) : Below v.heap.size v W := below_then h h.size u.b
section
variable {P : Program} {ops : Array Oper} {Q : Exit → Act → World → Prop} {md : Region.Mode} {S : World → Prop} {ds : List Nat} {oi : Oper} {v : Value} {fuel : Nat} {l : Array Bool} {a : Act} {w : World} {T : Bool × List (List Nat × List Nat)} {B : List Nat} {a' : Act}
theorem pv (i n : Nat) (l' : Array Bool) (HT : Aside0 (rtab md ops = T)) (h : wpAnyLast P md ops Q S ds fuel l' a' w) (hi : ops[i]? = some oi := by rfl) (hN : oi.dst = some n := by rfl) (hc : anyT T l.toList l'.toList i = true := by kernel_rfl) (hQ : ∀ (c : List PanicEntry) (a : Act) (w : World), Q (.panic c) (a.put oi.dst v) w → Q (.panic c) a w := by exact fun _ _ _ h => h) (hy : Yields P ops oi v a := by exact Or.inl ⟨by rfl, fun w' => by go_simp; with_reducible rfl⟩) (ha : a.put (some n) v = a' := by simp only [Act.put, sA, sZ, sS, i64_w, i32_w]; rfl) : wpAnyLast P md ops Q S ds (fuel + 1) l a w := pure_ l' hi hN (any_of HT.out hc) hQ hy ha h
theorem pu (i n : Nat) (l' : Array Bool) (HT : Aside0 (rtab md ops = T)) (h : wpAnyLast P md ops Q S ds fuel l' a' w) (hi : ops[i]? = some oi := by rfl) (hN : oi.dst = some n := by rfl) (hc : anyT T l.toList l'.toList i = true := by kernel_rfl) (hQ : ∀ (c : List PanicEntry) (a : Act) (w : World), Q (.panic c) (a.put oi.dst undef) w → Q (.panic c) a w := by exact fun _ _ _ h => h) (hy : Yields P ops oi undef a := by exact Or.inr ⟨by rfl, rfl⟩) (ha : a.put (some n) undef = a' := by simp only [Act.put, sA, sZ, sS, i64_w, i32_w]; rfl) : wpAnyLast P md ops Q S ds (fuel + 1) l a w := pure_ l' hi hN (any_of HT.out hc) hQ hy ha h
theorem pt (i n : Nat) (l' : Array Bool) (HT : Aside0 (rtab md ops = T)) (HW : Aside0 (waitsOk T.2 B = true)) (hS : S w) (h : wpAnyLast P md ops Q S ds fuel l' a' w) (hi : ops[i]? = some oi := by rfl) (hN : oi.dst = some n := by rfl) (hc : takeW T B ds l.toList l'.toList i = true := by kernel_rfl) (hQ : ∀ (c : List PanicEntry) (a : Act) (w : World), Q (.panic c) (a.put oi.dst v) w → Q (.panic c) a w := by exact fun _ _ _ h => h) (hy : YieldsIf P ops S oi v a := by exact Or.inl ⟨by rfl, fun w' hs => by (repeat obtain ⟨_, hs⟩ := hs); go_simp; with_reducible rfl⟩) (ha : a.put (some n) v = a' := by simp only [Act.put, sA, sZ, sS, i64_w, i32_w]; rfl) : wpAnyLast P md ops Q S ds (fuel + 1) l a w := take_ l' hi hN (take_ofW HT.out HW.out hc) hQ hy hS ha h
theorem p1 (i : Nat) (N : Option Tmp) (l' : Array Bool) (HT : Aside0 (rtab md ops = T)) (h : ∀ (K : Act → World → Prop), Shut (∀ (a' : Act) (w' : World), S w' → (S w' → wpAnyLast P md ops Q S ds fuel l' a' w') → K a' w') → if Region.wanted oi (yielded ops a.tmps) = true then Oper.wp P oi a w K Q else K (a.put N undef) w) (hi : ops[i]? = some oi := by rfl) (hN : oi.dst = N := by rfl) (hc : (readyT T.snd l.toList == [i] && l.toList.set i true == l'.toList) = true := by kernel_rfl) (hd : i ∉ ds := by decide) : wpAnyLast P md ops Q S ds (fuel + 1) l a w := one_ l' hi hN (one_of HT.out hc) hd h
end
theorem zC {w : World} {g : Nat} {t : TypeId} {cs : Array Value} (h : w.heap[g]? = some (.cells cs t (0, 0))) (i : Nat) (v : Value) (e : cs[i]? = some v := by rfl) : w.cell? ⟨g, i, none⟩ = some v := (bC h i).trans e
abbrev I := true
abbrev O := false
abbrev b0_ : Array Bool := #[O,O,O,O,O,O,O,O,O,O,O,O,O,O,O,O,O,O,O]
abbrev b1_ : Array Bool := #[I,O,O,O,O,O,O,O,O,O,O,O,O,O,O,O,O,O,O]
abbrev b2_ : Array Bool := #[I,O,O,I,O,O,O,O,O,O,O,O,O,O,O,O,O,O,O]
abbrev b3_ : Array Bool := #[I,O,O,I,O,O,I,O,O,O,O,O,O,O,O,O,O,O,O]
abbrev b4_ : Array Bool := #[I,O,O,I,O,O,I,O,O,I,O,O,O,O,O,O,O,O,O]
abbrev b5_ : Array Bool := #[I,O,O,I,O,O,I,O,O,I,O,O,I,O,O,O,O,O,O]
abbrev b6_ : Array Bool := #[I,I,O,I,O,O,I,O,O,I,O,O,I,O,O,O,O,O,O]
abbrev b7_ : Array Bool := #[I,I,O,I,I,O,I,O,O,I,O,O,I,O,O,O,O,O,O]
abbrev b8_ : Array Bool := #[I,I,O,I,I,O,I,I,O,I,O,O,I,O,O,O,O,O,O]
abbrev b9_ : Array Bool := #[I,I,O,I,I,O,I,I,O,I,I,O,I,O,O,O,O,O,O]
abbrev b10_ : Array Bool := #[I,I,O,I,I,O,I,I,O,I,I,O,I,I,O,O,O,O,O]
abbrev b11_ : Array Bool := #[I,I,I,I,I,O,I,I,O,I,I,O,I,I,O,O,O,O,O]
abbrev b12_ : Array Bool := #[I,I,I,I,I,I,I,I,O,I,I,O,I,I,O,O,O,O,O]
abbrev b13_ : Array Bool := #[I,I,I,I,I,I,I,I,I,I,I,O,I,I,O,O,O,O,O]
abbrev b14_ : Array Bool := #[I,I,I,I,I,I,I,I,I,I,I,I,I,I,O,O,O,O,O]
abbrev b15_ : Array Bool := #[I,I,I,I,I,I,I,I,I,I,I,I,I,I,I,O,O,O,O]
abbrev b16_ : Array Bool := #[I,I,I,I,I,I,I,I,I,I,I,I,I,I,I,I,O,O,O]
abbrev b17_ : Array Bool := #[I,I,I,I,I,I,I,I,I,I,I,I,I,I,I,I,I,O,O]
abbrev b18_ : Array Bool := #[I,I,I,I,I,I,I,I,I,I,I,I,I,I,I,I,I,I,O]
abbrev b19_ : Array Bool := #[I,I,I,I,I,I,I,I,I,I,I,I,I,I,I,I,I,I,I]
abbrev b20_ : Array Bool := #[O,O,O,O,O,O,O,O,O,O,O,O,O,O,O,O,O,O,O,O,O,O,O,O,O]
abbrev b21_ : Array Bool := #[I,O,O,O,O,O,O,O,O,O,O,O,O,O,O,O,O,O,O,O,O,O,O,O,O]
abbrev b22_ : Array Bool := #[I,O,O,O,I,O,O,O,O,O,O,O,O,O,O,O,O,O,O,O,O,O,O,O,O]
abbrev b23_ : Array Bool := #[I,O,O,O,I,O,O,O,O,I,O,O,O,O,O,O,O,O,O,O,O,O,O,O,O]
abbrev b24_ : Array Bool := #[I,O,O,O,I,O,O,O,O,I,O,O,O,O,I,O,O,O,O,O,O,O,O,O,O]
abbrev b25_ : Array Bool := #[I,O,O,O,I,O,O,O,O,I,O,O,O,O,I,O,O,O,O,I,O,O,O,O,O]
abbrev b26_ : Array Bool := #[I,I,O,O,I,O,O,O,O,I,O,O,O,O,I,O,O,O,O,I,O,O,O,O,O]
abbrev b27_ : Array Bool := #[I,I,O,O,I,I,O,O,O,I,O,O,O,O,I,O,O,O,O,I,O,O,O,O,O]
abbrev b28_ : Array Bool := #[I,I,O,O,I,I,O,O,O,I,I,O,O,O,I,O,O,O,O,I,O,O,O,O,O]
abbrev b29_ : Array Bool := #[I,I,O,O,I,I,O,O,O,I,I,O,O,O,I,I,O,O,O,I,O,O,O,O,O]
abbrev b30_ : Array Bool := #[I,I,O,O,I,I,O,O,O,I,I,O,O,O,I,I,O,O,O,I,I,O,O,O,O]
abbrev b31_ : Array Bool := #[I,I,I,O,I,I,O,O,O,I,I,O,O,O,I,I,O,O,O,I,I,O,O,O,O]
abbrev b32_ : Array Bool := #[I,I,I,I,I,I,O,O,O,I,I,O,O,O,I,I,O,O,O,I,I,O,O,O,O]
abbrev b33_ : Array Bool := #[I,I,I,I,I,I,I,O,O,I,I,O,O,O,I,I,O,O,O,I,I,O,O,O,O]
abbrev b34_ : Array Bool := #[I,I,I,I,I,I,I,I,O,I,I,O,O,O,I,I,O,O,O,I,I,O,O,O,O]
abbrev b35_ : Array Bool := #[I,I,I,I,I,I,I,I,I,I,I,O,O,O,I,I,O,O,O,I,I,O,O,O,O]
abbrev b36_ : Array Bool := #[I,I,I,I,I,I,I,I,I,I,I,I,O,O,I,I,O,O,O,I,I,O,O,O,O]
abbrev b37_ : Array Bool := #[I,I,I,I,I,I,I,I,I,I,I,I,I,O,I,I,O,O,O,I,I,O,O,O,O]
abbrev b38_ : Array Bool := #[I,I,I,I,I,I,I,I,I,I,I,I,I,I,I,I,O,O,O,I,I,O,O,O,O]
abbrev b39_ : Array Bool := #[I,I,I,I,I,I,I,I,I,I,I,I,I,I,I,I,I,O,O,I,I,O,O,O,O]
abbrev b40_ : Array Bool := #[I,I,I,I,I,I,I,I,I,I,I,I,I,I,I,I,I,I,O,I,I,O,O,O,O]
abbrev b41_ : Array Bool := #[I,I,I,I,I,I,I,I,I,I,I,I,I,I,I,I,I,I,I,I,I,O,O,O,O]
abbrev b42_ : Array Bool := #[I,I,I,I,I,I,I,I,I,I,I,I,I,I,I,I,I,I,I,I,I,I,O,O,O]
abbrev b43_ : Array Bool := #[I,I,I,I,I,I,I,I,I,I,I,I,I,I,I,I,I,I,I,I,I,I,I,O,O]
abbrev b44_ : Array Bool := #[I,I,I,I,I,I,I,I,I,I,I,I,I,I,I,I,I,I,I,I,I,I,I,I,O]
abbrev b45_ : Array Bool := #[I,I,I,I,I,I,I,I,I,I,I,I,I,I,I,I,I,I,I,I,I,I,I,I,I]
abbrev b46_ : Array Bool := #[O,O,O,O,O,O,O,O,O,O,O,O,O,O,O,O,O]
abbrev b47_ : Array Bool := #[I,O,O,O,O,O,O,O,O,O,O,O,O,O,O,O,O]
abbrev b48_ : Array Bool := #[I,I,O,O,O,O,O,O,O,O,O,O,O,O,O,O,O]
abbrev b49_ : Array Bool := #[I,I,I,O,O,O,O,O,O,O,O,O,O,O,O,O,O]
abbrev b50_ : Array Bool := #[I,I,I,I,O,O,O,O,O,O,O,O,O,O,O,O,O]
abbrev b51_ : Array Bool := #[I,I,I,I,O,O,I,O,O,O,O,O,O,O,O,O,O]
abbrev b52_ : Array Bool := #[I,I,I,I,O,O,I,I,O,O,O,O,O,O,O,O,O]
abbrev b53_ : Array Bool := #[I,I,I,I,O,O,I,I,O,O,I,O,O,O,O,O,O]
abbrev b54_ : Array Bool := #[I,I,I,I,O,O,I,I,O,O,I,I,O,O,O,O,O]
abbrev b55_ : Array Bool := #[I,I,I,I,I,O,I,I,O,O,I,I,O,O,O,O,O]
abbrev b56_ : Array Bool := #[I,I,I,I,I,O,I,I,I,O,I,I,O,O,O,O,O]
abbrev b57_ : Array Bool := #[I,I,I,I,I,O,I,I,I,O,I,I,I,O,O,O,O]
abbrev b58_ : Array Bool := #[I,I,I,I,I,I,I,I,I,I,I,I,I,I,I,I,O]
abbrev b59_ : Array Bool := #[I,I,I,I,I,I,I,I,I,O,I,I,I,O,O,O,O]
abbrev b60_ : Array Bool := #[I,I,I,I,I,O,I,I,I,O,I,I,I,O,O,I,O]
abbrev b61_ : Array Bool := #[I,I,I,I,I,I,I,I,I,I,I,I,I,O,O,O,O]
abbrev b62_ : Array Bool := #[I,I,I,I,I,I,I,I,I,O,I,I,I,O,O,I,O]
abbrev b63_ : Array Bool := #[I,I,I,I,I,I,I,I,I,I,I,I,I,I,O,O,O]
abbrev b64_ : Array Bool := #[I,I,I,I,I,I,I,I,I,I,I,I,I,O,O,I,O]
abbrev b65_ : Array Bool := #[I,I,I,I,I,I,I,I,I,I,I,I,I,I,I,O,O]
abbrev b66_ : Array Bool := #[I,I,I,I,I,I,I,I,I,I,I,I,I,I,O,I,O]
abbrev b67_ : Array Bool := #[I,I,I,I,I,I,I,I,I,I,I,I,I,I,I,I,I]
abbrev b68_ : Array Bool := #[O,O,O,O,O,O,O,O,O,O,O,O,O,O,O,O,O,O,O,O]
abbrev b69_ : Array Bool := #[I,O,O,O,O,O,O,O,O,O,O,O,O,O,O,O,O,O,O,O]
abbrev b70_ : Array Bool := #[I,I,O,O,O,O,O,O,O,O,O,O,O,O,O,O,O,O,O,O]
abbrev b71_ : Array Bool := #[I,I,I,O,O,O,O,O,O,O,O,O,O,O,O,O,O,O,O,O]
abbrev b72_ : Array Bool := #[I,I,I,I,O,O,O,O,O,O,O,O,O,O,O,O,O,O,O,O]
abbrev b73_ : Array Bool := #[I,I,I,I,I,O,O,O,O,O,O,O,O,O,O,O,O,O,O,O]
abbrev b74_ : Array Bool := #[I,I,I,I,I,I,O,O,O,O,O,O,O,O,O,O,O,O,O,O]
abbrev b75_ : Array Bool := #[I,I,I,I,I,I,I,O,O,O,O,O,O,O,O,O,O,O,O,O]
abbrev b76_ : Array Bool := #[I,I,I,I,I,I,I,I,O,O,O,O,O,O,O,O,O,O,O,O]
abbrev b77_ : Array Bool := #[I,I,I,I,I,I,I,I,I,O,O,O,O,O,O,O,O,O,O,O]
abbrev b78_ : Array Bool := #[I,I,I,I,I,I,I,I,I,I,O,O,O,O,O,O,O,O,O,O]
abbrev b79_ : Array Bool := #[I,I,I,I,I,I,I,I,I,I,I,O,O,O,O,O,O,O,O,O]
abbrev b80_ : Array Bool := #[I,I,I,I,I,I,I,I,I,I,I,I,O,O,O,O,O,O,O,O]
abbrev b81_ : Array Bool := #[I,I,I,I,I,I,I,I,I,I,I,I,I,O,O,O,O,O,O,O]
abbrev b82_ : Array Bool := #[I,I,I,I,I,I,I,I,I,I,I,I,I,I,O,O,O,O,O,O]
abbrev b83_ : Array Bool := #[I,I,I,I,I,I,I,I,I,I,I,I,I,I,I,O,O,O,O,O]
abbrev b84_ : Array Bool := #[I,I,I,I,I,I,I,I,I,I,I,I,I,I,I,I,O,O,O,O]
abbrev b85_ : Array Bool := #[I,I,I,I,I,I,I,I,I,I,I,I,I,I,I,I,I,O,O,O]
abbrev b86_ : Array Bool := #[I,I,I,I,I,I,I,I,I,I,I,I,I,I,I,I,I,I,O,O]
abbrev b87_ : Array Bool := #[I,I,I,I,I,I,I,I,I,I,I,I,I,I,I,I,I,I,I,O]
abbrev b88_ : Array Bool := #[I,I,I,I,I,I,I,I,I,I,I,I,I,I,I,I,I,I,I,I]
attribute [local go_sem] max2_int min2_int max_two min_two max_three min_three max_four min_four   
set_option linter.unusedVariables false
set_option linter.unusedSimpArgs false
def errW : Option Int → Value
 | none => .nilIface
 | some c => .iface 109 (.int .i64 c)
theorem errW_none : errW none = .nilIface := rfl
theorem errW_some (c : Int) : errW (some c) = .iface 109 (.int .i64 c) := rfl
theorem info3 : (Tryd.prog.info? 3).map (fun i => (i.zero, i.size, i.bytes)) = some (some (.int .i64 0), 1, 8) := by kernel_rfl
theorem info9 : (Tryd.prog.info? 9).map (fun i => (i.zero, i.size, i.bytes)) = some (some (.string ⟨#[]⟩), 1, 16) := by kernel_rfl
theorem info36 : (Tryd.prog.info? 36).map (fun i => (i.zero, i.size, i.bytes)) = some (some (.agg #[(.int .u64 0), (.int .i64 0), (.int .i64 0), (.int .i64 0), (.int .i64 0)]), 5, 40) := by kernel_rfl
structure S36 where
 f0 : Int
 f1 : Int
 f2 : Int
 f3 : Int
 f4 : Int
def z36 : S36 := ⟨(0 : Int), (0 : Int), (0 : Int), (0 : Int), (0 : Int)⟩
def k36 : Kd S36 := Kd.iso (Kd.pair (Kd.int .u64) (Kd.pair (Kd.int .i64) (Kd.pair (Kd.int .i64) (Kd.pair (Kd.int .i64) (Kd.int .i64))))) (fun x : S36 => (x.f0, x.f1, x.f2, x.f3, x.f4))
theorem k36_open {w : World} {x : S36} {cs : List Value} (h : k36.K w x cs) : cs = [.int .u64 x.f0, .int .i64 x.f1, .int .i64 x.f2, .int .i64 x.f3, .int .i64 x.f4] := by
 obtain ⟨_, _, rfl, rfl, ⟨_, _, rfl, rfl, ⟨_, _, rfl, rfl, ⟨_, _, rfl, rfl, rfl⟩⟩⟩⟩ := h
 exact rfl
theorem k36_mkM (w : World) (base : Nat) (ok : Nat → Prop) (x : S36)  : k36.M w base ok x [.int .u64 x.f0, .int .i64 x.f1, .int .i64 x.f2, .int .i64 x.f3, .int .i64 x.f4] := ⟨[.int .u64 x.f0], [.int .i64 x.f1, .int .i64 x.f2, .int .i64 x.f3, .int .i64 x.f4], rfl, rfl, ⟨[.int .i64 x.f1], [.int .i64 x.f2, .int .i64 x.f3, .int .i64 x.f4], rfl, rfl, ⟨[.int .i64 x.f2], [.int .i64 x.f3, .int .i64 x.f4], rfl, rfl, ⟨[.int .i64 x.f3], [.int .i64 x.f4], rfl, rfl, rfl⟩⟩⟩⟩
def rd_T36 (xs : List S36) (i : Int) : S36 := xs.getD i.toNat z36
theorem at_T36 {w : World} {A : Option Addr} {n : Nat} {xs : List S36} (h : Kd.C k36 w A n xs) (i : Int) (h0 : 0 ≤ i) (h1 : i < n) : ∃ ad , A = some ad ∧ w.cell? (ad.add (i.toNat * 5)) = some (.int .u64 (rd_T36 xs i).f0) ∧ w.cell? ⟨(ad.add (i.toNat * 5)).block, (ad.add (i.toNat * 5)).off + 1, none⟩ = some (.int .i64 (rd_T36 xs i).f1) ∧ w.cell? ⟨(ad.add (i.toNat * 5)).block, (ad.add (i.toNat * 5)).off + 2, none⟩ = some (.int .i64 (rd_T36 xs i).f2) ∧ w.cell? ⟨(ad.add (i.toNat * 5)).block, (ad.add (i.toNat * 5)).off + 3, none⟩ = some (.int .i64 (rd_T36 xs i).f3) ∧ w.cell? ⟨(ad.add (i.toNat * 5)).block, (ad.add (i.toNat * 5)).off + 4, none⟩ = some (.int .i64 (rd_T36 xs i).f4) := by
 obtain ⟨ad, c, e, _, hK, hc0⟩ := Kd.C_get h z36 i h0 h1
 have hc : ∀ j u, c[j]? = some u → w.cell? (ad.add (i.toNat * 5 + j)) = some u := hc0
 obtain rfl := k36_open hK
 exact ⟨ad, e, hc 0 _ rfl, by rw [← add_field _ _ 1 (by omega)]; exact hc 1 _ rfl, by rw [← add_field _ _ 2 (by omega)]; exact hc 2 _ rfl, by rw [← add_field _ _ 3 (by omega)]; exact hc 3 _ rfl, by rw [← add_field _ _ 4 (by omega)]; exact hc 4 _ rfl⟩
structure S38 where
 f0 : Int
 f1 : Int
 f2 : Int
 f3 : Int
 f4 : Int
def k38 : Kd S38 := Kd.iso (Kd.pair (Kd.int .u64) (Kd.pair (Kd.int .i64) (Kd.pair (Kd.int .i64) (Kd.pair (Kd.int .i64) (Kd.int .i64))))) (fun x : S38 => (x.f0, x.f1, x.f2, x.f3, x.f4))
theorem k38_open {w : World} {x : S38} {cs : List Value} (h : k38.K w x cs) : cs = [.int .u64 x.f0, .int .i64 x.f1, .int .i64 x.f2, .int .i64 x.f3, .int .i64 x.f4] := by
 obtain ⟨_, _, rfl, rfl, ⟨_, _, rfl, rfl, ⟨_, _, rfl, rfl, ⟨_, _, rfl, rfl, rfl⟩⟩⟩⟩ := h
 exact rfl
end Go.Proofs.YtcbiilbmldinhaaDoor.PB
end

section
namespace Go.Proofs.YtcbiilbmldinhaaDoor.PB
open Go.RowKit Go.Proofs.YtcbiilbmldinhaaDoorW.PrintWords Go.Proofs.YtcbiilbmldinhaaDoorW.PrintLast Go.Proofs.YtcbiilbmldinhaaDoorW.PrintMore
attribute [local go_sem] max2_int min2_int max_two min_two max_three min_three max_four min_four   
set_option linter.unusedVariables false
set_option linter.unusedSimpArgs false
theorem eqA36 (d : Nat) (w : World) (x0 y0 : Int) (x1 y1 : Int) (x2 y2 : Int) (x3 y3 : Int) (x4 y4 : Int) :
  (Op.equalIn (d + 2) 36 (.agg #[.int .u64 x0, .int .i64 x1, .int .i64 x2, .int .i64 x3, .int .i64 x4]) (.agg #[.int .u64 y0, .int .i64 y1, .int .i64 y2, .int .i64 y3, .int .i64 y4])).run Tryd.prog w = .ok (x0 == y0 && (x1 == y1 && (x2 == y2 && (x3 == y3 && (x4 == y4))))) w := by
 refine eqA_of Tryd.underlying36 (by kernel_rfl) ?_
 refine eqf_cons (by rfl) (by go_simp; rfl) (by go_simp; rfl) (by go_simp) ?_
 refine eqf_cons (by rfl) (by go_simp; rfl) (by go_simp; rfl) (by go_simp) ?_
 refine eqf_cons (by rfl) (by go_simp; rfl) (by go_simp; rfl) (by go_simp) ?_
 refine eqf_cons (by rfl) (by go_simp; rfl) (by go_simp; rfl) (by go_simp) ?_
 exact eqf_last (by rfl) (by go_simp; rfl) (by go_simp; rfl) (by go_simp)
end Go.Proofs.YtcbiilbmldinhaaDoor.PB
end

section
namespace Go.Proofs.YtcbiilbmldinhaaDoor.PB
open Go.RowKit Go.Proofs.YtcbiilbmldinhaaDoorW.PrintWords Go.Proofs.YtcbiilbmldinhaaDoorW.PrintLast Go.Proofs.YtcbiilbmldinhaaDoorW.PrintMore
attribute [local go_sem] max2_int min2_int max_two min_two max_three min_three max_four min_four   
set_option linter.unusedVariables false
set_option linter.unusedSimpArgs false
def bureaulaw18_theirs.f (a0_0 : Int) (a0_1 : Int) (a0_2 : Int) (a0_3 : Int) (a0_4 : Int) : Option (Int × Int × Int × Int × Int) := some (a0_0, a0_1, a0_2, a0_3, a0_4)
set_option maxHeartbeats 8000000 in
set_option maxRecDepth 100000 in
theorem bureaulaw18_theirs.calls (a0_0 : Int) (a0_1 : Int) (a0_2 : Int) (a0_3 : Int) (a0_4 : Int) (r1 : Int) (r2 : Int) (r3 : Int) (r4 : Int) (r5 : Int) (w : World) (h : bureaulaw18_theirs.f a0_0 a0_1 a0_2 a0_3 a0_4 = some (r1, r2, r3, r4, r5)) :
  Calls Tryd.prog 14 #[.agg #[.int .u64 a0_0, .int .i64 a0_1, .int .i64 a0_2, .int .i64 a0_3, .int .i64 a0_4]] w fun e w' => e = .returned (.agg #[.int .u64 r1, .int .i64 r2, .int .i64 r3, .int .i64 r4, .int .i64 r5]) ∧ Below w.heap.size w w' := by
 have hu38 := Tryd.underlying38
 have hu36 := Tryd.underlying36
 have HB := aM (Below.refl w.heap.size w)
 have H : (some (a0_0, a0_1, a0_2, a0_3, a0_4)) = some (r1, r2, r3, r4, r5) := h
 clear h
 simp only [Option.some.injEq, Prod.mk.injEq] at H
 obtain ⟨rfl, rfl, rfl, rfl, rfl⟩ := H
 go_enter Tryd.func14, Tryd.ntmps14
 go_wp2_with (first | ((with_reducible refine gate_dst (N := 1) rfl ?_); refine box_event ?hg (N := 1) ?hd (cs := #[.int .u64 a0_0, .int .i64 a0_1, .int .i64 a0_2, .int .i64 a0_3, .int .i64 a0_4]) (t := 38) ?hr ?_; (case hd | hg => rfl); (case hr => first | (go_simp; done) | (go_simp; rfl)); intro gb156 hg w2 hbox hb; have n0_ := aM (bP (ey HB.out) hb); have n1_ := aM (hbox); have n2_ := aM ((by rw [hg]; exact (bZ (ey HB.out)) : w.heap.size ≤ gb156)); have n3_ := n2_; clear HB; have HB := n0_; have BK156 := n1_; have GW156 := n2_; have GE156 := n3_; clear n0_ n1_ n2_ n3_; clear hb hbox hg) | ((with_reducible refine gate_dst (N := 2) rfl ?_); refine box_event ?hg (N := 2) ?hd (cs := #[.int .u64 0, .int .i64 0, .int .i64 0, .int .i64 0, .int .i64 0]) (t := 36) ?hr ?_; (case hd | hg => rfl); (case hr => first | (go_simp; done) | (go_simp; rfl)); intro gb157 hg w3 hbox hb; have n0_ := aM (bB (g := gb156) (qy BK156.out) hb); have n1_ := aM (bP (by repeat (first | (with_reducible first | exact HB.out | apply ea | apply en | apply ed | refine es ?_ GE156.out) | exact HB.out)) hb); have n2_ := aM (hbox); have n3_ := aM ((by rw [hg]; exact (bZ (by repeat (first | (with_reducible first | exact HB.out | apply ea | apply en | apply ed | refine es ?_ GE156.out) | exact HB.out))) : w.heap.size ≤ gb157)); have n4_ := n3_; have n5_ := aM ((by rw [hg]; exact Nat.ne_of_lt (blk_lt (g := gb156) (qy BK156.out)) : gb156 ≠ gb157)); have n6_ := aM ((by rw [hg]; exact Nat.ne_of_gt (blk_lt (g := gb156) (qy BK156.out)) : gb157 ≠ gb156)); clear BK156 HB; have BK156 := n0_; have HB := n1_; have BK157 := n2_; have GW157 := n3_; have GE157 := n4_; have NB156_157 := n5_; have NB157_156 := n6_; clear n0_ n1_ n2_ n3_ n4_ n5_ n6_; clear hb hbox hg; have hnb4 := NB156_157.out; have hnc4 := NB157_156.out; have hcz5_0 := zC BK156.out 0 (.int .u64 a0_0); have hcz5_1 := zC BK156.out 1 (.int .i64 a0_1); have hcz5_2 := zC BK156.out 2 (.int .i64 a0_2); have hcz5_3 := zC BK156.out 3 (.int .i64 a0_3); have hcz5_4 := zC BK156.out 4 (.int .i64 a0_4); have hfz5_0 := bF BK156.out 0; have hfz5_1 := bF BK156.out 1; have hfz5_2 := bF BK156.out 2; have hfz5_3 := bF BK156.out 3; have hfz5_4 := bF BK156.out 4; have hcz6_0 := zC BK157.out 0 (.int .u64 0); have hcz6_1 := zC BK157.out 1 (.int .i64 0); have hcz6_2 := zC BK157.out 2 (.int .i64 0); have hcz6_3 := zC BK157.out 3 (.int .i64 0); have hcz6_4 := zC BK157.out 4 (.int .i64 0); have hfz6_0 := bF BK157.out 0; have hfz6_1 := bF BK157.out 1; have hfz6_2 := bF BK157.out 2; have hfz6_3 := bF BK157.out 3; have hfz6_4 := bF BK157.out 4))
 refine bodyPost_ret (results_cell_row rfl _ _ gb157 36 #[.int .u64 a0_0, .int .i64 a0_1, .int .i64 a0_2, .int .i64 a0_3, .int .i64 a0_4] (0, 0) _ rfl (by (with_reducible repeat (first | apply qn | apply qd | apply qa)); refine bU (cs := #[.int .u64 a0_0, .int .i64 a0_1, .int .i64 a0_2, .int .i64 a0_3, .int .i64 0]) ?_ 4 _ rfl; (with_reducible repeat (first | apply qn | apply qd | apply qa)); refine bU (cs := #[.int .u64 a0_0, .int .i64 a0_1, .int .i64 a0_2, .int .i64 0, .int .i64 0]) ?_ 3 _ rfl; (with_reducible repeat (first | apply qn | apply qd | apply qa)); refine bU (cs := #[.int .u64 a0_0, .int .i64 a0_1, .int .i64 0, .int .i64 0, .int .i64 0]) ?_ 2 _ rfl; (with_reducible repeat (first | apply qn | apply qd | apply qa)); refine bU (cs := #[.int .u64 a0_0, .int .i64 0, .int .i64 0, .int .i64 0, .int .i64 0]) ?_ 1 _ rfl; (with_reducible repeat (first | apply qn | apply qd | apply qa)); refine bU (cs := #[.int .u64 0, .int .i64 0, .int .i64 0, .int .i64 0, .int .i64 0]) ?_ 0 _ rfl; exact qy BK157.out) Tryd.underlying36 rfl (by kernel_rfl)) rfl ?_
 exact ⟨by first | rfl | (simp [errW_none, errW_some] <;> rfl) | (simp [*, errW_none, errW_some] <;> rfl), by repeat (first | (with_reducible first | exact HB.out | apply ea | apply en | apply ed | refine es ?_ GE156.out | refine es ?_ GE157.out) | exact HB.out)⟩
end Go.Proofs.YtcbiilbmldinhaaDoor.PB
end

section
namespace Go.Proofs.YtcbiilbmldinhaaDoor.PB
open Go.RowKit Go.Proofs.YtcbiilbmldinhaaDoorW.PrintWords Go.Proofs.YtcbiilbmldinhaaDoorW.PrintLast Go.Proofs.YtcbiilbmldinhaaDoorW.PrintMore
attribute [local go_sem] max2_int min2_int max_two min_two max_three min_three max_four min_four   
set_option linter.unusedVariables false
set_option linter.unusedSimpArgs false
def audit_word.f (a0 : Int) : Option (ByteArray) := if a0 = 1 then (some (⟨#[103, 114, 97, 110, 116]⟩ : ByteArray)) else (if a0 = 2 then (some (⟨#[114, 101, 118, 111, 107, 101]⟩ : ByteArray)) else (if a0 = 3 then (some (⟨#[114, 101, 108, 101, 97, 115, 101]⟩ : ByteArray)) else (if a0 = 4 then (some (⟨#[100, 101, 110, 121]⟩ : ByteArray)) else (some (⟨#[]⟩ : ByteArray)))))
set_option maxHeartbeats 8000000 in
set_option maxRecDepth 100000 in
theorem audit_word.calls (a0 : Int) (r : ByteArray) (w : World) (h : audit_word.f a0 = some r) :
  Calls Tryd.prog 39 #[.int .i64 a0] w fun e w' => e = .returned (.string r) ∧ Drawn0 w w' := by
 have H : (if a0 = 1 then (some (⟨#[103, 114, 97, 110, 116]⟩ : ByteArray)) else (if a0 = 2 then (some (⟨#[114, 101, 118, 111, 107, 101]⟩ : ByteArray)) else (if a0 = 3 then (some (⟨#[114, 101, 108, 101, 97, 115, 101]⟩ : ByteArray)) else (if a0 = 4 then (some (⟨#[100, 101, 110, 121]⟩ : ByteArray)) else (some (⟨#[]⟩ : ByteArray)))))) = some r := h
 clear h
 by_cases c2 : a0 = 1
 ·rw [if_pos c2] at H
  have c2b0 : (a0 == 1) = true := beq_iff_eq.mpr c2
  have c2b1 : (a0 != 1) = false := bne_eq_false_iff_eq.mpr c2
  clear c2
  obtain rfl := Option.some.inj H
  go_enter Tryd.func39, Tryd.ntmps39
  go_wp2
  go_ret
  exact ⟨by first | rfl | (simp; done) | (simp [*]; done), by repeat (first | exact Drawn0.refl _ | apply Drawn0.step)⟩
 ·rw [if_neg c2] at H
  have c2b0 : (a0 == 1) = false := beq_eq_false_iff_ne.mpr c2
  have c2b1 : (a0 != 1) = true := bne_iff_ne.mpr c2
  by_cases c3 : a0 = 2
  ·rw [if_pos c3] at H
   have c3b0 : (a0 == 2) = true := beq_iff_eq.mpr c3
   have c3b1 : (a0 != 2) = false := bne_eq_false_iff_eq.mpr c3
   clear c3
   obtain rfl := Option.some.inj H
   go_enter Tryd.func39, Tryd.ntmps39
   go_wp2
   go_ret
   exact ⟨by first | rfl | (simp; done) | (simp [*]; done), by repeat (first | exact Drawn0.refl _ | apply Drawn0.step)⟩
  ·rw [if_neg c3] at H
   have c3b0 : (a0 == 2) = false := beq_eq_false_iff_ne.mpr c3
   have c3b1 : (a0 != 2) = true := bne_iff_ne.mpr c3
   by_cases c4 : a0 = 3
   ·rw [if_pos c4] at H
    have c4b0 : (a0 == 3) = true := beq_iff_eq.mpr c4
    have c4b1 : (a0 != 3) = false := bne_eq_false_iff_eq.mpr c4
    clear c4
    obtain rfl := Option.some.inj H
    go_enter Tryd.func39, Tryd.ntmps39
    go_wp2
    go_ret
    exact ⟨by first | rfl | (simp; done) | (simp [*]; done), by repeat (first | exact Drawn0.refl _ | apply Drawn0.step)⟩
   ·rw [if_neg c4] at H
    have c4b0 : (a0 == 3) = false := beq_eq_false_iff_ne.mpr c4
    have c4b1 : (a0 != 3) = true := bne_iff_ne.mpr c4
    by_cases c5 : a0 = 4
    ·rw [if_pos c5] at H
     have c5b0 : (a0 == 4) = true := beq_iff_eq.mpr c5
     have c5b1 : (a0 != 4) = false := bne_eq_false_iff_eq.mpr c5
     clear c5
     obtain rfl := Option.some.inj H
     go_enter Tryd.func39, Tryd.ntmps39
     go_wp2
     go_ret
     exact ⟨by first | rfl | (simp; done) | (simp [*]; done), by repeat (first | exact Drawn0.refl _ | apply Drawn0.step)⟩
    ·rw [if_neg c5] at H
     have c5b0 : (a0 == 4) = false := beq_eq_false_iff_ne.mpr c5
     have c5b1 : (a0 != 4) = true := bne_iff_ne.mpr c5
     obtain rfl := Option.some.inj H
     go_enter Tryd.func39, Tryd.ntmps39
     go_wp2
     go_ret
     exact ⟨by first | rfl | (simp; done) | (simp [*]; done), by repeat (first | exact Drawn0.refl _ | apply Drawn0.step)⟩
end Go.Proofs.YtcbiilbmldinhaaDoor.PB
end

section
namespace Go.Proofs.YtcbiilbmldinhaaDoor.PB
open Go.RowKit Go.Proofs.YtcbiilbmldinhaaDoorW.PrintWords Go.Proofs.YtcbiilbmldinhaaDoorW.PrintLast Go.Proofs.YtcbiilbmldinhaaDoorW.PrintMore
attribute [local go_sem] max2_int min2_int max_two min_two max_three min_three max_four min_four   
set_option linter.unusedVariables false
set_option linter.unusedSimpArgs false
def audit_Record_may.l0 : Nat → List Int → Int → Int → Int → Int → Int → Int → Int → Option (Bool)
 | 0, _, _, _, _, _, _, _, _ => none
 | k + 1, x11, x12, x13, x102000, x102001, x102002, x102003, x102004 => if x13 < x12 then (if 0 ≤ x13 then (if x13 < (x11.length : Int) then (if (rd x11 x13) < 0 then (some false) else (if (rd x11 x13) > 65535 then (some false) else (audit_Record_may.l0 k x11 x12 (wrap64 (x13 + 1)) x102000 x102001 x102002 x102003 x102004))) else (none)) else (none)) else ((audit_word.f x102001).bind fun t106 => (some (t106.toList != ([] : List UInt8))))
def audit_Record_may.f (k : Nat) (a0_0 : Int) (a0_1 : Int) (a0_2 : Int) (a0_3 : Int) (a0_4 : Int) : Option (Bool) := (some (([a0_2, a0_3, a0_4] : List Int) : List Int)).bind fun y102 => (audit_Record_may.l0 k y102 (y102.length : Int) 0 a0_0 a0_1 a0_2 a0_3 a0_4)
set_option maxHeartbeats 8000000 in
set_option maxRecDepth 100000 in
theorem audit_Record_may.calls (k : Nat) (a0_0 : Int) (a0_1 : Int) (a0_2 : Int) (a0_3 : Int) (a0_4 : Int) (r : Bool) (w : World) (h : audit_Record_may.f k a0_0 a0_1 a0_2 a0_3 a0_4 = some r) :
  Calls Tryd.prog 33 #[.agg #[.int .u64 a0_0, .int .i64 a0_1, .int .i64 a0_2, .int .i64 a0_3, .int .i64 a0_4]] w fun e w' => e = .returned (.bool r) ∧ Below w.heap.size w w' := by
 have hu36 := Tryd.underlying36
 have HB := aM (Below.refl w.heap.size w)
 have H : ((some (([a0_2, a0_3, a0_4] : List Int) : List Int)).bind fun y102 => (audit_Record_may.l0 k y102 (y102.length : Int) 0 a0_0 a0_1 a0_2 a0_3 a0_4)) = some r := h
 clear h
 obtain ⟨y102, hy102⟩ : ∃ y_ : List Int, y_ = (([a0_2, a0_3, a0_4] : List Int)) := ⟨_, rfl⟩
 replace H : (audit_Record_may.l0 k y102 (y102.length : Int) 0 a0_0 a0_1 a0_2 a0_3 a0_4) = some r := by first | (rw [hy102]; with_reducible exact H) | (have H2_ := (Option.bind_some _ _).symm.trans H; rw [hy102]; with_reducible exact H2_) | (have H2_ := (Option.bind_some _ _).symm.trans H; with_reducible exact H2_) | with_reducible exact H | (rw [hy102]; exact H) | exact H
 have Ny102 := aM hy102
 clear hy102
 have H' := aM H
 clear H
 go_enter Tryd.func33, Tryd.ntmps33
 go_wp2_with (first | ((with_reducible refine gate_dst (N := 1) rfl ?_); refine box_event ?hg (N := 1) ?hd (cs := #[.int .u64 a0_0, .int .i64 a0_1, .int .i64 a0_2, .int .i64 a0_3, .int .i64 a0_4]) (t := 36) ?hr ?_; (case hd | hg => rfl); (case hr => first | (go_simp; done) | (go_simp; rfl)); intro gb101 hg w2 hbox hb; have n0_ := aM (bP (ey HB.out) hb); have n1_ := aM (hbox); have n2_ := aM ((by rw [hg]; exact (bZ (ey HB.out)) : w.heap.size ≤ gb101)); have n3_ := n2_; clear HB; have HB := n0_; have BK101 := n1_; have GW101 := n2_; have GE101 := n3_; clear n0_ n1_ n2_ n3_; clear hb hbox hg; have hcz3_0 := zC BK101.out 0 (.int .u64 a0_0); have hcz3_1 := zC BK101.out 1 (.int .i64 a0_1); have hcz3_2 := zC BK101.out 2 (.int .i64 a0_2); have hcz3_3 := zC BK101.out 3 (.int .i64 a0_3); have hcz3_4 := zC BK101.out 4 (.int .i64 a0_4); have hfz3_0 := bF BK101.out 0; have hfz3_1 := bF BK101.out 1; have hfz3_2 := bF BK101.out 2; have hfz3_3 := bF BK101.out 3; have hfz3_4 := bF BK101.out 4) | ((with_reducible refine gate_dst (N := 11) rfl ?_); refine Kd.R_lit (Kd.int .i64) _ 3 ?hg (N := 11) ?hd (xs := ([a0_2, a0_3, a0_4] : List Int)) (inner := [.int .i64 a0_2, .int .i64 a0_3, .int .i64 a0_4]) (ok := fun _ => True) (okp := fun _ => True) ?hr ?hp (fun _ hk => hk) trivial (Below.refl _ _) (Nat.le_refl _) (by simp) ?_; (case hd | hg => rfl); (case hr => first | (go_simp; done) | (go_simp; rfl)); (case hp => exact (Reps.one (show Kd.M (Kd.int .i64) _ _ _ a0_2 [.int .i64 a0_2] from rfl) (Reps.one (show Kd.M (Kd.int .i64) _ _ _ a0_3 [.int .i64 a0_3] from rfl) (Reps.one (show Kd.M (Kd.int .i64) _ _ _ a0_4 [.int .i64 a0_4] from rfl) (Reps.none _ _))))); intro v103 w4 ho5 hb hg_ hnew_; clear hg_ hnew_; (first | rw [← Ny102.out] at ho5 | (simp only [Int.reduceToNat] at ho5; rw [← Ny102.out] at ho5)); have n0_ := aM (rL ho5 (bZ (by repeat (first | (with_reducible first | exact HB.out | apply ea | apply en | apply ed | refine es ?_ GE101.out) | exact HB.out)))); have n1_ := aM (bB (g := gb101) (qy BK101.out) hb); have n2_ := aM (bP (by repeat (first | (with_reducible first | exact HB.out | apply ea | apply en | apply ed | refine es ?_ GE101.out) | exact HB.out)) hb); clear BK101 HB; have HO104 := n0_; have BK101 := n1_; have HB := n2_; clear n0_ n1_ n2_; clear hb ho5; obtain ⟨Ao6, co6, eo6⟩ := Kd.R_slice HO104.out; subst eo6))
 go_loopg [13] k (fun kq v13 w' => ∃ (x13_1 : Int), v13 = .int .i64 x13_1 ∧ Aside0 (audit_Record_may.l0 kq y102 (y102.length : Int) x13_1 a0_0 a0_1 a0_2 a0_3 a0_4 = some r) ∧ Aside0 (kq ≤ k) ∧ Aside0 (Kd.R (Kd.int .i64) 3 w' w.heap.size (fun _ => True) (.slice Ao6 y102.length co6) y102) ∧ Aside0 (w'.heap[gb101]? = some (.cells #[.int .u64 a0_0, .int .i64 a0_1, .int .i64 a0_2, .int .i64 a0_3, .int .i64 a0_4] 36 (0, 0))) ∧ Aside0 (Below w.heap.size w w'))
 case atStart => exact ⟨(0), (by first | rfl | (simp; done) | (simp [*]; done)), H', ⟨Nat.le_refl _⟩, ⟨by exact ry HO104.out⟩, ⟨by exact qy BK101.out⟩, ⟨by repeat (first | (with_reducible first | exact HB.out | apply ea | apply en | apply ed | refine es ?_ GE101.out) | exact HB.out)⟩⟩
 case round =>
  clear H'
  try clear p2
  try clear c3
  try clear hcz3_0
  try clear hcz3_1
  try clear hcz3_2
  try clear hcz3_3
  try clear hcz3_4
  try clear hfz3_0
  try clear hfz3_1
  try clear hfz3_2
  try clear hfz3_3
  try clear hfz3_4
  obtain ⟨x13_1, rfl, HA, HK1, HO_11, BK101, HB⟩ := hrel
  cases gk with
  | zero => exact absurd HA.out (by simp [audit_Record_may.l0])
  | succ k1 =>
   have H := HA.out
   clear HA
   simp only [audit_Record_may.l0] at H
   by_cases c7 : x13_1 < (y102.length : Int)
   ·rw [if_pos c7] at H
    have c7b0 : decide (x13_1 < (y102.length : Int)) = true := decide_eq_true c7
    clear c7
    by_cases c8 : 0 ≤ x13_1
    ·rw [if_pos c8] at H
     have c8b0 : decide (0 ≤ x13_1) = true := decide_eq_true c8
     clear c8
     by_cases c9 : x13_1 < (y102.length : Int)
     ·rw [if_pos c9] at H
      have c9b0 : decide (x13_1 < (y102.length : Int)) = true := decide_eq_true c9
      clear c9
      by_cases c10 : (rd y102 x13_1) < 0
      ·rw [if_pos c10] at H
       have c10b0 : decide ((rd y102 x13_1) < 0) = true := decide_eq_true c10
       clear c10
       obtain rfl := Option.some.inj H
       have p105 : 0 ≤ (x13_1 : Int) := of_decide_eq_true (by first | (with_reducible assumption) | assumption)
       have q105 : x13_1 < (y102.length : Int) := of_decide_eq_true (by first | (with_reducible assumption) | assumption)
       obtain ⟨ad105, e105, hx105_0⟩ := Kd.at_int (rR HO_11.out).2.2 x13_1 p105 q105
       cases e105
       replace p105 := eq_true p105
       replace q105 := eq_true q105
       go_wp2
       go_ret
       exact ⟨by first | rfl | (simp [errW_none, errW_some] <;> rfl) | (simp [*, errW_none, errW_some] <;> rfl), by repeat (first | (with_reducible first | exact HB.out | apply ea | apply en | apply ed | refine es ?_ GE101.out) | exact HB.out)⟩
      ·rw [if_neg c10] at H
       have c10b0 : decide ((rd y102 x13_1) < 0) = false := decide_eq_false c10
       clear c10
       by_cases c11 : (rd y102 x13_1) > 65535
       ·rw [if_pos c11] at H
        have c11b0 : decide (65535 < (rd y102 x13_1)) = true := decide_eq_true c11
        clear c11
        obtain rfl := Option.some.inj H
        have p105 : 0 ≤ (x13_1 : Int) := of_decide_eq_true (by first | (with_reducible assumption) | assumption)
        have q105 : x13_1 < (y102.length : Int) := of_decide_eq_true (by first | (with_reducible assumption) | assumption)
        obtain ⟨ad105, e105, hx105_0⟩ := Kd.at_int (rR HO_11.out).2.2 x13_1 p105 q105
        cases e105
        replace p105 := eq_true p105
        replace q105 := eq_true q105
        go_wp2
        go_ret
        exact ⟨by first | rfl | (simp [errW_none, errW_some] <;> rfl) | (simp [*, errW_none, errW_some] <;> rfl), by repeat (first | (with_reducible first | exact HB.out | apply ea | apply en | apply ed | refine es ?_ GE101.out) | exact HB.out)⟩
       ·rw [if_neg c11] at H
        have c11b0 : decide (65535 < (rd y102 x13_1)) = false := decide_eq_false c11
        clear c11
        have H' := aM H
        clear H
        have p105 : 0 ≤ (x13_1 : Int) := of_decide_eq_true (by first | (with_reducible assumption) | assumption)
        have q105 : x13_1 < (y102.length : Int) := of_decide_eq_true (by first | (with_reducible assumption) | assumption)
        obtain ⟨ad105, e105, hx105_0⟩ := Kd.at_int (rR HO_11.out).2.2 x13_1 p105 q105
        cases e105
        replace p105 := eq_true p105
        replace q105 := eq_true q105
        go_wp2
        go_roundg k1
        case measure => have := HK1.out; omega
        case rel => exact ⟨(wrap64 (x13_1 + 1)), (by first | rfl | (simp; done) | (simp [*]; done)), H', ⟨by have := HK1.out; omega⟩, ⟨by exact ry HO_11.out⟩, ⟨by exact qy BK101.out⟩, ⟨by repeat (first | (with_reducible first | exact HB.out | apply ea | apply en | apply ed | refine es ?_ GE101.out) | exact HB.out)⟩⟩
     ·rw [if_neg c9] at H
      exact absurd H (by simp)
    ·rw [if_neg c8] at H
     exact absurd H (by simp)
   ·rw [if_neg c7] at H
    have c7b0 : decide (x13_1 < (y102.length : Int)) = false := decide_eq_false c7
    clear c7
    replace H := Option.bind_eq_some_iff.mp H
    obtain ⟨t106, A120, H⟩ := H
    replace H : (some (t106.toList != ([] : List UInt8))) = some r := H
    have A12 := aM A120
    clear A120
    obtain rfl := Option.some.inj H
    have hcz13_0 := zC BK101.out 0 (.int .u64 a0_0)
    have hcz13_1 := zC BK101.out 1 (.int .i64 a0_1)
    have hcz13_2 := zC BK101.out 2 (.int .i64 a0_2)
    have hcz13_3 := zC BK101.out 3 (.int .i64 a0_3)
    have hcz13_4 := zC BK101.out 4 (.int .i64 a0_4)
    have hfz13_0 := bF BK101.out 0
    have hfz13_1 := bF BK101.out 1
    have hfz13_2 := bF BK101.out 2
    have hfz13_3 := bF BK101.out 3
    have hfz13_4 := bF BK101.out 4
    go_wp2_with (first | ((with_reducible refine gate_callee (f := 39) rfl ?_); refine goesL_ (some 26) rfl rfl Tryd.func39 (by kernel_rfl) rfl #[.int .i64 a0_1] rfl (by (try simp only [mT, mC, mN]); first | done | rfl | (simp only [lD, lT]; rfl)) ?_; (with_reducible refine (audit_word.calls a0_1 t106 _ A12.out).mono ?_); rintro e w' ⟨rfl, ⟨nd, rfl⟩⟩; refine ⟨_, rfl, ?_⟩))
    go_ret
    exact ⟨by first | rfl | (simp [errW_none, errW_some]; cases t106.toList <;> rfl) | (simp [errW_none, errW_some] <;> rfl) | (simp [*, errW_none, errW_some] <;> rfl), by repeat (first | (with_reducible first | exact HB.out | apply ea | apply en | apply ed | refine es ?_ GE101.out) | exact HB.out)⟩
end Go.Proofs.YtcbiilbmldinhaaDoor.PB
end

section
namespace Go.Proofs.YtcbiilbmldinhaaDoor.PB
set_option linter.unusedVariables false
def marksTo (n k : Nat) : List Bool := (List.range 64).map (fun i => decide (i < k) && n.testBit i)
def marksN (n : Nat) : List Bool := (List.range 64).map (fun i => n.testBit i)
def ofBits : List Bool → Nat
  | [] => 0
  | b :: l => 2 * ofBits l + b.toNat
theorem marksTo_len (n k : Nat) : (marksTo n k).length = 64 := by simp [marksTo]
theorem marksN_len (n : Nat) : (marksN n).length = 64 := by simp [marksN]
theorem marksTo_zero (n : Nat) : marksTo n 0 = List.replicate 64 false := by simp [marksTo]; rfl
theorem marksTo_all (n : Nat) : marksTo n 64 = marksN n := by
  unfold marksTo marksN
  apply List.map_congr_left
  intro i hi
  simp [List.mem_range.1 hi]
theorem marksTo_set (n k : Nat) (hk : k < 64) : (marksTo n k).set k (n.testBit k) = marksTo n (k + 1) := by
  apply List.ext_getElem?
  intro i
  rw [List.getElem?_set]
  unfold marksTo
  simp only [List.getElem?_map, List.length_map, List.length_range]
  by_cases hi : i < 64
  · rw [List.getElem?_range hi]
    by_cases h : k = i
    · subst h; simp [hk]
    · have : decide (i < k) = decide (i < k + 1) := by rw [decide_eq_decide]; omega
      rw [if_neg h, Option.map_some, Option.map_some, this]
  · rw [List.getElem?_eq_none (by simpa using hi), if_neg (by omega)]; rfl
theorem ofBits_testBit (l : List Bool) : ∀ i, (ofBits l).testBit i = l.getD i false := by
  induction l with
  | nil => intro i; simp [ofBits]
  | cons b l ih =>
    intro i
    cases i with
    | zero => cases b <;> simp [ofBits, Nat.testBit_zero] <;> omega
    | succ i =>
      have : (2 * ofBits l + b.toNat) / 2 = ofBits l := by cases b <;> simp <;> omega
      rw [ofBits, Nat.testBit_succ, this, ih i]
      simp
theorem ofBits_lt (l : List Bool) : ofBits l < 2 ^ l.length := by
  induction l with
  | nil => simp [ofBits]
  | cons b l ih =>
    have : b.toNat ≤ 1 := by cases b <;> simp
    simp only [ofBits, List.length_cons, Nat.pow_succ]
    omega
theorem marksN_getD (n i : Nat) (hi : i < 64) : (marksN n).getD i false = n.testBit i := by
  unfold marksN
  rw [List.getD_eq_getElem?_getD, List.getElem?_map, List.getElem?_range hi]
  rfl
theorem ofBits_eq (l : List Bool) (m : Nat) (hl : l.length = 64) (hm : m < 2 ^ 64) (h : ∀ i, i < 64 → l.getD i false = m.testBit i) : ofBits l = m := by
  apply Nat.eq_of_testBit_eq
  intro i
  rw [ofBits_testBit]
  by_cases hi : i < 64
  · exact h i hi
  · rw [List.getD_eq_getElem?_getD, List.getElem?_eq_none (by omega)]
    exact (Nat.testBit_lt_two_pow (Nat.lt_of_lt_of_le hm (Nat.pow_le_pow_right (by decide) (by omega)))).symm
end Go.Proofs.YtcbiilbmldinhaaDoor.PB
end

section
namespace Go.Proofs.YtcbiilbmldinhaaDoor.PB
def catsOf (l : List Int) : List Bool := (List.range 64).map (fun i : Nat => l.contains (i : Int))
theorem catsOf_len (l : List Int) : (catsOf l).length = 64 := by simp [catsOf]
theorem catsOf_nil : catsOf [] = List.replicate 64 false := by simp [catsOf]; rfl
theorem catsOf_snoc (l : List Int) (m : Nat) (hm : m < 64) : (catsOf l).set m true = catsOf (l ++ [(m : Int)]) := by
  apply List.ext_getElem?
  intro i
  rw [List.getElem?_set]
  unfold catsOf
  simp only [List.getElem?_map, List.length_map, List.length_range]
  by_cases hi : i < 64
  · rw [List.getElem?_range hi]
    by_cases h : m = i
    · subst h; simp [hm]
    · rw [if_neg h, Option.map_some, Option.map_some]
      have : ¬ ((i : Int) = (m : Int)) := by omega
      simp [this]
  · rw [List.getElem?_eq_none (by simpa using hi), if_neg (by omega)]; rfl
theorem catsOf_getD (l : List Int) (i : Nat) (hi : i < 64) : (catsOf l).getD i false = l.contains (i : Int) := by
  unfold catsOf
  rw [List.getD_eq_getElem?_getD, List.getElem?_map, List.getElem?_range hi]; rfl
def catsTo (n k : Nat) : List Int := ((List.range k).filter (fun i => n.testBit i)).map (fun i : Nat => (i : Int))
theorem catsTo_yes (n k : Nat) (h : n.testBit k = true) : catsTo n (k + 1) = catsTo n k ++ [(k : Int)] := by
  unfold catsTo; rw [List.range_succ, List.filter_append]; simp [h]
theorem catsTo_no (n k : Nat) (h : n.testBit k = false) : catsTo n (k + 1) = catsTo n k := by
  unfold catsTo; rw [List.range_succ, List.filter_append]; simp [h]
theorem catsTo_len (n k : Nat) : (catsTo n k).length ≤ k := by
  unfold catsTo; rw [List.length_map]; exact Nat.le_trans (List.length_filter_le _ _) (by simp)
end Go.Proofs.YtcbiilbmldinhaaDoor.PB
end

section
namespace Go.Proofs.YtcbiilbmldinhaaDoor.PB
open Go.RowKit Go.Proofs.YtcbiilbmldinhaaDoorW.PrintWords Go.Proofs.YtcbiilbmldinhaaDoorW.PrintLast Go.Proofs.YtcbiilbmldinhaaDoorW.PrintMore
attribute [local go_sem] max2_int min2_int max_two min_two max_three min_three max_four min_four   
set_option linter.unusedVariables false
set_option linter.unusedSimpArgs false
def bits_OnesCount64.f (a0 : Int) : Option (Int) := some (Go.bits .and .i64 (wrap64 (IntKind.u64.wrap ((IntKind.u64.wrap ((IntKind.u64.wrap ((Go.bits .and .u64 (IntKind.u64.wrap (((IntKind.u64.wrap ((Go.bits .and .u64 ((IntKind.u64.wrap ((Go.bits .and .u64 (a0 / 2) 6148914691236517205) + (Go.bits .and .u64 a0 6148914691236517205))) / 4) 3689348814741910323) + (Go.bits .and .u64 (IntKind.u64.wrap ((Go.bits .and .u64 (a0 / 2) 6148914691236517205) + (Go.bits .and .u64 a0 6148914691236517205))) 3689348814741910323))) / 16) + (IntKind.u64.wrap ((Go.bits .and .u64 ((IntKind.u64.wrap ((Go.bits .and .u64 (a0 / 2) 6148914691236517205) + (Go.bits .and .u64 a0 6148914691236517205))) / 4) 3689348814741910323) + (Go.bits .and .u64 (IntKind.u64.wrap ((Go.bits .and .u64 (a0 / 2) 6148914691236517205) + (Go.bits .and .u64 a0 6148914691236517205))) 3689348814741910323))))) 1085102592571150095) + ((Go.bits .and .u64 (IntKind.u64.wrap (((IntKind.u64.wrap ((Go.bits .and .u64 ((IntKind.u64.wrap ((Go.bits .and .u64 (a0 / 2) 6148914691236517205) + (Go.bits .and .u64 a0 6148914691236517205))) / 4) 3689348814741910323) + (Go.bits .and .u64 (IntKind.u64.wrap ((Go.bits .and .u64 (a0 / 2) 6148914691236517205) + (Go.bits .and .u64 a0 6148914691236517205))) 3689348814741910323))) / 16) + (IntKind.u64.wrap ((Go.bits .and .u64 ((IntKind.u64.wrap ((Go.bits .and .u64 (a0 / 2) 6148914691236517205) + (Go.bits .and .u64 a0 6148914691236517205))) / 4) 3689348814741910323) + (Go.bits .and .u64 (IntKind.u64.wrap ((Go.bits .and .u64 (a0 / 2) 6148914691236517205) + (Go.bits .and .u64 a0 6148914691236517205))) 3689348814741910323))))) 1085102592571150095) / 256))) + ((IntKind.u64.wrap ((Go.bits .and .u64 (IntKind.u64.wrap (((IntKind.u64.wrap ((Go.bits .and .u64 ((IntKind.u64.wrap ((Go.bits .and .u64 (a0 / 2) 6148914691236517205) + (Go.bits .and .u64 a0 6148914691236517205))) / 4) 3689348814741910323) + (Go.bits .and .u64 (IntKind.u64.wrap ((Go.bits .and .u64 (a0 / 2) 6148914691236517205) + (Go.bits .and .u64 a0 6148914691236517205))) 3689348814741910323))) / 16) + (IntKind.u64.wrap ((Go.bits .and .u64 ((IntKind.u64.wrap ((Go.bits .and .u64 (a0 / 2) 6148914691236517205) + (Go.bits .and .u64 a0 6148914691236517205))) / 4) 3689348814741910323) + (Go.bits .and .u64 (IntKind.u64.wrap ((Go.bits .and .u64 (a0 / 2) 6148914691236517205) + (Go.bits .and .u64 a0 6148914691236517205))) 3689348814741910323))))) 1085102592571150095) + ((Go.bits .and .u64 (IntKind.u64.wrap (((IntKind.u64.wrap ((Go.bits .and .u64 ((IntKind.u64.wrap ((Go.bits .and .u64 (a0 / 2) 6148914691236517205) + (Go.bits .and .u64 a0 6148914691236517205))) / 4) 3689348814741910323) + (Go.bits .and .u64 (IntKind.u64.wrap ((Go.bits .and .u64 (a0 / 2) 6148914691236517205) + (Go.bits .and .u64 a0 6148914691236517205))) 3689348814741910323))) / 16) + (IntKind.u64.wrap ((Go.bits .and .u64 ((IntKind.u64.wrap ((Go.bits .and .u64 (a0 / 2) 6148914691236517205) + (Go.bits .and .u64 a0 6148914691236517205))) / 4) 3689348814741910323) + (Go.bits .and .u64 (IntKind.u64.wrap ((Go.bits .and .u64 (a0 / 2) 6148914691236517205) + (Go.bits .and .u64 a0 6148914691236517205))) 3689348814741910323))))) 1085102592571150095) / 256))) / 65536))) + ((IntKind.u64.wrap ((IntKind.u64.wrap ((Go.bits .and .u64 (IntKind.u64.wrap (((IntKind.u64.wrap ((Go.bits .and .u64 ((IntKind.u64.wrap ((Go.bits .and .u64 (a0 / 2) 6148914691236517205) + (Go.bits .and .u64 a0 6148914691236517205))) / 4) 3689348814741910323) + (Go.bits .and .u64 (IntKind.u64.wrap ((Go.bits .and .u64 (a0 / 2) 6148914691236517205) + (Go.bits .and .u64 a0 6148914691236517205))) 3689348814741910323))) / 16) + (IntKind.u64.wrap ((Go.bits .and .u64 ((IntKind.u64.wrap ((Go.bits .and .u64 (a0 / 2) 6148914691236517205) + (Go.bits .and .u64 a0 6148914691236517205))) / 4) 3689348814741910323) + (Go.bits .and .u64 (IntKind.u64.wrap ((Go.bits .and .u64 (a0 / 2) 6148914691236517205) + (Go.bits .and .u64 a0 6148914691236517205))) 3689348814741910323))))) 1085102592571150095) + ((Go.bits .and .u64 (IntKind.u64.wrap (((IntKind.u64.wrap ((Go.bits .and .u64 ((IntKind.u64.wrap ((Go.bits .and .u64 (a0 / 2) 6148914691236517205) + (Go.bits .and .u64 a0 6148914691236517205))) / 4) 3689348814741910323) + (Go.bits .and .u64 (IntKind.u64.wrap ((Go.bits .and .u64 (a0 / 2) 6148914691236517205) + (Go.bits .and .u64 a0 6148914691236517205))) 3689348814741910323))) / 16) + (IntKind.u64.wrap ((Go.bits .and .u64 ((IntKind.u64.wrap ((Go.bits .and .u64 (a0 / 2) 6148914691236517205) + (Go.bits .and .u64 a0 6148914691236517205))) / 4) 3689348814741910323) + (Go.bits .and .u64 (IntKind.u64.wrap ((Go.bits .and .u64 (a0 / 2) 6148914691236517205) + (Go.bits .and .u64 a0 6148914691236517205))) 3689348814741910323))))) 1085102592571150095) / 256))) + ((IntKind.u64.wrap ((Go.bits .and .u64 (IntKind.u64.wrap (((IntKind.u64.wrap ((Go.bits .and .u64 ((IntKind.u64.wrap ((Go.bits .and .u64 (a0 / 2) 6148914691236517205) + (Go.bits .and .u64 a0 6148914691236517205))) / 4) 3689348814741910323) + (Go.bits .and .u64 (IntKind.u64.wrap ((Go.bits .and .u64 (a0 / 2) 6148914691236517205) + (Go.bits .and .u64 a0 6148914691236517205))) 3689348814741910323))) / 16) + (IntKind.u64.wrap ((Go.bits .and .u64 ((IntKind.u64.wrap ((Go.bits .and .u64 (a0 / 2) 6148914691236517205) + (Go.bits .and .u64 a0 6148914691236517205))) / 4) 3689348814741910323) + (Go.bits .and .u64 (IntKind.u64.wrap ((Go.bits .and .u64 (a0 / 2) 6148914691236517205) + (Go.bits .and .u64 a0 6148914691236517205))) 3689348814741910323))))) 1085102592571150095) + ((Go.bits .and .u64 (IntKind.u64.wrap (((IntKind.u64.wrap ((Go.bits .and .u64 ((IntKind.u64.wrap ((Go.bits .and .u64 (a0 / 2) 6148914691236517205) + (Go.bits .and .u64 a0 6148914691236517205))) / 4) 3689348814741910323) + (Go.bits .and .u64 (IntKind.u64.wrap ((Go.bits .and .u64 (a0 / 2) 6148914691236517205) + (Go.bits .and .u64 a0 6148914691236517205))) 3689348814741910323))) / 16) + (IntKind.u64.wrap ((Go.bits .and .u64 ((IntKind.u64.wrap ((Go.bits .and .u64 (a0 / 2) 6148914691236517205) + (Go.bits .and .u64 a0 6148914691236517205))) / 4) 3689348814741910323) + (Go.bits .and .u64 (IntKind.u64.wrap ((Go.bits .and .u64 (a0 / 2) 6148914691236517205) + (Go.bits .and .u64 a0 6148914691236517205))) 3689348814741910323))))) 1085102592571150095) / 256))) / 65536))) / 4294967296)))) 127)
set_option maxHeartbeats 8000000 in
set_option maxRecDepth 100000 in
theorem bits_OnesCount64.calls (a0 : Int) (r : Int) (w : World) (h : bits_OnesCount64.f a0 = some r) :
  Calls Tryd.prog 67 #[.int .u64 a0] w fun e w' => e = .returned (.int .i64 r) ∧ Drawn0 w w' := by
 have H : (some (Go.bits .and .i64 (wrap64 (IntKind.u64.wrap ((IntKind.u64.wrap ((IntKind.u64.wrap ((Go.bits .and .u64 (IntKind.u64.wrap (((IntKind.u64.wrap ((Go.bits .and .u64 ((IntKind.u64.wrap ((Go.bits .and .u64 (a0 / 2) 6148914691236517205) + (Go.bits .and .u64 a0 6148914691236517205))) / 4) 3689348814741910323) + (Go.bits .and .u64 (IntKind.u64.wrap ((Go.bits .and .u64 (a0 / 2) 6148914691236517205) + (Go.bits .and .u64 a0 6148914691236517205))) 3689348814741910323))) / 16) + (IntKind.u64.wrap ((Go.bits .and .u64 ((IntKind.u64.wrap ((Go.bits .and .u64 (a0 / 2) 6148914691236517205) + (Go.bits .and .u64 a0 6148914691236517205))) / 4) 3689348814741910323) + (Go.bits .and .u64 (IntKind.u64.wrap ((Go.bits .and .u64 (a0 / 2) 6148914691236517205) + (Go.bits .and .u64 a0 6148914691236517205))) 3689348814741910323))))) 1085102592571150095) + ((Go.bits .and .u64 (IntKind.u64.wrap (((IntKind.u64.wrap ((Go.bits .and .u64 ((IntKind.u64.wrap ((Go.bits .and .u64 (a0 / 2) 6148914691236517205) + (Go.bits .and .u64 a0 6148914691236517205))) / 4) 3689348814741910323) + (Go.bits .and .u64 (IntKind.u64.wrap ((Go.bits .and .u64 (a0 / 2) 6148914691236517205) + (Go.bits .and .u64 a0 6148914691236517205))) 3689348814741910323))) / 16) + (IntKind.u64.wrap ((Go.bits .and .u64 ((IntKind.u64.wrap ((Go.bits .and .u64 (a0 / 2) 6148914691236517205) + (Go.bits .and .u64 a0 6148914691236517205))) / 4) 3689348814741910323) + (Go.bits .and .u64 (IntKind.u64.wrap ((Go.bits .and .u64 (a0 / 2) 6148914691236517205) + (Go.bits .and .u64 a0 6148914691236517205))) 3689348814741910323))))) 1085102592571150095) / 256))) + ((IntKind.u64.wrap ((Go.bits .and .u64 (IntKind.u64.wrap (((IntKind.u64.wrap ((Go.bits .and .u64 ((IntKind.u64.wrap ((Go.bits .and .u64 (a0 / 2) 6148914691236517205) + (Go.bits .and .u64 a0 6148914691236517205))) / 4) 3689348814741910323) + (Go.bits .and .u64 (IntKind.u64.wrap ((Go.bits .and .u64 (a0 / 2) 6148914691236517205) + (Go.bits .and .u64 a0 6148914691236517205))) 3689348814741910323))) / 16) + (IntKind.u64.wrap ((Go.bits .and .u64 ((IntKind.u64.wrap ((Go.bits .and .u64 (a0 / 2) 6148914691236517205) + (Go.bits .and .u64 a0 6148914691236517205))) / 4) 3689348814741910323) + (Go.bits .and .u64 (IntKind.u64.wrap ((Go.bits .and .u64 (a0 / 2) 6148914691236517205) + (Go.bits .and .u64 a0 6148914691236517205))) 3689348814741910323))))) 1085102592571150095) + ((Go.bits .and .u64 (IntKind.u64.wrap (((IntKind.u64.wrap ((Go.bits .and .u64 ((IntKind.u64.wrap ((Go.bits .and .u64 (a0 / 2) 6148914691236517205) + (Go.bits .and .u64 a0 6148914691236517205))) / 4) 3689348814741910323) + (Go.bits .and .u64 (IntKind.u64.wrap ((Go.bits .and .u64 (a0 / 2) 6148914691236517205) + (Go.bits .and .u64 a0 6148914691236517205))) 3689348814741910323))) / 16) + (IntKind.u64.wrap ((Go.bits .and .u64 ((IntKind.u64.wrap ((Go.bits .and .u64 (a0 / 2) 6148914691236517205) + (Go.bits .and .u64 a0 6148914691236517205))) / 4) 3689348814741910323) + (Go.bits .and .u64 (IntKind.u64.wrap ((Go.bits .and .u64 (a0 / 2) 6148914691236517205) + (Go.bits .and .u64 a0 6148914691236517205))) 3689348814741910323))))) 1085102592571150095) / 256))) / 65536))) + ((IntKind.u64.wrap ((IntKind.u64.wrap ((Go.bits .and .u64 (IntKind.u64.wrap (((IntKind.u64.wrap ((Go.bits .and .u64 ((IntKind.u64.wrap ((Go.bits .and .u64 (a0 / 2) 6148914691236517205) + (Go.bits .and .u64 a0 6148914691236517205))) / 4) 3689348814741910323) + (Go.bits .and .u64 (IntKind.u64.wrap ((Go.bits .and .u64 (a0 / 2) 6148914691236517205) + (Go.bits .and .u64 a0 6148914691236517205))) 3689348814741910323))) / 16) + (IntKind.u64.wrap ((Go.bits .and .u64 ((IntKind.u64.wrap ((Go.bits .and .u64 (a0 / 2) 6148914691236517205) + (Go.bits .and .u64 a0 6148914691236517205))) / 4) 3689348814741910323) + (Go.bits .and .u64 (IntKind.u64.wrap ((Go.bits .and .u64 (a0 / 2) 6148914691236517205) + (Go.bits .and .u64 a0 6148914691236517205))) 3689348814741910323))))) 1085102592571150095) + ((Go.bits .and .u64 (IntKind.u64.wrap (((IntKind.u64.wrap ((Go.bits .and .u64 ((IntKind.u64.wrap ((Go.bits .and .u64 (a0 / 2) 6148914691236517205) + (Go.bits .and .u64 a0 6148914691236517205))) / 4) 3689348814741910323) + (Go.bits .and .u64 (IntKind.u64.wrap ((Go.bits .and .u64 (a0 / 2) 6148914691236517205) + (Go.bits .and .u64 a0 6148914691236517205))) 3689348814741910323))) / 16) + (IntKind.u64.wrap ((Go.bits .and .u64 ((IntKind.u64.wrap ((Go.bits .and .u64 (a0 / 2) 6148914691236517205) + (Go.bits .and .u64 a0 6148914691236517205))) / 4) 3689348814741910323) + (Go.bits .and .u64 (IntKind.u64.wrap ((Go.bits .and .u64 (a0 / 2) 6148914691236517205) + (Go.bits .and .u64 a0 6148914691236517205))) 3689348814741910323))))) 1085102592571150095) / 256))) + ((IntKind.u64.wrap ((Go.bits .and .u64 (IntKind.u64.wrap (((IntKind.u64.wrap ((Go.bits .and .u64 ((IntKind.u64.wrap ((Go.bits .and .u64 (a0 / 2) 6148914691236517205) + (Go.bits .and .u64 a0 6148914691236517205))) / 4) 3689348814741910323) + (Go.bits .and .u64 (IntKind.u64.wrap ((Go.bits .and .u64 (a0 / 2) 6148914691236517205) + (Go.bits .and .u64 a0 6148914691236517205))) 3689348814741910323))) / 16) + (IntKind.u64.wrap ((Go.bits .and .u64 ((IntKind.u64.wrap ((Go.bits .and .u64 (a0 / 2) 6148914691236517205) + (Go.bits .and .u64 a0 6148914691236517205))) / 4) 3689348814741910323) + (Go.bits .and .u64 (IntKind.u64.wrap ((Go.bits .and .u64 (a0 / 2) 6148914691236517205) + (Go.bits .and .u64 a0 6148914691236517205))) 3689348814741910323))))) 1085102592571150095) + ((Go.bits .and .u64 (IntKind.u64.wrap (((IntKind.u64.wrap ((Go.bits .and .u64 ((IntKind.u64.wrap ((Go.bits .and .u64 (a0 / 2) 6148914691236517205) + (Go.bits .and .u64 a0 6148914691236517205))) / 4) 3689348814741910323) + (Go.bits .and .u64 (IntKind.u64.wrap ((Go.bits .and .u64 (a0 / 2) 6148914691236517205) + (Go.bits .and .u64 a0 6148914691236517205))) 3689348814741910323))) / 16) + (IntKind.u64.wrap ((Go.bits .and .u64 ((IntKind.u64.wrap ((Go.bits .and .u64 (a0 / 2) 6148914691236517205) + (Go.bits .and .u64 a0 6148914691236517205))) / 4) 3689348814741910323) + (Go.bits .and .u64 (IntKind.u64.wrap ((Go.bits .and .u64 (a0 / 2) 6148914691236517205) + (Go.bits .and .u64 a0 6148914691236517205))) 3689348814741910323))))) 1085102592571150095) / 256))) / 65536))) / 4294967296)))) 127)) = some r := h
 clear h
 obtain rfl := Option.some.inj H
 go_enter Tryd.func67, Tryd.ntmps67
 go_wp2
 go_ret
 exact ⟨by first | rfl | (simp; done) | (simp [*]; done), by repeat (first | exact Drawn0.refl _ | apply Drawn0.step)⟩
end Go.Proofs.YtcbiilbmldinhaaDoor.PB
end

section
namespace Go.Proofs.YtcbiilbmldinhaaDoor.PB
open Go.RowKit Go.Proofs.YtcbiilbmldinhaaDoorW.PrintWords Go.Proofs.YtcbiilbmldinhaaDoorW.PrintLast Go.Proofs.YtcbiilbmldinhaaDoorW.PrintMore
attribute [local go_sem] max2_int min2_int max_two min_two max_three min_three max_four min_four
set_option linter.unusedVariables false
set_option linter.unusedSimpArgs false
theorem ones_bound (a : Int) : ∃ n : Nat, n ≤ 127 ∧ bits_OnesCount64.f a = some (n : Int) := by
  unfold bits_OnesCount64.f
  generalize wrap64 _ = x
  obtain ⟨h1, h2⟩ : 0 ≤ Go.bits .and .i64 x 127 ∧ Go.bits .and .i64 x 127 ≤ 127 := by
    rw [i64_and127]; omega
  exact ⟨(Go.bits .and .i64 x 127).toNat, by omega, by rw [Int.toNat_of_nonneg h1]⟩
theorem mark_bit (n k : Nat) (hn : n < 2 ^ 64) : (Go.bits .and .u64 ((n : Int) / 2 ^ k) 1 == 1) = n.testBit k := by
  have e : (n : Int) / 2 ^ k = ((n / 2 ^ k : Nat) : Int) := by rw [Int.natCast_ediv, Int.natCast_pow]; rfl
  have hle : n / 2 ^ k ≤ n := Nat.div_le_self _ _
  rw [e]
  have := u64_and_nat (n / 2 ^ k) 1 (by omega) (by decide)
  rw [show ((1 : Nat) : Int) = 1 from rfl] at this
  rw [this, Nat.and_one_is_mod, Nat.testBit_eq_decide_div_mod_eq, Bool.eq_iff_iff, decide_eq_true_iff, beq_iff_eq]
  omega
set_option maxHeartbeats 4000000 in
set_option maxRecDepth 100000 in
theorem label_Cats_calls (n : Nat) (hn : n < 2 ^ 64) (w : World) :
    Calls Tryd.prog 56 #[.int .u64 (n : Int)] w fun e w' => ∃ v0_ : Value, e = .returned (v0_) ∧ Kd.R (Kd.int .i64) 3 w' w.heap.size (fun _ => True) v0_ (catsTo n 64) ∧ Below w.heap.size w w' := by
  obtain ⟨c, hc, h1⟩ := ones_bound (n : Int)
  have HO := aM (fun W => bits_OnesCount64.calls (n : Int) (c : Int) W h1)
  have hmk : ∀ W : World, (Instr.makeSlice 92 (.int .i64 0) (.int .i64 (c : Int))).run Tryd.prog W = .ok (.slice (some ⟨W.heap.size, 0, none⟩) 0 c) (W.alloc (.cells (madeCells #[.int .i64 0] c) 3)) := by
    intro W
    obtain ⟨i0, hi, hzz⟩ := Option.map_eq_some_iff.1 info3
    simp only [Prod.mk.injEq] at hzz
    obtain ⟨hz0, hz1, hz2⟩ := hzz
    have hr := run_make (P := Tryd.prog) W 92 3 i0 (.int .i64 0) Tryd.underlying92 hi hz0 .i64 .i64 0 (c : Int) (by omega) (by omega) (by rw [hz2]; omega) (by omega)
    rw [hz1] at hr
    simp only [Int.toNat_natCast, Nat.mul_one] at hr
    exact hr
  have HC := aM hc
  clear h1 hc
  go_enter Tryd.func56, Tryd.ntmps56
  go_wp2_with fail
  refine (HO.out _).mono ?_
  rintro e w1 ⟨rfl, hd⟩
  have HB0 := aM ((hd.below).alloc (hd.below.size) (.cells (madeCells #[.int .i64 0] c) 3))
  go_wp2
  generalize hW : w1.alloc (.cells (madeCells #[.int .i64 0] c) 3) = w2 at *
  have HR0 : Aside0 (Kd.R (Kd.int .i64) 3 w2 w.heap.size (fun _ => True) (.slice (some ⟨w1.heap.size, 0, none⟩) 0 c) []) := ⟨by
    rw [← hW]
    have := HC.out
    exact Kd.R_of_own (World.ownsRow_made w1 _ c hd.below.size (by unfold maxLen; omega) (by rw [size_madeCells, Nat.mul_one])) (fun _ _ => trivial)⟩
  clear hW
  go_loopw [3, 8] (fun v3 v8 wr => ∃ (k : Nat), k ≤ 64 ∧ v8 = .int .i64 k ∧ Aside0 (Kd.R (Kd.int .i64) 3 wr w.heap.size (fun _ => True) v3 (catsTo n k)) ∧ Aside0 (Below w.heap.size w wr)) (fun _ i _ => 64 - (intOf i).toNat)
  case atStart => exact ⟨0, by omega, rfl, HR0, HB0⟩
  case round =>
    obtain ⟨k, hk, rfl, HO, HB⟩ := hrel
    by_cases hlt : k < 64
    · have hk0 : (0 : Int) ≤ (k : Int) := by omega
      have hk1 : (k : Int) < 64 := by omega
      have HL := aM (catsTo_len n k)
      have hb := mark_bit n k hn
      cases hx : n.testBit k
      · have HN := aM (catsTo_no n k hx)
        rw [hx] at hb
        clear hx
        go_wp2
        exact ⟨⟨k + 1, by omega, by go_num, ⟨by rw [HN.out]; exact HO.out⟩, HB⟩, by simp [intOf]; omega⟩
      · have HN := aM (catsTo_yes n k hx)
        rw [hx] at hb
        clear hx
        generalize catsTo n k = xs at *
        go_wp2_with (first | ((with_reducible refine gate_builtin (b := .append) (xs := #[.tmp 16, .tmp 18]) rfl ?_); at_builtin; refine Kd.R_append (Kd.int .i64) (w0 := w) w.heap.size rfl (.tmp 16) (.tmp 18) 92 3 (.int .i64 0) 8 rfl Tryd.underlying92 info3 rfl (by decide) (by omega) u3 xs (k : Int) [.int .i64 (k : Int)] (fun _ => True) (fun _ => False) rfl rfl ?aP (fun _ hk => hk.elim) ?aF ?aO ?aB ?aS ?aL ?_; (case aP => exact rfl); (case aB => exact (by repeat (first | (with_reducible first | exact HB.out | apply ea | apply en | apply ed) | exact HB.out))); (case aF => exact (fun _ _ => trivial)); (case aO => exact (by (with_reducible repeat (first | apply ra | apply rn | apply rd_)); exact HO.out)); (case aS => exact (bZ (by repeat (first | (with_reducible first | exact HB.out | apply ea | apply en | apply ed) | exact HB.out)))); (case aL => have := HL.out; omega); intro v144 w7 ho hb hg hat; have HBn := aM hb; have HOn := aM ho; clear ho hb hg hat))
        exact ⟨⟨k + 1, by omega, by go_num, ⟨by rw [HN.out]; exact HOn.out⟩, HBn⟩, by simp [intOf]; omega⟩
    · obtain rfl : k = 64 := by omega
      go_wp2
      go_ret
      exact ⟨_, rfl, HO.out, HB.out⟩
def label_Cats.f (a0 : Int) : Option (List Int) := if 0 ≤ a0 ∧ a0 < 18446744073709551616 then some (catsTo a0.toNat 64) else none
theorem label_Cats.calls (a0 : Int) (r : List Int) (w : World) (h : label_Cats.f a0 = some r) :
    Calls Tryd.prog 56 #[.int .u64 a0] w fun e w' => ∃ v0_ : Value, e = .returned (v0_) ∧ Kd.R (Kd.int .i64) 3 w' w.heap.size (fun _ => True) v0_ r ∧ Below w.heap.size w w' := by
  unfold label_Cats.f at h
  split at h
  case isFalse => cases h
  rename_i hc
  injection h with h
  subst h
  obtain ⟨a, rfl⟩ := Int.eq_ofNat_of_zero_le hc.1
  exact label_Cats_calls a (by omega) w
end Go.Proofs.YtcbiilbmldinhaaDoor.PB
end

section
namespace Go.Proofs
open Go.Shelf
def Tryd.lays156_ren : Go.Shelf.Ren := ⟨fun | 156 => 38 | 165 => 52 | 166 => 53 | 169 => 54 | 240 => 64 | 241 => 65 | 276 => 76 | 277 => 77 | n => n, fun | 31 => 77 | 9 => 9 | 3 => 3 | 4 => 4 | 0 => 0 | 20 => 20 | 72 => 96 | 76 => 83 | 70 => 93 | 37 => 94 | 75 => 82 | 127 => 104 | 164 => 115 | 5 => 5 | 80 => 98 | n => n, fun | n => n⟩
theorem Tryd.lays156 : Go.Proofs.Lays.n156 Tryd.prog Tryd.lays156_ren := {
  mixed := by kernel_rfl
  f156 := Tryd.func38.trans (congrArg some (by kernel_rfl))
  f165 := Tryd.func52.trans (congrArg some (by kernel_rfl))
  f166 := Tryd.func53.trans (congrArg some (by kernel_rfl))
  f169 := Tryd.func54.trans (congrArg some (by kernel_rfl))
  f240 := Tryd.func64.trans (congrArg some (by kernel_rfl))
  f241 := Tryd.func65.trans (congrArg some (by kernel_rfl))
  f276 := Tryd.func76.trans (congrArg some (by kernel_rfl))
  f277 := Tryd.func77.trans (congrArg some (by kernel_rfl))
  t0 := Tryd.underlying0
  a0 := Tryd.isAgg0
  z0 := Tryd.sizeOf0
  v0 := Tryd.zeroValue0
  t3 := Tryd.underlying3
  a3 := Tryd.isAgg3
  z3 := Tryd.sizeOf3
  v3 := Tryd.zeroValue3
  t4 := Tryd.underlying4
  a4 := Tryd.isAgg4
  z4 := Tryd.sizeOf4
  v4 := Tryd.zeroValue4
  t9 := Tryd.underlying9
  a9 := Tryd.isAgg9
  z9 := Tryd.sizeOf9
  v9 := Tryd.zeroValue9
  t20 := Tryd.underlying20
  a20 := Tryd.isAgg20
  z20 := Tryd.sizeOf20
  v20 := Tryd.zeroValue20
  t31 := Tryd.underlying77
  a31 := Tryd.isAgg77
  z31 := Tryd.sizeOf77
  v31 := Tryd.zeroValue77
  t37 := Tryd.underlying94
  a37 := Tryd.isAgg94
  z37 := Tryd.sizeOf94
  v37 := Tryd.zeroValue94
  t70 := Tryd.underlying93
  a70 := Tryd.isAgg93
  z70 := Tryd.sizeOf93
  v70 := Tryd.zeroValue93
  t72 := Tryd.underlying96
  a72 := Tryd.isAgg96
  z72 := Tryd.sizeOf96
  v72 := Tryd.zeroValue96
  t75 := Tryd.underlying82
  a75 := Tryd.isAgg82
  z75 := Tryd.sizeOf82
  v75 := Tryd.zeroValue82
  t76 := Tryd.underlying83
  a76 := Tryd.isAgg83
  z76 := Tryd.sizeOf83
  v76 := Tryd.zeroValue83
  t127 := Tryd.underlying104
  a127 := Tryd.isAgg104
  z127 := Tryd.sizeOf104
  v127 := Tryd.zeroValue104
  t164 := Tryd.underlying115
  a164 := Tryd.isAgg115
  z164 := Tryd.sizeOf115
  v164 := Tryd.zeroValue115 }
theorem Tryd.Builder_Extra_156 : Builder.Extra Tryd.prog Tryd.lays156_ren := {
  sizeBuilder := by kernel_rfl
  liesBuilder := by kernel_rfl
  t5 := Tryd.underlying5
  a5 := Tryd.isAgg5
  z5 := Tryd.sizeOf5
  v5 := Tryd.zeroValue5
  infoByte := by kernel_rfl
  cellsByte := by kernel_rfl
  sizeByte := by kernel_rfl
  neB5 := by decide }
open Go.RowKit in

theorem Tryd.strings_Join_none (a : Option Addr) (c : Nat) (sep : ByteArray) (w : World) :
    Calls Tryd.prog 38 #[.slice a 0 c, .string sep] w fun e w' => e = .returned (.string ⟨#[]⟩) ∧ w' = w := Any.strings_Join_none Tryd.lays156 Tryd.Builder_Extra_156 a c sep w
open Go.RowKit in

theorem Tryd.strings_Join (bk o c : Nat) (xs : List ByteArray) (sep : ByteArray) (w : World) (hcells : ∀ (j : Nat) x, xs[j]? = some x → w.cell? ⟨bk, o + j, none⟩ = some (.string x)) (hbk : bk < w.heap.size) (hN : xs.length ≤ 140737488355328) (hcap : xs.length ≤ c) (hlen : (Lib.join (xs.map (·.data.toList)) sep.data.toList).length ≤ 140737488355328) :
    Calls Tryd.prog 38 #[.slice (some ⟨bk, o, none⟩) xs.length c, .string sep] w fun e w' => e = .returned (.string ⟨(Lib.join (xs.map (·.data.toList)) sep.data.toList).toArray⟩) ∧ Below w.heap.size w w' := Any.strings_Join Tryd.lays156 Tryd.Builder_Extra_156 bk o c xs sep w hcells hbk hN hcap hlen
def Tryd.laysM171_ren : Go.Shelf.Ren := ⟨fun | 171 => 40 | 243 => 55 | 246 => 66 | 283 => 78 | 284 => 79 | 285 => 80 | 286 => 81 | 129 => 90 | 317 => 89 | 318 => 91 | 319 => 92 | 320 => 93 | 337 => 101 | 338 => 102 | n => n, fun | 3 => 3 | 9 => 9 | 2 => 2 | 4 => 4 | 171 => 118 | 0 => 0 | 53 => 33 | 37 => 94 | 5 => 5 | 173 => 120 | 212 => 134 | 51 => 135 | 20 => 20 | 213 => 136 | 46 => 122 | 232 => 150 | 233 => 151 | n => n, fun | 17 => 3 | 18 => 6 | 19 => 7 | n => n⟩
theorem Tryd.laysM171 : Go.Proofs.LaysM.n171 Tryd.prog Tryd.laysM171_ren := {
  mixed := by kernel_rfl
  f129 := Tryd.func90.trans (congrArg some (by kernel_rfl))
  f171 := Tryd.func40.trans (congrArg some (by kernel_rfl))
  f243 := Tryd.func55.trans (congrArg some (by kernel_rfl))
  f246 := Tryd.func66.trans (congrArg some (by kernel_rfl))
  f283 := Tryd.func78.trans (congrArg some (by kernel_rfl))
  f284 := Tryd.func79.trans (congrArg some (by kernel_rfl))
  f285 := Tryd.func80.trans (congrArg some (by kernel_rfl))
  f286 := Tryd.func81.trans (congrArg some (by kernel_rfl))
  f317 := Tryd.func89.trans (congrArg some (by kernel_rfl))
  f318 := Tryd.func91.trans (congrArg some (by kernel_rfl))
  f319 := Tryd.func92.trans (congrArg some (by kernel_rfl))
  f320 := Tryd.func93.trans (congrArg some (by kernel_rfl))
  f337 := Tryd.func101.trans (congrArg some (by kernel_rfl))
  f338 := Tryd.func102.trans (congrArg some (by kernel_rfl))
  t0 := Tryd.underlying0
  a0 := Tryd.isAgg0
  z0 := Tryd.sizeOf0
  v0 := Tryd.zeroValue0
  t2 := Tryd.underlying2
  a2 := Tryd.isAgg2
  z2 := Tryd.sizeOf2
  v2 := Tryd.zeroValue2
  t3 := Tryd.underlying3
  a3 := Tryd.isAgg3
  z3 := Tryd.sizeOf3
  v3 := Tryd.zeroValue3
  t4 := Tryd.underlying4
  a4 := Tryd.isAgg4
  z4 := Tryd.sizeOf4
  v4 := Tryd.zeroValue4
  t5 := Tryd.underlying5
  a5 := Tryd.isAgg5
  z5 := Tryd.sizeOf5
  v5 := Tryd.zeroValue5
  t9 := Tryd.underlying9
  a9 := Tryd.isAgg9
  z9 := Tryd.sizeOf9
  v9 := Tryd.zeroValue9
  t20 := Tryd.underlying20
  a20 := Tryd.isAgg20
  z20 := Tryd.sizeOf20
  v20 := Tryd.zeroValue20
  t37 := Tryd.underlying94
  a37 := Tryd.isAgg94
  z37 := Tryd.sizeOf94
  v37 := Tryd.zeroValue94
  t46 := Tryd.underlying122
  a46 := Tryd.isAgg122
  z46 := Tryd.sizeOf122
  v46 := Tryd.zeroValue122
  t51 := Tryd.underlying135
  a51 := Tryd.isAgg135
  z51 := Tryd.sizeOf135
  v51 := Tryd.zeroValue135
  t53 := Tryd.underlying33
  a53 := Tryd.isAgg33
  z53 := Tryd.sizeOf33
  v53 := Tryd.zeroValue33
  t171 := Tryd.underlying118
  a171 := Tryd.isAgg118
  z171 := Tryd.sizeOf118
  v171 := Tryd.zeroValue118
  t173 := Tryd.underlying120
  a173 := Tryd.isAgg120
  z173 := Tryd.sizeOf120
  v173 := Tryd.zeroValue120
  t212 := Tryd.underlying134
  a212 := Tryd.isAgg134
  z212 := Tryd.sizeOf134
  v212 := Tryd.zeroValue134
  t213 := Tryd.underlying136
  a213 := Tryd.isAgg136
  z213 := Tryd.sizeOf136
  t232 := Tryd.underlying150
  a232 := Tryd.isAgg150
  z232 := Tryd.sizeOf150
  v232 := Tryd.zeroValue150
  t233 := Tryd.underlying151
  a233 := Tryd.isAgg151
  z233 := Tryd.sizeOf151
  v233 := Tryd.zeroValue151
  g17 := by kernel_rfl
  g18 := by kernel_rfl
  g19 := by kernel_rfl
  i0 := by kernel_rfl
  i2 := by kernel_rfl
  i3 := by kernel_rfl
  i4 := by kernel_rfl
  i5 := by kernel_rfl
  i9 := by kernel_rfl
  i20 := by kernel_rfl
  i37 := by kernel_rfl
  i46 := by kernel_rfl
  i51 := by kernel_rfl
  i53 := by kernel_rfl
  i171 := by kernel_rfl
  i173 := by kernel_rfl
  i212 := by kernel_rfl
  i232 := by kernel_rfl
  i233 := by kernel_rfl
  m17 := by kernel_rfl
  m18 := by kernel_rfl
  m19 := by kernel_rfl }
open Go.RowKit Go.Sort Go.Lib in

theorem Tryd.strconv_Itoa (n : Int) (h0 : -9223372036854775808 ≤ n) (h1 : n ≤ 9223372036854775807) (w : World) (htab : Lib.TabIs Tryd.prog w "internal/strconv.uint64pow10" .u64 Lib.pow10Tab) :
    Calls Tryd.prog 40 #[.int .i64 n] w fun e w' => e = .returned (.string ⟨(Lib.itoa n).toArray⟩) ∧ ∃ k os, w' = grow (w.drewN k) os := Any.strconv_Itoa Tryd.laysM171 n h0 h1 w htab
def Tryd.lays171_ren : Go.Shelf.Ren := ⟨fun | 171 => 40 | 243 => 55 | 246 => 66 | 283 => 78 | 284 => 79 | 285 => 80 | 286 => 81 | 129 => 90 | 317 => 89 | 318 => 91 | 319 => 92 | 320 => 93 | 337 => 101 | 338 => 102 | n => n, fun | 3 => 3 | 9 => 9 | 2 => 2 | 4 => 4 | 171 => 118 | 0 => 0 | 53 => 33 | 37 => 94 | 5 => 5 | 173 => 120 | 212 => 134 | 51 => 135 | 20 => 20 | 213 => 136 | 46 => 122 | 232 => 150 | 233 => 151 | n => n, fun | 17 => 3 | 18 => 6 | 19 => 7 | n => n⟩
theorem Tryd.lays171 : Go.Proofs.Lays.n171 Tryd.prog Tryd.lays171_ren := {
  mixed := by kernel_rfl
  f129 := Tryd.func90.trans (congrArg some (by kernel_rfl))
  f171 := Tryd.func40.trans (congrArg some (by kernel_rfl))
  f243 := Tryd.func55.trans (congrArg some (by kernel_rfl))
  f246 := Tryd.func66.trans (congrArg some (by kernel_rfl))
  f283 := Tryd.func78.trans (congrArg some (by kernel_rfl))
  f284 := Tryd.func79.trans (congrArg some (by kernel_rfl))
  f285 := Tryd.func80.trans (congrArg some (by kernel_rfl))
  f286 := Tryd.func81.trans (congrArg some (by kernel_rfl))
  f317 := Tryd.func89.trans (congrArg some (by kernel_rfl))
  f318 := Tryd.func91.trans (congrArg some (by kernel_rfl))
  f319 := Tryd.func92.trans (congrArg some (by kernel_rfl))
  f320 := Tryd.func93.trans (congrArg some (by kernel_rfl))
  f337 := Tryd.func101.trans (congrArg some (by kernel_rfl))
  f338 := Tryd.func102.trans (congrArg some (by kernel_rfl))
  t0 := Tryd.underlying0
  a0 := Tryd.isAgg0
  z0 := Tryd.sizeOf0
  v0 := Tryd.zeroValue0
  t2 := Tryd.underlying2
  a2 := Tryd.isAgg2
  z2 := Tryd.sizeOf2
  v2 := Tryd.zeroValue2
  t3 := Tryd.underlying3
  a3 := Tryd.isAgg3
  z3 := Tryd.sizeOf3
  v3 := Tryd.zeroValue3
  t4 := Tryd.underlying4
  a4 := Tryd.isAgg4
  z4 := Tryd.sizeOf4
  v4 := Tryd.zeroValue4
  t5 := Tryd.underlying5
  a5 := Tryd.isAgg5
  z5 := Tryd.sizeOf5
  v5 := Tryd.zeroValue5
  t9 := Tryd.underlying9
  a9 := Tryd.isAgg9
  z9 := Tryd.sizeOf9
  v9 := Tryd.zeroValue9
  t20 := Tryd.underlying20
  a20 := Tryd.isAgg20
  z20 := Tryd.sizeOf20
  v20 := Tryd.zeroValue20
  t37 := Tryd.underlying94
  a37 := Tryd.isAgg94
  z37 := Tryd.sizeOf94
  v37 := Tryd.zeroValue94
  t46 := Tryd.underlying122
  a46 := Tryd.isAgg122
  z46 := Tryd.sizeOf122
  v46 := Tryd.zeroValue122
  t51 := Tryd.underlying135
  a51 := Tryd.isAgg135
  z51 := Tryd.sizeOf135
  v51 := Tryd.zeroValue135
  t53 := Tryd.underlying33
  a53 := Tryd.isAgg33
  z53 := Tryd.sizeOf33
  v53 := Tryd.zeroValue33
  t171 := Tryd.underlying118
  a171 := Tryd.isAgg118
  z171 := Tryd.sizeOf118
  v171 := Tryd.zeroValue118
  t173 := Tryd.underlying120
  a173 := Tryd.isAgg120
  z173 := Tryd.sizeOf120
  v173 := Tryd.zeroValue120
  t212 := Tryd.underlying134
  a212 := Tryd.isAgg134
  z212 := Tryd.sizeOf134
  v212 := Tryd.zeroValue134
  t213 := Tryd.underlying136
  a213 := Tryd.isAgg136
  z213 := Tryd.sizeOf136
  t232 := Tryd.underlying150
  a232 := Tryd.isAgg150
  z232 := Tryd.sizeOf150
  v232 := Tryd.zeroValue150
  t233 := Tryd.underlying151
  a233 := Tryd.isAgg151
  z233 := Tryd.sizeOf151
  v233 := Tryd.zeroValue151
  g17 := by kernel_rfl
  g18 := by kernel_rfl
  g19 := by kernel_rfl }
open Go.RowKit Go.Sort Go.Lib in

theorem Tryd.strconv_Itoa_small (i : Nat) (hi : i < 100) (w : World) :
    Calls Tryd.prog 40 #[.int .i64 i] w fun e w' => e = .returned (.string ⟨(Lib.decDigits i).toArray⟩) ∧ w' = w := Any.strconv_Itoa_small Tryd.lays171 i hi w
def Tryd.laysC172_ren : Go.Shelf.Ren := ⟨fun | 172 => 46 | 244 => 60 | 245 => 61 | 247 => 71 | 279 => 72 | 280 => 73 | 281 => 74 | 282 => 75 | 287 => 86 | 316 => 87 | 171 => 40 | 205 => 88 | 321 => 99 | 322 => 100 | 243 => 55 | 246 => 66 | 283 => 78 | 284 => 79 | 285 => 80 | 286 => 81 | 129 => 90 | 317 => 89 | 318 => 91 | 319 => 92 | 320 => 93 | 337 => 101 | 338 => 102 | n => n, fun | 9 => 9 | 3 => 3 | 75 => 82 | 76 => 83 | 4 => 4 | 5 => 5 | 167 => 109 | 37 => 94 | 0 => 0 | 85 => 110 | 2 => 2 | 168 => 112 | 53 => 33 | 175 => 126 | 46 => 122 | 210 => 130 | 127 => 104 | 145 => 142 | 143 => 140 | 21 => 21 | 171 => 118 | 173 => 120 | 212 => 134 | 51 => 135 | 20 => 20 | 213 => 136 | 232 => 150 | 233 => 151 | 80 => 98 | n => n, fun | 15 => 0 | 16 => 1 | 17 => 3 | 18 => 6 | 19 => 7 | n => n⟩
theorem Tryd.laysC172 : Go.Proofs.LaysC.n172 Tryd.prog Tryd.laysC172_ren := {
  mixed := by kernel_rfl
  f129 := Tryd.func90.trans (congrArg some (by kernel_rfl))
  f171 := Tryd.func40.trans (congrArg some (by kernel_rfl))
  f172 := Tryd.func46.trans (congrArg some (by kernel_rfl))
  f205 := Tryd.func88.trans (congrArg some (by kernel_rfl))
  f243 := Tryd.func55.trans (congrArg some (by kernel_rfl))
  f244 := Tryd.func60.trans (congrArg some (by kernel_rfl))
  f245 := Tryd.func61.trans (congrArg some (by kernel_rfl))
  f246 := Tryd.func66.trans (congrArg some (by kernel_rfl))
  f247 := Tryd.func71.trans (congrArg some (by kernel_rfl))
  f279 := Tryd.func72.trans (congrArg some (by kernel_rfl))
  f280 := Tryd.func73.trans (congrArg some (by kernel_rfl))
  f281 := Tryd.func74.trans (congrArg some (by kernel_rfl))
  f282 := Tryd.func75.trans (congrArg some (by kernel_rfl))
  f283 := Tryd.func78.trans (congrArg some (by kernel_rfl))
  f284 := Tryd.func79.trans (congrArg some (by kernel_rfl))
  f285 := Tryd.func80.trans (congrArg some (by kernel_rfl))
  f286 := Tryd.func81.trans (congrArg some (by kernel_rfl))
  f287 := Tryd.func86.trans (congrArg some (by kernel_rfl))
  f316 := Tryd.func87.trans (congrArg some (by kernel_rfl))
  f317 := Tryd.func89.trans (congrArg some (by kernel_rfl))
  f318 := Tryd.func91.trans (congrArg some (by kernel_rfl))
  f319 := Tryd.func92.trans (congrArg some (by kernel_rfl))
  f320 := Tryd.func93.trans (congrArg some (by kernel_rfl))
  f321 := Tryd.func99.trans (congrArg some (by kernel_rfl))
  f322 := Tryd.func100.trans (congrArg some (by kernel_rfl))
  f337 := Tryd.func101.trans (congrArg some (by kernel_rfl))
  f338 := Tryd.func102.trans (congrArg some (by kernel_rfl))
  t0 := Tryd.underlying0
  a0 := Tryd.isAgg0
  z0 := Tryd.sizeOf0
  v0 := Tryd.zeroValue0
  t2 := Tryd.underlying2
  a2 := Tryd.isAgg2
  z2 := Tryd.sizeOf2
  v2 := Tryd.zeroValue2
  t3 := Tryd.underlying3
  a3 := Tryd.isAgg3
  z3 := Tryd.sizeOf3
  v3 := Tryd.zeroValue3
  t4 := Tryd.underlying4
  a4 := Tryd.isAgg4
  z4 := Tryd.sizeOf4
  v4 := Tryd.zeroValue4
  t5 := Tryd.underlying5
  a5 := Tryd.isAgg5
  z5 := Tryd.sizeOf5
  v5 := Tryd.zeroValue5
  t9 := Tryd.underlying9
  a9 := Tryd.isAgg9
  z9 := Tryd.sizeOf9
  v9 := Tryd.zeroValue9
  t20 := Tryd.underlying20
  a20 := Tryd.isAgg20
  z20 := Tryd.sizeOf20
  v20 := Tryd.zeroValue20
  t21 := Tryd.underlying21
  a21 := Tryd.isAgg21
  z21 := Tryd.sizeOf21
  v21 := Tryd.zeroValue21
  t37 := Tryd.underlying94
  a37 := Tryd.isAgg94
  z37 := Tryd.sizeOf94
  v37 := Tryd.zeroValue94
  t46 := Tryd.underlying122
  a46 := Tryd.isAgg122
  z46 := Tryd.sizeOf122
  v46 := Tryd.zeroValue122
  t51 := Tryd.underlying135
  a51 := Tryd.isAgg135
  z51 := Tryd.sizeOf135
  v51 := Tryd.zeroValue135
  t53 := Tryd.underlying33
  a53 := Tryd.isAgg33
  z53 := Tryd.sizeOf33
  v53 := Tryd.zeroValue33
  t75 := Tryd.underlying82
  a75 := Tryd.isAgg82
  z75 := Tryd.sizeOf82
  v75 := Tryd.zeroValue82
  t76 := Tryd.underlying83
  a76 := Tryd.isAgg83
  z76 := Tryd.sizeOf83
  v76 := Tryd.zeroValue83
  t85 := Tryd.underlying110
  a85 := Tryd.isAgg110
  z85 := Tryd.sizeOf110
  v85 := Tryd.zeroValue110
  t127 := Tryd.underlying104
  a127 := Tryd.isAgg104
  z127 := Tryd.sizeOf104
  v127 := Tryd.zeroValue104
  t143 := Tryd.underlying140
  a143 := Tryd.isAgg140
  z143 := Tryd.sizeOf140
  v143 := Tryd.zeroValue140
  t145 := Tryd.underlying142
  a145 := Tryd.isAgg142
  z145 := Tryd.sizeOf142
  v145 := Tryd.zeroValue142
  t167 := Tryd.underlying109
  a167 := Tryd.isAgg109
  z167 := Tryd.sizeOf109
  v167 := Tryd.zeroValue109
  t168 := Tryd.underlying112
  a168 := Tryd.isAgg112
  z168 := Tryd.sizeOf112
  v168 := Tryd.zeroValue112
  t171 := Tryd.underlying118
  a171 := Tryd.isAgg118
  z171 := Tryd.sizeOf118
  v171 := Tryd.zeroValue118
  t173 := Tryd.underlying120
  a173 := Tryd.isAgg120
  z173 := Tryd.sizeOf120
  v173 := Tryd.zeroValue120
  t175 := Tryd.underlying126
  a175 := Tryd.isAgg126
  z175 := Tryd.sizeOf126
  v175 := Tryd.zeroValue126
  t210 := Tryd.underlying130
  a210 := Tryd.isAgg130
  z210 := Tryd.sizeOf130
  v210 := Tryd.zeroValue130
  t212 := Tryd.underlying134
  a212 := Tryd.isAgg134
  z212 := Tryd.sizeOf134
  v212 := Tryd.zeroValue134
  t213 := Tryd.underlying136
  a213 := Tryd.isAgg136
  z213 := Tryd.sizeOf136
  t232 := Tryd.underlying150
  a232 := Tryd.isAgg150
  z232 := Tryd.sizeOf150
  v232 := Tryd.zeroValue150
  t233 := Tryd.underlying151
  a233 := Tryd.isAgg151
  z233 := Tryd.sizeOf151
  v233 := Tryd.zeroValue151
  g15 := by kernel_rfl
  g16 := by kernel_rfl
  g17 := by kernel_rfl
  g18 := by kernel_rfl
  g19 := by kernel_rfl
  t80 := Tryd.underlying98
  a80 := Tryd.isAgg98
  z80 := Tryd.sizeOf98
  v80 := Tryd.zeroValue98
  i0 := by kernel_rfl
  i2 := by kernel_rfl
  i3 := by kernel_rfl
  i4 := by kernel_rfl
  i5 := by kernel_rfl
  i9 := by kernel_rfl
  i20 := by kernel_rfl
  i21 := by kernel_rfl
  i37 := by kernel_rfl
  i46 := by kernel_rfl
  i51 := by kernel_rfl
  i53 := by kernel_rfl
  i75 := by kernel_rfl
  i76 := by kernel_rfl
  i80 := by kernel_rfl
  i85 := by kernel_rfl
  i127 := by kernel_rfl
  i143 := by kernel_rfl
  i145 := by kernel_rfl
  i167 := by kernel_rfl
  i168 := by kernel_rfl
  i171 := by kernel_rfl
  i173 := by kernel_rfl
  i175 := by kernel_rfl
  i210 := by kernel_rfl
  i212 := by kernel_rfl
  i232 := by kernel_rfl
  i233 := by kernel_rfl
  m15 := by kernel_rfl
  m16 := by kernel_rfl
  m17 := by kernel_rfl
  m18 := by kernel_rfl
  m19 := by kernel_rfl
  c0 := by kernel_rfl
  c2 := by kernel_rfl
  c3 := by kernel_rfl
  c4 := by kernel_rfl
  c5 := by kernel_rfl
  c9 := by kernel_rfl
  c20 := by kernel_rfl
  c21 := by kernel_rfl
  c37 := by kernel_rfl
  c46 := by kernel_rfl
  c51 := by kernel_rfl
  c53 := by kernel_rfl
  c75 := by kernel_rfl
  c76 := by kernel_rfl
  c80 := by kernel_rfl
  c85 := by kernel_rfl
  c127 := by kernel_rfl
  c143 := by kernel_rfl
  c145 := by kernel_rfl
  c167 := by kernel_rfl
  c168 := by kernel_rfl
  c171 := by kernel_rfl
  c173 := by kernel_rfl
  c175 := by kernel_rfl
  c210 := by kernel_rfl
  c212 := by kernel_rfl
  c213 := by kernel_rfl
  c232 := by kernel_rfl
  c233 := by kernel_rfl }
open Go.RowKit in

theorem Tryd.strconv_Atoi_ok (s : ByteArray) (hmax : s.size ≤ 9223372036854775806) (v : Int) (h : Lib.atoiAll s.data.toList = .ok v) (w : World) :
    Calls Tryd.prog 46 #[.string s] w fun e w' => e = .returned (.tuple #[.int .i64 v, .nilIface]) ∧ (w' = w ∨ ∃ t, w' = Lib.bytesWorld w 5 t) := Any.strconv_Atoi_ok Tryd.laysC172 s hmax v h w
open Go.RowKit in
theorem Tryd.strconv_Atoi_syntax_var (s : ByteArray) (hlim : s.size ≤ 281474976710656) (h : Lib.atoiAll s.data.toList = .«syntax») (tp : TypeId) (p : Value) (w : World) (hvar : w.var? Tryd.prog "strconv.ErrSyntax" = some #[.iface tp p]) :
    Calls Tryd.prog 46 #[.string s] w fun e w' => ∃ N, e = .returned (.tuple #[.int .i64 0, .iface 112 (.pointer (some ⟨N, 0, none⟩))]) ∧ w.heap.size ≤ N ∧ w'.heap[N]? = some (.cells #[.string ⟨#[65, 116, 111, 105]⟩, .string s, .iface tp p] 130 (0, 0)) ∧ Below w.heap.size w w' := Any.strconv_Atoi_syntax_var Tryd.laysC172 s hlim h tp p w hvar
open Go.RowKit in
theorem Tryd.strconv_Atoi_range_var (s : ByteArray) (hlim : s.size ≤ 281474976710656) (h : Lib.atoiAll s.data.toList = .range) (tp : TypeId) (p : Value) (w : World) (hvar : w.var? Tryd.prog "strconv.ErrRange" = some #[.iface tp p]) :
    Calls Tryd.prog 46 #[.string s] w fun e w' => ∃ N, e = .returned (.tuple #[.int .i64 (Lib.atoiSat s.data.toList), .iface 112 (.pointer (some ⟨N, 0, none⟩))]) ∧ w.heap.size ≤ N ∧ w'.heap[N]? = some (.cells #[.string ⟨#[65, 116, 111, 105]⟩, .string s, .iface tp p] 130 (0, 0)) ∧ Below w.heap.size w w' := Any.strconv_Atoi_range_var Tryd.laysC172 s hlim h tp p w hvar
def Tryd.lays143_ren : Go.Shelf.Ren := ⟨fun | 143 => 70 | 219 => 85 | 217 => 95 | 225 => 96 | 224 => 97 | 267 => 98 | 266 => 103 | 314 => 104 | n => n, fun | 9 => 9 | 3 => 3 | 4 => 4 | 5 => 5 | 46 => 122 | 146 => 148 | 51 => 135 | n => n, fun | 1 => 2 | n => n⟩
theorem Tryd.lays143 : Go.Proofs.Lays.n143 Tryd.prog Tryd.lays143_ren := {
  mixed := by kernel_rfl
  f143 := Tryd.func70.trans (congrArg some (by kernel_rfl))
  f217 := Tryd.func95.trans (congrArg some (by kernel_rfl))
  f219 := Tryd.func85.trans (congrArg some (by kernel_rfl))
  f224 := Tryd.func97.trans (congrArg some (by kernel_rfl))
  f225 := Tryd.func96.trans (congrArg some (by kernel_rfl))
  f266 := Tryd.func103.trans (congrArg some (by kernel_rfl))
  f267 := Tryd.func98.trans (congrArg some (by kernel_rfl))
  f314 := Tryd.func104.trans (congrArg some (by kernel_rfl))
  t3 := Tryd.underlying3
  a3 := Tryd.isAgg3
  z3 := Tryd.sizeOf3
  v3 := Tryd.zeroValue3
  t4 := Tryd.underlying4
  a4 := Tryd.isAgg4
  z4 := Tryd.sizeOf4
  v4 := Tryd.zeroValue4
  t5 := Tryd.underlying5
  a5 := Tryd.isAgg5
  z5 := Tryd.sizeOf5
  v5 := Tryd.zeroValue5
  t9 := Tryd.underlying9
  a9 := Tryd.isAgg9
  z9 := Tryd.sizeOf9
  v9 := Tryd.zeroValue9
  t46 := Tryd.underlying122
  a46 := Tryd.isAgg122
  z46 := Tryd.sizeOf122
  v46 := Tryd.zeroValue122
  t51 := Tryd.underlying135
  a51 := Tryd.isAgg135
  z51 := Tryd.sizeOf135
  v51 := Tryd.zeroValue135
  t146 := Tryd.underlying148
  a146 := Tryd.isAgg148
  z146 := Tryd.sizeOf148
  v146 := Tryd.zeroValue148
  g1 := by kernel_rfl }
open Go.RowKit Go.Lib in

theorem Tryd.strings_Index_one (s : ByteArray) (c : UInt8) (w : World) :
    Calls Tryd.prog 70 #[.string s, .string ⟨#[c]⟩] w fun e w' => e = .returned (.int .i64 (Lib.indexByte s.data.toList c)) ∧ w' = w := Any.strings_Index_one Tryd.lays143 s c w
def Tryd.lays138_ren : Go.Shelf.Ren := ⟨fun | 138 => 69 | 195 => 82 | 218 => 84 | 143 => 70 | 219 => 85 | 217 => 95 | 225 => 96 | 224 => 97 | 267 => 98 | 266 => 103 | 314 => 104 | n => n, fun | 9 => 9 | 3 => 3 | 4 => 4 | 5 => 5 | 0 => 0 | 46 => 122 | 146 => 148 | 51 => 135 | n => n, fun | 1 => 2 | n => n⟩
theorem Tryd.lays138 : Go.Proofs.Lays.n138 Tryd.prog Tryd.lays138_ren := {
  mixed := by kernel_rfl
  f138 := Tryd.func69.trans (congrArg some (by kernel_rfl))
  f143 := Tryd.func70.trans (congrArg some (by kernel_rfl))
  f195 := Tryd.func82.trans (congrArg some (by kernel_rfl))
  f217 := Tryd.func95.trans (congrArg some (by kernel_rfl))
  f218 := Tryd.func84.trans (congrArg some (by kernel_rfl))
  f219 := Tryd.func85.trans (congrArg some (by kernel_rfl))
  f224 := Tryd.func97.trans (congrArg some (by kernel_rfl))
  f225 := Tryd.func96.trans (congrArg some (by kernel_rfl))
  f266 := Tryd.func103.trans (congrArg some (by kernel_rfl))
  f267 := Tryd.func98.trans (congrArg some (by kernel_rfl))
  f314 := Tryd.func104.trans (congrArg some (by kernel_rfl))
  t0 := Tryd.underlying0
  a0 := Tryd.isAgg0
  z0 := Tryd.sizeOf0
  v0 := Tryd.zeroValue0
  t3 := Tryd.underlying3
  a3 := Tryd.isAgg3
  z3 := Tryd.sizeOf3
  v3 := Tryd.zeroValue3
  t4 := Tryd.underlying4
  a4 := Tryd.isAgg4
  z4 := Tryd.sizeOf4
  v4 := Tryd.zeroValue4
  t5 := Tryd.underlying5
  a5 := Tryd.isAgg5
  z5 := Tryd.sizeOf5
  v5 := Tryd.zeroValue5
  t9 := Tryd.underlying9
  a9 := Tryd.isAgg9
  z9 := Tryd.sizeOf9
  v9 := Tryd.zeroValue9
  t46 := Tryd.underlying122
  a46 := Tryd.isAgg122
  z46 := Tryd.sizeOf122
  v46 := Tryd.zeroValue122
  t51 := Tryd.underlying135
  a51 := Tryd.isAgg135
  z51 := Tryd.sizeOf135
  v51 := Tryd.zeroValue135
  t146 := Tryd.underlying148
  a146 := Tryd.isAgg148
  z146 := Tryd.sizeOf148
  v146 := Tryd.zeroValue148
  g1 := by kernel_rfl }
open Go.RowKit Go.Lib in

theorem Tryd.strings_Count_one (s : ByteArray) (c : UInt8) (w : World) :
    Calls Tryd.prog 69 #[.string s, .string ⟨#[c]⟩] w fun e w' => e = .returned (.int .i64 (Lib.countByte s.data.toList c)) ∧ w' = w := Any.strings_Count_one Tryd.lays138 s c w
def Tryd.lays221_ren : Go.Shelf.Ren := ⟨fun | 221 => 59 | 268 => 68 | 138 => 69 | 143 => 70 | 195 => 82 | 197 => 83 | 218 => 84 | 219 => 85 | 260 => 94 | 217 => 95 | 225 => 96 | 224 => 97 | 267 => 98 | 266 => 103 | 314 => 104 | n => n, fun | 9 => 9 | 3 => 3 | 31 => 77 | 4 => 4 | 0 => 0 | 105 => 123 | 21 => 21 | 5 => 5 | 46 => 122 | 119 => 144 | 139 => 147 | 138 => 146 | 146 => 148 | 51 => 135 | n => n, fun | 1 => 2 | 3 => 4 | 4 => 5 | n => n⟩
theorem Tryd.lays221 : Go.Proofs.Lays.n221 Tryd.prog Tryd.lays221_ren := {
  mixed := by kernel_rfl
  f138 := Tryd.func69.trans (congrArg some (by kernel_rfl))
  f143 := Tryd.func70.trans (congrArg some (by kernel_rfl))
  f195 := Tryd.func82.trans (congrArg some (by kernel_rfl))
  f197 := Tryd.func83.trans (congrArg some (by kernel_rfl))
  f217 := Tryd.func95.trans (congrArg some (by kernel_rfl))
  f218 := Tryd.func84.trans (congrArg some (by kernel_rfl))
  f219 := Tryd.func85.trans (congrArg some (by kernel_rfl))
  f221 := Tryd.func59.trans (congrArg some (by kernel_rfl))
  f224 := Tryd.func97.trans (congrArg some (by kernel_rfl))
  f225 := Tryd.func96.trans (congrArg some (by kernel_rfl))
  f260 := Tryd.func94.trans (congrArg some (by kernel_rfl))
  f266 := Tryd.func103.trans (congrArg some (by kernel_rfl))
  f267 := Tryd.func98.trans (congrArg some (by kernel_rfl))
  f268 := Tryd.func68.trans (congrArg some (by kernel_rfl))
  f314 := Tryd.func104.trans (congrArg some (by kernel_rfl))
  t0 := Tryd.underlying0
  a0 := Tryd.isAgg0
  z0 := Tryd.sizeOf0
  v0 := Tryd.zeroValue0
  t3 := Tryd.underlying3
  a3 := Tryd.isAgg3
  z3 := Tryd.sizeOf3
  v3 := Tryd.zeroValue3
  t4 := Tryd.underlying4
  a4 := Tryd.isAgg4
  z4 := Tryd.sizeOf4
  v4 := Tryd.zeroValue4
  t5 := Tryd.underlying5
  a5 := Tryd.isAgg5
  z5 := Tryd.sizeOf5
  v5 := Tryd.zeroValue5
  t9 := Tryd.underlying9
  a9 := Tryd.isAgg9
  z9 := Tryd.sizeOf9
  v9 := Tryd.zeroValue9
  t21 := Tryd.underlying21
  a21 := Tryd.isAgg21
  z21 := Tryd.sizeOf21
  v21 := Tryd.zeroValue21
  t31 := Tryd.underlying77
  a31 := Tryd.isAgg77
  z31 := Tryd.sizeOf77
  v31 := Tryd.zeroValue77
  t46 := Tryd.underlying122
  a46 := Tryd.isAgg122
  z46 := Tryd.sizeOf122
  v46 := Tryd.zeroValue122
  t51 := Tryd.underlying135
  a51 := Tryd.isAgg135
  z51 := Tryd.sizeOf135
  v51 := Tryd.zeroValue135
  t105 := Tryd.underlying123
  a105 := Tryd.isAgg123
  z105 := Tryd.sizeOf123
  v105 := Tryd.zeroValue123
  t119 := Tryd.underlying144
  a119 := Tryd.isAgg144
  z119 := Tryd.sizeOf144
  t138 := Tryd.underlying146
  a138 := Tryd.isAgg146
  z138 := Tryd.sizeOf146
  v138 := Tryd.zeroValue146
  t139 := Tryd.underlying147
  a139 := Tryd.isAgg147
  z139 := Tryd.sizeOf147
  v139 := Tryd.zeroValue147
  t146 := Tryd.underlying148
  a146 := Tryd.isAgg148
  z146 := Tryd.sizeOf148
  v146 := Tryd.zeroValue148
  g1 := by kernel_rfl
  g3 := by kernel_rfl
  g4 := by kernel_rfl }
def Tryd.lays146_ren : Go.Shelf.Ren := ⟨fun | 146 => 45 | 221 => 59 | 268 => 68 | 138 => 69 | 143 => 70 | 195 => 82 | 197 => 83 | 218 => 84 | 219 => 85 | 260 => 94 | 217 => 95 | 225 => 96 | 224 => 97 | 267 => 98 | 266 => 103 | 314 => 104 | n => n, fun | 9 => 9 | 31 => 77 | 3 => 3 | 4 => 4 | 0 => 0 | 105 => 123 | 21 => 21 | 5 => 5 | 46 => 122 | 119 => 144 | 139 => 147 | 138 => 146 | 146 => 148 | 51 => 135 | n => n, fun | 1 => 2 | 3 => 4 | 4 => 5 | n => n⟩
theorem Tryd.lays146 : Go.Proofs.Lays.n146 Tryd.prog Tryd.lays146_ren := {
  mixed := by kernel_rfl
  f138 := Tryd.func69.trans (congrArg some (by kernel_rfl))
  f143 := Tryd.func70.trans (congrArg some (by kernel_rfl))
  f146 := Tryd.func45.trans (congrArg some (by kernel_rfl))
  f195 := Tryd.func82.trans (congrArg some (by kernel_rfl))
  f197 := Tryd.func83.trans (congrArg some (by kernel_rfl))
  f217 := Tryd.func95.trans (congrArg some (by kernel_rfl))
  f218 := Tryd.func84.trans (congrArg some (by kernel_rfl))
  f219 := Tryd.func85.trans (congrArg some (by kernel_rfl))
  f221 := Tryd.func59.trans (congrArg some (by kernel_rfl))
  f224 := Tryd.func97.trans (congrArg some (by kernel_rfl))
  f225 := Tryd.func96.trans (congrArg some (by kernel_rfl))
  f260 := Tryd.func94.trans (congrArg some (by kernel_rfl))
  f266 := Tryd.func103.trans (congrArg some (by kernel_rfl))
  f267 := Tryd.func98.trans (congrArg some (by kernel_rfl))
  f268 := Tryd.func68.trans (congrArg some (by kernel_rfl))
  f314 := Tryd.func104.trans (congrArg some (by kernel_rfl))
  t0 := Tryd.underlying0
  a0 := Tryd.isAgg0
  z0 := Tryd.sizeOf0
  v0 := Tryd.zeroValue0
  t3 := Tryd.underlying3
  a3 := Tryd.isAgg3
  z3 := Tryd.sizeOf3
  v3 := Tryd.zeroValue3
  t4 := Tryd.underlying4
  a4 := Tryd.isAgg4
  z4 := Tryd.sizeOf4
  v4 := Tryd.zeroValue4
  t5 := Tryd.underlying5
  a5 := Tryd.isAgg5
  z5 := Tryd.sizeOf5
  v5 := Tryd.zeroValue5
  t9 := Tryd.underlying9
  a9 := Tryd.isAgg9
  z9 := Tryd.sizeOf9
  v9 := Tryd.zeroValue9
  t21 := Tryd.underlying21
  a21 := Tryd.isAgg21
  z21 := Tryd.sizeOf21
  v21 := Tryd.zeroValue21
  t31 := Tryd.underlying77
  a31 := Tryd.isAgg77
  z31 := Tryd.sizeOf77
  v31 := Tryd.zeroValue77
  t46 := Tryd.underlying122
  a46 := Tryd.isAgg122
  z46 := Tryd.sizeOf122
  v46 := Tryd.zeroValue122
  t51 := Tryd.underlying135
  a51 := Tryd.isAgg135
  z51 := Tryd.sizeOf135
  v51 := Tryd.zeroValue135
  t105 := Tryd.underlying123
  a105 := Tryd.isAgg123
  z105 := Tryd.sizeOf123
  v105 := Tryd.zeroValue123
  t119 := Tryd.underlying144
  a119 := Tryd.isAgg144
  z119 := Tryd.sizeOf144
  t138 := Tryd.underlying146
  a138 := Tryd.isAgg146
  z138 := Tryd.sizeOf146
  v138 := Tryd.zeroValue146
  t139 := Tryd.underlying147
  a139 := Tryd.isAgg147
  z139 := Tryd.sizeOf147
  v139 := Tryd.zeroValue147
  t146 := Tryd.underlying148
  a146 := Tryd.isAgg148
  z146 := Tryd.sizeOf148
  v146 := Tryd.zeroValue148
  g1 := by kernel_rfl
  g3 := by kernel_rfl
  g4 := by kernel_rfl }
open Go.RowKit Go.Lib in

theorem Tryd.strings_Split (s sep : ByteArray) (m : Int) (w : World) (hs : s.size < 4294967281) (hm : w.cell? ⟨2, 0, none⟩ = some (.int .i64 m)) (h1 : 1 ≤ sep.size) :
    Calls Tryd.prog 45 #[.string s, .string sep] w fun e w' =>
      e = .returned (.slice (some ⟨w.heap.size, 0, none⟩) (Lib.countB s sep + 1) (Lib.countB s sep + 1)) ∧ w' = w.alloc (.cells ((Lib.splitB sep 0 (Lib.countB s sep) s).map Value.string).toArray 9) := Any.strings_Split Tryd.lays146 (by kernel_rfl) s sep m w hs hm h1
end Go.Proofs
end

section
namespace Go.Proofs.YtcbiilbmldinhaaDoor.PB
open Go.RowKit Go.Proofs.YtcbiilbmldinhaaDoorW.PrintWords Go.Proofs.YtcbiilbmldinhaaDoorW.PrintLast Go.Proofs.YtcbiilbmldinhaaDoorW.PrintMore
set_option linter.unusedVariables false
set_option linter.unusedSimpArgs false
def strconv_Itoa_40.f (a0 : Int) : Option ByteArray := if 0 ≤ a0 ∧ a0 < 100 then some ⟨(Lib.decDigits a0.toNat).toArray⟩ else none
theorem strconv_Itoa_40.calls (a0 : Int) (r : ByteArray) (w : World) (h : strconv_Itoa_40.f a0 = some r) :
    Calls Tryd.prog 40 #[.int .i64 a0] w fun e w' => e = .returned (.string r) ∧ Below w.heap.size w w' := by
  unfold strconv_Itoa_40.f at h
  split at h
  case isFalse => cases h
  rename_i hc
  injection h with h
  subst h
  obtain ⟨a, rfl⟩ := Int.eq_ofNat_of_zero_le hc.1
  refine (Tryd.strconv_Itoa_small a (by omega) w).mono fun e w' ⟨he, hw⟩ => ?_
  subst hw
  exact ⟨he, Below.refl _ _⟩
theorem cell_spot {w : World} {a : Addr} {v : Value} (h : w.cell? a = some v) : a.spot = none := by
  unfold World.cell? at h
  split at h
  · split at h
    · cases h
    · rename_i hs
      cases hq : a.spot with
      | none => rfl
      | some x => rw [hq] at hs; simp at hs
  · cases h
def strings_Join.f (l0 : List ByteArray) (a1 : ByteArray) : Option ByteArray := if l0.length ≤ 140737488355328 ∧ (Lib.join (l0.map (fun x : ByteArray => x.data.toList)) a1.data.toList).length ≤ 140737488355328 then some ⟨(Lib.join (l0.map (fun x : ByteArray => x.data.toList)) a1.data.toList).toArray⟩ else none
theorem strings_Join.calls (A0 : Option Addr) (c0 : Nat) (l0 : List ByteArray) (a1 : ByteArray) (r : ByteArray) (w : World) (hr0 : Kd.C Kd.string w A0 l0.length l0) (hc0 : l0.length ≤ c0) (h : strings_Join.f l0 a1 = some r) :
    Calls Tryd.prog 38 #[.slice A0 l0.length c0, .string a1] w fun e w' => e = .returned (.string r) ∧ Below w.heap.size w w' := by
  unfold strings_Join.f at h
  split at h
  case isFalse => cases h
  rename_i hc
  injection h with h
  subst h
  cases l0 with
  | nil =>
    refine (Tryd.strings_Join_none A0 c0 a1 w).mono fun e w' ⟨he, hw⟩ => ?_
    subst hw
    exact ⟨he, Below.refl _ _⟩
  | cons x xs =>
    obtain ⟨ad, rfl, hx0⟩ := Kd.at_string hr0 0 (by omega) (by simp)
    have hs := cell_spot hx0
    obtain ⟨b, o, sp⟩ := ad
    have hsp : sp = none := by
      have : (Addr.add ⟨b, o, sp⟩ (0 : Int).toNat) = ⟨b, o, sp⟩ := rfl
      rw [this] at hs
      exact hs
    subst hsp
    have hcells : ∀ (j : Nat) y, (x :: xs)[j]? = some y → w.cell? ⟨b, o + j, none⟩ = some (.string y) := by
      intro j y hy
      have hj := (List.getElem?_eq_some_iff.1 hy).1
      obtain ⟨ad', e', hx'⟩ := Kd.at_string hr0 (j : Int) (by omega) (by omega)
      obtain rfl : (⟨b, o, none⟩ : Addr) = ad' := by injection e'
      rw [Int.toNat_natCast, Addr.add_lit] at hx'
      rw [hx']
      unfold rdOf
      rw [Int.toNat_natCast, List.getD_eq_getElem?_getD, hy]
      rfl
    have hb := World.block_lt_of_cell? w _ (hcells 0 x rfl)
    exact Tryd.strings_Join b o c0 (x :: xs) a1 w hcells hb hc.1 hc0 hc.2
set_option maxHeartbeats 1000000 in
theorem Split_one (s : ByteArray) (c : UInt8) (w : World) (hs : s.size < 4294967281) :
    Calls Tryd.prog 45 #[.string s, .string ⟨#[c]⟩] w fun e w' =>
      e = .returned (.slice (some ⟨w.heap.size, 0, none⟩) (Lib.countB s ⟨#[c]⟩ + 1) (Lib.countB s ⟨#[c]⟩ + 1)) ∧ w' = w.alloc (.cells ((Lib.splitB ⟨#[c]⟩ 0 (Lib.countB s ⟨#[c]⟩) s).map Value.string).toArray 9) := by
  have h1 : 1 ≤ (⟨#[c]⟩ : ByteArray).size := Nat.le_refl 1
  have hle := Lib.countB_le ⟨#[c]⟩ h1 s.size s (Nat.le_refl _)
  have hlen := Lib.splitB_all ⟨#[c]⟩ h1 0 _ s rfl
  have c0 := Any.strings_genSplit_core Tryd.lays221 (by kernel_rfl) s ⟨#[c]⟩ 0 (-1) (Lib.countB s ⟨#[c]⟩ + 1) w hs h1 (Nat.zero_le _)
    (fun x cs hx => (Tryd.strings_Index_one x c _).mono fun e w' ⟨he, hw⟩ => ⟨by rw [he]; show _ = Ending.returned (Value.int .i64 (Lib.index x.data.toList [c])); rw [Lib.index_one], hw⟩)
    ((Tryd.strings_Count_one s c w).mono fun e w' ⟨he, hw⟩ => ⟨by rw [he]; show _ = Ending.returned (Value.int .i64 ((Lib.count s.data.toList [c] : Nat) : Int)); rw [Lib.count_one]; rfl, hw⟩)
    (by decide) (by decide) (by rw [if_pos (by decide)]; omega)
  rw [Nat.add_sub_cancel, hlen] at c0
  have e2 : Lib.cellsOf (Lib.splitB ⟨#[c]⟩ 0 (Lib.countB s ⟨#[c]⟩) s) (Lib.countB s ⟨#[c]⟩ + 1) = ((Lib.splitB ⟨#[c]⟩ 0 (Lib.countB s ⟨#[c]⟩) s).map Value.string).toArray := by rw [← hlen]; exact Lib.cellsOf_full _
  rw [e2] at c0
  have C0 := aM c0
  clear c0 e2 hlen hle h1
  go_enter Tryd.func45, Tryd.ntmps45
  go_wp2_with (go_at_call 59; refine C0.out.mono ?_; rintro e w' ⟨rfl, hw⟩; rw [hw])
  go_ret
  exact ⟨rfl, rfl⟩
def strings_Split.f (a0 a1 : ByteArray) : Option (List ByteArray) := if a1.size = 1 ∧ a0.size < 4294967281 then some (Lib.splitB a1 0 (Lib.countB a0 a1) a0) else none
theorem strings_Split.calls (a0 a1 : ByteArray) (r : List ByteArray) (w : World) (h : strings_Split.f a0 a1 = some r) :
    Calls Tryd.prog 45 #[.string a0, .string a1] w fun e w' => ∃ v0_ : Value, e = .returned (v0_) ∧ Kd.R Kd.string 9 w' w.heap.size (fun _ => True) v0_ r ∧ Below w.heap.size w w' := by
  unfold strings_Split.f at h
  split at h
  case isFalse => cases h
  rename_i hc
  injection h with h
  subst h
  obtain ⟨c, rfl⟩ := Lib.one_byte a1 hc.1
  have hle := Lib.countB_le ⟨#[c]⟩ (Nat.le_refl 1) a0.size a0 (Nat.le_refl _)
  have hlen := Lib.splitB_all ⟨#[c]⟩ (Nat.le_refl 1) 0 _ a0 rfl
  refine (Split_one a0 c w hc.2).mono fun e w' ⟨he, hw⟩ => ?_
  subst hw
  refine ⟨_, he, ?_, (Below.refl _ _).alloc (Nat.le_refl _) _⟩
  have hl2 : Lib.countB a0 ⟨#[c]⟩ + 1 ≤ 9223372036854775807 := by omega
  generalize Lib.splitB ⟨#[c]⟩ 0 (Lib.countB a0 ⟨#[c]⟩) a0 = xs at *
  generalize Lib.countB a0 ⟨#[c]⟩ = n at *
  refine Kd.R_of_own ⟨by simp [encs], Or.inr ⟨w.heap.size, n + 1, (xs.map Value.string).toArray, by rw [hlen], Nat.le_refl _, heap_alloc_new _ _, by omega, by unfold maxLen; exact hl2, by simp [hlen], by simp only [encs]; rw [List.take_of_length_le (by simp [hlen])]⟩⟩ (fun _ _ => trivial)
end Go.Proofs.YtcbiilbmldinhaaDoor.PB
end

section
namespace Go.Proofs.YtcbiilbmldinhaaDoor.PB
open Go.RowKit Go.Proofs.YtcbiilbmldinhaaDoorW.PrintWords Go.Proofs.YtcbiilbmldinhaaDoorW.PrintLast Go.Proofs.YtcbiilbmldinhaaDoorW.PrintMore
attribute [local go_sem] max2_int min2_int max_two min_two max_three min_three max_four min_four   
set_option linter.unusedVariables false
set_option linter.unusedSimpArgs false
def label_Print.l0 : Nat → List ByteArray → List Int → Int → Int → Option (ByteArray)
 | 0, _, _, _, _ => none
 | k + 1, x3, x9, x10, x11 => if x11 < x10 then (if 0 ≤ x11 then (if x11 < (x9.length : Int) then ((strconv_Itoa_40.f (rd x9 x11)).bind fun t137 => (if x3.length < 8796093022208 then (label_Print.l0 k (x3 ++ [t137]) x9 x10 (wrap64 (x11 + 1))) else (none))) else (none)) else (none)) else ((strings_Join.f x3 (⟨#[46]⟩ : ByteArray)).bind fun t141 => (some t141))
def label_Print.f (k : Nat) (a0 : Int) : Option (ByteArray) := if a0 = 0 then (some (⟨#[45]⟩ : ByteArray)) else ((label_Cats.f a0).bind fun t133 => (label_Print.l0 k ([] : List ByteArray) t133 (t133.length : Int) 0))
set_option maxHeartbeats 8000000 in
set_option maxRecDepth 100000 in
theorem label_Print.calls (k : Nat) (a0 : Int) (r : ByteArray) (w : World) (h : label_Print.f k a0 = some r) :
  Calls Tryd.prog 41 #[.int .u64 a0] w fun e w' => e = .returned (.string r) ∧ Below w.heap.size w w' := by
 have HB := aM (Below.refl w.heap.size w)
 have H : (if a0 = 0 then (some (⟨#[45]⟩ : ByteArray)) else ((label_Cats.f a0).bind fun t133 => (label_Print.l0 k ([] : List ByteArray) t133 (t133.length : Int) 0))) = some r := h
 clear h
 by_cases c2 : a0 = 0
 ·rw [if_pos c2] at H
  have c2b0 : (a0 == 0) = true := beq_iff_eq.mpr c2
  have c2b1 : (a0 != 0) = false := bne_eq_false_iff_eq.mpr c2
  clear c2
  obtain rfl := Option.some.inj H
  go_enter Tryd.func41, Tryd.ntmps41
  go_wp2
  go_ret
  exact ⟨by first | rfl | (simp [errW_none, errW_some] <;> rfl) | (simp [*, errW_none, errW_some] <;> rfl), by exact ey HB.out⟩
 ·rw [if_neg c2] at H
  have c2b0 : (a0 == 0) = false := beq_eq_false_iff_ne.mpr c2
  have c2b1 : (a0 != 0) = true := bne_iff_ne.mpr c2
  replace H := Option.bind_eq_some_iff.mp H
  obtain ⟨t133, A30, H⟩ := H
  replace H : (label_Print.l0 k ([] : List ByteArray) t133 (t133.length : Int) 0) = some r := H
  have A3 := aM A30
  clear A30
  have H' := aM H
  clear H
  go_enter Tryd.func41, Tryd.ntmps41
  go_wp2_with (first | ((with_reducible refine gate_callee (f := 56) rfl ?_); refine goesL_ (some 9) rfl rfl Tryd.func56 (by kernel_rfl) rfl #[.int .u64 a0] rfl (by (try simp only [mT, mC, mN]); first | done | rfl | (simp only [lD, lT]; rfl)) ?_; (with_reducible refine (label_Cats.calls a0 t133 _ A3.out).mono ?_); rintro e w4 ⟨v134, rfl, ho0, hb⟩; refine ⟨_, rfl, ?_⟩; have n0_ := aM (rL ho0 (bZ (ey HB.out))); have n1_ := aM (bP (ey HB.out) hb); clear HB; have HO135 := n0_; have HB := n1_; clear n0_ n1_; (try clear hb); (try clear hb2); (try clear hk); (try clear hi); (try clear ho0); obtain ⟨Ao5, co5, eo5⟩ := Kd.R_slice HO135.out; subst eo5))
  go_loopg [3, 11] k (fun kq v3 v11 w' => ∃ (x3_1 : List ByteArray) (x11_1 : Int), v11 = .int .i64 x11_1 ∧ Aside0 (label_Print.l0 kq x3_1 t133 (t133.length : Int) x11_1 = some r) ∧ Aside0 (kq ≤ k) ∧ Aside0 (Kd.R Kd.string 9 w' w.heap.size (fun _ => True) v3 x3_1) ∧ Aside0 (Kd.R (Kd.int .i64) 3 w' w.heap.size (fun _ => True) (.slice Ao5 t133.length co5) t133) ∧ Aside0 (Below w.heap.size w w'))
  case atStart => exact ⟨(([] : List ByteArray)), (0), (by first | rfl | (simp; done) | (simp [*]; done)), H', ⟨Nat.le_refl _⟩, ⟨by first | exact Kd.R_nil _ _ _ _ _ | exact Kd.N_nil _ _ _ _ _ | exact Kd.V_nil _ _ _ _ _ | exact Kd.Q_nil _ _ _ _ _ | exact Kd.S_nil _ _ _ _ _⟩, ⟨by exact ry HO135.out⟩, ⟨by exact ey HB.out⟩⟩
  case round =>
   clear H'
   try clear c2
   try clear c2b0
   try clear c2b1
   try clear p2
   try clear c4
   try clear c5
   obtain ⟨x3_1, x11_1, rfl, HA, HK1, HO_3, HO_9, HB⟩ := hrel
   cases gk with
   | zero => exact absurd HA.out (by simp [label_Print.l0])
   | succ k1 =>
    have H := HA.out
    clear HA
    simp only [label_Print.l0] at H
    by_cases c6 : x11_1 < (t133.length : Int)
    ·rw [if_pos c6] at H
     have c6b0 : decide (x11_1 < (t133.length : Int)) = true := decide_eq_true c6
     clear c6
     by_cases c7 : 0 ≤ x11_1
     ·rw [if_pos c7] at H
      have c7b0 : decide (0 ≤ x11_1) = true := decide_eq_true c7
      clear c7
      by_cases c8 : x11_1 < (t133.length : Int)
      ·rw [if_pos c8] at H
       have c8b0 : decide (x11_1 < (t133.length : Int)) = true := decide_eq_true c8
       clear c8
       replace H := Option.bind_eq_some_iff.mp H
       obtain ⟨t137, A90, H⟩ := H
       replace H : (if x3_1.length < 8796093022208 then (label_Print.l0 k1 (x3_1 ++ [t137]) t133 (t133.length : Int) (wrap64 (x11_1 + 1))) else (none)) = some r := H
       have A9 := aM A90
       clear A90
       by_cases c10 : x3_1.length < 8796093022208
       ·rw [if_pos c10] at H
        have LMc10 := aM c10
        clear c10
        obtain ⟨y138, hy138⟩ : ∃ y_ : List ByteArray, y_ = (x3_1 ++ [t137]) := ⟨_, rfl⟩
        replace H : (label_Print.l0 k1 y138 t133 (t133.length : Int) (wrap64 (x11_1 + 1))) = some r := by first | (rw [hy138]; with_reducible exact H) | (have H2_ := (Option.bind_some _ _).symm.trans H; rw [hy138]; with_reducible exact H2_) | (have H2_ := (Option.bind_some _ _).symm.trans H; with_reducible exact H2_) | with_reducible exact H | (rw [hy138]; exact H) | exact H
        have Ny138 := aM hy138
        clear hy138
        have H' := aM H
        clear H
        have p136 : 0 ≤ (x11_1 : Int) := of_decide_eq_true (by first | (with_reducible assumption) | assumption)
        have q136 : x11_1 < (t133.length : Int) := of_decide_eq_true (by first | (with_reducible assumption) | assumption)
        obtain ⟨ad136, e136, hx136_0⟩ := Kd.at_int (rR HO_9.out).2.2 x11_1 p136 q136
        cases e136
        replace p136 := eq_true p136
        replace q136 := eq_true q136
        go_wp2_with (first | ((with_reducible refine gate_callee (f := 40) rfl ?_); refine goesL_ (some 17) rfl rfl Tryd.func40 (by kernel_rfl) rfl #[.int .i64 (rd t133 x11_1)] rfl (by (try simp only [mT, mC, mN]); first | done | rfl | (simp only [lD, lT]; rfl)) ?_; (with_reducible refine (strconv_Itoa_40.calls (rd t133 x11_1) t137 _ A9.out).mono ?_); rintro e w11 ⟨rfl, hb⟩; refine ⟨_, rfl, ?_⟩; have n0_ := aM (Kd.R_below (ry HO_3.out) hb); have n1_ := aM (Kd.R_below (ry HO_9.out) hb); have n2_ := aM (bP (ey HB.out) hb); clear HO_3 HO_9 HB; have HO_3 := n0_; have HO_9 := n1_; have HB := n2_; clear n0_ n1_ n2_; (try clear hb); (try clear hb2); (try clear hk); (try clear hi)) | ((with_reducible refine gate_builtin (b := .append) (xs := #[.tmp 15, .tmp 18]) rfl ?_); at_builtin; refine Kd.R_append Kd.string (w0 := w) w.heap.size rfl (.tmp 15) (.tmp 18) 77 9 (.string ⟨#[]⟩) 16 rfl Tryd.underlying77 info9 rfl (by decide) (by omega) u3 x3_1 t137 [.string t137] (fun _ => True) (fun _ => False) rfl rfl ?aP (fun _ hk => hk.elim) ?aF ?aO ?aB ?aS ?aL ?_; (case aP => exact rfl); (case aB => exact (ey HB.out)); (case aF => exact (fun _ _ => trivial)); (case aO => exact (ry HO_3.out)); (case aS => exact (bZ (ey HB.out))); (case aL => have := LMc10.out; omega); intro v139 w12 ho hb hg hat; rw [← Ny138.out] at ho; have n0_ := aM (Kd.R_over' (ry HO_9.out) (Kd.R_typed (ry HO_3.out)) (by decide) hg); have n1_ := aM (hb); have n2_ := aM (ho); clear HO_9 HB HO_3; have HO_9 := n0_; have HB := n1_; have HO140 := n2_; clear n0_ n1_ n2_; clear ho hb hg hat))
        go_roundg k1
        case measure => have := HK1.out; omega
        case rel => exact ⟨(y138), (wrap64 (x11_1 + 1)), (by first | rfl | (simp; done) | (simp [*]; done)), H', ⟨by have := HK1.out; omega⟩, ⟨by exact ry HO140.out⟩, ⟨by exact ry HO_9.out⟩, ⟨by exact ey HB.out⟩⟩
       ·rw [if_neg c10] at H
        exact absurd H (by simp)
      ·rw [if_neg c8] at H
       exact absurd H (by simp)
     ·rw [if_neg c7] at H
      exact absurd H (by simp)
    ·rw [if_neg c6] at H
     have c6b0 : decide (x11_1 < (t133.length : Int)) = false := decide_eq_false c6
     clear c6
     replace H := Option.bind_eq_some_iff.mp H
     obtain ⟨t141, A130, H⟩ := H
     replace H : (some t141) = some r := H
     have A13 := aM A130
     clear A130
     obtain rfl := Option.some.inj H
     obtain ⟨Ao14, co14, eo14⟩ := Kd.R_slice HO_3.out
     subst eo14
     go_wp2_with (first | ((with_reducible refine gate_callee (f := 38) rfl ?_); refine goesL_ (some 22) rfl rfl Tryd.func38 (by kernel_rfl) rfl #[.slice Ao14 x3_1.length co14, .string (⟨#[46]⟩ : ByteArray)] rfl (by (try simp only [mT, mC, mN]); first | done | rfl | (simp only [lD, lT]; rfl)) ?_; (with_reducible refine (strings_Join.calls _ _ x3_1 (⟨#[46]⟩ : ByteArray) t141 _ ?side1 ?side2 A13.out).mono ?_); (case side1 => repeat (first | exact (rR HO_3.out).2.2 | (with_reducible refine Kd.C_alloc ?_ _) | (with_reducible refine Kd.C_drewN ?_ _) | (with_reducible refine Kd.C_drew ?_))); (case side2 => exact (rR HO_3.out).2.1); rintro e w15 ⟨rfl, hb⟩; refine ⟨_, rfl, ?_⟩; have n0_ := aM (Kd.R_below (ry HO_3.out) hb); have n1_ := aM (Kd.R_below (ry HO_9.out) hb); have n2_ := aM (bP (ey HB.out) hb); clear HO_3 HO_9 HB; have HO_3 := n0_; have HO_9 := n1_; have HB := n2_; clear n0_ n1_ n2_; (try clear hb); (try clear hb2); (try clear hk); (try clear hi)))
     go_ret
     exact ⟨by first | rfl | (simp [errW_none, errW_some] <;> rfl) | (simp [*, errW_none, errW_some] <;> rfl), by exact ey HB.out⟩
end Go.Proofs.YtcbiilbmldinhaaDoor.PB
end

section
namespace Go.Proofs.YtcbiilbmldinhaaDoor.PB
open Go.RowKit Go.Proofs.YtcbiilbmldinhaaDoorW.PrintWords Go.Proofs.YtcbiilbmldinhaaDoorW.PrintLast Go.Proofs.YtcbiilbmldinhaaDoorW.PrintMore
set_option linter.unusedVariables false
set_option linter.unusedSimpArgs false
structure NumOk (w : World) : Prop where
  tab : Lib.TabIs Tryd.prog w "internal/strconv.uint64pow10" .u64 Lib.pow10Tab
  syn : ∃ tp p, w.var? Tryd.prog "strconv.ErrSyntax" = some #[.iface tp p]
  rng : ∃ tp p, w.var? Tryd.prog "strconv.ErrRange" = some #[.iface tp p]
theorem var_lt {w : World} {n : String} {cs : Array Value} (h : w.var? Tryd.prog n = some cs) : ∃ g, Tryd.prog.globalNamed n = some g ∧ g < w.heap.size := by
  unfold World.var? at h
  obtain ⟨g, hg, h⟩ := Option.bind_eq_some_iff.1 h
  refine ⟨g, hg, ?_⟩
  cases hc : w.heap[g]? with
  | none => rw [hc] at h; cases h
  | some o => exact (Array.getElem?_eq_some_iff.1 hc).1
theorem var_kept {w w1 : World} {n : String} {cs : Array Value} (hb : Below w.heap.size w w1) (h : w.var? Tryd.prog n = some cs) : w1.var? Tryd.prog n = some cs := by
  obtain ⟨g, hg, hl⟩ := var_lt h
  exact var?_below hb hg hl h
theorem NumOk.below {w w1 : World} (h : NumOk w) (hb : Below w.heap.size w w1) : NumOk w1 := by
  obtain ⟨h1, ⟨a, b, h2⟩, ⟨c, d, h3⟩⟩ := h
  exact ⟨var_kept hb h1, ⟨a, b, var_kept hb h2⟩, ⟨c, d, var_kept hb h3⟩⟩
def Itoa2.f (a0 : Int) : Option ByteArray := if -9223372036854775808 ≤ a0 ∧ a0 ≤ 9223372036854775807 then some ⟨(Lib.itoa a0).toArray⟩ else none
theorem Itoa2.calls (a0 : Int) (r : ByteArray) (w : World) (hm : NumOk w) (h : Itoa2.f a0 = some r) :
    Calls Tryd.prog 40 #[.int .i64 a0] w fun e w' => e = .returned (.string r) ∧ Below w.heap.size w w' := by
  unfold Itoa2.f at h
  split at h
  case isFalse => cases h
  rename_i hc
  injection h with h
  subst h
  refine (Tryd.strconv_Itoa a0 hc.1 hc.2 w hm.tab).mono fun e w' ⟨he, k, os, hw⟩ => ?_
  subst hw
  exact ⟨he, Lib.below_grow _ w (Nat.le_refl _) k os⟩
def atoiV (s : ByteArray) : Int := match Lib.atoiAll s.data.toList with
  | .ok v => v
  | .syntax => 0
  | .range => Lib.atoiSat s.data.toList
theorem atoi_ok (s : ByteArray) (w : World) (hm : NumOk w) (hs : s.size ≤ 4096) :
    Calls Tryd.prog 46 #[.string s] w fun e w' => ∃ v, e = .returned (.tuple #[.int .i64 (atoiV s), v]) ∧ Below w.heap.size w w' := by
  unfold atoiV
  cases h : Lib.atoiAll s.data.toList with
  | ok v =>
    refine (Tryd.strconv_Atoi_ok s (by omega) v h w).mono fun e w' ⟨he, hw⟩ => ⟨_, he, ?_⟩
    rcases hw with rfl | ⟨t, rfl⟩
    · exact Below.refl _ _
    · exact Lib.bytesWorld_below _ _ _
  | «syntax» =>
    obtain ⟨tp, p, hv⟩ := hm.syn
    exact (Tryd.strconv_Atoi_syntax_var s (by omega) h tp p w hv).mono fun e w' ⟨N, he, _, _, hb⟩ => ⟨_, he, hb⟩
  | range =>
    obtain ⟨tp, p, hv⟩ := hm.rng
    exact (Tryd.strconv_Atoi_range_var s (by omega) h tp p w hv).mono fun e w' ⟨N, he, _, _, hb⟩ => ⟨_, he, hb⟩
end Go.Proofs.YtcbiilbmldinhaaDoor.PB
end

section
namespace Go.Proofs.YtcbiilbmldinhaaDoor.PB
open Go.RowKit Go.Proofs.YtcbiilbmldinhaaDoorW.PrintWords Go.Proofs.YtcbiilbmldinhaaDoorW.PrintLast Go.Proofs.YtcbiilbmldinhaaDoorW.PrintMore
attribute [local go_sem] max2_int min2_int max_two min_two max_three min_three max_four min_four   
set_option linter.unusedVariables false
set_option linter.unusedSimpArgs false
def audit_Print2.f (k : Nat) (a0_0 : Int) (a0_1 : Int) (a0_2 : Int) (a0_3 : Int) (a0_4 : Int) : Option (ByteArray × Int) := (audit_Record_may.f k a0_0 a0_1 a0_2 a0_3 a0_4).bind fun t143 => (if t143 = true then ((audit_word.f a0_1).bind fun t144 => ((Itoa2.f a0_2).bind fun t145 => ((Itoa2.f a0_3).bind fun t146 => ((Itoa2.f a0_4).bind fun t147 => ((label_Print.f k a0_0).bind fun t148 => ((strings_Join.f (([t144, t145, t146, t147, t148] : List ByteArray)) (⟨#[32]⟩ : ByteArray)).bind fun t152 => (some (t152, 0)))))))) else (some ((⟨#[]⟩ : ByteArray), 2)))
def audit_Print2.T3 : Bool × List (List Nat × List Nat) := (true, [([], []), ([0], [0]), ([1], [1]), ([], []), ([3], [3]), ([4, 2], [4]), ([], []), ([6], [6]), ([7, 5], [7]), ([], []), ([9], [9]), ([10, 8], [10]), ([], []), ([12], [12]), ([13, 11], [13]), ([2, 5, 8, 11, 14], [2, 5, 8, 11, 14]), ([15, 14], [15]), ([16, 16, 0, 1, 2, 3, 4, 5, 6, 7, 8, 9, 10, 11, 12, 13, 14, 15, 16], [16]), ([17, 0, 1, 2, 3, 4, 5, 6, 7, 8, 9, 10, 11, 12, 13, 14, 15, 16, 17], [])])
def audit_Print2.B3 : List Nat := [0, 1, 3, 0, 8, 31, 0, 64, 255, 0, 512, 2047, 0, 4096, 16383, 32767, 65535, 131071, 262143]
theorem audit_Print2.tab3 : rtab .any (opsOf Tryd.f26 3) = audit_Print2.T3 := by kernel_rfl
theorem audit_Print2.bits3 : waitsOk audit_Print2.T3.2 audit_Print2.B3 = true := by kernel_rfl
set_option maxHeartbeats 8000000 in
set_option maxRecDepth 100000 in
theorem audit_Print2.calls (k : Nat) (a0_0 : Int) (a0_1 : Int) (a0_2 : Int) (a0_3 : Int) (a0_4 : Int) (r1 : ByteArray) (r2 : Int) (w : World) (hMX : NumOk w) (h : audit_Print2.f k a0_0 a0_1 a0_2 a0_3 a0_4 = some (r1, r2)) :
  Calls Tryd.prog 26 #[.agg #[.int .u64 a0_0, .int .i64 a0_1, .int .i64 a0_2, .int .i64 a0_3, .int .i64 a0_4]] w fun e w' => e = .returned (.tuple #[.string r1, .int .i64 r2]) ∧ Below w.heap.size w w' := by
 have HMX := aM hMX
 clear hMX
 have hu36 := Tryd.underlying36
 have HB := aM (Below.refl w.heap.size w)
 have H : ((audit_Record_may.f k a0_0 a0_1 a0_2 a0_3 a0_4).bind fun t143 => (if t143 = true then ((audit_word.f a0_1).bind fun t144 => ((Itoa2.f a0_2).bind fun t145 => ((Itoa2.f a0_3).bind fun t146 => ((Itoa2.f a0_4).bind fun t147 => ((label_Print.f k a0_0).bind fun t148 => ((strings_Join.f (([t144, t145, t146, t147, t148] : List ByteArray)) (⟨#[32]⟩ : ByteArray)).bind fun t152 => (some (t152, 0)))))))) else (some ((⟨#[]⟩ : ByteArray), 2)))) = some (r1, r2) := h
 clear h
 replace H := Option.bind_eq_some_iff.mp H
 obtain ⟨t143, A20, H⟩ := H
 replace H : (if t143 = true then ((audit_word.f a0_1).bind fun t144 => ((Itoa2.f a0_2).bind fun t145 => ((Itoa2.f a0_3).bind fun t146 => ((Itoa2.f a0_4).bind fun t147 => ((label_Print.f k a0_0).bind fun t148 => ((strings_Join.f (([t144, t145, t146, t147, t148] : List ByteArray)) (⟨#[32]⟩ : ByteArray)).bind fun t152 => (some (t152, 0)))))))) else (some ((⟨#[]⟩ : ByteArray), 2))) = some (r1, r2) := H
 have A2 := aM A20
 clear A20
 by_cases c3 : t143 = true
 ·subst c3
  have H1 : ((audit_word.f a0_1).bind fun t144 => ((Itoa2.f a0_2).bind fun t145 => ((Itoa2.f a0_3).bind fun t146 => ((Itoa2.f a0_4).bind fun t147 => ((label_Print.f k a0_0).bind fun t148 => ((strings_Join.f (([t144, t145, t146, t147, t148] : List ByteArray)) (⟨#[32]⟩ : ByteArray)).bind fun t152 => (some (t152, 0)))))))) = some (r1, r2) := by rw [if_pos rfl] at H; exact H
  clear H
  have H := H1
  clear H1
  replace H := Option.bind_eq_some_iff.mp H
  obtain ⟨t144, A40, H⟩ := H
  replace H : ((Itoa2.f a0_2).bind fun t145 => ((Itoa2.f a0_3).bind fun t146 => ((Itoa2.f a0_4).bind fun t147 => ((label_Print.f k a0_0).bind fun t148 => ((strings_Join.f (([t144, t145, t146, t147, t148] : List ByteArray)) (⟨#[32]⟩ : ByteArray)).bind fun t152 => (some (t152, 0))))))) = some (r1, r2) := H
  have A4 := aM A40
  clear A40
  replace H := Option.bind_eq_some_iff.mp H
  obtain ⟨t145, A50, H⟩ := H
  replace H : ((Itoa2.f a0_3).bind fun t146 => ((Itoa2.f a0_4).bind fun t147 => ((label_Print.f k a0_0).bind fun t148 => ((strings_Join.f (([t144, t145, t146, t147, t148] : List ByteArray)) (⟨#[32]⟩ : ByteArray)).bind fun t152 => (some (t152, 0)))))) = some (r1, r2) := H
  have A5 := aM A50
  clear A50
  replace H := Option.bind_eq_some_iff.mp H
  obtain ⟨t146, A60, H⟩ := H
  replace H : ((Itoa2.f a0_4).bind fun t147 => ((label_Print.f k a0_0).bind fun t148 => ((strings_Join.f (([t144, t145, t146, t147, t148] : List ByteArray)) (⟨#[32]⟩ : ByteArray)).bind fun t152 => (some (t152, 0))))) = some (r1, r2) := H
  have A6 := aM A60
  clear A60
  replace H := Option.bind_eq_some_iff.mp H
  obtain ⟨t147, A70, H⟩ := H
  replace H : ((label_Print.f k a0_0).bind fun t148 => ((strings_Join.f (([t144, t145, t146, t147, t148] : List ByteArray)) (⟨#[32]⟩ : ByteArray)).bind fun t152 => (some (t152, 0)))) = some (r1, r2) := H
  have A7 := aM A70
  clear A70
  replace H := Option.bind_eq_some_iff.mp H
  obtain ⟨t148, A80, H⟩ := H
  replace H : ((strings_Join.f (([t144, t145, t146, t147, t148] : List ByteArray)) (⟨#[32]⟩ : ByteArray)).bind fun t152 => (some (t152, 0))) = some (r1, r2) := H
  have A8 := aM A80
  clear A80
  obtain ⟨y149, hy149⟩ : ∃ y_ : List ByteArray, y_ = (([t144, t145, t146, t147, t148] : List ByteArray)) := ⟨_, rfl⟩
  replace H : ((strings_Join.f y149 (⟨#[32]⟩ : ByteArray)).bind fun t152 => (some (t152, 0))) = some (r1, r2) := by first | (rw [hy149]; with_reducible exact H) | (have H2_ := (Option.bind_some _ _).symm.trans H; rw [hy149]; with_reducible exact H2_) | (have H2_ := (Option.bind_some _ _).symm.trans H; with_reducible exact H2_) | with_reducible exact H | (rw [hy149]; exact H) | exact H
  have Ny149 := aM hy149
  clear hy149
  replace H := Option.bind_eq_some_iff.mp H
  obtain ⟨t152, A90, H⟩ := H
  replace H : (some (t152, 0)) = some (r1, r2) := H
  have A9 := aM A90
  clear A90
  simp only [Option.some.injEq, Prod.mk.injEq] at H
  obtain ⟨rfl, rfl⟩ := H
  go_enter Tryd.func26, Tryd.ntmps26
  try go_wp2_with (first | ((with_reducible refine gate_dst (N := 1) rfl ?_); refine box_event ?hg (N := 1) ?hd (cs := #[.int .u64 a0_0, .int .i64 a0_1, .int .i64 a0_2, .int .i64 a0_3, .int .i64 a0_4]) (t := 36) ?hr ?_; (case hd | hg => rfl); (case hr => first | (go_simp; done) | (go_simp; rfl)); intro gb142 hg w10 hbox hb; have n0_ := aM (bP (ey HB.out) hb); have n1_ := aM (hbox); have n2_ := aM ((by rw [hg]; exact (bZ (ey HB.out)) : w.heap.size ≤ gb142)); have n3_ := n2_; clear HB; have HB := n0_; have BK142 := n1_; have GW142 := n2_; have GE142 := n3_; clear n0_ n1_ n2_ n3_; clear hb hbox hg; have hcz11_0 := zC BK142.out 0 (.int .u64 a0_0); have hcz11_1 := zC BK142.out 1 (.int .i64 a0_1); have hcz11_2 := zC BK142.out 2 (.int .i64 a0_2); have hcz11_3 := zC BK142.out 3 (.int .i64 a0_3); have hcz11_4 := zC BK142.out 4 (.int .i64 a0_4); have hfz11_0 := bF BK142.out 0; have hfz11_1 := bF BK142.out 1; have hfz11_2 := bF BK142.out 2; have hfz11_3 := bF BK142.out 3; have hfz11_4 := bF BK142.out 4) | ((with_reducible refine gate_callee (f := 33) rfl ?_); refine goesL_ (some 5) rfl rfl Tryd.func33 (by kernel_rfl) rfl #[.agg #[.int .u64 a0_0, .int .i64 a0_1, .int .i64 a0_2, .int .i64 a0_3, .int .i64 a0_4]] rfl (by (try simp only [mT, mC, mN]); first | done | rfl | (simp only [lD, lT]; rfl)) ?_; (with_reducible refine (audit_Record_may.calls k a0_0 a0_1 a0_2 a0_3 a0_4 true _ A2.out).mono ?_); rintro e w12 ⟨rfl, hb⟩; refine ⟨_, rfl, ?_⟩; have n0_ := aM (bB (g := gb142) (qy BK142.out) hb); have n1_ := aM (bP (by repeat (first | (with_reducible first | exact HB.out | apply ea | apply en | apply ed | refine es ?_ GE142.out) | exact HB.out)) hb); clear BK142 HB; have BK142 := n0_; have HB := n1_; clear n0_ n1_; (try clear hb); (try clear hb2); (try clear hk); (try clear hi)))
  have n0_ := aM (blk_drew BK142.out)
  have n1_ := aM (below_drew1 HB.out)
  clear BK142
  clear HB
  have BK142 := n0_
  have HB := n1_
  clear n0_ n1_
  refine start_ (n := 19) (S := fun w' => w'.cell? ⟨gb142, 0, none⟩ = some (.int .u64 a0_0) ∧ w'.cell? ⟨gb142, 1, none⟩ = some (.int .i64 a0_1) ∧ w'.cell? ⟨gb142, 2, none⟩ = some (.int .i64 a0_2) ∧ w'.cell? ⟨gb142, 3, none⟩ = some (.int .i64 a0_3) ∧ w'.cell? ⟨gb142, 4, none⟩ = some (.int .i64 a0_4)) (ds := []) b0_ (by kernel_rfl) rfl rfl ⟨(bC BK142.out 0).trans rfl, (bC BK142.out 1).trans rfl, (bC BK142.out 2).trans rfl, (bC BK142.out 3).trans rfl, (bC BK142.out 4).trans rfl⟩ (fun hHeld => ?_); refine with_tabW audit_Print2.tab3 audit_Print2.bits3 (fun HT_ HW_ => ?_)
  generalize w12.drew = w13 at BK142 HB hHeld ⊢
  refine pure_ (i := 0) (N := some 7) (v := ?_) (a' := ?_) b1_ rfl rfl (any_of HT_.out (by kernel_rfl)) (fun _ _ _ h => h) (Or.inl ⟨by rfl, ?_⟩) ?_ ?_
  rotate_left
  ·intro w'
   go_simp
   with_reducible rfl
  rotate_left
  ·simp only [Act.put, sA, sZ, sS, i64_w, i32_w]
   rfl
  refine pure_ (i := 3) (N := some 10) (v := ?_) (a' := ?_) b2_ rfl rfl (any_of HT_.out (by kernel_rfl)) (fun _ _ _ h => h) (Or.inl ⟨by rfl, ?_⟩) ?_ ?_
  rotate_left
  ·intro w'
   go_simp
   with_reducible rfl
  rotate_left
  ·simp only [Act.put, sA, sZ, sS, i64_w, i32_w]
   rfl
  refine pure_ (i := 6) (N := some 13) (v := ?_) (a' := ?_) b3_ rfl rfl (any_of HT_.out (by kernel_rfl)) (fun _ _ _ h => h) (Or.inl ⟨by rfl, ?_⟩) ?_ ?_
  rotate_left
  ·intro w'
   go_simp
   with_reducible rfl
  rotate_left
  ·simp only [Act.put, sA, sZ, sS, i64_w, i32_w]
   rfl
  refine pure_ (i := 9) (N := some 16) (v := ?_) (a' := ?_) b4_ rfl rfl (any_of HT_.out (by kernel_rfl)) (fun _ _ _ h => h) (Or.inl ⟨by rfl, ?_⟩) ?_ ?_
  rotate_left
  ·intro w'
   go_simp
   with_reducible rfl
  rotate_left
  ·simp only [Act.put, sA, sZ, sS, i64_w, i32_w]
   rfl
  refine pure_ (i := 12) (N := some 19) (v := ?_) (a' := ?_) b5_ rfl rfl (any_of HT_.out (by kernel_rfl)) (fun _ _ _ h => h) (Or.inl ⟨by rfl, ?_⟩) ?_ ?_
  rotate_left
  ·intro w'
   go_simp
   with_reducible rfl
  rotate_left
  ·simp only [Act.put, sA, sZ, sS, i64_w, i32_w]
   rfl
  refine take_ (i := 1) (N := some 8) (v := ?_) (a' := ?_) b6_ rfl rfl (take_ofW HT_.out HW_.out (by kernel_rfl)) (fun _ _ _ h => h) (Or.inl ⟨by rfl, ?_⟩) hHeld ?_ ?_
  rotate_left
  ·rintro w' ⟨s0, s1, s2, s3, s4⟩
   go_simp
   with_reducible rfl
  rotate_left
  ·simp only [Act.put, sA, sZ, sS, i64_w, i32_w]
   rfl
  refine take_ (i := 4) (N := some 11) (v := ?_) (a' := ?_) b7_ rfl rfl (take_ofW HT_.out HW_.out (by kernel_rfl)) (fun _ _ _ h => h) (Or.inl ⟨by rfl, ?_⟩) hHeld ?_ ?_
  rotate_left
  ·rintro w' ⟨s0, s1, s2, s3, s4⟩
   go_simp
   with_reducible rfl
  rotate_left
  ·simp only [Act.put, sA, sZ, sS, i64_w, i32_w]
   rfl
  refine take_ (i := 7) (N := some 14) (v := ?_) (a' := ?_) b8_ rfl rfl (take_ofW HT_.out HW_.out (by kernel_rfl)) (fun _ _ _ h => h) (Or.inl ⟨by rfl, ?_⟩) hHeld ?_ ?_
  rotate_left
  ·rintro w' ⟨s0, s1, s2, s3, s4⟩
   go_simp
   with_reducible rfl
  rotate_left
  ·simp only [Act.put, sA, sZ, sS, i64_w, i32_w]
   rfl
  refine take_ (i := 10) (N := some 17) (v := ?_) (a' := ?_) b9_ rfl rfl (take_ofW HT_.out HW_.out (by kernel_rfl)) (fun _ _ _ h => h) (Or.inl ⟨by rfl, ?_⟩) hHeld ?_ ?_
  rotate_left
  ·rintro w' ⟨s0, s1, s2, s3, s4⟩
   go_simp
   with_reducible rfl
  rotate_left
  ·simp only [Act.put, sA, sZ, sS, i64_w, i32_w]
   rfl
  refine take_ (i := 13) (N := some 20) (v := ?_) (a' := ?_) b10_ rfl rfl (take_ofW HT_.out HW_.out (by kernel_rfl)) (fun _ _ _ h => h) (Or.inl ⟨by rfl, ?_⟩) hHeld ?_ ?_
  rotate_left
  ·rintro w' ⟨s0, s1, s2, s3, s4⟩
   go_simp
   with_reducible rfl
  rotate_left
  ·simp only [Act.put, sA, sZ, sS, i64_w, i32_w]
   rfl
  refine one_ (i := 2) (N := some 9) b11_ rfl rfl (one_of HT_.out (by kernel_rfl)) (by decide) (fun K hK => ?_)
  refine goes_ Tryd.func39 (by kernel_rfl) rfl #[.int .i64 a0_1] (by rfl) rfl rfl (by (try simp only [mT, mC, mN]); first | done | rfl | (simp only [lD, lT]; rfl)) ?_
  with_reducible refine (audit_word.calls a0_1 t144 _ A4.out).mono ?_
  rintro e w' ⟨rfl, ⟨nd, rfl⟩⟩
  refine ⟨_, rfl, ?_⟩
  refine hK.out _ _ ⟨(bC BK142.out 0).trans rfl, (bC BK142.out 1).trans rfl, (bC BK142.out 2).trans rfl, (bC BK142.out 3).trans rfl, (bC BK142.out 4).trans rfl⟩ (fun hHeld => ?_)
  clear hK K
  refine norm_ (a' := ?_) ?_ ?_
  rotate_left
  ·show Act.put _ (some 9) _ = _
   simp only [Act.put, sA, sZ, sS, i64_w, i32_w]
   rfl
  refine one_ (i := 5) (N := some 12) b12_ rfl rfl (one_of HT_.out (by kernel_rfl)) (by decide) (fun K hK => ?_)
  refine goes_ Tryd.func40 (by kernel_rfl) rfl #[.int .i64 a0_2] (by rfl) rfl rfl (by (try simp only [mT, mC, mN]); first | done | rfl | (simp only [lD, lT]; rfl)) ?_
  with_reducible refine (Itoa2.calls a0_2 t145 _ ?mx1 A5.out).mono ?_
  case mx1 => exact NumOk.below HMX.out (by repeat (first | (with_reducible first | exact HB.out | apply ea | apply en | apply ed | refine es ?_ GE142.out) | exact HB.out))
  rintro e w14 ⟨rfl, hb⟩
  refine ⟨_, rfl, ?_⟩
  have n0_ := aM (bB (g := gb142) (qy BK142.out) hb)
  have n1_ := aM (bP (by repeat (first | (with_reducible first | exact HB.out | apply ea | apply en | apply ed | refine es ?_ GE142.out) | exact HB.out)) hb)
  clear BK142
  clear HB
  have BK142 := n0_
  have HB := n1_
  clear n0_ n1_
  (try clear hb)
  (try clear hb2)
  (try clear hk)
  (try clear hi)
  refine hK.out _ _ ⟨(bC BK142.out 0).trans rfl, (bC BK142.out 1).trans rfl, (bC BK142.out 2).trans rfl, (bC BK142.out 3).trans rfl, (bC BK142.out 4).trans rfl⟩ (fun hHeld => ?_)
  clear hK K
  refine norm_ (a' := ?_) ?_ ?_
  rotate_left
  ·show Act.put _ (some 12) _ = _
   simp only [Act.put, sA, sZ, sS, i64_w, i32_w]
   rfl
  refine one_ (i := 8) (N := some 15) b13_ rfl rfl (one_of HT_.out (by kernel_rfl)) (by decide) (fun K hK => ?_)
  refine goes_ Tryd.func40 (by kernel_rfl) rfl #[.int .i64 a0_3] (by rfl) rfl rfl (by (try simp only [mT, mC, mN]); first | done | rfl | (simp only [lD, lT]; rfl)) ?_
  with_reducible refine (Itoa2.calls a0_3 t146 _ ?mx2 A6.out).mono ?_
  case mx2 => exact NumOk.below HMX.out (by repeat (first | (with_reducible first | exact HB.out | apply ea | apply en | apply ed | refine es ?_ GE142.out) | exact HB.out))
  rintro e w15 ⟨rfl, hb⟩
  refine ⟨_, rfl, ?_⟩
  have n0_ := aM (bB (g := gb142) (qy BK142.out) hb)
  have n1_ := aM (bP (by repeat (first | (with_reducible first | exact HB.out | apply ea | apply en | apply ed | refine es ?_ GE142.out) | exact HB.out)) hb)
  clear BK142
  clear HB
  have BK142 := n0_
  have HB := n1_
  clear n0_ n1_
  (try clear hb)
  (try clear hb2)
  (try clear hk)
  (try clear hi)
  refine hK.out _ _ ⟨(bC BK142.out 0).trans rfl, (bC BK142.out 1).trans rfl, (bC BK142.out 2).trans rfl, (bC BK142.out 3).trans rfl, (bC BK142.out 4).trans rfl⟩ (fun hHeld => ?_)
  clear hK K
  refine norm_ (a' := ?_) ?_ ?_
  rotate_left
  ·show Act.put _ (some 15) _ = _
   simp only [Act.put, sA, sZ, sS, i64_w, i32_w]
   rfl
  refine one_ (i := 11) (N := some 18) b14_ rfl rfl (one_of HT_.out (by kernel_rfl)) (by decide) (fun K hK => ?_)
  refine goes_ Tryd.func40 (by kernel_rfl) rfl #[.int .i64 a0_4] (by rfl) rfl rfl (by (try simp only [mT, mC, mN]); first | done | rfl | (simp only [lD, lT]; rfl)) ?_
  with_reducible refine (Itoa2.calls a0_4 t147 _ ?mx3 A7.out).mono ?_
  case mx3 => exact NumOk.below HMX.out (by repeat (first | (with_reducible first | exact HB.out | apply ea | apply en | apply ed | refine es ?_ GE142.out) | exact HB.out))
  rintro e w16 ⟨rfl, hb⟩
  refine ⟨_, rfl, ?_⟩
  have n0_ := aM (bB (g := gb142) (qy BK142.out) hb)
  have n1_ := aM (bP (by repeat (first | (with_reducible first | exact HB.out | apply ea | apply en | apply ed | refine es ?_ GE142.out) | exact HB.out)) hb)
  clear BK142
  clear HB
  have BK142 := n0_
  have HB := n1_
  clear n0_ n1_
  (try clear hb)
  (try clear hb2)
  (try clear hk)
  (try clear hi)
  refine hK.out _ _ ⟨(bC BK142.out 0).trans rfl, (bC BK142.out 1).trans rfl, (bC BK142.out 2).trans rfl, (bC BK142.out 3).trans rfl, (bC BK142.out 4).trans rfl⟩ (fun hHeld => ?_)
  clear hK K
  refine norm_ (a' := ?_) ?_ ?_
  rotate_left
  ·show Act.put _ (some 18) _ = _
   simp only [Act.put, sA, sZ, sS, i64_w, i32_w]
   rfl
  refine one_ (i := 14) (N := some 21) b15_ rfl rfl (one_of HT_.out (by kernel_rfl)) (by decide) (fun K hK => ?_)
  refine goes_ Tryd.func41 (by kernel_rfl) rfl #[.int .u64 a0_0] (by rfl) rfl rfl (by (try simp only [mT, mC, mN]); first | done | rfl | (simp only [lD, lT]; rfl)) ?_
  with_reducible refine (label_Print.calls k a0_0 t148 _ A8.out).mono ?_
  rintro e w17 ⟨rfl, hb⟩
  refine ⟨_, rfl, ?_⟩
  have n0_ := aM (bB (g := gb142) (qy BK142.out) hb)
  have n1_ := aM (bP (by repeat (first | (with_reducible first | exact HB.out | apply ea | apply en | apply ed | refine es ?_ GE142.out) | exact HB.out)) hb)
  clear BK142
  clear HB
  have BK142 := n0_
  have HB := n1_
  clear n0_ n1_
  (try clear hb)
  (try clear hb2)
  (try clear hk)
  (try clear hi)
  refine hK.out _ _ ⟨(bC BK142.out 0).trans rfl, (bC BK142.out 1).trans rfl, (bC BK142.out 2).trans rfl, (bC BK142.out 3).trans rfl, (bC BK142.out 4).trans rfl⟩ (fun hHeld => ?_)
  clear hK K
  refine norm_ (a' := ?_) ?_ ?_
  rotate_left
  ·show Act.put _ (some 21) _ = _
   simp only [Act.put, sA, sZ, sS, i64_w, i32_w]
   rfl
  refine one_ (i := 15) (N := some 22) b16_ rfl rfl (one_of HT_.out (by kernel_rfl)) (by decide) (fun K hK => ?_)
  refine Kd.R_lit_step Kd.string _ 9 ?hg (N := 22) ?hd (xs := ([t144, t145, t146, t147, t148] : List ByteArray)) (inner := [.string t144, .string t145, .string t146, .string t147, .string t148]) (ok := fun _ => True) (okp := fun _ => True) ?hr ?hp (fun _ hk => hk) trivial (Below.refl _ _) (Nat.le_refl _) (by simp) ?_; (case hd | hg => rfl); (case hr => first | (go_simp; done) | (go_simp; rfl)); (case hp => exact (Reps.one (show Kd.M Kd.string _ _ _ t144 [.string t144] from rfl) (Reps.one (show Kd.M Kd.string _ _ _ t145 [.string t145] from rfl) (Reps.one (show Kd.M Kd.string _ _ _ t146 [.string t146] from rfl) (Reps.one (show Kd.M Kd.string _ _ _ t147 [.string t147] from rfl) (Reps.one (show Kd.M Kd.string _ _ _ t148 [.string t148] from rfl) (Reps.none _ _)))))))
  intro v150 w18 ho19 hb hg_ hnew_
  clear hg_ hnew_
  (first | rw [← Ny149.out] at ho19 | (simp only [Int.reduceToNat] at ho19; rw [← Ny149.out] at ho19))
  have n0_ := aM (rL ho19 (bZ (by repeat (first | (with_reducible first | exact HB.out | apply ea | apply en | apply ed | refine es ?_ GE142.out) | exact HB.out))))
  have n1_ := aM (bB (g := gb142) (qy BK142.out) hb)
  have n2_ := aM (bP (by repeat (first | (with_reducible first | exact HB.out | apply ea | apply en | apply ed | refine es ?_ GE142.out) | exact HB.out)) hb)
  clear BK142
  clear HB
  have HO151 := n0_
  have BK142 := n1_
  have HB := n2_
  clear n0_ n1_ n2_
  clear hb ho19
  obtain ⟨Ao20, co20, eo20⟩ := Kd.R_slice HO151.out
  (first | subst eo20 | (injection eo20 with f1_ f2_ f3_; have f4_ := f1_.symm; have f5_ := f3_.symm; clear f1_ f2_ f3_; subst f4_; subst f5_))
  refine hK.out _ _ ⟨(bC BK142.out 0).trans rfl, (bC BK142.out 1).trans rfl, (bC BK142.out 2).trans rfl, (bC BK142.out 3).trans rfl, (bC BK142.out 4).trans rfl⟩ (fun hHeld => ?_)
  clear hK K
  refine norm_ (a' := ?_) ?_ ?_
  rotate_left
  ·show Act.put _ (some 22) _ = _
   simp only [Act.put, sA, sZ, sS, i64_w, i32_w]
   rfl
  refine one_ (i := 16) (N := some 23) b17_ rfl rfl (one_of HT_.out (by kernel_rfl)) (by decide) (fun K hK => ?_)
  refine goes_ Tryd.func38 (by kernel_rfl) rfl #[.slice Ao20 y149.length co20, .string (⟨#[32]⟩ : ByteArray)] (by rfl) rfl rfl (by (try simp only [mT, mC, mN]); first | done | rfl | (simp only [lD, lT]; rfl)) ?_
  with_reducible refine (strings_Join.calls _ _ y149 (⟨#[32]⟩ : ByteArray) t152 _ ?side1 ?side2 A9.out).mono ?_
  (case side1 => repeat (first | exact (rR HO151.out).2.2 | (with_reducible refine Kd.C_alloc ?_ _) | (with_reducible refine Kd.C_drewN ?_ _) | (with_reducible refine Kd.C_drew ?_)))
  (case side2 => exact (rR HO151.out).2.1)
  rintro e w21 ⟨rfl, hb⟩
  refine ⟨_, rfl, ?_⟩
  have n0_ := aM (Kd.R_below (ry HO151.out) hb)
  have n1_ := aM (bB (g := gb142) (qy BK142.out) hb)
  have n2_ := aM (bP (by repeat (first | (with_reducible first | exact HB.out | apply ea | apply en | apply ed | refine es ?_ GE142.out) | exact HB.out)) hb)
  clear HO151
  clear BK142
  clear HB
  have HO151 := n0_
  have BK142 := n1_
  have HB := n2_
  clear n0_ n1_ n2_
  (try clear hb)
  (try clear hb2)
  (try clear hk)
  (try clear hi)
  refine hK.out _ _ ⟨(bC BK142.out 0).trans rfl, (bC BK142.out 1).trans rfl, (bC BK142.out 2).trans rfl, (bC BK142.out 3).trans rfl, (bC BK142.out 4).trans rfl⟩ (fun hHeld => ?_)
  clear hK K
  refine norm_ (a' := ?_) ?_ ?_
  rotate_left
  ·show Act.put _ (some 23) _ = _
   simp only [Act.put, sA, sZ, sS, i64_w, i32_w]
   rfl
  refine pure_ (i := 17) (N := some 2) (v := ?_) (a' := ?_) b18_ rfl rfl (any_of HT_.out (by kernel_rfl)) (fun _ _ _ h => h) (Or.inl ⟨by rfl, ?_⟩) ?_ ?_
  rotate_left
  ·intro w'
   go_simp
   with_reducible rfl
  rotate_left
  ·simp only [Act.put, sA, sZ, sS, i64_w, i32_w]
   rfl
  refine pure_ (i := 18) (N := some 3) (v := ?_) (a' := ?_) b19_ rfl rfl (any_of HT_.out (by kernel_rfl)) (fun _ _ _ h => h) (Or.inl ⟨by rfl, ?_⟩) ?_ ?_
  rotate_left
  ·intro w'
   go_simp
   with_reducible rfl
  rotate_left
  ·simp only [Act.put, sA, sZ, sS, i64_w, i32_w]
   rfl
  refine done_ (done_of HT_.out (by kernel_rfl)) ?_
  try go_wp2
  go_ret2
  exact ⟨by first | rfl | (simp [errW_none, errW_some] <;> rfl) | (simp [*, errW_none, errW_some] <;> rfl), by repeat (first | (with_reducible first | exact HB.out | apply ea | apply en | apply ed | refine es ?_ GE142.out) | exact HB.out)⟩
 ·replace c3 := Bool.eq_false_iff.mpr c3
  subst c3
  have H1 : (some ((⟨#[]⟩ : ByteArray), 2)) = some (r1, r2) := by rw [if_neg (show ¬ (false = true) by decide)] at H; exact H
  clear H
  have H := H1
  clear H1
  simp only [Option.some.injEq, Prod.mk.injEq] at H
  obtain ⟨rfl, rfl⟩ := H
  go_enter Tryd.func26, Tryd.ntmps26
  go_wp2_with (first | ((with_reducible refine gate_dst (N := 1) rfl ?_); refine box_event ?hg (N := 1) ?hd (cs := #[.int .u64 a0_0, .int .i64 a0_1, .int .i64 a0_2, .int .i64 a0_3, .int .i64 a0_4]) (t := 36) ?hr ?_; (case hd | hg => rfl); (case hr => first | (go_simp; done) | (go_simp; rfl)); intro gb142 hg w22 hbox hb; have n0_ := aM (bP (ey HB.out) hb); have n1_ := aM (hbox); have n2_ := aM ((by rw [hg]; exact (bZ (ey HB.out)) : w.heap.size ≤ gb142)); have n3_ := n2_; clear HB; have HB := n0_; have BK142 := n1_; have GW142 := n2_; have GE142 := n3_; clear n0_ n1_ n2_ n3_; clear hb hbox hg; have hcz23_0 := zC BK142.out 0 (.int .u64 a0_0); have hcz23_1 := zC BK142.out 1 (.int .i64 a0_1); have hcz23_2 := zC BK142.out 2 (.int .i64 a0_2); have hcz23_3 := zC BK142.out 3 (.int .i64 a0_3); have hcz23_4 := zC BK142.out 4 (.int .i64 a0_4); have hfz23_0 := bF BK142.out 0; have hfz23_1 := bF BK142.out 1; have hfz23_2 := bF BK142.out 2; have hfz23_3 := bF BK142.out 3; have hfz23_4 := bF BK142.out 4) | ((with_reducible refine gate_callee (f := 33) rfl ?_); refine goesL_ (some 5) rfl rfl Tryd.func33 (by kernel_rfl) rfl #[.agg #[.int .u64 a0_0, .int .i64 a0_1, .int .i64 a0_2, .int .i64 a0_3, .int .i64 a0_4]] rfl (by (try simp only [mT, mC, mN]); first | done | rfl | (simp only [lD, lT]; rfl)) ?_; (with_reducible refine (audit_Record_may.calls k a0_0 a0_1 a0_2 a0_3 a0_4 false _ A2.out).mono ?_); rintro e w24 ⟨rfl, hb⟩; refine ⟨_, rfl, ?_⟩; have n0_ := aM (bB (g := gb142) (qy BK142.out) hb); have n1_ := aM (bP (by repeat (first | (with_reducible first | exact HB.out | apply ea | apply en | apply ed | refine es ?_ GE142.out) | exact HB.out)) hb); clear BK142 HB; have BK142 := n0_; have HB := n1_; clear n0_ n1_; (try clear hb); (try clear hb2); (try clear hk); (try clear hi)))
  go_ret2
  exact ⟨by first | rfl | (simp [errW_none, errW_some] <;> rfl) | (simp [*, errW_none, errW_some] <;> rfl), by repeat (first | (with_reducible first | exact HB.out | apply ea | apply en | apply ed | refine es ?_ GE142.out) | exact HB.out)⟩
end Go.Proofs.YtcbiilbmldinhaaDoor.PB
end

section
namespace Go.Proofs.YtcbiilbmldinhaaDoor.PB
open Go.RowKit Go.Proofs.YtcbiilbmldinhaaDoorW.PrintWords Go.Proofs.YtcbiilbmldinhaaDoorW.PrintLast Go.Proofs.YtcbiilbmldinhaaDoorW.PrintMore
attribute [local go_sem] max2_int min2_int max_two min_two max_three min_three max_four min_four   
set_option linter.unusedVariables false
set_option linter.unusedSimpArgs false
def bureauref18_within.f (a0 : Int) : Option (Bool) := if a0 ≥ 0 then (some (decide (a0 ≤ 65535))) else (some false)
set_option maxHeartbeats 8000000 in
set_option maxRecDepth 100000 in
theorem bureauref18_within.calls (a0 : Int) (r : Bool) (w : World) (h : bureauref18_within.f a0 = some r) :
  Calls Tryd.prog 51 #[.int .i64 a0] w fun e w' => e = .returned (.bool r) ∧ Drawn0 w w' := by
 have H : (if a0 ≥ 0 then (some (decide (a0 ≤ 65535))) else (some false)) = some r := h
 clear h
 by_cases c2 : a0 ≥ 0
 ·rw [if_pos c2] at H
  have c2b0 : decide (0 ≤ a0) = true := decide_eq_true c2
  clear c2
  obtain rfl := Option.some.inj H
  go_enter Tryd.func51, Tryd.ntmps51
  go_wp2
  go_ret
  exact ⟨by first | rfl | (simp; done) | (simp [*]; done), by repeat (first | exact Drawn0.refl _ | apply Drawn0.step)⟩
 ·rw [if_neg c2] at H
  have c2b0 : decide (0 ≤ a0) = false := decide_eq_false c2
  clear c2
  obtain rfl := Option.some.inj H
  go_enter Tryd.func51, Tryd.ntmps51
  go_wp2
  go_ret
  exact ⟨by first | rfl | (simp; done) | (simp [*]; done), by repeat (first | exact Drawn0.refl _ | apply Drawn0.step)⟩
end Go.Proofs.YtcbiilbmldinhaaDoor.PB
end

section
namespace Go.Proofs.YtcbiilbmldinhaaDoor.PB
open Go.RowKit Go.Proofs.YtcbiilbmldinhaaDoorW.PrintWords Go.Proofs.YtcbiilbmldinhaaDoorW.PrintLast Go.Proofs.YtcbiilbmldinhaaDoorW.PrintMore
attribute [local go_sem] max2_int min2_int max_two min_two max_three min_three max_four min_four   
set_option linter.unusedVariables false
set_option linter.unusedSimpArgs false
def bureauref18_May.f (a0_0 : Int) (a0_1 : Int) (a0_2 : Int) (a0_3 : Int) (a0_4 : Int) : Option (Bool) := if a0_1 ≥ 1 then (if a0_1 ≤ 4 then ((bureauref18_within.f a0_2).bind fun t162 => (if t162 = true then ((bureauref18_within.f a0_3).bind fun t163 => (if t163 = true then ((bureauref18_within.f a0_4).bind fun t164 => (some t164)) else (some false))) else (some false))) else (some false)) else (some false)
set_option maxHeartbeats 8000000 in
set_option maxRecDepth 100000 in
theorem bureauref18_May.calls (a0_0 : Int) (a0_1 : Int) (a0_2 : Int) (a0_3 : Int) (a0_4 : Int) (r : Bool) (w : World) (h : bureauref18_May.f a0_0 a0_1 a0_2 a0_3 a0_4 = some r) :
  Calls Tryd.prog 30 #[.agg #[.int .u64 a0_0, .int .i64 a0_1, .int .i64 a0_2, .int .i64 a0_3, .int .i64 a0_4]] w fun e w' => e = .returned (.bool r) ∧ Below w.heap.size w w' := by
 have hu38 := Tryd.underlying38
 have HB := aM (Below.refl w.heap.size w)
 have H : (if a0_1 ≥ 1 then (if a0_1 ≤ 4 then ((bureauref18_within.f a0_2).bind fun t162 => (if t162 = true then ((bureauref18_within.f a0_3).bind fun t163 => (if t163 = true then ((bureauref18_within.f a0_4).bind fun t164 => (some t164)) else (some false))) else (some false))) else (some false)) else (some false)) = some r := h
 clear h
 by_cases c2 : a0_1 ≥ 1
 ·rw [if_pos c2] at H
  have c2b0 : decide (1 ≤ a0_1) = true := decide_eq_true c2
  clear c2
  by_cases c3 : a0_1 ≤ 4
  ·rw [if_pos c3] at H
   have c3b0 : decide (a0_1 ≤ 4) = true := decide_eq_true c3
   clear c3
   replace H := Option.bind_eq_some_iff.mp H
   obtain ⟨t162, A40, H⟩ := H
   replace H : (if t162 = true then ((bureauref18_within.f a0_3).bind fun t163 => (if t163 = true then ((bureauref18_within.f a0_4).bind fun t164 => (some t164)) else (some false))) else (some false)) = some r := H
   have A4 := aM A40
   clear A40
   by_cases c5 : t162 = true
   ·subst c5
    have H1 : ((bureauref18_within.f a0_3).bind fun t163 => (if t163 = true then ((bureauref18_within.f a0_4).bind fun t164 => (some t164)) else (some false))) = some r := by rw [if_pos rfl] at H; exact H
    clear H
    have H := H1
    clear H1
    replace H := Option.bind_eq_some_iff.mp H
    obtain ⟨t163, A60, H⟩ := H
    replace H : (if t163 = true then ((bureauref18_within.f a0_4).bind fun t164 => (some t164)) else (some false)) = some r := H
    have A6 := aM A60
    clear A60
    by_cases c7 : t163 = true
    ·subst c7
     have H1 : ((bureauref18_within.f a0_4).bind fun t164 => (some t164)) = some r := by rw [if_pos rfl] at H; exact H
     clear H
     have H := H1
     clear H1
     replace H := Option.bind_eq_some_iff.mp H
     obtain ⟨t164, A80, H⟩ := H
     replace H : (some t164) = some r := H
     have A8 := aM A80
     clear A80
     obtain rfl := Option.some.inj H
     go_enter Tryd.func30, Tryd.ntmps30
     go_wp2_with (first | ((with_reducible refine gate_dst (N := 1) rfl ?_); refine box_event ?hg (N := 1) ?hd (cs := #[.int .u64 a0_0, .int .i64 a0_1, .int .i64 a0_2, .int .i64 a0_3, .int .i64 a0_4]) (t := 38) ?hr ?_; (case hd | hg => rfl); (case hr => first | (go_simp; done) | (go_simp; rfl)); intro gb161 hg w9 hbox hb; have n0_ := aM (bP (ey HB.out) hb); have n1_ := aM (hbox); have n2_ := aM ((by rw [hg]; exact (bZ (ey HB.out)) : w.heap.size ≤ gb161)); have n3_ := n2_; clear HB; have HB := n0_; have BK161 := n1_; have GW161 := n2_; have GE161 := n3_; clear n0_ n1_ n2_ n3_; clear hb hbox hg; have hcz10_0 := zC BK161.out 0 (.int .u64 a0_0); have hcz10_1 := zC BK161.out 1 (.int .i64 a0_1); have hcz10_2 := zC BK161.out 2 (.int .i64 a0_2); have hcz10_3 := zC BK161.out 3 (.int .i64 a0_3); have hcz10_4 := zC BK161.out 4 (.int .i64 a0_4); have hfz10_0 := bF BK161.out 0; have hfz10_1 := bF BK161.out 1; have hfz10_2 := bF BK161.out 2; have hfz10_3 := bF BK161.out 3; have hfz10_4 := bF BK161.out 4) | (go_at_call 51; (with_reducible refine (bureauref18_within.calls a0_2 true _ A4.out).mono ?_); rintro e w' ⟨rfl, ⟨nd, rfl⟩⟩) | (go_at_call 51; (with_reducible refine (bureauref18_within.calls a0_3 true _ A6.out).mono ?_); rintro e w' ⟨rfl, ⟨nd, rfl⟩⟩) | (go_at_call 51; (with_reducible refine (bureauref18_within.calls a0_4 t164 _ A8.out).mono ?_); rintro e w' ⟨rfl, ⟨nd, rfl⟩⟩))
     go_ret
     exact ⟨by first | rfl | (simp [errW_none, errW_some] <;> rfl) | (simp [*, errW_none, errW_some] <;> rfl), by repeat (first | (with_reducible first | exact HB.out | apply ea | apply en | apply ed | refine es ?_ GE161.out) | exact HB.out)⟩
    ·replace c7 := Bool.eq_false_iff.mpr c7
     subst c7
     have H1 : (some false) = some r := by rw [if_neg (show ¬ (false = true) by decide)] at H; exact H
     clear H
     have H := H1
     clear H1
     obtain rfl := Option.some.inj H
     go_enter Tryd.func30, Tryd.ntmps30
     go_wp2_with (first | ((with_reducible refine gate_dst (N := 1) rfl ?_); refine box_event ?hg (N := 1) ?hd (cs := #[.int .u64 a0_0, .int .i64 a0_1, .int .i64 a0_2, .int .i64 a0_3, .int .i64 a0_4]) (t := 38) ?hr ?_; (case hd | hg => rfl); (case hr => first | (go_simp; done) | (go_simp; rfl)); intro gb161 hg w11 hbox hb; have n0_ := aM (bP (ey HB.out) hb); have n1_ := aM (hbox); have n2_ := aM ((by rw [hg]; exact (bZ (ey HB.out)) : w.heap.size ≤ gb161)); have n3_ := n2_; clear HB; have HB := n0_; have BK161 := n1_; have GW161 := n2_; have GE161 := n3_; clear n0_ n1_ n2_ n3_; clear hb hbox hg; have hcz12_0 := zC BK161.out 0 (.int .u64 a0_0); have hcz12_1 := zC BK161.out 1 (.int .i64 a0_1); have hcz12_2 := zC BK161.out 2 (.int .i64 a0_2); have hcz12_3 := zC BK161.out 3 (.int .i64 a0_3); have hcz12_4 := zC BK161.out 4 (.int .i64 a0_4); have hfz12_0 := bF BK161.out 0; have hfz12_1 := bF BK161.out 1; have hfz12_2 := bF BK161.out 2; have hfz12_3 := bF BK161.out 3; have hfz12_4 := bF BK161.out 4) | (go_at_call 51; (with_reducible refine (bureauref18_within.calls a0_2 true _ A4.out).mono ?_); rintro e w' ⟨rfl, ⟨nd, rfl⟩⟩) | (go_at_call 51; (with_reducible refine (bureauref18_within.calls a0_3 false _ A6.out).mono ?_); rintro e w' ⟨rfl, ⟨nd, rfl⟩⟩))
     go_ret
     exact ⟨by first | rfl | (simp [errW_none, errW_some] <;> rfl) | (simp [*, errW_none, errW_some] <;> rfl), by repeat (first | (with_reducible first | exact HB.out | apply ea | apply en | apply ed | refine es ?_ GE161.out) | exact HB.out)⟩
   ·replace c5 := Bool.eq_false_iff.mpr c5
    subst c5
    have H1 : (some false) = some r := by rw [if_neg (show ¬ (false = true) by decide)] at H; exact H
    clear H
    have H := H1
    clear H1
    obtain rfl := Option.some.inj H
    go_enter Tryd.func30, Tryd.ntmps30
    go_wp2_with (first | ((with_reducible refine gate_dst (N := 1) rfl ?_); refine box_event ?hg (N := 1) ?hd (cs := #[.int .u64 a0_0, .int .i64 a0_1, .int .i64 a0_2, .int .i64 a0_3, .int .i64 a0_4]) (t := 38) ?hr ?_; (case hd | hg => rfl); (case hr => first | (go_simp; done) | (go_simp; rfl)); intro gb161 hg w13 hbox hb; have n0_ := aM (bP (ey HB.out) hb); have n1_ := aM (hbox); have n2_ := aM ((by rw [hg]; exact (bZ (ey HB.out)) : w.heap.size ≤ gb161)); have n3_ := n2_; clear HB; have HB := n0_; have BK161 := n1_; have GW161 := n2_; have GE161 := n3_; clear n0_ n1_ n2_ n3_; clear hb hbox hg; have hcz14_0 := zC BK161.out 0 (.int .u64 a0_0); have hcz14_1 := zC BK161.out 1 (.int .i64 a0_1); have hcz14_2 := zC BK161.out 2 (.int .i64 a0_2); have hcz14_3 := zC BK161.out 3 (.int .i64 a0_3); have hcz14_4 := zC BK161.out 4 (.int .i64 a0_4); have hfz14_0 := bF BK161.out 0; have hfz14_1 := bF BK161.out 1; have hfz14_2 := bF BK161.out 2; have hfz14_3 := bF BK161.out 3; have hfz14_4 := bF BK161.out 4) | (go_at_call 51; (with_reducible refine (bureauref18_within.calls a0_2 false _ A4.out).mono ?_); rintro e w' ⟨rfl, ⟨nd, rfl⟩⟩))
    go_ret
    exact ⟨by first | rfl | (simp [errW_none, errW_some] <;> rfl) | (simp [*, errW_none, errW_some] <;> rfl), by repeat (first | (with_reducible first | exact HB.out | apply ea | apply en | apply ed | refine es ?_ GE161.out) | exact HB.out)⟩
  ·rw [if_neg c3] at H
   have c3b0 : decide (a0_1 ≤ 4) = false := decide_eq_false c3
   clear c3
   obtain rfl := Option.some.inj H
   go_enter Tryd.func30, Tryd.ntmps30
   go_wp2_with (first | ((with_reducible refine gate_dst (N := 1) rfl ?_); refine box_event ?hg (N := 1) ?hd (cs := #[.int .u64 a0_0, .int .i64 a0_1, .int .i64 a0_2, .int .i64 a0_3, .int .i64 a0_4]) (t := 38) ?hr ?_; (case hd | hg => rfl); (case hr => first | (go_simp; done) | (go_simp; rfl)); intro gb161 hg w15 hbox hb; have n0_ := aM (bP (ey HB.out) hb); have n1_ := aM (hbox); have n2_ := aM ((by rw [hg]; exact (bZ (ey HB.out)) : w.heap.size ≤ gb161)); have n3_ := n2_; clear HB; have HB := n0_; have BK161 := n1_; have GW161 := n2_; have GE161 := n3_; clear n0_ n1_ n2_ n3_; clear hb hbox hg; have hcz16_0 := zC BK161.out 0 (.int .u64 a0_0); have hcz16_1 := zC BK161.out 1 (.int .i64 a0_1); have hcz16_2 := zC BK161.out 2 (.int .i64 a0_2); have hcz16_3 := zC BK161.out 3 (.int .i64 a0_3); have hcz16_4 := zC BK161.out 4 (.int .i64 a0_4); have hfz16_0 := bF BK161.out 0; have hfz16_1 := bF BK161.out 1; have hfz16_2 := bF BK161.out 2; have hfz16_3 := bF BK161.out 3; have hfz16_4 := bF BK161.out 4))
   go_ret
   exact ⟨by first | rfl | (simp [errW_none, errW_some] <;> rfl) | (simp [*, errW_none, errW_some] <;> rfl), by repeat (first | (with_reducible first | exact HB.out | apply ea | apply en | apply ed | refine es ?_ GE161.out) | exact HB.out)⟩
 ·rw [if_neg c2] at H
  have c2b0 : decide (1 ≤ a0_1) = false := decide_eq_false c2
  clear c2
  obtain rfl := Option.some.inj H
  go_enter Tryd.func30, Tryd.ntmps30
  go_wp2_with (first | ((with_reducible refine gate_dst (N := 1) rfl ?_); refine box_event ?hg (N := 1) ?hd (cs := #[.int .u64 a0_0, .int .i64 a0_1, .int .i64 a0_2, .int .i64 a0_3, .int .i64 a0_4]) (t := 38) ?hr ?_; (case hd | hg => rfl); (case hr => first | (go_simp; done) | (go_simp; rfl)); intro gb161 hg w17 hbox hb; have n0_ := aM (bP (ey HB.out) hb); have n1_ := aM (hbox); have n2_ := aM ((by rw [hg]; exact (bZ (ey HB.out)) : w.heap.size ≤ gb161)); have n3_ := n2_; clear HB; have HB := n0_; have BK161 := n1_; have GW161 := n2_; have GE161 := n3_; clear n0_ n1_ n2_ n3_; clear hb hbox hg; have hcz18_0 := zC BK161.out 0 (.int .u64 a0_0); have hcz18_1 := zC BK161.out 1 (.int .i64 a0_1); have hcz18_2 := zC BK161.out 2 (.int .i64 a0_2); have hcz18_3 := zC BK161.out 3 (.int .i64 a0_3); have hcz18_4 := zC BK161.out 4 (.int .i64 a0_4); have hfz18_0 := bF BK161.out 0; have hfz18_1 := bF BK161.out 1; have hfz18_2 := bF BK161.out 2; have hfz18_3 := bF BK161.out 3; have hfz18_4 := bF BK161.out 4))
  go_ret
  exact ⟨by first | rfl | (simp [errW_none, errW_some] <;> rfl) | (simp [*, errW_none, errW_some] <;> rfl), by repeat (first | (with_reducible first | exact HB.out | apply ea | apply en | apply ed | refine es ?_ GE161.out) | exact HB.out)⟩
end Go.Proofs.YtcbiilbmldinhaaDoor.PB
end

section
namespace Go.Proofs.YtcbiilbmldinhaaDoor.PB
open Go.RowKit Go.Proofs.YtcbiilbmldinhaaDoorW.PrintWords Go.Proofs.YtcbiilbmldinhaaDoorW.PrintLast Go.Proofs.YtcbiilbmldinhaaDoorW.PrintMore
attribute [local go_sem] max2_int min2_int max_two min_two max_three min_three max_four min_four   
set_option linter.unusedVariables false
set_option linter.unusedSimpArgs false
def bureauref18_word.f (a0 : Int) : Option (ByteArray) := if a0 = 1 then (some (⟨#[103, 114, 97, 110, 116]⟩ : ByteArray)) else (if a0 = 2 then (some (⟨#[114, 101, 118, 111, 107, 101]⟩ : ByteArray)) else (if a0 = 3 then (some (⟨#[114, 101, 108, 101, 97, 115, 101]⟩ : ByteArray)) else (some (⟨#[100, 101, 110, 121]⟩ : ByteArray))))
set_option maxHeartbeats 8000000 in
set_option maxRecDepth 100000 in
theorem bureauref18_word.calls (a0 : Int) (r : ByteArray) (w : World) (h : bureauref18_word.f a0 = some r) :
  Calls Tryd.prog 42 #[.int .i64 a0] w fun e w' => e = .returned (.string r) ∧ Drawn0 w w' := by
 have H : (if a0 = 1 then (some (⟨#[103, 114, 97, 110, 116]⟩ : ByteArray)) else (if a0 = 2 then (some (⟨#[114, 101, 118, 111, 107, 101]⟩ : ByteArray)) else (if a0 = 3 then (some (⟨#[114, 101, 108, 101, 97, 115, 101]⟩ : ByteArray)) else (some (⟨#[100, 101, 110, 121]⟩ : ByteArray))))) = some r := h
 clear h
 by_cases c2 : a0 = 1
 ·rw [if_pos c2] at H
  have c2b0 : (a0 == 1) = true := beq_iff_eq.mpr c2
  have c2b1 : (a0 != 1) = false := bne_eq_false_iff_eq.mpr c2
  clear c2
  obtain rfl := Option.some.inj H
  go_enter Tryd.func42, Tryd.ntmps42
  go_wp2
  go_ret
  exact ⟨by first | rfl | (simp; done) | (simp [*]; done), by repeat (first | exact Drawn0.refl _ | apply Drawn0.step)⟩
 ·rw [if_neg c2] at H
  have c2b0 : (a0 == 1) = false := beq_eq_false_iff_ne.mpr c2
  have c2b1 : (a0 != 1) = true := bne_iff_ne.mpr c2
  by_cases c3 : a0 = 2
  ·rw [if_pos c3] at H
   have c3b0 : (a0 == 2) = true := beq_iff_eq.mpr c3
   have c3b1 : (a0 != 2) = false := bne_eq_false_iff_eq.mpr c3
   clear c3
   obtain rfl := Option.some.inj H
   go_enter Tryd.func42, Tryd.ntmps42
   go_wp2
   go_ret
   exact ⟨by first | rfl | (simp; done) | (simp [*]; done), by repeat (first | exact Drawn0.refl _ | apply Drawn0.step)⟩
  ·rw [if_neg c3] at H
   have c3b0 : (a0 == 2) = false := beq_eq_false_iff_ne.mpr c3
   have c3b1 : (a0 != 2) = true := bne_iff_ne.mpr c3
   by_cases c4 : a0 = 3
   ·rw [if_pos c4] at H
    have c4b0 : (a0 == 3) = true := beq_iff_eq.mpr c4
    have c4b1 : (a0 != 3) = false := bne_eq_false_iff_eq.mpr c4
    clear c4
    obtain rfl := Option.some.inj H
    go_enter Tryd.func42, Tryd.ntmps42
    go_wp2
    go_ret
    exact ⟨by first | rfl | (simp; done) | (simp [*]; done), by repeat (first | exact Drawn0.refl _ | apply Drawn0.step)⟩
   ·rw [if_neg c4] at H
    have c4b0 : (a0 == 3) = false := beq_eq_false_iff_ne.mpr c4
    have c4b1 : (a0 != 3) = true := bne_iff_ne.mpr c4
    obtain rfl := Option.some.inj H
    go_enter Tryd.func42, Tryd.ntmps42
    go_wp2
    go_ret
    exact ⟨by first | rfl | (simp; done) | (simp [*]; done), by repeat (first | exact Drawn0.refl _ | apply Drawn0.step)⟩
end Go.Proofs.YtcbiilbmldinhaaDoor.PB
end

section
namespace Go.Proofs.YtcbiilbmldinhaaDoor.PB
open Go.RowKit Go.Proofs.YtcbiilbmldinhaaDoorW.PrintWords Go.Proofs.YtcbiilbmldinhaaDoorW.PrintLast Go.Proofs.YtcbiilbmldinhaaDoorW.PrintMore
attribute [local go_sem] max2_int min2_int max_two min_two max_three min_three max_four min_four   
set_option linter.unusedVariables false
set_option linter.unusedSimpArgs false
def bureauref18_digits.l0 : Nat → Int → ByteArray → Option (ByteArray)
 | 0, _, _ => none
 | k + 1, x0, x3 => if x0 > 9 then ((some (([(wrap64 (48 + (Int.tmod x0 10))) % 256] : List Int) : List Int)).bind fun y223 => (if (strOfNums y223).size + x3.size ≤ 9223372036854775807 then (bureauref18_digits.l0 k (wrap64 (Int.tdiv x0 10)) ((strOfNums y223) ++ x3)) else (none))) else ((some (([(wrap64 (48 + x0)) % 256] : List Int) : List Int)).bind fun y226 => (if (strOfNums y226).size + x3.size ≤ 9223372036854775807 then (some ((strOfNums y226) ++ x3)) else (none)))
def bureauref18_digits.f (k : Nat) (a0 : Int) : Option (ByteArray) := bureauref18_digits.l0 k a0 (⟨#[]⟩ : ByteArray)
set_option maxHeartbeats 8000000 in
set_option maxRecDepth 100000 in
theorem bureauref18_digits.calls (k : Nat) (a0 : Int) (r : ByteArray) (w : World) (h : bureauref18_digits.f k a0 = some r) :
  Calls Tryd.prog 43 #[.int .i64 a0] w fun e w' => e = .returned (.string r) ∧ Below w.heap.size w w' := by
 have HB := aM (Below.refl w.heap.size w)
 have H : (bureauref18_digits.l0 k a0 (⟨#[]⟩ : ByteArray)) = some r := h
 clear h
 have H' := aM H
 clear H
 go_enter Tryd.func43, Tryd.ntmps43
 go_wp2
 go_loopg [0, 3] k (fun kq v0 v3 w' => ∃ (x0_1 : Int) (x3_1 : ByteArray), v0 = .int .i64 x0_1 ∧ v3 = .string x3_1 ∧ Aside0 (bureauref18_digits.l0 kq x0_1 x3_1 = some r) ∧ Aside0 (kq ≤ k) ∧ Aside0 (Below w.heap.size w w'))
 case atStart => exact ⟨(a0), ((⟨#[]⟩ : ByteArray)), (by first | rfl | (simp; done) | (simp [*]; done)), (by first | rfl | (simp; done) | (simp [*]; done)), H', ⟨Nat.le_refl _⟩, ⟨by exact ey HB.out⟩⟩
 case round =>
  clear H'
  obtain ⟨x0_1, x3_1, rfl, rfl, HA, HK1, HB⟩ := hrel
  cases gk with
  | zero => exact absurd HA.out (by simp [bureauref18_digits.l0])
  | succ k1 =>
   have H := HA.out
   clear HA
   simp only [bureauref18_digits.l0] at H
   by_cases c2 : x0_1 > 9
   ·rw [if_pos c2] at H
    have c2b0 : decide (9 < x0_1) = true := decide_eq_true c2
    clear c2
    obtain ⟨y223, hy223⟩ : ∃ y_ : List Int, y_ = (([(wrap64 (48 + (Int.tmod x0_1 10))) % 256] : List Int)) := ⟨_, rfl⟩
    replace H : (if (strOfNums y223).size + x3_1.size ≤ 9223372036854775807 then (bureauref18_digits.l0 k1 (wrap64 (Int.tdiv x0_1 10)) ((strOfNums y223) ++ x3_1)) else (none)) = some r := by first | (rw [hy223]; with_reducible exact H) | (have H2_ := (Option.bind_some _ _).symm.trans H; rw [hy223]; with_reducible exact H2_) | (have H2_ := (Option.bind_some _ _).symm.trans H; with_reducible exact H2_) | with_reducible exact H | (rw [hy223]; exact H) | exact H
    have Ny223 := aM hy223
    clear hy223
    by_cases c3 : (strOfNums y223).size + x3_1.size ≤ 9223372036854775807
    ·rw [if_pos c3] at H
     have c3b0 := eq_true c3
     have c3b1 : decide ((strOfNums y223).size + x3_1.size ≤ 9223372036854775807) = true := decide_eq_true c3
     try have c3b2 : (9223372036854775807 < (strOfNums y223).size + x3_1.size) = False := eq_false (Nat.not_lt.2 c3)
     have H' := aM H
     clear H
     go_wp2_with (first | ((with_reducible refine gate_dst (N := 10) rfl ?_); refine Kd.R_lit (Kd.int .u8) _ 5 ?hg (N := 10) ?hd (xs := ([(wrap64 (48 + (Int.tmod x0_1 10))) % 256] : List Int)) (inner := [.int .u8 ((wrap64 (48 + (Int.tmod x0_1 10))) % 256)]) (ok := fun _ => True) (okp := fun _ => True) ?hr ?hp (fun _ hk => hk) trivial (Below.refl _ _) (Nat.le_refl _) (by simp) ?_; (case hd | hg => rfl); (case hr => first | (go_simp; done) | (go_simp; rfl)); (case hp => exact (Reps.one (show Kd.M (Kd.int .u8) _ _ _ ((wrap64 (48 + (Int.tmod x0_1 10))) % 256) [.int .u8 ((wrap64 (48 + (Int.tmod x0_1 10))) % 256)] from rfl) (Reps.none _ _))); intro v224 w4 ho5 hb hg_ hnew_; clear hg_ hnew_; (first | rw [← Ny223.out] at ho5 | (simp only [Int.reduceToNat] at ho5; rw [← Ny223.out] at ho5)); have n0_ := aM (rL ho5 (bZ (ey HB.out))); have n1_ := aM (bP (ey HB.out) hb); clear HB; have HO225 := n0_; have HB := n1_; clear n0_ n1_; clear hb ho5; have hcv6 := own_string (P := Tryd.prog) Tryd.underlying94 Tryd.underlying5 Tryd.underlying9 (Kd.own_of_R HO225.out)))
     go_roundg k1
     case measure => have := HK1.out; omega
     case rel => exact ⟨(wrap64 (Int.tdiv x0_1 10)), ((strOfNums y223) ++ x3_1), (by first | rfl | (simp; done) | (simp [*]; done)), (by first | rfl | (simp; done) | (simp [*]; done)), H', ⟨by have := HK1.out; omega⟩, ⟨by exact ey HB.out⟩⟩
    ·rw [if_neg c3] at H
     exact absurd H (by simp)
   ·rw [if_neg c2] at H
    have c2b0 : decide (9 < x0_1) = false := decide_eq_false c2
    clear c2
    obtain ⟨y226, hy226⟩ : ∃ y_ : List Int, y_ = (([(wrap64 (48 + x0_1)) % 256] : List Int)) := ⟨_, rfl⟩
    replace H : (if (strOfNums y226).size + x3_1.size ≤ 9223372036854775807 then (some ((strOfNums y226) ++ x3_1)) else (none)) = some r := by first | (rw [hy226]; with_reducible exact H) | (have H2_ := (Option.bind_some _ _).symm.trans H; rw [hy226]; with_reducible exact H2_) | (have H2_ := (Option.bind_some _ _).symm.trans H; with_reducible exact H2_) | with_reducible exact H | (rw [hy226]; exact H) | exact H
    have Ny226 := aM hy226
    clear hy226
    by_cases c7 : (strOfNums y226).size + x3_1.size ≤ 9223372036854775807
    ·rw [if_pos c7] at H
     have c7b0 := eq_true c7
     have c7b1 : decide ((strOfNums y226).size + x3_1.size ≤ 9223372036854775807) = true := decide_eq_true c7
     try have c7b2 : (9223372036854775807 < (strOfNums y226).size + x3_1.size) = False := eq_false (Nat.not_lt.2 c7)
     obtain rfl := Option.some.inj H
     go_wp2_with (first | ((with_reducible refine gate_dst (N := 19) rfl ?_); refine Kd.R_lit (Kd.int .u8) _ 5 ?hg (N := 19) ?hd (xs := ([(wrap64 (48 + x0_1)) % 256] : List Int)) (inner := [.int .u8 ((wrap64 (48 + x0_1)) % 256)]) (ok := fun _ => True) (okp := fun _ => True) ?hr ?hp (fun _ hk => hk) trivial (Below.refl _ _) (Nat.le_refl _) (by simp) ?_; (case hd | hg => rfl); (case hr => first | (go_simp; done) | (go_simp; rfl)); (case hp => exact (Reps.one (show Kd.M (Kd.int .u8) _ _ _ ((wrap64 (48 + x0_1)) % 256) [.int .u8 ((wrap64 (48 + x0_1)) % 256)] from rfl) (Reps.none _ _))); intro v227 w8 ho9 hb hg_ hnew_; clear hg_ hnew_; (first | rw [← Ny226.out] at ho9 | (simp only [Int.reduceToNat] at ho9; rw [← Ny226.out] at ho9)); have n0_ := aM (rL ho9 (bZ (ey HB.out))); have n1_ := aM (bP (ey HB.out) hb); clear HB; have HO228 := n0_; have HB := n1_; clear n0_ n1_; clear hb ho9; have hcv10 := own_string (P := Tryd.prog) Tryd.underlying94 Tryd.underlying5 Tryd.underlying9 (Kd.own_of_R HO228.out)))
     go_ret
     exact ⟨by first | rfl | (simp [errW_none, errW_some] <;> rfl) | (simp [*, errW_none, errW_some] <;> rfl), by exact ey HB.out⟩
    ·rw [if_neg c7] at H
     exact absurd H (by simp)
end Go.Proofs.YtcbiilbmldinhaaDoor.PB
end

section
namespace Go.Proofs.YtcbiilbmldinhaaDoor.PB
open Go.RowKit Go.Proofs.YtcbiilbmldinhaaDoorW.PrintWords Go.Proofs.YtcbiilbmldinhaaDoorW.PrintLast Go.Proofs.YtcbiilbmldinhaaDoorW.PrintMore
attribute [local go_sem] max2_int min2_int max_two min_two max_three min_three max_four min_four   
set_option linter.unusedVariables false
set_option linter.unusedSimpArgs false
def bureauref01_digits.f (a0 : Int) : Option (ByteArray) := if a0 < 10 then (some (strOfNums (([(wrap64 (48 + a0)) % 256] : List Int)))) else (some (strOfNums (([(wrap64 (48 + (wrap64 (Int.tdiv a0 10)))) % 256, (wrap64 (48 + (Int.tmod a0 10))) % 256] : List Int))))
set_option maxHeartbeats 8000000 in
set_option maxRecDepth 100000 in
theorem bureauref01_digits.calls (a0 : Int) (r : ByteArray) (w : World) (h : bureauref01_digits.f a0 = some r) :
  Calls Tryd.prog 58 #[.int .i64 a0] w fun e w' => e = .returned (.string r) ∧ Below w.heap.size w w' := by
 have HB := aM (Below.refl w.heap.size w)
 have H : (if a0 < 10 then (some (strOfNums (([(wrap64 (48 + a0)) % 256] : List Int)))) else (some (strOfNums (([(wrap64 (48 + (wrap64 (Int.tdiv a0 10)))) % 256, (wrap64 (48 + (Int.tmod a0 10))) % 256] : List Int))))) = some r := h
 clear h
 by_cases c2 : a0 < 10
 ·rw [if_pos c2] at H
  have c2b0 : decide (a0 < 10) = true := decide_eq_true c2
  clear c2
  obtain ⟨y229, hy229⟩ : ∃ y_ : List Int, y_ = (([(wrap64 (48 + a0)) % 256] : List Int)) := ⟨_, rfl⟩
  replace H : (some (strOfNums y229)) = some r := by first | (rw [hy229]; with_reducible exact H) | (have H2_ := (Option.bind_some _ _).symm.trans H; rw [hy229]; with_reducible exact H2_) | (have H2_ := (Option.bind_some _ _).symm.trans H; with_reducible exact H2_) | with_reducible exact H | (rw [hy229]; exact H) | exact H
  have Ny229 := aM hy229
  clear hy229
  obtain rfl := Option.some.inj H
  go_enter Tryd.func58, Tryd.ntmps58
  go_wp2_with (first | ((with_reducible refine gate_dst (N := 8) rfl ?_); refine Kd.R_lit (Kd.int .u8) _ 5 ?hg (N := 8) ?hd (xs := ([(wrap64 (48 + a0)) % 256] : List Int)) (inner := [.int .u8 ((wrap64 (48 + a0)) % 256)]) (ok := fun _ => True) (okp := fun _ => True) ?hr ?hp (fun _ hk => hk) trivial (Below.refl _ _) (Nat.le_refl _) (by simp) ?_; (case hd | hg => rfl); (case hr => first | (go_simp; done) | (go_simp; rfl)); (case hp => exact (Reps.one (show Kd.M (Kd.int .u8) _ _ _ ((wrap64 (48 + a0)) % 256) [.int .u8 ((wrap64 (48 + a0)) % 256)] from rfl) (Reps.none _ _))); intro v230 w3 ho4 hb hg_ hnew_; clear hg_ hnew_; (first | rw [← Ny229.out] at ho4 | (simp only [Int.reduceToNat] at ho4; rw [← Ny229.out] at ho4)); have n0_ := aM (rL ho4 (bZ (ey HB.out))); have n1_ := aM (bP (ey HB.out) hb); clear HB; have HO231 := n0_; have HB := n1_; clear n0_ n1_; clear hb ho4; have hcv5 := own_string (P := Tryd.prog) Tryd.underlying94 Tryd.underlying5 Tryd.underlying9 (Kd.own_of_R HO231.out)))
  go_ret
  exact ⟨by first | rfl | (simp [errW_none, errW_some] <;> rfl) | (simp [*, errW_none, errW_some] <;> rfl), by exact ey HB.out⟩
 ·rw [if_neg c2] at H
  have c2b0 : decide (a0 < 10) = false := decide_eq_false c2
  clear c2
  obtain ⟨y232, hy232⟩ : ∃ y_ : List Int, y_ = (([(wrap64 (48 + (wrap64 (Int.tdiv a0 10)))) % 256, (wrap64 (48 + (Int.tmod a0 10))) % 256] : List Int)) := ⟨_, rfl⟩
  replace H : (some (strOfNums y232)) = some r := by first | (rw [hy232]; with_reducible exact H) | (have H2_ := (Option.bind_some _ _).symm.trans H; rw [hy232]; with_reducible exact H2_) | (have H2_ := (Option.bind_some _ _).symm.trans H; with_reducible exact H2_) | with_reducible exact H | (rw [hy232]; exact H) | exact H
  have Ny232 := aM hy232
  clear hy232
  obtain rfl := Option.some.inj H
  go_enter Tryd.func58, Tryd.ntmps58
  go_wp2_with (first | ((with_reducible refine gate_dst (N := 18) rfl ?_); refine Kd.R_lit (Kd.int .u8) _ 5 ?hg (N := 18) ?hd (xs := ([(wrap64 (48 + (wrap64 (Int.tdiv a0 10)))) % 256, (wrap64 (48 + (Int.tmod a0 10))) % 256] : List Int)) (inner := [.int .u8 ((wrap64 (48 + (wrap64 (Int.tdiv a0 10)))) % 256), .int .u8 ((wrap64 (48 + (Int.tmod a0 10))) % 256)]) (ok := fun _ => True) (okp := fun _ => True) ?hr ?hp (fun _ hk => hk) trivial (Below.refl _ _) (Nat.le_refl _) (by simp) ?_; (case hd | hg => rfl); (case hr => first | (go_simp; done) | (go_simp; rfl)); (case hp => exact (Reps.one (show Kd.M (Kd.int .u8) _ _ _ ((wrap64 (48 + (wrap64 (Int.tdiv a0 10)))) % 256) [.int .u8 ((wrap64 (48 + (wrap64 (Int.tdiv a0 10)))) % 256)] from rfl) (Reps.one (show Kd.M (Kd.int .u8) _ _ _ ((wrap64 (48 + (Int.tmod a0 10))) % 256) [.int .u8 ((wrap64 (48 + (Int.tmod a0 10))) % 256)] from rfl) (Reps.none _ _)))); intro v233 w6 ho7 hb hg_ hnew_; clear hg_ hnew_; (first | rw [← Ny232.out] at ho7 | (simp only [Int.reduceToNat] at ho7; rw [← Ny232.out] at ho7)); have n0_ := aM (rL ho7 (bZ (ey HB.out))); have n1_ := aM (bP (ey HB.out) hb); clear HB; have HO234 := n0_; have HB := n1_; clear n0_ n1_; clear hb ho7; have hcv8 := own_string (P := Tryd.prog) Tryd.underlying94 Tryd.underlying5 Tryd.underlying9 (Kd.own_of_R HO234.out)))
  go_ret
  exact ⟨by first | rfl | (simp [errW_none, errW_some] <;> rfl) | (simp [*, errW_none, errW_some] <;> rfl), by exact ey HB.out⟩
end Go.Proofs.YtcbiilbmldinhaaDoor.PB
end

section
namespace Go.Proofs.YtcbiilbmldinhaaDoor.PB
open Go.RowKit Go.Proofs.YtcbiilbmldinhaaDoorW.PrintWords Go.Proofs.YtcbiilbmldinhaaDoorW.PrintLast Go.Proofs.YtcbiilbmldinhaaDoorW.PrintMore
attribute [local go_sem] max2_int min2_int max_two min_two max_three min_three max_four min_four
set_option linter.unusedVariables false
set_option linter.unusedSimpArgs false
def mcells (l : List Bool) : Array Value := (bools l).toArray
theorem mcells_size (l : List Bool) : (mcells l).size = l.length := by simp [mcells, bools]
theorem mcells_get (l : List Bool) (i : Nat) (h : i < l.length) : (mcells l)[i]? = some (.bool (l.getD i false)) := by
  simp [mcells, bools, List.getD_eq_getElem?_getD, List.getElem?_eq_getElem h]
theorem mcells_set (l : List Bool) (i : Nat) (b : Bool) : (mcells l).setIfInBounds i (.bool b) = mcells (l.set i b) := by
  simp [mcells, bools, List.map_set]
theorem mcells_full (l : List Bool) (hl : l.length = 64) : (Tryd.prog.info? 72).map (fun i => i.size) = some (mcells l).size := by
  rw [mcells_size, hl]
  kernel_rfl
theorem mcells_one (l : List Bool) : (mcells l).all (·.oneCell') = true := by
  simp [mcells, bools, Value.oneCell']
theorem blk_there {w : World} {g : Nat} {t : TypeId} {l : List Bool} (h : w.heap[g]? = some (.cells (mcells l) t (0, 0))) : w.there g 0 l.length := fun j hj =>
  ⟨by rw [bC h, Nat.zero_add, mcells_get l j hj]; rfl, bF h _⟩
theorem setCells_blk {w : World} {g : Nat} {t : TypeId} {l m : List Bool} (h : w.heap[g]? = some (.cells (mcells l) t (0, 0))) (hl : m.length = l.length) :
    (w.setCells g 0 (mcells m).toList).heap[g]? = some (.cells (mcells m) t (0, 0)) := by
  obtain ⟨cur, h1, h2, h3⟩ := setCells_row (mcells m).toList 0 w (mcells l) h (by rw [Nat.zero_add, Array.length_toList, mcells_size, mcells_size, hl]; exact Nat.le_refl _)
  rw [h1]
  congr 2
  apply Array.toList_inj.1
  have hs : (mcells l).toList.length = (mcells m).toList.length := by rw [Array.length_toList, Array.length_toList, mcells_size, mcells_size, hl]
  rw [h3, List.take_zero, List.nil_append, List.drop_eq_nil_of_le (by omega), List.append_nil]
set_option maxHeartbeats 4000000 in
set_option maxRecDepth 100000 in
theorem Marks_calls (n : Nat) (hn : n < 2 ^ 64) (w : World) :
    Calls Tryd.prog 37 #[.int .u64 (n : Int)] w fun e w' => e = .returned (.agg (mcells (marksN n))) ∧ Below w.heap.size w w' := by
  go_enter Tryd.func37, Tryd.ntmps37
  have hn' : (n : Int) < 18446744073709551616 := by omega
  go_wp2_with (first | ((with_reducible refine gate_dst (N := 2) rfl ?_); refine box_event ?hg (N := 2) ?hd (cs := mcells (List.replicate 64 false)) (t := 72) ?hr ?_; (case hd => rfl); (case hg => rfl); (case hr => (go_simp; rfl)); intro g2 hg2 w2 hbox2 hb2; have HX2 := aM hbox2; have HB2 := aM hb2; have HE2 := aM hg2; clear hbox2 hb2 hg2) | ((with_reducible refine gate_dst (N := 3) rfl ?_); refine box_event ?hg (N := 3) ?hd (cs := mcells (List.replicate 64 false)) (t := 72) ?hr ?_; (case hd => rfl); (case hg => rfl); (case hr => (go_simp; rfl)); intro g3 hg3 w3 hbox3 hb3; have HX3 := aM hbox3; have HB3 := aM hb3; have HE3 := aM hg3; clear hbox3 hb3 hg3))
  have h23 : g2 < g3 := by have := HE3.out; have := blk_lt HX2.out; omega
  have hs2 : g2 = w.heap.size := HE2.out
  have HX2 := aM ((HB3.out.block g2 (blk_lt HX2.out)).trans HX2.out)
  have HBB := aM ((HB2.out).trans (HB3.out.mono (HB2.out.size)))
  rw [← marksTo_zero n] at HX3
  go_loopw [4, 5] (fun v4 v5 wr => ∃ (k : Nat), k ≤ 64 ∧ v5 = .int .i64 k ∧ v4 = .int .u64 ((n / 2 ^ k : Nat) : Int) ∧ Aside0 (wr.heap[g3]? = some (.cells (mcells (marksTo n k)) 72 (0, 0))) ∧ Aside0 (wr.heap[g2]? = some (.cells (mcells (List.replicate 64 false)) 72 (0, 0))) ∧ Aside0 (Below w.heap.size w wr)) (fun _ i _ => 64 - (intOf i).toNat)
  case atStart => exact ⟨0, by omega, rfl, by simp, HX3, HX2, HBB⟩
  case round =>
    obtain ⟨k, hk, rfl, rfl, HA, HC, HB⟩ := hrel
    by_cases hlt : k < 64
    · have hq := Nat.div_div_eq_div_mul n (2 ^ k) 2
      rw [← Nat.pow_succ] at hq
      have hb : n.testBit k = ((((n / 2 ^ k : Nat) : Int) % 2) == 1) := by
        rw [Nat.testBit_eq_decide_div_mod_eq]
        generalize n / 2 ^ k = q
        rw [Bool.eq_iff_iff, decide_eq_true_iff, beq_iff_eq]
        omega
      have hq2 : ((n / 2 ^ k : Nat) : Int) / 2 = ((n / 2 ^ (k + 1) : Nat) : Int) := by rw [← hq]; omega
      have hle : n / 2 ^ k ≤ n := Nat.div_le_self _ _
      have hc := (bC HA.out k).trans (mcells_get _ k (by rw [marksTo_len]; exact hlt))
      have hf := bF HA.out k
      have HQ := aM hq2
      have HBT := aM hb
      clear hq hb hq2
      generalize n / 2 ^ k = q at *
      generalize hqq : n / 2 ^ (k + 1) = q2 at *
      have HQ2 := aM hqq
      clear hqq
      have hk0 : (0 : Int) ≤ (k : Int) := by omega
      have hk1 : (k : Int) < 64 := by omega
      go_wp2
      have hb2 := blk_set HA.out k (.bool ((q : Int) % 2 == 1))
      rw [← HBT.out, mcells_set, marksTo_set _ _ hlt] at hb2
      refine ⟨⟨k + 1, by omega, by go_num, by rw [HQ2.out, HQ.out], ⟨by rw [← HBT.out]; exact hb2⟩, ⟨bR HC.out (by show g2 ≠ g3; omega) _⟩, ⟨HB.out.setCell (by show w.heap.size ≤ g3; omega) _⟩⟩, by simp [intOf]; omega⟩
    · obtain rfl : k = 64 := by omega
      have HA2 := HA.out
      rw [marksTo_all] at HA2
      have HA3 := aM HA2
      have ht := blk_there HC.out
      rw [List.length_replicate, ← marksN_len n, ← mcells_size] at ht
      have HT := aM ht
      clear HA2 ht hn hn'
      go_wp2_with (first | ((with_reducible refine gate_dst (N := 18) rfl ?_); refine wpList_load_row rfl 72 (.tmp 3) rfl g3 rfl 72 (mcells (marksN n)) (0, 0) _ HA3.out Tryd.underlying72 rfl (mcells_full _ (marksN_len n)) ?_) | ((with_reducible refine gate_store (t := 72) (p := 2) rfl ?_); refine wpList_store_mid rfl 72 (.tmp 2) (.tmp 18) rfl g2 0 (mcells (marksN n)) rfl rfl (HT.out) (mcells_full _ (marksN_len n)) (mcells_one _) ?_))
      have hz := setCells_blk HC.out (m := marksN n) (by rw [marksN_len, List.length_replicate])
      refine bodyPost_ret (results_cell_row rfl _ _ g2 72 (mcells (marksN n)) (0, 0) _ rfl hz Tryd.underlying72 rfl (mcells_full _ (marksN_len n))) rfl ⟨rfl, ?_⟩
      obtain ⟨s1, s2, s3, s4⟩ := setCells_same g2 (mcells (marksN n)).toList 0 wr
      exact HB.out.trans ⟨s1, s2, s3, by rw [s4]; exact Nat.le_refl _, fun i hi => setCells_far _ _ _ (by omega)⟩
theorem row_there {w : World} {g : Nat} {t : TypeId} {l m : List Bool} (h : w.heap[g]? = some (.cells (mcells l) t (0, 0))) (hl : l.length = 64) (hm : m.length = 64) : w.there g 0 (mcells m).size := by
  have := blk_there h
  rwa [hl, ← hm, ← mcells_size] at this
theorem setCells_below {B g : Nat} {w W : World} (h : Below B w W) (hB : B ≤ g) (vs : List Value) : Below B w (W.setCells g 0 vs) := by
  obtain ⟨s1, s2, s3, s4⟩ := setCells_same g vs 0 W
  exact h.trans ⟨s1, s2, s3, by rw [s4]; exact Nat.le_refl _, fun i hi => setCells_far _ _ _ (by omega)⟩
theorem zlen : (List.replicate 64 false).length = 64 := List.length_replicate
theorem ofBits_drop (l : List Bool) (m : Nat) (hm : m < l.length) : ofBits (l.drop m) = 2 * ofBits (l.drop (m + 1)) + (l.getD m false).toNat := by
  rw [List.drop_eq_getElem_cons hm, ofBits, List.getD_eq_getElem?_getD, List.getElem?_eq_getElem hm]
  rfl
set_option maxHeartbeats 4000000 in
set_option maxRecDepth 100000 in
theorem Label_calls (l : List Bool) (hl : l.length = 64) (w : World) :
    Calls Tryd.prog 63 #[.agg (mcells l)] w fun e w' => e = .returned (.int .u64 ((ofBits l : Nat) : Int)) ∧ Below w.heap.size w w' := by
  go_enter Tryd.func63, Tryd.ntmps63
  go_wp2_with (first | ((with_reducible refine gate_dst (N := 1) rfl ?_); refine box_event ?hg (N := 1) ?hd (cs := mcells l) (t := 72) ?hr ?_; (case hd => rfl); (case hg => rfl); (case hr => first | (go_simp; done) | (go_simp; rfl)); intro g1 hg1 w1 hbox1 hb1; have HX1 := aM hbox1; have HB1 := aM hb1; have HE1 := aM hg1; clear hbox1 hb1 hg1))
  go_loopw [3, 4] (fun v3 v4 wr => ∃ (j : Nat), j ≤ 64 ∧ v4 = .int .i64 ((j : Int) - 1) ∧ v3 = .int .u64 ((ofBits (l.drop j) : Nat) : Int) ∧ Aside0 (wr.heap[g1]? = some (.cells (mcells l) 72 (0, 0))) ∧ Aside0 (Below w.heap.size w wr)) (fun _ i _ => (intOf i + 1).toNat)
  case atStart => exact ⟨64, by omega, rfl, by rw [List.drop_eq_nil_of_le (by omega)]; rfl, HX1, HB1⟩
  case round =>
    obtain ⟨j, hj, rfl, rfl, HA, HB⟩ := hrel
    by_cases h0 : j = 0
    · subst h0
      go_wp2
      go_ret
      exact ⟨rfl, HB.out⟩
    · obtain ⟨m, rfl⟩ : ∃ m, j = m + 1 := ⟨j - 1, by omega⟩
      rw [show (((m + 1 : Nat) : Int) - 1) = (m : Int) from by omega]
      have hlt := ofBits_lt (l.drop (m + 1))
      have hlt2 : ofBits (l.drop (m + 1)) < 2 ^ 63 := Nat.lt_of_lt_of_le hlt (Nat.pow_le_pow_right (by decide) (by rw [List.length_drop]; omega))
      have hd := ofBits_drop l m (by omega)
      have hc := (bC HA.out m).trans (mcells_get _ m (by omega))
      have HD := aM hd
      have hm0 : (0 : Int) ≤ (m : Int) := by omega
      have hm1 : (m : Int) < 64 := by omega
      have hq : (0 : Int) ≤ ((ofBits (l.drop (m + 1)) : Nat) : Int) := by omega
      have hq2 : ((ofBits (l.drop (m + 1)) : Nat) : Int) < 9223372036854775808 := by omega
      clear hlt hlt2 hd
      generalize ofBits (l.drop (m + 1)) = q at *
      cases hb : l.getD m false with
      | true =>
        rw [hb] at hc HD
        go_wp2
        refine ⟨⟨m, by omega, rfl, ?_, HA, HB⟩, by simp [intOf]⟩
        rw [HD.out]; congr 1; simp; omega
      | false =>
        rw [hb] at hc HD
        go_wp2
        refine ⟨⟨m, by omega, rfl, ?_, HA, HB⟩, by simp [intOf]⟩
        rw [HD.out]; congr 1; simp; omega
end Go.Proofs.YtcbiilbmldinhaaDoor.PB
end

section
namespace Go.Proofs.YtcbiilbmldinhaaDoor.PB
open Go.RowKit Go.Proofs.YtcbiilbmldinhaaDoorW.PrintWords Go.Proofs.YtcbiilbmldinhaaDoorW.PrintLast Go.Proofs.YtcbiilbmldinhaaDoorW.PrintMore
attribute [local go_sem] max2_int min2_int max_two min_two max_three min_three max_four min_four
set_option linter.unusedVariables false
set_option linter.unusedSimpArgs false
def okCats (l : List Int) : Bool := l.all (fun x => decide (0 ≤ x) && decide (x < 64))
theorem okCats_of {l : List Int} (h : ∀ x ∈ l, 0 ≤ x ∧ x < 64) : okCats l = true := by
  unfold okCats; rw [List.all_eq_true]; intro x hx; simp [h x hx]
def ofI (l : List Int) : Int × Int := if okCats l = true then (((ofBits (catsOf l) : Nat) : Int), 0) else (0, 2)
theorem ofI_yes {l : List Int} (h : ∀ x ∈ l, 0 ≤ x ∧ x < 64) : ofI l = (((ofBits (catsOf l) : Nat) : Int), 0) := by unfold ofI; rw [if_pos (okCats_of h)]
set_option maxHeartbeats 4000000 in
set_option maxRecDepth 100000 in
theorem Cats_calls (n : Nat) (hn : n < 2 ^ 64) (w : World) :
    Calls Tryd.prog 57 #[.int .u64 (n : Int)] w fun e w' => ∃ v0_ : Value, e = .returned (v0_) ∧ Kd.R (Kd.int .i64) 3 w' w.heap.size (fun _ => True) v0_ (catsTo n 64) ∧ Below w.heap.size w w' := by
  have HM := aM (fun W => Marks_calls n hn W)
  go_enter Tryd.func57, Tryd.ntmps57
  go_wp2_with fail
  refine (HM.out _).mono ?_
  rintro e w1 ⟨rfl, hb1⟩
  have HC1 := aM hb1
  clear hb1 hn HM
  go_wp2_with (first | ((with_reducible refine gate_dst (N := 3) rfl ?_); refine box_event ?hg (N := 3) ?hd (cs := mcells (List.replicate 64 false)) (t := 72) ?hr ?_; (case hd => rfl); (case hg => rfl); (case hr => first | (go_simp; done) | (go_simp; rfl)); intro g3 hg3 w3 hbox3 hb3; have HX3 := aM hbox3; have HB3 := aM hb3; have HE3 := aM hg3; clear hbox3 hb3 hg3) | ((with_reducible refine gate_store (t := 72) (p := 3) rfl ?_); refine wpList_store_mid rfl 72 (.tmp 3) (.tmp 7) rfl g3 0 (mcells (marksN n)) rfl rfl ?ht (mcells_full _ (marksN_len n)) (mcells_one _) ?_; (case ht => exact row_there HX3.out zlen (marksN_len n)); have HS3 := aM (setCells_blk HX3.out (m := marksN n) ((marksN_len n).trans zlen.symm)); have HD3 := aM (setCells_below (HC1.out.trans (HB3.out.mono HC1.out.size)) (by have h1 := HE3.out; have h2 := HC1.out.size; omega : w.heap.size ≤ g3) (mcells (marksN n)).toList); generalize (World.setCells w3 g3 0 (mcells (marksN n)).toList) = w7 at HS3 HD3 ⊢))
  go_loopw [4, 5] (fun v4 v5 wr => ∃ (k : Nat), k ≤ 64 ∧ v5 = .int .i64 k ∧ Aside0 (Kd.R (Kd.int .i64) 3 wr w.heap.size (fun _ => True) v4 (catsTo n k)) ∧ Aside0 (wr.heap[g3]? = some (.cells (mcells (marksN n)) 72 (0, 0))) ∧ Aside0 (Below w.heap.size w wr)) (fun _ i _ => 64 - (intOf i).toNat)
  case atStart => exact ⟨0, by omega, rfl, ⟨Kd.R_nil _ _ _ _ _⟩, HS3, HD3⟩
  case round =>
    obtain ⟨k, hk, rfl, HO, HP, HB⟩ := hrel
    by_cases hlt : k < 64
    · have hc3 := (bC HP.out k).trans (mcells_get _ k (by rw [marksN_len]; exact hlt))
      rw [marksN_getD _ _ hlt] at hc3
      have hk0 : (0 : Int) ≤ (k : Int) := by omega
      have hk1 : (k : Int) < 64 := by omega
      have HL := aM (catsTo_len n k)
      cases hx : n.testBit k
      · have HN := aM (catsTo_no n k hx)
        rw [hx] at hc3
        clear hx
        go_wp2
        exact ⟨⟨k + 1, by omega, by go_num, ⟨by rw [HN.out]; exact HO.out⟩, HP, HB⟩, by simp [intOf]; omega⟩
      · have HN := aM (catsTo_yes n k hx)
        rw [hx] at hc3
        clear hx
        generalize catsTo n k = xs at *
        have HBL := aM (Below.refl wr.heap.size wr)
        go_wp2_with (first | ((with_reducible refine gate_builtin (b := .append) (xs := #[.tmp 15, .tmp 17]) rfl ?_); at_builtin; refine Kd.R_append (Kd.int .i64) (w0 := w) w.heap.size rfl (.tmp 15) (.tmp 17) 92 3 (.int .i64 0) 8 rfl Tryd.underlying92 info3 rfl (by decide) (by omega) u4 xs (k : Int) [.int .i64 (k : Int)] (fun _ => True) (fun _ => False) rfl rfl ?aP (fun _ hk => hk.elim) ?aF ?aO ?aB ?aS ?aL ?_; (case aP => exact rfl); (case aB => exact (by repeat (first | (with_reducible first | exact HB.out | apply ea | apply en | apply ed) | exact HB.out))); (case aF => exact (fun _ _ => trivial)); (case aO => exact (by (with_reducible repeat (first | apply ra | apply rn | apply rd_)); exact HO.out)); (case aS => exact (bZ (by repeat (first | (with_reducible first | exact HB.out | apply ea | apply en | apply ed) | exact HB.out)))); (case aL => have := HL.out; omega); intro v144 w7 ho hb hg hat; have HG3 := aM (blk_grown HP.out hg (Kd.R_ne HO.out HP.out (by decide))); have HBn := aM hb; have HOn := aM ho; clear ho hb hg hat))
        exact ⟨⟨k + 1, by omega, by go_num, ⟨by rw [HN.out]; exact HOn.out⟩, HG3, HBn⟩, by simp [intOf]; omega⟩
    · obtain rfl : k = 64 := by omega
      go_wp2
      go_ret
      exact ⟨_, rfl, HO.out, HB.out⟩
def bureauref01_Cats.f (a0 : Int) : Option (List Int) := if 0 ≤ a0 ∧ a0 < 18446744073709551616 then some (catsTo a0.toNat 64) else none
theorem bureauref01_Cats.calls (a0 : Int) (r : List Int) (w : World) (h : bureauref01_Cats.f a0 = some r) :
    Calls Tryd.prog 57 #[.int .u64 a0] w fun e w' => ∃ v0_ : Value, e = .returned (v0_) ∧ Kd.R (Kd.int .i64) 3 w' w.heap.size (fun _ => True) v0_ r ∧ Below w.heap.size w w' := by
  unfold bureauref01_Cats.f at h
  split at h
  case isFalse => cases h
  rename_i hc
  injection h with h
  subst h
  obtain ⟨a, rfl⟩ := Int.eq_ofNat_of_zero_le hc.1
  exact Cats_calls a (by omega) w
end Go.Proofs.YtcbiilbmldinhaaDoor.PB
end

section
namespace Go.Proofs.YtcbiilbmldinhaaDoor.PB
open Go.RowKit Go.Proofs.YtcbiilbmldinhaaDoorW.PrintWords Go.Proofs.YtcbiilbmldinhaaDoorW.PrintLast Go.Proofs.YtcbiilbmldinhaaDoorW.PrintMore
attribute [local go_sem] max2_int min2_int max_two min_two max_three min_three max_four min_four   
set_option linter.unusedVariables false
set_option linter.unusedSimpArgs false
def bureauref01_Print.l0 : Nat → List Int → ByteArray → Int → Option (ByteArray)
 | 0, _, _, _ => none
 | k + 1, x3, x4, x5 => if x5 < (x3.length : Int) then (if x4.size + 1 ≤ 9223372036854775807 then (if 0 ≤ x5 then ((bureauref01_digits.f (rd x3 x5)).bind fun t241 => (if (x4 ++ (⟨#[46]⟩ : ByteArray)).size + t241.size ≤ 9223372036854775807 then (bureauref01_Print.l0 k x3 ((x4 ++ (⟨#[46]⟩ : ByteArray)) ++ t241) (wrap64 (x5 + 1))) else (none))) else (none)) else (none)) else (some x4)
def bureauref01_Print.f (k : Nat) (a0 : Int) : Option (ByteArray) := (bureauref01_Cats.f a0).bind fun t235 => (if (t235.length : Int) = 0 then (some (⟨#[45]⟩ : ByteArray)) else (if 0 < (t235.length : Int) then ((bureauref01_digits.f (rd t235 0)).bind fun t239 => (bureauref01_Print.l0 k t235 t239 1)) else (none)))
set_option maxHeartbeats 8000000 in
set_option maxRecDepth 100000 in
theorem bureauref01_Print.calls (k : Nat) (a0 : Int) (r : ByteArray) (w : World) (h : bureauref01_Print.f k a0 = some r) :
  Calls Tryd.prog 44 #[.int .u64 a0] w fun e w' => e = .returned (.string r) ∧ Below w.heap.size w w' := by
 have HB := aM (Below.refl w.heap.size w)
 have H : ((bureauref01_Cats.f a0).bind fun t235 => (if (t235.length : Int) = 0 then (some (⟨#[45]⟩ : ByteArray)) else (if 0 < (t235.length : Int) then ((bureauref01_digits.f (rd t235 0)).bind fun t239 => (bureauref01_Print.l0 k t235 t239 1)) else (none)))) = some r := h
 clear h
 replace H := Option.bind_eq_some_iff.mp H
 obtain ⟨t235, A20, H⟩ := H
 replace H : (if (t235.length : Int) = 0 then (some (⟨#[45]⟩ : ByteArray)) else (if 0 < (t235.length : Int) then ((bureauref01_digits.f (rd t235 0)).bind fun t239 => (bureauref01_Print.l0 k t235 t239 1)) else (none))) = some r := H
 have A2 := aM A20
 clear A20
 by_cases c3 : (t235.length : Int) = 0
 ·rw [if_pos c3] at H
  have c3b0 : ((t235.length : Int) == 0) = true := beq_iff_eq.mpr c3
  have c3b1 : ((t235.length : Int) != 0) = false := bne_eq_false_iff_eq.mpr c3
  clear c3
  obtain rfl := Option.some.inj H
  go_enter Tryd.func44, Tryd.ntmps44
  go_wp2_with (first | ((with_reducible refine gate_callee (f := 57) rfl ?_); refine goesL_ (some 7) rfl rfl Tryd.func57 (by kernel_rfl) rfl #[.int .u64 a0] rfl (by (try simp only [mT, mC, mN]); first | done | rfl | (simp only [lD, lT]; rfl)) ?_; (with_reducible refine (bureauref01_Cats.calls a0 t235 _ A2.out).mono ?_); rintro e w4 ⟨v236, rfl, ho0, hb⟩; refine ⟨_, rfl, ?_⟩; have n0_ := aM (rL ho0 (bZ (ey HB.out))); have n1_ := aM (bP (ey HB.out) hb); clear HB; have HO237 := n0_; have HB := n1_; clear n0_ n1_; (try clear hb); (try clear hb2); (try clear hk); (try clear hi); (try clear ho0); obtain ⟨Ao5, co5, eo5⟩ := Kd.R_slice HO237.out; subst eo5))
  go_ret
  exact ⟨by first | rfl | (simp [errW_none, errW_some] <;> rfl) | (simp [*, errW_none, errW_some] <;> rfl), by exact ey HB.out⟩
 ·rw [if_neg c3] at H
  have c3b0 : ((t235.length : Int) == 0) = false := beq_eq_false_iff_ne.mpr c3
  have c3b1 : ((t235.length : Int) != 0) = true := bne_iff_ne.mpr c3
  have c3b2 : ¬ (t235 = []) := fun h_ => c3 (by rw [h_]; rfl)
  by_cases c6 : 0 < (t235.length : Int)
  ·rw [if_pos c6] at H
   have c6b0 : decide (0 < (t235.length : Int)) = true := decide_eq_true c6
   have c6b1 : decide (0 < t235.length) = true := decide_eq_true (by omega)
   clear c6
   replace H := Option.bind_eq_some_iff.mp H
   obtain ⟨t239, A70, H⟩ := H
   replace H : (bureauref01_Print.l0 k t235 t239 1) = some r := H
   have A7 := aM A70
   clear A70
   have H' := aM H
   clear H
   go_enter Tryd.func44, Tryd.ntmps44
   go_wp2_with (first | ((with_reducible refine gate_callee (f := 57) rfl ?_); refine goesL_ (some 7) rfl rfl Tryd.func57 (by kernel_rfl) rfl #[.int .u64 a0] rfl (by (try simp only [mT, mC, mN]); first | done | rfl | (simp only [lD, lT]; rfl)) ?_; (with_reducible refine (bureauref01_Cats.calls a0 t235 _ A2.out).mono ?_); rintro e w8 ⟨v236, rfl, ho0, hb⟩; refine ⟨_, rfl, ?_⟩; have n0_ := aM (rL ho0 (bZ (ey HB.out))); have n1_ := aM (bP (ey HB.out) hb); clear HB; have HO237 := n0_; have HB := n1_; clear n0_ n1_; (try clear hb); (try clear hb2); (try clear hk); (try clear hi); (try clear ho0); obtain ⟨Ao9, co9, eo9⟩ := Kd.R_slice HO237.out; subst eo9; have p238 : 0 ≤ (0 : Int) := (by omega); have q238 : 0 < (t235.length : Int) := of_decide_eq_true (by first | (with_reducible assumption) | assumption); obtain ⟨ad238, e238, hx238_0⟩ := Kd.at_int (rR HO237.out).2.2 0 p238 q238; cases e238; have qi238 : (0 < t235.length) = True := eq_true (by omega); (try rw [show ((0 : Int)).toNat = 0 from rfl] at hx238_0); (try rw [Addr.add_zero'] at hx238_0); replace p238 := eq_true p238; replace q238 := eq_true q238) | ((with_reducible refine gate_callee (f := 58) rfl ?_); refine goesL_ (some 14) rfl rfl Tryd.func58 (by kernel_rfl) rfl #[.int .i64 (rd t235 0)] rfl (by (try simp only [mT, mC, mN]); first | done | rfl | (simp only [lD, lT]; rfl)) ?_; (with_reducible refine (bureauref01_digits.calls (rd t235 0) t239 _ A7.out).mono ?_); rintro e w10 ⟨rfl, hb⟩; refine ⟨_, rfl, ?_⟩; have n0_ := aM (Kd.R_below (ry HO237.out) hb); have n1_ := aM (bP (ey HB.out) hb); clear HO237 HB; have HO237 := n0_; have HB := n1_; clear n0_ n1_; (try clear hb); (try clear hb2); (try clear hk); (try clear hi)))
   go_loopg [4, 5] k (fun kq v4 v5 w' => ∃ (x4_1 : ByteArray) (x5_1 : Int), v4 = .string x4_1 ∧ v5 = .int .i64 x5_1 ∧ Aside0 (bureauref01_Print.l0 kq t235 x4_1 x5_1 = some r) ∧ Aside0 (kq ≤ k) ∧ Aside0 (Kd.R (Kd.int .i64) 3 w' w.heap.size (fun _ => True) (.slice (some ad238) t235.length co9) t235) ∧ Aside0 (Below w.heap.size w w'))
   case atStart => exact ⟨(t239), (1), (by first | rfl | (simp; done) | (simp [*]; done)), (by first | rfl | (simp; done) | (simp [*]; done)), H', ⟨Nat.le_refl _⟩, ⟨by exact ry HO237.out⟩, ⟨by exact ey HB.out⟩⟩
   case round =>
    clear H'
    try clear p2
    try clear q2
    try clear hx2
    try clear qi2
    try clear c3
    try clear c3b0
    try clear c3b1
    try clear c3b2
    try clear c4
    try clear c5
    try clear c6
    try clear c6b0
    try clear c6b1
    try clear hx238_0
    try clear p238
    try clear q238
    obtain ⟨x4_1, x5_1, rfl, rfl, HA, HK1, HO_3, HB⟩ := hrel
    cases gk with
    | zero => exact absurd HA.out (by simp [bureauref01_Print.l0])
    | succ k1 =>
     have H := HA.out
     clear HA
     simp only [bureauref01_Print.l0] at H
     by_cases c11 : x5_1 < (t235.length : Int)
     ·rw [if_pos c11] at H
      have c11b0 : decide (x5_1 < (t235.length : Int)) = true := decide_eq_true c11
      clear c11
      by_cases c12 : x4_1.size + 1 ≤ 9223372036854775807
      ·rw [if_pos c12] at H
       have c12b0 := eq_true c12
       have c12b1 : decide (x4_1.size + 1 ≤ 9223372036854775807) = true := decide_eq_true c12
       try have c12b2 : (9223372036854775807 < x4_1.size + 1) = False := eq_false (Nat.not_lt.2 c12)
       try (have c12c_ := c12; simp [go_sem] at c12c_; have c12d_ := eq_false (Nat.not_lt.2 c12c_); clear c12c_)
       by_cases c13 : 0 ≤ x5_1
       ·rw [if_pos c13] at H
        have c13b0 : decide (0 ≤ x5_1) = true := decide_eq_true c13
        clear c13
        replace H := Option.bind_eq_some_iff.mp H
        obtain ⟨t241, A140, H⟩ := H
        replace H : (if (x4_1 ++ (⟨#[46]⟩ : ByteArray)).size + t241.size ≤ 9223372036854775807 then (bureauref01_Print.l0 k1 t235 ((x4_1 ++ (⟨#[46]⟩ : ByteArray)) ++ t241) (wrap64 (x5_1 + 1))) else (none)) = some r := H
        have A14 := aM A140
        clear A140
        by_cases c15 : (x4_1 ++ (⟨#[46]⟩ : ByteArray)).size + t241.size ≤ 9223372036854775807
        ·rw [if_pos c15] at H
         have c15b0 := eq_true c15
         have c15b1 : decide ((x4_1 ++ (⟨#[46]⟩ : ByteArray)).size + t241.size ≤ 9223372036854775807) = true := decide_eq_true c15
         try have c15b2 : (9223372036854775807 < (x4_1 ++ (⟨#[46]⟩ : ByteArray)).size + t241.size) = False := eq_false (Nat.not_lt.2 c15)
         try (have c15c_ := c15; simp [go_sem, c12b0] at c15c_; have c15d_ := eq_false (Nat.not_lt.2 c15c_); clear c15c_)
         have H' := aM H
         clear H
         have p240 : 0 ≤ (x5_1 : Int) := of_decide_eq_true (by first | (with_reducible assumption) | assumption)
         have q240 : x5_1 < (t235.length : Int) := of_decide_eq_true (by first | (with_reducible assumption) | assumption)
         obtain ⟨ad240, e240, hx240_0⟩ := Kd.at_int (rR HO_3.out).2.2 x5_1 p240 q240
         obtain rfl : ad238 = ad240 := (by injection e240)
         replace p240 := eq_true p240
         replace q240 := eq_true q240
         go_wp2_with (first | ((with_reducible refine gate_callee (f := 58) rfl ?_); refine goesL_ (some 27) rfl rfl Tryd.func58 (by kernel_rfl) rfl #[.int .i64 (rd t235 x5_1)] rfl (by (try simp only [mT, mC, mN]); first | done | rfl | (simp only [lD, lT]; rfl)) ?_; (with_reducible refine (bureauref01_digits.calls (rd t235 x5_1) t241 _ A14.out).mono ?_); rintro e w16 ⟨rfl, hb⟩; refine ⟨_, rfl, ?_⟩; have n0_ := aM (Kd.R_below (ry HO_3.out) hb); have n1_ := aM (bP (ey HB.out) hb); clear HO_3 HB; have HO_3 := n0_; have HB := n1_; clear n0_ n1_; (try clear hb); (try clear hb2); (try clear hk); (try clear hi)))
         go_roundg k1
         case measure => have := HK1.out; omega
         case rel => exact ⟨((x4_1 ++ (⟨#[46]⟩ : ByteArray)) ++ t241), (wrap64 (x5_1 + 1)), (by first | rfl | (simp; done) | (simp [*]; done)), (by first | rfl | (simp; done) | (simp [*]; done)), H', ⟨by have := HK1.out; omega⟩, ⟨by exact ry HO_3.out⟩, ⟨by exact ey HB.out⟩⟩
        ·rw [if_neg c15] at H
         exact absurd H (by simp)
       ·rw [if_neg c13] at H
        exact absurd H (by simp)
      ·rw [if_neg c12] at H
       exact absurd H (by simp)
     ·rw [if_neg c11] at H
      have c11b0 : decide (x5_1 < (t235.length : Int)) = false := decide_eq_false c11
      clear c11
      obtain rfl := Option.some.inj H
      go_wp2
      go_ret
      exact ⟨by first | rfl | (simp [errW_none, errW_some] <;> rfl) | (simp [*, errW_none, errW_some] <;> rfl), by exact ey HB.out⟩
  ·rw [if_neg c6] at H
   exact absurd H (by simp)
end Go.Proofs.YtcbiilbmldinhaaDoor.PB
end

section
namespace Go.Proofs.YtcbiilbmldinhaaDoor.PB
open Go.RowKit Go.Proofs.YtcbiilbmldinhaaDoorW.PrintWords Go.Proofs.YtcbiilbmldinhaaDoorW.PrintLast Go.Proofs.YtcbiilbmldinhaaDoorW.PrintMore
attribute [local go_sem] max2_int min2_int max_two min_two max_three min_three max_four min_four   
set_option linter.unusedVariables false
set_option linter.unusedSimpArgs false
def bureauref18_Print.f (k : Nat) (a0_0 : Int) (a0_1 : Int) (a0_2 : Int) (a0_3 : Int) (a0_4 : Int) : Option (ByteArray × Int) := (bureauref18_May.f a0_0 a0_1 a0_2 a0_3 a0_4).bind fun t243 => (if t243 = true then ((bureauref18_word.f a0_1).bind fun t244 => (if t244.size + 1 ≤ 9223372036854775807 then ((bureauref18_digits.f k a0_2).bind fun t245 => (if (t244 ++ (⟨#[32]⟩ : ByteArray)).size + t245.size ≤ 9223372036854775807 then (if ((t244 ++ (⟨#[32]⟩ : ByteArray)) ++ t245).size + 1 ≤ 9223372036854775807 then ((bureauref18_digits.f k a0_3).bind fun t246 => (if (((t244 ++ (⟨#[32]⟩ : ByteArray)) ++ t245) ++ (⟨#[32]⟩ : ByteArray)).size + t246.size ≤ 9223372036854775807 then (if ((((t244 ++ (⟨#[32]⟩ : ByteArray)) ++ t245) ++ (⟨#[32]⟩ : ByteArray)) ++ t246).size + 1 ≤ 9223372036854775807 then ((bureauref18_digits.f k a0_4).bind fun t247 => (if (((((t244 ++ (⟨#[32]⟩ : ByteArray)) ++ t245) ++ (⟨#[32]⟩ : ByteArray)) ++ t246) ++ (⟨#[32]⟩ : ByteArray)).size + t247.size ≤ 9223372036854775807 then (if ((((((t244 ++ (⟨#[32]⟩ : ByteArray)) ++ t245) ++ (⟨#[32]⟩ : ByteArray)) ++ t246) ++ (⟨#[32]⟩ : ByteArray)) ++ t247).size + 1 ≤ 9223372036854775807 then ((bureauref01_Print.f k a0_0).bind fun t248 => (if (((((((t244 ++ (⟨#[32]⟩ : ByteArray)) ++ t245) ++ (⟨#[32]⟩ : ByteArray)) ++ t246) ++ (⟨#[32]⟩ : ByteArray)) ++ t247) ++ (⟨#[32]⟩ : ByteArray)).size + t248.size ≤ 9223372036854775807 then (some ((((((((t244 ++ (⟨#[32]⟩ : ByteArray)) ++ t245) ++ (⟨#[32]⟩ : ByteArray)) ++ t246) ++ (⟨#[32]⟩ : ByteArray)) ++ t247) ++ (⟨#[32]⟩ : ByteArray)) ++ t248, 0)) else (none))) else (none)) else (none))) else (none)) else (none))) else (none)) else (none))) else (none))) else (some ((⟨#[]⟩ : ByteArray), 2)))
def bureauref18_Print.T3 : Bool × List (List Nat × List Nat) := (true, [([], []), ([0], [0]), ([1], [1]), ([2], [2]), ([], []), ([4], [4]), ([5, 2], [5]), ([3, 6], [3, 6]), ([7], [7]), ([], []), ([9], [9]), ([10, 6], [10]), ([8, 11], [8, 11]), ([12], [12]), ([], []), ([14], [14]), ([15, 11], [15]), ([13, 16], [13, 16]), ([17], [17]), ([], []), ([19], [19]), ([20, 16], [20]), ([18, 21], [18, 21]), ([22, 21, 0, 1, 2, 3, 4, 5, 6, 7, 8, 9, 10, 11, 12, 13, 14, 15, 16, 17, 18, 19, 20, 21, 22], [22]), ([23, 0, 1, 2, 3, 4, 5, 6, 7, 8, 9, 10, 11, 12, 13, 14, 15, 16, 17, 18, 19, 20, 21, 22, 23], [])])
def bureauref18_Print.B3 : List Nat := [0, 1, 3, 7, 0, 16, 55, 127, 255, 0, 512, 1655, 4095, 8191, 0, 16384, 52855, 131071, 262143, 0, 524288, 1691255, 4194303, 8388607, 16777215]
theorem bureauref18_Print.tab3 : rtab .any (opsOf Tryd.f27 3) = bureauref18_Print.T3 := by kernel_rfl
theorem bureauref18_Print.bits3 : waitsOk bureauref18_Print.T3.2 bureauref18_Print.B3 = true := by kernel_rfl
set_option maxHeartbeats 8000000 in
set_option maxRecDepth 100000 in
theorem bureauref18_Print.calls (k : Nat) (a0_0 : Int) (a0_1 : Int) (a0_2 : Int) (a0_3 : Int) (a0_4 : Int) (r1 : ByteArray) (r2 : Int) (w : World) (h : bureauref18_Print.f k a0_0 a0_1 a0_2 a0_3 a0_4 = some (r1, r2)) :
  Calls Tryd.prog 27 #[.agg #[.int .u64 a0_0, .int .i64 a0_1, .int .i64 a0_2, .int .i64 a0_3, .int .i64 a0_4]] w fun e w' => e = .returned (.tuple #[.string r1, .int .i64 r2]) ∧ Below w.heap.size w w' := by
 have hu38 := Tryd.underlying38
 have HB := aM (Below.refl w.heap.size w)
 have H : ((bureauref18_May.f a0_0 a0_1 a0_2 a0_3 a0_4).bind fun t243 => (if t243 = true then ((bureauref18_word.f a0_1).bind fun t244 => (if t244.size + 1 ≤ 9223372036854775807 then ((bureauref18_digits.f k a0_2).bind fun t245 => (if (t244 ++ (⟨#[32]⟩ : ByteArray)).size + t245.size ≤ 9223372036854775807 then (if ((t244 ++ (⟨#[32]⟩ : ByteArray)) ++ t245).size + 1 ≤ 9223372036854775807 then ((bureauref18_digits.f k a0_3).bind fun t246 => (if (((t244 ++ (⟨#[32]⟩ : ByteArray)) ++ t245) ++ (⟨#[32]⟩ : ByteArray)).size + t246.size ≤ 9223372036854775807 then (if ((((t244 ++ (⟨#[32]⟩ : ByteArray)) ++ t245) ++ (⟨#[32]⟩ : ByteArray)) ++ t246).size + 1 ≤ 9223372036854775807 then ((bureauref18_digits.f k a0_4).bind fun t247 => (if (((((t244 ++ (⟨#[32]⟩ : ByteArray)) ++ t245) ++ (⟨#[32]⟩ : ByteArray)) ++ t246) ++ (⟨#[32]⟩ : ByteArray)).size + t247.size ≤ 9223372036854775807 then (if ((((((t244 ++ (⟨#[32]⟩ : ByteArray)) ++ t245) ++ (⟨#[32]⟩ : ByteArray)) ++ t246) ++ (⟨#[32]⟩ : ByteArray)) ++ t247).size + 1 ≤ 9223372036854775807 then ((bureauref01_Print.f k a0_0).bind fun t248 => (if (((((((t244 ++ (⟨#[32]⟩ : ByteArray)) ++ t245) ++ (⟨#[32]⟩ : ByteArray)) ++ t246) ++ (⟨#[32]⟩ : ByteArray)) ++ t247) ++ (⟨#[32]⟩ : ByteArray)).size + t248.size ≤ 9223372036854775807 then (some ((((((((t244 ++ (⟨#[32]⟩ : ByteArray)) ++ t245) ++ (⟨#[32]⟩ : ByteArray)) ++ t246) ++ (⟨#[32]⟩ : ByteArray)) ++ t247) ++ (⟨#[32]⟩ : ByteArray)) ++ t248, 0)) else (none))) else (none)) else (none))) else (none)) else (none))) else (none)) else (none))) else (none))) else (some ((⟨#[]⟩ : ByteArray), 2)))) = some (r1, r2) := h
 clear h
 replace H := Option.bind_eq_some_iff.mp H
 obtain ⟨t243, A20, H⟩ := H
 replace H : (if t243 = true then ((bureauref18_word.f a0_1).bind fun t244 => (if t244.size + 1 ≤ 9223372036854775807 then ((bureauref18_digits.f k a0_2).bind fun t245 => (if (t244 ++ (⟨#[32]⟩ : ByteArray)).size + t245.size ≤ 9223372036854775807 then (if ((t244 ++ (⟨#[32]⟩ : ByteArray)) ++ t245).size + 1 ≤ 9223372036854775807 then ((bureauref18_digits.f k a0_3).bind fun t246 => (if (((t244 ++ (⟨#[32]⟩ : ByteArray)) ++ t245) ++ (⟨#[32]⟩ : ByteArray)).size + t246.size ≤ 9223372036854775807 then (if ((((t244 ++ (⟨#[32]⟩ : ByteArray)) ++ t245) ++ (⟨#[32]⟩ : ByteArray)) ++ t246).size + 1 ≤ 9223372036854775807 then ((bureauref18_digits.f k a0_4).bind fun t247 => (if (((((t244 ++ (⟨#[32]⟩ : ByteArray)) ++ t245) ++ (⟨#[32]⟩ : ByteArray)) ++ t246) ++ (⟨#[32]⟩ : ByteArray)).size + t247.size ≤ 9223372036854775807 then (if ((((((t244 ++ (⟨#[32]⟩ : ByteArray)) ++ t245) ++ (⟨#[32]⟩ : ByteArray)) ++ t246) ++ (⟨#[32]⟩ : ByteArray)) ++ t247).size + 1 ≤ 9223372036854775807 then ((bureauref01_Print.f k a0_0).bind fun t248 => (if (((((((t244 ++ (⟨#[32]⟩ : ByteArray)) ++ t245) ++ (⟨#[32]⟩ : ByteArray)) ++ t246) ++ (⟨#[32]⟩ : ByteArray)) ++ t247) ++ (⟨#[32]⟩ : ByteArray)).size + t248.size ≤ 9223372036854775807 then (some ((((((((t244 ++ (⟨#[32]⟩ : ByteArray)) ++ t245) ++ (⟨#[32]⟩ : ByteArray)) ++ t246) ++ (⟨#[32]⟩ : ByteArray)) ++ t247) ++ (⟨#[32]⟩ : ByteArray)) ++ t248, 0)) else (none))) else (none)) else (none))) else (none)) else (none))) else (none)) else (none))) else (none))) else (some ((⟨#[]⟩ : ByteArray), 2))) = some (r1, r2) := H
 have A2 := aM A20
 clear A20
 by_cases c3 : t243 = true
 ·subst c3
  have H1 : ((bureauref18_word.f a0_1).bind fun t244 => (if t244.size + 1 ≤ 9223372036854775807 then ((bureauref18_digits.f k a0_2).bind fun t245 => (if (t244 ++ (⟨#[32]⟩ : ByteArray)).size + t245.size ≤ 9223372036854775807 then (if ((t244 ++ (⟨#[32]⟩ : ByteArray)) ++ t245).size + 1 ≤ 9223372036854775807 then ((bureauref18_digits.f k a0_3).bind fun t246 => (if (((t244 ++ (⟨#[32]⟩ : ByteArray)) ++ t245) ++ (⟨#[32]⟩ : ByteArray)).size + t246.size ≤ 9223372036854775807 then (if ((((t244 ++ (⟨#[32]⟩ : ByteArray)) ++ t245) ++ (⟨#[32]⟩ : ByteArray)) ++ t246).size + 1 ≤ 9223372036854775807 then ((bureauref18_digits.f k a0_4).bind fun t247 => (if (((((t244 ++ (⟨#[32]⟩ : ByteArray)) ++ t245) ++ (⟨#[32]⟩ : ByteArray)) ++ t246) ++ (⟨#[32]⟩ : ByteArray)).size + t247.size ≤ 9223372036854775807 then (if ((((((t244 ++ (⟨#[32]⟩ : ByteArray)) ++ t245) ++ (⟨#[32]⟩ : ByteArray)) ++ t246) ++ (⟨#[32]⟩ : ByteArray)) ++ t247).size + 1 ≤ 9223372036854775807 then ((bureauref01_Print.f k a0_0).bind fun t248 => (if (((((((t244 ++ (⟨#[32]⟩ : ByteArray)) ++ t245) ++ (⟨#[32]⟩ : ByteArray)) ++ t246) ++ (⟨#[32]⟩ : ByteArray)) ++ t247) ++ (⟨#[32]⟩ : ByteArray)).size + t248.size ≤ 9223372036854775807 then (some ((((((((t244 ++ (⟨#[32]⟩ : ByteArray)) ++ t245) ++ (⟨#[32]⟩ : ByteArray)) ++ t246) ++ (⟨#[32]⟩ : ByteArray)) ++ t247) ++ (⟨#[32]⟩ : ByteArray)) ++ t248, 0)) else (none))) else (none)) else (none))) else (none)) else (none))) else (none)) else (none))) else (none))) = some (r1, r2) := by rw [if_pos rfl] at H; exact H
  clear H
  have H := H1
  clear H1
  replace H := Option.bind_eq_some_iff.mp H
  obtain ⟨t244, A40, H⟩ := H
  replace H : (if t244.size + 1 ≤ 9223372036854775807 then ((bureauref18_digits.f k a0_2).bind fun t245 => (if (t244 ++ (⟨#[32]⟩ : ByteArray)).size + t245.size ≤ 9223372036854775807 then (if ((t244 ++ (⟨#[32]⟩ : ByteArray)) ++ t245).size + 1 ≤ 9223372036854775807 then ((bureauref18_digits.f k a0_3).bind fun t246 => (if (((t244 ++ (⟨#[32]⟩ : ByteArray)) ++ t245) ++ (⟨#[32]⟩ : ByteArray)).size + t246.size ≤ 9223372036854775807 then (if ((((t244 ++ (⟨#[32]⟩ : ByteArray)) ++ t245) ++ (⟨#[32]⟩ : ByteArray)) ++ t246).size + 1 ≤ 9223372036854775807 then ((bureauref18_digits.f k a0_4).bind fun t247 => (if (((((t244 ++ (⟨#[32]⟩ : ByteArray)) ++ t245) ++ (⟨#[32]⟩ : ByteArray)) ++ t246) ++ (⟨#[32]⟩ : ByteArray)).size + t247.size ≤ 9223372036854775807 then (if ((((((t244 ++ (⟨#[32]⟩ : ByteArray)) ++ t245) ++ (⟨#[32]⟩ : ByteArray)) ++ t246) ++ (⟨#[32]⟩ : ByteArray)) ++ t247).size + 1 ≤ 9223372036854775807 then ((bureauref01_Print.f k a0_0).bind fun t248 => (if (((((((t244 ++ (⟨#[32]⟩ : ByteArray)) ++ t245) ++ (⟨#[32]⟩ : ByteArray)) ++ t246) ++ (⟨#[32]⟩ : ByteArray)) ++ t247) ++ (⟨#[32]⟩ : ByteArray)).size + t248.size ≤ 9223372036854775807 then (some ((((((((t244 ++ (⟨#[32]⟩ : ByteArray)) ++ t245) ++ (⟨#[32]⟩ : ByteArray)) ++ t246) ++ (⟨#[32]⟩ : ByteArray)) ++ t247) ++ (⟨#[32]⟩ : ByteArray)) ++ t248, 0)) else (none))) else (none)) else (none))) else (none)) else (none))) else (none)) else (none))) else (none)) = some (r1, r2) := H
  have A4 := aM A40
  clear A40
  by_cases c5 : t244.size + 1 ≤ 9223372036854775807
  ·rw [if_pos c5] at H
   have c5b0 := eq_true c5
   have c5b1 : decide (t244.size + 1 ≤ 9223372036854775807) = true := decide_eq_true c5
   try have c5b2 : (9223372036854775807 < t244.size + 1) = False := eq_false (Nat.not_lt.2 c5)
   try (have c5e_ := Nat.not_lt.2 c5; simp only [ByteArray.size_append] at c5e_; have c5f_ := eq_false c5e_; clear c5e_)
   try (have c5c_ := c5; simp [go_sem] at c5c_; have c5d_ := eq_false (Nat.not_lt.2 c5c_); clear c5c_)
   replace H := Option.bind_eq_some_iff.mp H
   obtain ⟨t245, A60, H⟩ := H
   replace H : (if (t244 ++ (⟨#[32]⟩ : ByteArray)).size + t245.size ≤ 9223372036854775807 then (if ((t244 ++ (⟨#[32]⟩ : ByteArray)) ++ t245).size + 1 ≤ 9223372036854775807 then ((bureauref18_digits.f k a0_3).bind fun t246 => (if (((t244 ++ (⟨#[32]⟩ : ByteArray)) ++ t245) ++ (⟨#[32]⟩ : ByteArray)).size + t246.size ≤ 9223372036854775807 then (if ((((t244 ++ (⟨#[32]⟩ : ByteArray)) ++ t245) ++ (⟨#[32]⟩ : ByteArray)) ++ t246).size + 1 ≤ 9223372036854775807 then ((bureauref18_digits.f k a0_4).bind fun t247 => (if (((((t244 ++ (⟨#[32]⟩ : ByteArray)) ++ t245) ++ (⟨#[32]⟩ : ByteArray)) ++ t246) ++ (⟨#[32]⟩ : ByteArray)).size + t247.size ≤ 9223372036854775807 then (if ((((((t244 ++ (⟨#[32]⟩ : ByteArray)) ++ t245) ++ (⟨#[32]⟩ : ByteArray)) ++ t246) ++ (⟨#[32]⟩ : ByteArray)) ++ t247).size + 1 ≤ 9223372036854775807 then ((bureauref01_Print.f k a0_0).bind fun t248 => (if (((((((t244 ++ (⟨#[32]⟩ : ByteArray)) ++ t245) ++ (⟨#[32]⟩ : ByteArray)) ++ t246) ++ (⟨#[32]⟩ : ByteArray)) ++ t247) ++ (⟨#[32]⟩ : ByteArray)).size + t248.size ≤ 9223372036854775807 then (some ((((((((t244 ++ (⟨#[32]⟩ : ByteArray)) ++ t245) ++ (⟨#[32]⟩ : ByteArray)) ++ t246) ++ (⟨#[32]⟩ : ByteArray)) ++ t247) ++ (⟨#[32]⟩ : ByteArray)) ++ t248, 0)) else (none))) else (none)) else (none))) else (none)) else (none))) else (none)) else (none)) = some (r1, r2) := H
   have A6 := aM A60
   clear A60
   by_cases c7 : (t244 ++ (⟨#[32]⟩ : ByteArray)).size + t245.size ≤ 9223372036854775807
   ·rw [if_pos c7] at H
    have c7b0 := eq_true c7
    have c7b1 : decide ((t244 ++ (⟨#[32]⟩ : ByteArray)).size + t245.size ≤ 9223372036854775807) = true := decide_eq_true c7
    try have c7b2 : (9223372036854775807 < (t244 ++ (⟨#[32]⟩ : ByteArray)).size + t245.size) = False := eq_false (Nat.not_lt.2 c7)
    try (have c7e_ := Nat.not_lt.2 c7; simp only [ByteArray.size_append, (show (⟨#[32]⟩ : ByteArray).size = 1 from rfl)] at c7e_; have c7f_ := eq_false c7e_; clear c7e_)
    try (have c7c_ := c7; simp [go_sem, c5b0] at c7c_; have c7d_ := eq_false (Nat.not_lt.2 c7c_); clear c7c_)
    by_cases c8 : ((t244 ++ (⟨#[32]⟩ : ByteArray)) ++ t245).size + 1 ≤ 9223372036854775807
    ·rw [if_pos c8] at H
     have c8b0 := eq_true c8
     have c8b1 : decide (((t244 ++ (⟨#[32]⟩ : ByteArray)) ++ t245).size + 1 ≤ 9223372036854775807) = true := decide_eq_true c8
     try have c8b2 : (9223372036854775807 < ((t244 ++ (⟨#[32]⟩ : ByteArray)) ++ t245).size + 1) = False := eq_false (Nat.not_lt.2 c8)
     try (have c8e_ := Nat.not_lt.2 c8; simp only [ByteArray.size_append, (show (⟨#[32]⟩ : ByteArray).size = 1 from rfl)] at c8e_; have c8f_ := eq_false c8e_; clear c8e_)
     try (have c8c_ := c8; simp [go_sem, c5b0, c7b0] at c8c_; have c8d_ := eq_false (Nat.not_lt.2 c8c_); clear c8c_)
     replace H := Option.bind_eq_some_iff.mp H
     obtain ⟨t246, A90, H⟩ := H
     replace H : (if (((t244 ++ (⟨#[32]⟩ : ByteArray)) ++ t245) ++ (⟨#[32]⟩ : ByteArray)).size + t246.size ≤ 9223372036854775807 then (if ((((t244 ++ (⟨#[32]⟩ : ByteArray)) ++ t245) ++ (⟨#[32]⟩ : ByteArray)) ++ t246).size + 1 ≤ 9223372036854775807 then ((bureauref18_digits.f k a0_4).bind fun t247 => (if (((((t244 ++ (⟨#[32]⟩ : ByteArray)) ++ t245) ++ (⟨#[32]⟩ : ByteArray)) ++ t246) ++ (⟨#[32]⟩ : ByteArray)).size + t247.size ≤ 9223372036854775807 then (if ((((((t244 ++ (⟨#[32]⟩ : ByteArray)) ++ t245) ++ (⟨#[32]⟩ : ByteArray)) ++ t246) ++ (⟨#[32]⟩ : ByteArray)) ++ t247).size + 1 ≤ 9223372036854775807 then ((bureauref01_Print.f k a0_0).bind fun t248 => (if (((((((t244 ++ (⟨#[32]⟩ : ByteArray)) ++ t245) ++ (⟨#[32]⟩ : ByteArray)) ++ t246) ++ (⟨#[32]⟩ : ByteArray)) ++ t247) ++ (⟨#[32]⟩ : ByteArray)).size + t248.size ≤ 9223372036854775807 then (some ((((((((t244 ++ (⟨#[32]⟩ : ByteArray)) ++ t245) ++ (⟨#[32]⟩ : ByteArray)) ++ t246) ++ (⟨#[32]⟩ : ByteArray)) ++ t247) ++ (⟨#[32]⟩ : ByteArray)) ++ t248, 0)) else (none))) else (none)) else (none))) else (none)) else (none)) = some (r1, r2) := H
     have A9 := aM A90
     clear A90
     by_cases c10 : (((t244 ++ (⟨#[32]⟩ : ByteArray)) ++ t245) ++ (⟨#[32]⟩ : ByteArray)).size + t246.size ≤ 9223372036854775807
     ·rw [if_pos c10] at H
      have c10b0 := eq_true c10
      have c10b1 : decide ((((t244 ++ (⟨#[32]⟩ : ByteArray)) ++ t245) ++ (⟨#[32]⟩ : ByteArray)).size + t246.size ≤ 9223372036854775807) = true := decide_eq_true c10
      try have c10b2 : (9223372036854775807 < (((t244 ++ (⟨#[32]⟩ : ByteArray)) ++ t245) ++ (⟨#[32]⟩ : ByteArray)).size + t246.size) = False := eq_false (Nat.not_lt.2 c10)
      try (have c10e_ := Nat.not_lt.2 c10; simp only [ByteArray.size_append, (show (⟨#[32]⟩ : ByteArray).size = 1 from rfl)] at c10e_; have c10f_ := eq_false c10e_; clear c10e_)
      try (have c10c_ := c10; simp [go_sem, c5b0, c7b0, c8b0] at c10c_; have c10d_ := eq_false (Nat.not_lt.2 c10c_); clear c10c_)
      by_cases c11 : ((((t244 ++ (⟨#[32]⟩ : ByteArray)) ++ t245) ++ (⟨#[32]⟩ : ByteArray)) ++ t246).size + 1 ≤ 9223372036854775807
      ·rw [if_pos c11] at H
       have c11b0 := eq_true c11
       have c11b1 : decide (((((t244 ++ (⟨#[32]⟩ : ByteArray)) ++ t245) ++ (⟨#[32]⟩ : ByteArray)) ++ t246).size + 1 ≤ 9223372036854775807) = true := decide_eq_true c11
       try have c11b2 : (9223372036854775807 < ((((t244 ++ (⟨#[32]⟩ : ByteArray)) ++ t245) ++ (⟨#[32]⟩ : ByteArray)) ++ t246).size + 1) = False := eq_false (Nat.not_lt.2 c11)
       try (have c11e_ := Nat.not_lt.2 c11; simp only [ByteArray.size_append, (show (⟨#[32]⟩ : ByteArray).size = 1 from rfl)] at c11e_; have c11f_ := eq_false c11e_; clear c11e_)
       try (have c11c_ := c11; simp [go_sem, c5b0, c7b0, c8b0, c10b0] at c11c_; have c11d_ := eq_false (Nat.not_lt.2 c11c_); clear c11c_)
       replace H := Option.bind_eq_some_iff.mp H
       obtain ⟨t247, A120, H⟩ := H
       replace H : (if (((((t244 ++ (⟨#[32]⟩ : ByteArray)) ++ t245) ++ (⟨#[32]⟩ : ByteArray)) ++ t246) ++ (⟨#[32]⟩ : ByteArray)).size + t247.size ≤ 9223372036854775807 then (if ((((((t244 ++ (⟨#[32]⟩ : ByteArray)) ++ t245) ++ (⟨#[32]⟩ : ByteArray)) ++ t246) ++ (⟨#[32]⟩ : ByteArray)) ++ t247).size + 1 ≤ 9223372036854775807 then ((bureauref01_Print.f k a0_0).bind fun t248 => (if (((((((t244 ++ (⟨#[32]⟩ : ByteArray)) ++ t245) ++ (⟨#[32]⟩ : ByteArray)) ++ t246) ++ (⟨#[32]⟩ : ByteArray)) ++ t247) ++ (⟨#[32]⟩ : ByteArray)).size + t248.size ≤ 9223372036854775807 then (some ((((((((t244 ++ (⟨#[32]⟩ : ByteArray)) ++ t245) ++ (⟨#[32]⟩ : ByteArray)) ++ t246) ++ (⟨#[32]⟩ : ByteArray)) ++ t247) ++ (⟨#[32]⟩ : ByteArray)) ++ t248, 0)) else (none))) else (none)) else (none)) = some (r1, r2) := H
       have A12 := aM A120
       clear A120
       by_cases c13 : (((((t244 ++ (⟨#[32]⟩ : ByteArray)) ++ t245) ++ (⟨#[32]⟩ : ByteArray)) ++ t246) ++ (⟨#[32]⟩ : ByteArray)).size + t247.size ≤ 9223372036854775807
       ·rw [if_pos c13] at H
        have c13b0 := eq_true c13
        have c13b1 : decide ((((((t244 ++ (⟨#[32]⟩ : ByteArray)) ++ t245) ++ (⟨#[32]⟩ : ByteArray)) ++ t246) ++ (⟨#[32]⟩ : ByteArray)).size + t247.size ≤ 9223372036854775807) = true := decide_eq_true c13
        try have c13b2 : (9223372036854775807 < (((((t244 ++ (⟨#[32]⟩ : ByteArray)) ++ t245) ++ (⟨#[32]⟩ : ByteArray)) ++ t246) ++ (⟨#[32]⟩ : ByteArray)).size + t247.size) = False := eq_false (Nat.not_lt.2 c13)
        try (have c13e_ := Nat.not_lt.2 c13; simp only [ByteArray.size_append, (show (⟨#[32]⟩ : ByteArray).size = 1 from rfl)] at c13e_; have c13f_ := eq_false c13e_; clear c13e_)
        try (have c13c_ := c13; simp [go_sem, c5b0, c7b0, c8b0, c10b0, c11b0] at c13c_; have c13d_ := eq_false (Nat.not_lt.2 c13c_); clear c13c_)
        by_cases c14 : ((((((t244 ++ (⟨#[32]⟩ : ByteArray)) ++ t245) ++ (⟨#[32]⟩ : ByteArray)) ++ t246) ++ (⟨#[32]⟩ : ByteArray)) ++ t247).size + 1 ≤ 9223372036854775807
        ·rw [if_pos c14] at H
         have c14b0 := eq_true c14
         have c14b1 : decide (((((((t244 ++ (⟨#[32]⟩ : ByteArray)) ++ t245) ++ (⟨#[32]⟩ : ByteArray)) ++ t246) ++ (⟨#[32]⟩ : ByteArray)) ++ t247).size + 1 ≤ 9223372036854775807) = true := decide_eq_true c14
         try have c14b2 : (9223372036854775807 < ((((((t244 ++ (⟨#[32]⟩ : ByteArray)) ++ t245) ++ (⟨#[32]⟩ : ByteArray)) ++ t246) ++ (⟨#[32]⟩ : ByteArray)) ++ t247).size + 1) = False := eq_false (Nat.not_lt.2 c14)
         try (have c14e_ := Nat.not_lt.2 c14; simp only [ByteArray.size_append, (show (⟨#[32]⟩ : ByteArray).size = 1 from rfl)] at c14e_; have c14f_ := eq_false c14e_; clear c14e_)
         try (have c14c_ := c14; simp [go_sem, c5b0, c7b0, c8b0, c10b0, c11b0, c13b0] at c14c_; have c14d_ := eq_false (Nat.not_lt.2 c14c_); clear c14c_)
         replace H := Option.bind_eq_some_iff.mp H
         obtain ⟨t248, A150, H⟩ := H
         replace H : (if (((((((t244 ++ (⟨#[32]⟩ : ByteArray)) ++ t245) ++ (⟨#[32]⟩ : ByteArray)) ++ t246) ++ (⟨#[32]⟩ : ByteArray)) ++ t247) ++ (⟨#[32]⟩ : ByteArray)).size + t248.size ≤ 9223372036854775807 then (some ((((((((t244 ++ (⟨#[32]⟩ : ByteArray)) ++ t245) ++ (⟨#[32]⟩ : ByteArray)) ++ t246) ++ (⟨#[32]⟩ : ByteArray)) ++ t247) ++ (⟨#[32]⟩ : ByteArray)) ++ t248, 0)) else (none)) = some (r1, r2) := H
         have A15 := aM A150
         clear A150
         by_cases c16 : (((((((t244 ++ (⟨#[32]⟩ : ByteArray)) ++ t245) ++ (⟨#[32]⟩ : ByteArray)) ++ t246) ++ (⟨#[32]⟩ : ByteArray)) ++ t247) ++ (⟨#[32]⟩ : ByteArray)).size + t248.size ≤ 9223372036854775807
         ·rw [if_pos c16] at H
          have c16b0 := eq_true c16
          have c16b1 : decide ((((((((t244 ++ (⟨#[32]⟩ : ByteArray)) ++ t245) ++ (⟨#[32]⟩ : ByteArray)) ++ t246) ++ (⟨#[32]⟩ : ByteArray)) ++ t247) ++ (⟨#[32]⟩ : ByteArray)).size + t248.size ≤ 9223372036854775807) = true := decide_eq_true c16
          try have c16b2 : (9223372036854775807 < (((((((t244 ++ (⟨#[32]⟩ : ByteArray)) ++ t245) ++ (⟨#[32]⟩ : ByteArray)) ++ t246) ++ (⟨#[32]⟩ : ByteArray)) ++ t247) ++ (⟨#[32]⟩ : ByteArray)).size + t248.size) = False := eq_false (Nat.not_lt.2 c16)
          try (have c16e_ := Nat.not_lt.2 c16; simp only [ByteArray.size_append, (show (⟨#[32]⟩ : ByteArray).size = 1 from rfl)] at c16e_; have c16f_ := eq_false c16e_; clear c16e_)
          try (have c16c_ := c16; simp [go_sem, c5b0, c7b0, c8b0, c10b0, c11b0, c13b0, c14b0] at c16c_; have c16d_ := eq_false (Nat.not_lt.2 c16c_); clear c16c_)
          simp only [Option.some.injEq, Prod.mk.injEq] at H
          obtain ⟨rfl, rfl⟩ := H
          go_enter Tryd.func27, Tryd.ntmps27
          try go_wp2_with (first | ((with_reducible refine gate_dst (N := 1) rfl ?_); refine box_event ?hg (N := 1) ?hd (cs := #[.int .u64 a0_0, .int .i64 a0_1, .int .i64 a0_2, .int .i64 a0_3, .int .i64 a0_4]) (t := 38) ?hr ?_; (case hd | hg => rfl); (case hr => first | (go_simp; done) | (go_simp; rfl)); intro gb242 hg w17 hbox hb; have n0_ := aM (bP (ey HB.out) hb); have n1_ := aM (hbox); have n2_ := aM ((by rw [hg]; exact (bZ (ey HB.out)) : w.heap.size ≤ gb242)); have n3_ := n2_; clear HB; have HB := n0_; have BK242 := n1_; have GW242 := n2_; have GE242 := n3_; clear n0_ n1_ n2_ n3_; clear hb hbox hg; have hcz18_0 := zC BK242.out 0 (.int .u64 a0_0); have hcz18_1 := zC BK242.out 1 (.int .i64 a0_1); have hcz18_2 := zC BK242.out 2 (.int .i64 a0_2); have hcz18_3 := zC BK242.out 3 (.int .i64 a0_3); have hcz18_4 := zC BK242.out 4 (.int .i64 a0_4); have hfz18_0 := bF BK242.out 0; have hfz18_1 := bF BK242.out 1; have hfz18_2 := bF BK242.out 2; have hfz18_3 := bF BK242.out 3; have hfz18_4 := bF BK242.out 4) | ((with_reducible refine gate_callee (f := 30) rfl ?_); refine goesL_ (some 5) rfl rfl Tryd.func30 (by kernel_rfl) rfl #[.agg #[.int .u64 a0_0, .int .i64 a0_1, .int .i64 a0_2, .int .i64 a0_3, .int .i64 a0_4]] rfl (by (try simp only [mT, mC, mN]); first | done | rfl | (simp only [lD, lT]; rfl)) ?_; (with_reducible refine (bureauref18_May.calls a0_0 a0_1 a0_2 a0_3 a0_4 true _ A2.out).mono ?_); rintro e w19 ⟨rfl, hb⟩; refine ⟨_, rfl, ?_⟩; have n0_ := aM (bB (g := gb242) (qy BK242.out) hb); have n1_ := aM (bP (by repeat (first | (with_reducible first | exact HB.out | apply ea | apply en | apply ed | refine es ?_ GE242.out) | exact HB.out)) hb); clear BK242 HB; have BK242 := n0_; have HB := n1_; clear n0_ n1_; (try clear hb); (try clear hb2); (try clear hk); (try clear hi)))
          have n0_ := aM (blk_drew BK242.out)
          have n1_ := aM (below_drew1 HB.out)
          clear BK242
          clear HB
          have BK242 := n0_
          have HB := n1_
          clear n0_ n1_
          refine start_ (n := 25) (S := fun w' => w'.cell? ⟨gb242, 0, none⟩ = some (.int .u64 a0_0) ∧ w'.cell? ⟨gb242, 1, none⟩ = some (.int .i64 a0_1) ∧ w'.cell? ⟨gb242, 2, none⟩ = some (.int .i64 a0_2) ∧ w'.cell? ⟨gb242, 3, none⟩ = some (.int .i64 a0_3) ∧ w'.cell? ⟨gb242, 4, none⟩ = some (.int .i64 a0_4)) (ds := []) b20_ (by kernel_rfl) rfl rfl ⟨(bC BK242.out 0).trans rfl, (bC BK242.out 1).trans rfl, (bC BK242.out 2).trans rfl, (bC BK242.out 3).trans rfl, (bC BK242.out 4).trans rfl⟩ (fun hHeld => ?_); refine with_tabW bureauref18_Print.tab3 bureauref18_Print.bits3 (fun HT_ HW_ => ?_)
          generalize w19.drew = w20 at BK242 HB hHeld ⊢
          refine pure_ (i := 0) (N := some 7) (v := ?_) (a' := ?_) b21_ rfl rfl (any_of HT_.out (by kernel_rfl)) (fun _ _ _ h => h) (Or.inl ⟨by rfl, ?_⟩) ?_ ?_
          rotate_left
          ·intro w'
           go_simp
           with_reducible rfl
          rotate_left
          ·simp only [Act.put, sA, sZ, sS, i64_w, i32_w]
           rfl
          refine pure_ (i := 4) (N := some 11) (v := ?_) (a' := ?_) b22_ rfl rfl (any_of HT_.out (by kernel_rfl)) (fun _ _ _ h => h) (Or.inl ⟨by rfl, ?_⟩) ?_ ?_
          rotate_left
          ·intro w'
           go_simp
           with_reducible rfl
          rotate_left
          ·simp only [Act.put, sA, sZ, sS, i64_w, i32_w]
           rfl
          refine pure_ (i := 9) (N := some 16) (v := ?_) (a' := ?_) b23_ rfl rfl (any_of HT_.out (by kernel_rfl)) (fun _ _ _ h => h) (Or.inl ⟨by rfl, ?_⟩) ?_ ?_
          rotate_left
          ·intro w'
           go_simp
           with_reducible rfl
          rotate_left
          ·simp only [Act.put, sA, sZ, sS, i64_w, i32_w]
           rfl
          refine pure_ (i := 14) (N := some 21) (v := ?_) (a' := ?_) b24_ rfl rfl (any_of HT_.out (by kernel_rfl)) (fun _ _ _ h => h) (Or.inl ⟨by rfl, ?_⟩) ?_ ?_
          rotate_left
          ·intro w'
           go_simp
           with_reducible rfl
          rotate_left
          ·simp only [Act.put, sA, sZ, sS, i64_w, i32_w]
           rfl
          refine pure_ (i := 19) (N := some 26) (v := ?_) (a' := ?_) b25_ rfl rfl (any_of HT_.out (by kernel_rfl)) (fun _ _ _ h => h) (Or.inl ⟨by rfl, ?_⟩) ?_ ?_
          rotate_left
          ·intro w'
           go_simp
           with_reducible rfl
          rotate_left
          ·simp only [Act.put, sA, sZ, sS, i64_w, i32_w]
           rfl
          refine take_ (i := 1) (N := some 8) (v := ?_) (a' := ?_) b26_ rfl rfl (take_ofW HT_.out HW_.out (by kernel_rfl)) (fun _ _ _ h => h) (Or.inl ⟨by rfl, ?_⟩) hHeld ?_ ?_
          rotate_left
          ·rintro w' ⟨s0, s1, s2, s3, s4⟩
           go_simp
           with_reducible rfl
          rotate_left
          ·simp only [Act.put, sA, sZ, sS, i64_w, i32_w]
           rfl
          refine take_ (i := 5) (N := some 12) (v := ?_) (a' := ?_) b27_ rfl rfl (take_ofW HT_.out HW_.out (by kernel_rfl)) (fun _ _ _ h => h) (Or.inl ⟨by rfl, ?_⟩) hHeld ?_ ?_
          rotate_left
          ·rintro w' ⟨s0, s1, s2, s3, s4⟩
           go_simp
           with_reducible rfl
          rotate_left
          ·simp only [Act.put, sA, sZ, sS, i64_w, i32_w]
           rfl
          refine take_ (i := 10) (N := some 17) (v := ?_) (a' := ?_) b28_ rfl rfl (take_ofW HT_.out HW_.out (by kernel_rfl)) (fun _ _ _ h => h) (Or.inl ⟨by rfl, ?_⟩) hHeld ?_ ?_
          rotate_left
          ·rintro w' ⟨s0, s1, s2, s3, s4⟩
           go_simp
           with_reducible rfl
          rotate_left
          ·simp only [Act.put, sA, sZ, sS, i64_w, i32_w]
           rfl
          refine take_ (i := 15) (N := some 22) (v := ?_) (a' := ?_) b29_ rfl rfl (take_ofW HT_.out HW_.out (by kernel_rfl)) (fun _ _ _ h => h) (Or.inl ⟨by rfl, ?_⟩) hHeld ?_ ?_
          rotate_left
          ·rintro w' ⟨s0, s1, s2, s3, s4⟩
           go_simp
           with_reducible rfl
          rotate_left
          ·simp only [Act.put, sA, sZ, sS, i64_w, i32_w]
           rfl
          refine take_ (i := 20) (N := some 27) (v := ?_) (a' := ?_) b30_ rfl rfl (take_ofW HT_.out HW_.out (by kernel_rfl)) (fun _ _ _ h => h) (Or.inl ⟨by rfl, ?_⟩) hHeld ?_ ?_
          rotate_left
          ·rintro w' ⟨s0, s1, s2, s3, s4⟩
           go_simp
           with_reducible rfl
          rotate_left
          ·simp only [Act.put, sA, sZ, sS, i64_w, i32_w]
           rfl
          refine one_ (i := 2) (N := some 9) b31_ rfl rfl (one_of HT_.out (by kernel_rfl)) (by decide) (fun K hK => ?_)
          refine goes_ Tryd.func42 (by kernel_rfl) rfl #[.int .i64 a0_1] (by rfl) rfl rfl (by (try simp only [mT, mC, mN]); first | done | rfl | (simp only [lD, lT]; rfl)) ?_
          with_reducible refine (bureauref18_word.calls a0_1 t244 _ A4.out).mono ?_
          rintro e w' ⟨rfl, ⟨nd, rfl⟩⟩
          refine ⟨_, rfl, ?_⟩
          refine hK.out _ _ ⟨(bC BK242.out 0).trans rfl, (bC BK242.out 1).trans rfl, (bC BK242.out 2).trans rfl, (bC BK242.out 3).trans rfl, (bC BK242.out 4).trans rfl⟩ (fun hHeld => ?_)
          clear hK K
          refine norm_ (a' := ?_) ?_ ?_
          rotate_left
          ·show Act.put _ (some 9) _ = _
           simp only [Act.put, sA, sZ, sS, i64_w, i32_w]
           rfl
          refine pure_ (i := 3) (N := some 10) (v := ?_) (a' := ?_) b32_ rfl rfl (any_of HT_.out (by kernel_rfl)) (fun _ _ _ h => h) (Or.inl ⟨by rfl, ?_⟩) ?_ ?_
          rotate_left
          ·intro w'
           go_simp
           with_reducible rfl
          rotate_left
          ·simp only [Act.put, sA, sZ, sS, i64_w, i32_w]
           rfl
          refine one_ (i := 6) (N := some 13) b33_ rfl rfl (one_of HT_.out (by kernel_rfl)) (by decide) (fun K hK => ?_)
          refine goes_ Tryd.func43 (by kernel_rfl) rfl #[.int .i64 a0_2] (by rfl) rfl rfl (by (try simp only [mT, mC, mN]); first | done | rfl | (simp only [lD, lT]; rfl)) ?_
          with_reducible refine (bureauref18_digits.calls k a0_2 t245 _ A6.out).mono ?_
          rintro e w21 ⟨rfl, hb⟩
          refine ⟨_, rfl, ?_⟩
          have n0_ := aM (bB (g := gb242) (qy BK242.out) hb)
          have n1_ := aM (bP (by repeat (first | (with_reducible first | exact HB.out | apply ea | apply en | apply ed | refine es ?_ GE242.out) | exact HB.out)) hb)
          clear BK242
          clear HB
          have BK242 := n0_
          have HB := n1_
          clear n0_ n1_
          (try clear hb)
          (try clear hb2)
          (try clear hk)
          (try clear hi)
          refine hK.out _ _ ⟨(bC BK242.out 0).trans rfl, (bC BK242.out 1).trans rfl, (bC BK242.out 2).trans rfl, (bC BK242.out 3).trans rfl, (bC BK242.out 4).trans rfl⟩ (fun hHeld => ?_)
          clear hK K
          refine norm_ (a' := ?_) ?_ ?_
          rotate_left
          ·show Act.put _ (some 13) _ = _
           simp only [Act.put, sA, sZ, sS, i64_w, i32_w]
           rfl
          refine pure_ (i := 7) (N := some 14) (v := ?_) (a' := ?_) b34_ rfl rfl (any_of HT_.out (by kernel_rfl)) (fun _ _ _ h => h) (Or.inl ⟨by rfl, ?_⟩) ?_ ?_
          rotate_left
          ·intro w'
           go_simp
           with_reducible rfl
          rotate_left
          ·simp only [Act.put, sA, sZ, sS, i64_w, i32_w]
           rfl
          refine pure_ (i := 8) (N := some 15) (v := ?_) (a' := ?_) b35_ rfl rfl (any_of HT_.out (by kernel_rfl)) (fun _ _ _ h => h) (Or.inl ⟨by rfl, ?_⟩) ?_ ?_
          rotate_left
          ·intro w'
           go_simp
           with_reducible rfl
          rotate_left
          ·simp only [Act.put, sA, sZ, sS, i64_w, i32_w]
           rfl
          refine one_ (i := 11) (N := some 18) b36_ rfl rfl (one_of HT_.out (by kernel_rfl)) (by decide) (fun K hK => ?_)
          refine goes_ Tryd.func43 (by kernel_rfl) rfl #[.int .i64 a0_3] (by rfl) rfl rfl (by (try simp only [mT, mC, mN]); first | done | rfl | (simp only [lD, lT]; rfl)) ?_
          with_reducible refine (bureauref18_digits.calls k a0_3 t246 _ A9.out).mono ?_
          rintro e w22 ⟨rfl, hb⟩
          refine ⟨_, rfl, ?_⟩
          have n0_ := aM (bB (g := gb242) (qy BK242.out) hb)
          have n1_ := aM (bP (by repeat (first | (with_reducible first | exact HB.out | apply ea | apply en | apply ed | refine es ?_ GE242.out) | exact HB.out)) hb)
          clear BK242
          clear HB
          have BK242 := n0_
          have HB := n1_
          clear n0_ n1_
          (try clear hb)
          (try clear hb2)
          (try clear hk)
          (try clear hi)
          refine hK.out _ _ ⟨(bC BK242.out 0).trans rfl, (bC BK242.out 1).trans rfl, (bC BK242.out 2).trans rfl, (bC BK242.out 3).trans rfl, (bC BK242.out 4).trans rfl⟩ (fun hHeld => ?_)
          clear hK K
          refine norm_ (a' := ?_) ?_ ?_
          rotate_left
          ·show Act.put _ (some 18) _ = _
           simp only [Act.put, sA, sZ, sS, i64_w, i32_w]
           rfl
          refine pure_ (i := 12) (N := some 19) (v := ?_) (a' := ?_) b37_ rfl rfl (any_of HT_.out (by kernel_rfl)) (fun _ _ _ h => h) (Or.inl ⟨by rfl, ?_⟩) ?_ ?_
          rotate_left
          ·intro w'
           go_simp
           with_reducible rfl
          rotate_left
          ·simp only [Act.put, sA, sZ, sS, i64_w, i32_w]
           rfl
          refine pure_ (i := 13) (N := some 20) (v := ?_) (a' := ?_) b38_ rfl rfl (any_of HT_.out (by kernel_rfl)) (fun _ _ _ h => h) (Or.inl ⟨by rfl, ?_⟩) ?_ ?_
          rotate_left
          ·intro w'
           go_simp
           with_reducible rfl
          rotate_left
          ·simp only [Act.put, sA, sZ, sS, i64_w, i32_w]
           rfl
          refine one_ (i := 16) (N := some 23) b39_ rfl rfl (one_of HT_.out (by kernel_rfl)) (by decide) (fun K hK => ?_)
          refine goes_ Tryd.func43 (by kernel_rfl) rfl #[.int .i64 a0_4] (by rfl) rfl rfl (by (try simp only [mT, mC, mN]); first | done | rfl | (simp only [lD, lT]; rfl)) ?_
          with_reducible refine (bureauref18_digits.calls k a0_4 t247 _ A12.out).mono ?_
          rintro e w23 ⟨rfl, hb⟩
          refine ⟨_, rfl, ?_⟩
          have n0_ := aM (bB (g := gb242) (qy BK242.out) hb)
          have n1_ := aM (bP (by repeat (first | (with_reducible first | exact HB.out | apply ea | apply en | apply ed | refine es ?_ GE242.out) | exact HB.out)) hb)
          clear BK242
          clear HB
          have BK242 := n0_
          have HB := n1_
          clear n0_ n1_
          (try clear hb)
          (try clear hb2)
          (try clear hk)
          (try clear hi)
          refine hK.out _ _ ⟨(bC BK242.out 0).trans rfl, (bC BK242.out 1).trans rfl, (bC BK242.out 2).trans rfl, (bC BK242.out 3).trans rfl, (bC BK242.out 4).trans rfl⟩ (fun hHeld => ?_)
          clear hK K
          refine norm_ (a' := ?_) ?_ ?_
          rotate_left
          ·show Act.put _ (some 23) _ = _
           simp only [Act.put, sA, sZ, sS, i64_w, i32_w]
           rfl
          refine pure_ (i := 17) (N := some 24) (v := ?_) (a' := ?_) b40_ rfl rfl (any_of HT_.out (by kernel_rfl)) (fun _ _ _ h => h) (Or.inl ⟨by rfl, ?_⟩) ?_ ?_
          rotate_left
          ·intro w'
           go_simp
           with_reducible rfl
          rotate_left
          ·simp only [Act.put, sA, sZ, sS, i64_w, i32_w]
           rfl
          refine pure_ (i := 18) (N := some 25) (v := ?_) (a' := ?_) b41_ rfl rfl (any_of HT_.out (by kernel_rfl)) (fun _ _ _ h => h) (Or.inl ⟨by rfl, ?_⟩) ?_ ?_
          rotate_left
          ·intro w'
           go_simp
           with_reducible rfl
          rotate_left
          ·simp only [Act.put, sA, sZ, sS, i64_w, i32_w]
           rfl
          refine one_ (i := 21) (N := some 28) b42_ rfl rfl (one_of HT_.out (by kernel_rfl)) (by decide) (fun K hK => ?_)
          refine goes_ Tryd.func44 (by kernel_rfl) rfl #[.int .u64 a0_0] (by rfl) rfl rfl (by (try simp only [mT, mC, mN]); first | done | rfl | (simp only [lD, lT]; rfl)) ?_
          with_reducible refine (bureauref01_Print.calls k a0_0 t248 _ A15.out).mono ?_
          rintro e w24 ⟨rfl, hb⟩
          refine ⟨_, rfl, ?_⟩
          have n0_ := aM (bB (g := gb242) (qy BK242.out) hb)
          have n1_ := aM (bP (by repeat (first | (with_reducible first | exact HB.out | apply ea | apply en | apply ed | refine es ?_ GE242.out) | exact HB.out)) hb)
          clear BK242
          clear HB
          have BK242 := n0_
          have HB := n1_
          clear n0_ n1_
          (try clear hb)
          (try clear hb2)
          (try clear hk)
          (try clear hi)
          refine hK.out _ _ ⟨(bC BK242.out 0).trans rfl, (bC BK242.out 1).trans rfl, (bC BK242.out 2).trans rfl, (bC BK242.out 3).trans rfl, (bC BK242.out 4).trans rfl⟩ (fun hHeld => ?_)
          clear hK K
          refine norm_ (a' := ?_) ?_ ?_
          rotate_left
          ·show Act.put _ (some 28) _ = _
           simp only [Act.put, sA, sZ, sS, i64_w, i32_w]
           rfl
          refine pure_ (i := 22) (N := some 29) (v := ?_) (a' := ?_) b43_ rfl rfl (any_of HT_.out (by kernel_rfl)) (fun _ _ _ h => h) (Or.inl ⟨by rfl, ?_⟩) ?_ ?_
          rotate_left
          ·intro w'
           go_simp
           with_reducible rfl
          rotate_left
          ·simp only [Act.put, sA, sZ, sS, i64_w, i32_w]
           rfl
          refine pure_ (i := 23) (N := some 2) (v := ?_) (a' := ?_) b44_ rfl rfl (any_of HT_.out (by kernel_rfl)) (fun _ _ _ h => h) (Or.inl ⟨by rfl, ?_⟩) ?_ ?_
          rotate_left
          ·intro w'
           go_simp
           with_reducible rfl
          rotate_left
          ·simp only [Act.put, sA, sZ, sS, i64_w, i32_w]
           rfl
          refine pure_ (i := 24) (N := some 3) (v := ?_) (a' := ?_) b45_ rfl rfl (any_of HT_.out (by kernel_rfl)) (fun _ _ _ h => h) (Or.inl ⟨by rfl, ?_⟩) ?_ ?_
          rotate_left
          ·intro w'
           go_simp
           with_reducible rfl
          rotate_left
          ·simp only [Act.put, sA, sZ, sS, i64_w, i32_w]
           rfl
          refine done_ (done_of HT_.out (by kernel_rfl)) ?_
          try go_wp2
          go_ret2
          exact ⟨by first | rfl | (simp [errW_none, errW_some] <;> rfl) | (simp [*, errW_none, errW_some] <;> rfl), by repeat (first | (with_reducible first | exact HB.out | apply ea | apply en | apply ed | refine es ?_ GE242.out) | exact HB.out)⟩
         ·rw [if_neg c16] at H
          exact absurd H (by simp)
        ·rw [if_neg c14] at H
         exact absurd H (by simp)
       ·rw [if_neg c13] at H
        exact absurd H (by simp)
      ·rw [if_neg c11] at H
       exact absurd H (by simp)
     ·rw [if_neg c10] at H
      exact absurd H (by simp)
    ·rw [if_neg c8] at H
     exact absurd H (by simp)
   ·rw [if_neg c7] at H
    exact absurd H (by simp)
  ·rw [if_neg c5] at H
   exact absurd H (by simp)
 ·replace c3 := Bool.eq_false_iff.mpr c3
  subst c3
  have H1 : (some ((⟨#[]⟩ : ByteArray), 2)) = some (r1, r2) := by rw [if_neg (show ¬ (false = true) by decide)] at H; exact H
  clear H
  have H := H1
  clear H1
  simp only [Option.some.injEq, Prod.mk.injEq] at H
  obtain ⟨rfl, rfl⟩ := H
  go_enter Tryd.func27, Tryd.ntmps27
  go_wp2_with (first | ((with_reducible refine gate_dst (N := 1) rfl ?_); refine box_event ?hg (N := 1) ?hd (cs := #[.int .u64 a0_0, .int .i64 a0_1, .int .i64 a0_2, .int .i64 a0_3, .int .i64 a0_4]) (t := 38) ?hr ?_; (case hd | hg => rfl); (case hr => first | (go_simp; done) | (go_simp; rfl)); intro gb242 hg w25 hbox hb; have n0_ := aM (bP (ey HB.out) hb); have n1_ := aM (hbox); have n2_ := aM ((by rw [hg]; exact (bZ (ey HB.out)) : w.heap.size ≤ gb242)); have n3_ := n2_; clear HB; have HB := n0_; have BK242 := n1_; have GW242 := n2_; have GE242 := n3_; clear n0_ n1_ n2_ n3_; clear hb hbox hg; have hcz26_0 := zC BK242.out 0 (.int .u64 a0_0); have hcz26_1 := zC BK242.out 1 (.int .i64 a0_1); have hcz26_2 := zC BK242.out 2 (.int .i64 a0_2); have hcz26_3 := zC BK242.out 3 (.int .i64 a0_3); have hcz26_4 := zC BK242.out 4 (.int .i64 a0_4); have hfz26_0 := bF BK242.out 0; have hfz26_1 := bF BK242.out 1; have hfz26_2 := bF BK242.out 2; have hfz26_3 := bF BK242.out 3; have hfz26_4 := bF BK242.out 4) | ((with_reducible refine gate_callee (f := 30) rfl ?_); refine goesL_ (some 5) rfl rfl Tryd.func30 (by kernel_rfl) rfl #[.agg #[.int .u64 a0_0, .int .i64 a0_1, .int .i64 a0_2, .int .i64 a0_3, .int .i64 a0_4]] rfl (by (try simp only [mT, mC, mN]); first | done | rfl | (simp only [lD, lT]; rfl)) ?_; (with_reducible refine (bureauref18_May.calls a0_0 a0_1 a0_2 a0_3 a0_4 false _ A2.out).mono ?_); rintro e w27 ⟨rfl, hb⟩; refine ⟨_, rfl, ?_⟩; have n0_ := aM (bB (g := gb242) (qy BK242.out) hb); have n1_ := aM (bP (by repeat (first | (with_reducible first | exact HB.out | apply ea | apply en | apply ed | refine es ?_ GE242.out) | exact HB.out)) hb); clear BK242 HB; have BK242 := n0_; have HB := n1_; clear n0_ n1_; (try clear hb); (try clear hb2); (try clear hk); (try clear hi)))
  go_ret2
  exact ⟨by first | rfl | (simp [errW_none, errW_some] <;> rfl) | (simp [*, errW_none, errW_some] <;> rfl), by repeat (first | (with_reducible first | exact HB.out | apply ea | apply en | apply ed | refine es ?_ GE242.out) | exact HB.out)⟩
end Go.Proofs.YtcbiilbmldinhaaDoor.PB
end

section
namespace Go.Proofs.YtcbiilbmldinhaaDoor.PB
open Go.RowKit Go.Proofs.YtcbiilbmldinhaaDoorW.PrintWords Go.Proofs.YtcbiilbmldinhaaDoorW.PrintLast Go.Proofs.YtcbiilbmldinhaaDoorW.PrintMore
attribute [local go_sem] max2_int min2_int max_two min_two max_three min_three max_four min_four   
set_option linter.unusedVariables false
set_option linter.unusedSimpArgs false
def bureauref18_parts.l0 : Nat → ByteArray → List ByteArray → Int → Int → Option (List ByteArray)
 | 0, _, _, _, _ => none
 | k + 1, x0, x3, x4, x5 => if x5 ≤ (x0.size : Int) then (if x5 = (x0.size : Int) then (if 0 ≤ x4 then (if x4 ≤ x5 then (if x3.length < 8796093022208 then (bureauref18_parts.l0 k x0 (x3 ++ [x0.extract (x4 : Int).toNat (x5 : Int).toNat]) (wrap64 (x5 + 1)) (wrap64 (x5 + 1))) else (none)) else (none)) else (none)) else (if 0 ≤ x5 then (if x5 < (x0.size : Int) then (if (bt x0 x5) = 32 then (if 0 ≤ x4 then (if x4 ≤ x5 then (if x3.length < 8796093022208 then (bureauref18_parts.l0 k x0 (x3 ++ [x0.extract (x4 : Int).toNat (x5 : Int).toNat]) (wrap64 (x5 + 1)) (wrap64 (x5 + 1))) else (none)) else (none)) else (none)) else (bureauref18_parts.l0 k x0 x3 x4 (wrap64 (x5 + 1)))) else (none)) else (none))) else (some x3)
def bureauref18_parts.f (k : Nat) (a0 : ByteArray) : Option (List ByteArray) := bureauref18_parts.l0 k a0 ([] : List ByteArray) 0 0
set_option maxHeartbeats 8000000 in
set_option maxRecDepth 100000 in
theorem bureauref18_parts.calls (k : Nat) (a0 : ByteArray) (r : List ByteArray) (w : World) (h : bureauref18_parts.f k a0 = some r) :
  Calls Tryd.prog 48 #[.string a0] w fun e w' => ∃ v0_ : Value, e = .returned (v0_) ∧ Kd.R Kd.string 9 w' w.heap.size (fun _ => True) v0_ r ∧ Below w.heap.size w w' := by
 have HB := aM (Below.refl w.heap.size w)
 have H : (bureauref18_parts.l0 k a0 ([] : List ByteArray) 0 0) = some r := h
 clear h
 have H' := aM H
 clear H
 go_enter Tryd.func48, Tryd.ntmps48
 go_wp2
 go_loopg [3, 4, 5] k (fun kq v3 v4 v5 w' => ∃ (x3_1 : List ByteArray) (x4_1 : Int) (x5_1 : Int), v4 = .int .i64 x4_1 ∧ v5 = .int .i64 x5_1 ∧ Aside0 (bureauref18_parts.l0 kq a0 x3_1 x4_1 x5_1 = some r) ∧ Aside0 (kq ≤ k) ∧ Aside0 (Kd.R Kd.string 9 w' w.heap.size (fun _ => True) v3 x3_1) ∧ Aside0 (Below w.heap.size w w'))
 case atStart => exact ⟨(([] : List ByteArray)), (0), (0), (by first | rfl | (simp; done) | (simp [*]; done)), (by first | rfl | (simp; done) | (simp [*]; done)), H', ⟨Nat.le_refl _⟩, ⟨by first | exact Kd.R_nil _ _ _ _ _ | exact Kd.N_nil _ _ _ _ _ | exact Kd.V_nil _ _ _ _ _ | exact Kd.Q_nil _ _ _ _ _ | exact Kd.S_nil _ _ _ _ _⟩, ⟨by exact ey HB.out⟩⟩
 case round =>
  clear H'
  obtain ⟨x3_1, x4_1, x5_1, rfl, rfl, HA, HK1, HO_3, HB⟩ := hrel
  cases gk with
  | zero => exact absurd HA.out (by simp [bureauref18_parts.l0])
  | succ k1 =>
   have H := HA.out
   clear HA
   simp only [bureauref18_parts.l0] at H
   by_cases c2 : x5_1 ≤ (a0.size : Int)
   ·rw [if_pos c2] at H
    have c2b0 : decide (x5_1 ≤ (a0.size : Int)) = true := decide_eq_true c2
    clear c2
    by_cases c3 : x5_1 = (a0.size : Int)
    ·rw [if_pos c3] at H
     have c3b0 : (x5_1 == (a0.size : Int)) = true := beq_iff_eq.mpr c3
     have c3b1 : (x5_1 != (a0.size : Int)) = false := bne_eq_false_iff_eq.mpr c3
     clear c3
     by_cases c4 : 0 ≤ x4_1
     ·rw [if_pos c4] at H
      have c4b0 := eq_true c4
      have c4b1 : decide (0 ≤ x4_1) = true := decide_eq_true c4
      clear c4
      by_cases c5 : x4_1 ≤ x5_1
      ·rw [if_pos c5] at H
       have c5b0 := eq_true c5
       have c5b1 : decide (x4_1 ≤ x5_1) = true := decide_eq_true c5
       clear c5
       have c6b0 := eq_true (of_decide_eq_true (by first | (with_reducible assumption) | assumption) : x5_1 ≤ (a0.size : Int))
       by_cases c7 : x3_1.length < 8796093022208
       ·rw [if_pos c7] at H
        have LMc7 := aM c7
        clear c7
        obtain ⟨y272, hy272⟩ : ∃ y_ : List ByteArray, y_ = (x3_1 ++ [a0.extract (x4_1 : Int).toNat (x5_1 : Int).toNat]) := ⟨_, rfl⟩
        replace H : (bureauref18_parts.l0 k1 a0 y272 (wrap64 (x5_1 + 1)) (wrap64 (x5_1 + 1))) = some r := by first | (rw [hy272]; with_reducible exact H) | (have H2_ := (Option.bind_some _ _).symm.trans H; rw [hy272]; with_reducible exact H2_) | (have H2_ := (Option.bind_some _ _).symm.trans H; with_reducible exact H2_) | with_reducible exact H | (rw [hy272]; exact H) | exact H
        have Ny272 := aM hy272
        clear hy272
        have H' := aM H
        clear H
        go_wp2_with (first | ((with_reducible refine gate_builtin (b := .append) (xs := #[.tmp 22, .tmp 27]) rfl ?_); at_builtin; refine Kd.R_append Kd.string (w0 := w) w.heap.size rfl (.tmp 22) (.tmp 27) 77 9 (.string ⟨#[]⟩) 16 rfl Tryd.underlying77 info9 rfl (by decide) (by omega) u3 x3_1 (a0.extract (x4_1 : Int).toNat (x5_1 : Int).toNat) [.string (a0.extract (x4_1 : Int).toNat (x5_1 : Int).toNat)] (fun _ => True) (fun _ => False) rfl rfl ?aP (fun _ hk => hk.elim) ?aF ?aO ?aB ?aS ?aL ?_; (case aP => exact rfl); (case aB => exact (ey HB.out)); (case aF => exact (fun _ _ => trivial)); (case aO => exact (ry HO_3.out)); (case aS => exact (bZ (ey HB.out))); (case aL => have := LMc7.out; omega); intro v273 w8 ho hb hg hat; rw [← Ny272.out] at ho; have n0_ := aM (hb); have n1_ := aM (ho); clear HB HO_3; have HB := n0_; have HO274 := n1_; clear n0_ n1_; clear ho hb hg hat))
        go_roundg k1
        case measure => have := HK1.out; omega
        case rel => exact ⟨(y272), (wrap64 (x5_1 + 1)), (wrap64 (x5_1 + 1)), (by first | rfl | (simp; done) | (simp [*]; done)), (by first | rfl | (simp; done) | (simp [*]; done)), H', ⟨by have := HK1.out; omega⟩, ⟨by exact ry HO274.out⟩, ⟨by exact ey HB.out⟩⟩
       ·rw [if_neg c7] at H
        exact absurd H (by simp)
      ·rw [if_neg c5] at H
       exact absurd H (by simp)
     ·rw [if_neg c4] at H
      exact absurd H (by simp)
    ·rw [if_neg c3] at H
     have c3b0 : (x5_1 == (a0.size : Int)) = false := beq_eq_false_iff_ne.mpr c3
     have c3b1 : (x5_1 != (a0.size : Int)) = true := bne_iff_ne.mpr c3
     by_cases c9 : 0 ≤ x5_1
     ·rw [if_pos c9] at H
      have c9b0 : decide (0 ≤ x5_1) = true := decide_eq_true c9
      clear c9
      by_cases c10 : x5_1 < (a0.size : Int)
      ·rw [if_pos c10] at H
       have c10b0 : decide (x5_1 < (a0.size : Int)) = true := decide_eq_true c10
       clear c10
       by_cases c12 : (bt a0 x5_1) = 32
       ·rw [if_pos c12] at H
        have c12b0 : ((bt a0 x5_1) == 32) = true := beq_iff_eq.mpr c12
        have c12b1 : ((bt a0 x5_1) != 32) = false := bne_eq_false_iff_eq.mpr c12
        clear c12
        by_cases c13 : 0 ≤ x4_1
        ·rw [if_pos c13] at H
         have c13b0 := eq_true c13
         have c13b1 : decide (0 ≤ x4_1) = true := decide_eq_true c13
         clear c13
         by_cases c14 : x4_1 ≤ x5_1
         ·rw [if_pos c14] at H
          have c14b0 := eq_true c14
          have c14b1 : decide (x4_1 ≤ x5_1) = true := decide_eq_true c14
          clear c14
          have c15b0 := eq_true (of_decide_eq_true (by first | (with_reducible assumption) | assumption) : x5_1 ≤ (a0.size : Int))
          by_cases c16 : x3_1.length < 8796093022208
          ·rw [if_pos c16] at H
           have LMc16 := aM c16
           clear c16
           obtain ⟨y275, hy275⟩ : ∃ y_ : List ByteArray, y_ = (x3_1 ++ [a0.extract (x4_1 : Int).toNat (x5_1 : Int).toNat]) := ⟨_, rfl⟩
           replace H : (bureauref18_parts.l0 k1 a0 y275 (wrap64 (x5_1 + 1)) (wrap64 (x5_1 + 1))) = some r := by first | (rw [hy275]; with_reducible exact H) | (have H2_ := (Option.bind_some _ _).symm.trans H; rw [hy275]; with_reducible exact H2_) | (have H2_ := (Option.bind_some _ _).symm.trans H; with_reducible exact H2_) | with_reducible exact H | (rw [hy275]; exact H) | exact H
           have Ny275 := aM hy275
           clear hy275
           have H' := aM H
           clear H
           have p11 : 0 ≤ (x5_1 : Int) := of_decide_eq_true (by first | (with_reducible assumption) | assumption)
           have q11 : x5_1 < (a0.size : Int) := of_decide_eq_true (by first | (with_reducible assumption) | assumption)
           have hx11 := bt_at a0 x5_1
           replace p11 := eq_true p11
           replace q11 := eq_true q11
           go_wp2_with (first | ((with_reducible refine gate_builtin (b := .append) (xs := #[.tmp 22, .tmp 27]) rfl ?_); at_builtin; refine Kd.R_append Kd.string (w0 := w) w.heap.size rfl (.tmp 22) (.tmp 27) 77 9 (.string ⟨#[]⟩) 16 rfl Tryd.underlying77 info9 rfl (by decide) (by omega) u3 x3_1 (a0.extract (x4_1 : Int).toNat (x5_1 : Int).toNat) [.string (a0.extract (x4_1 : Int).toNat (x5_1 : Int).toNat)] (fun _ => True) (fun _ => False) rfl rfl ?aP (fun _ hk => hk.elim) ?aF ?aO ?aB ?aS ?aL ?_; (case aP => exact rfl); (case aB => exact (ey HB.out)); (case aF => exact (fun _ _ => trivial)); (case aO => exact (ry HO_3.out)); (case aS => exact (bZ (ey HB.out))); (case aL => have := LMc16.out; omega); intro v276 w17 ho hb hg hat; rw [← Ny275.out] at ho; have n0_ := aM (hb); have n1_ := aM (ho); clear HB HO_3; have HB := n0_; have HO277 := n1_; clear n0_ n1_; clear ho hb hg hat))
           go_roundg k1
           case measure => have := HK1.out; omega
           case rel => exact ⟨(y275), (wrap64 (x5_1 + 1)), (wrap64 (x5_1 + 1)), (by first | rfl | (simp; done) | (simp [*]; done)), (by first | rfl | (simp; done) | (simp [*]; done)), H', ⟨by have := HK1.out; omega⟩, ⟨by exact ry HO277.out⟩, ⟨by exact ey HB.out⟩⟩
          ·rw [if_neg c16] at H
           exact absurd H (by simp)
         ·rw [if_neg c14] at H
          exact absurd H (by simp)
        ·rw [if_neg c13] at H
         exact absurd H (by simp)
       ·rw [if_neg c12] at H
        have c12b0 : ((bt a0 x5_1) == 32) = false := beq_eq_false_iff_ne.mpr c12
        have c12b1 : ((bt a0 x5_1) != 32) = true := bne_iff_ne.mpr c12
        have H' := aM H
        clear H
        have p11 : 0 ≤ (x5_1 : Int) := of_decide_eq_true (by first | (with_reducible assumption) | assumption)
        have q11 : x5_1 < (a0.size : Int) := of_decide_eq_true (by first | (with_reducible assumption) | assumption)
        have hx11 := bt_at a0 x5_1
        replace p11 := eq_true p11
        replace q11 := eq_true q11
        go_wp2
        go_roundg k1
        case measure => have := HK1.out; omega
        case rel => exact ⟨(x3_1), (x4_1), (wrap64 (x5_1 + 1)), (by first | rfl | (simp; done) | (simp [*]; done)), (by first | rfl | (simp; done) | (simp [*]; done)), H', ⟨by have := HK1.out; omega⟩, ⟨by exact ry HO_3.out⟩, ⟨by exact ey HB.out⟩⟩
      ·rw [if_neg c10] at H
       exact absurd H (by simp)
     ·rw [if_neg c9] at H
      exact absurd H (by simp)
   ·rw [if_neg c2] at H
    have c2b0 : decide (x5_1 ≤ (a0.size : Int)) = false := decide_eq_false c2
    clear c2
    obtain rfl := Option.some.inj H
    go_wp2
    go_ret
    exact ⟨_, by first | rfl | (simp [errW_none, errW_some] <;> rfl) | (simp [*, errW_none, errW_some] <;> rfl), by exact ry HO_3.out, by exact ey HB.out⟩
end Go.Proofs.YtcbiilbmldinhaaDoor.PB
end

section
namespace Go.Proofs.YtcbiilbmldinhaaDoor.PB
open Go.RowKit Go.Proofs.YtcbiilbmldinhaaDoorW.PrintWords Go.Proofs.YtcbiilbmldinhaaDoorW.PrintLast Go.Proofs.YtcbiilbmldinhaaDoorW.PrintMore
attribute [local go_sem] max2_int min2_int max_two min_two max_three min_three max_four min_four   
set_option linter.unusedVariables false
set_option linter.unusedSimpArgs false
mutual
def bureauref18_number.l0 : Nat → ByteArray → Int → Int → Option (Int)
 | 0, _, _, _ => none
 | k + 1, x0, x3, x4 => if x4 < (x0.size : Int) then (bureauref18_number.j1 k x0 x3 x4 (decide (x3 ≤ 65535))) else (bureauref18_number.j1 k x0 x3 x4 false)
def bureauref18_number.j1 : Nat → ByteArray → Int → Int → Bool → Option (Int)
 | 0, _, _, _, _ => none
 | k + 1, x0, x3, x4, x12 => if x12 = true then (if 0 ≤ x4 then (if x4 < (x0.size : Int) then (if (bt x0 x4) < 48 then (some 65536) else (if (bt x0 x4) > 57 then (some 65536) else (bureauref18_number.l0 k x0 (wrap64 ((wrap64 (x3 * 10)) + (((bt x0 x4) - 48) % 256))) (wrap64 (x4 + 1))))) else (none)) else (none)) else (some x3)
end
def bureauref18_number.f (k : Nat) (a0 : ByteArray) : Option (Int) := bureauref18_number.l0 k a0 0 0
set_option maxHeartbeats 8000000 in
set_option maxRecDepth 100000 in
theorem bureauref18_number.calls (k : Nat) (a0 : ByteArray) (r : Int) (w : World) (h : bureauref18_number.f k a0 = some r) :
  Calls Tryd.prog 50 #[.string a0] w fun e w' => e = .returned (.int .i64 r) ∧ Drawn0 w w' := by
 have H : (bureauref18_number.l0 k a0 0 0) = some r := h
 clear h
 have H' := aM H
 clear H
 go_enter Tryd.func50, Tryd.ntmps50
 go_wp2
 go_loopg [3, 4] k (fun kq v3 v4 w' => ∃ (x3_1 : Int) (x4_1 : Int), v3 = .int .i64 x3_1 ∧ v4 = .int .i64 x4_1 ∧ Aside0 (bureauref18_number.l0 kq a0 x3_1 x4_1 = some r) ∧ Aside0 (kq ≤ k) ∧ Drawn0 w w')
 case atStart => exact ⟨(0), (0), (by first | rfl | (simp; done) | (simp [*]; done)), (by first | rfl | (simp; done) | (simp [*]; done)), H', ⟨Nat.le_refl _⟩, by repeat (first | exact Drawn0.refl _ | apply Drawn0.step)⟩
 case round =>
  clear H'
  obtain ⟨x3_1, x4_1, rfl, rfl, HA, HK1, ⟨m1, rfl⟩⟩ := hrel
  cases gk with
  | zero => exact absurd HA.out (by simp [bureauref18_number.l0])
  | succ k1 =>
   have H := HA.out
   clear HA
   simp only [bureauref18_number.l0] at H
   have HC2 := aM H
   clear H
   go_upto_region 3 with (fail)
   go_cut [12] (fun v12 wc => ∃ (kq : Nat) (x12_1 : Bool), v12 = .bool x12_1 ∧ Aside0 (bureauref18_number.j1 kq a0 x3_1 x4_1 x12_1 = some r) ∧ Aside0 (kq ≤ k1) ∧ Drawn0 w wc)
   case first =>
    have H := HC2.out
    clear HC2
    by_cases c3 : x4_1 < (a0.size : Int)
    ·rw [if_pos c3] at H
     have c3b0 : decide (x4_1 < (a0.size : Int)) = true := decide_eq_true c3
     clear c3
     (first | rw [c3b0] | (simp only [i64_w, i32_w]; rw [c3b0]) | skip)
     have H' := aM H
     clear H
     go_wp2
     go_meet
     case rel => exact ⟨_, (decide (x3_1 ≤ 65535)), (by first | rfl | (simp; done) | (simp [*]; done)), H', ⟨by have := HK1.out; first | omega | exact Nat.le_refl _⟩, by repeat (first | exact Drawn0.refl _ | apply Drawn0.step)⟩
    ·rw [if_neg c3] at H
     have c3b0 : decide (x4_1 < (a0.size : Int)) = false := decide_eq_false c3
     clear c3
     (first | rw [c3b0] | (simp only [i64_w, i32_w]; rw [c3b0]) | skip)
     have H' := aM H
     clear H
     go_wp2
     go_meet
     case rel => exact ⟨_, (false), (by first | rfl | (simp; done) | (simp [*]; done)), H', ⟨by have := HK1.out; first | omega | exact Nat.le_refl _⟩, by repeat (first | exact Drawn0.refl _ | apply Drawn0.step)⟩
   case rest =>
    clear HC2
    try clear p2
    try clear c3
    try clear c3b0
    obtain ⟨kq, x12_1, rfl, HA, HJ1, ⟨mc1, rfl⟩⟩ := hcut
    cases kq with
    | zero => exact absurd HA.out (by simp [bureauref18_number.j1])
    | succ kj1 =>
     have H := HA.out
     clear HA
     simp only [bureauref18_number.j1] at H
     by_cases c4 : x12_1 = true
     ·subst c4
      have H1 : (if 0 ≤ x4_1 then (if x4_1 < (a0.size : Int) then (if (bt a0 x4_1) < 48 then (some 65536) else (if (bt a0 x4_1) > 57 then (some 65536) else (bureauref18_number.l0 kj1 a0 (wrap64 ((wrap64 (x3_1 * 10)) + (((bt a0 x4_1) - 48) % 256))) (wrap64 (x4_1 + 1))))) else (none)) else (none)) = some r := by rw [if_pos rfl] at H; exact H
      clear H
      have H := H1
      clear H1
      by_cases c5 : 0 ≤ x4_1
      ·rw [if_pos c5] at H
       have c5b0 : decide (0 ≤ x4_1) = true := decide_eq_true c5
       clear c5
       by_cases c6 : x4_1 < (a0.size : Int)
       ·rw [if_pos c6] at H
        have c6b0 : decide (x4_1 < (a0.size : Int)) = true := decide_eq_true c6
        clear c6
        by_cases c8 : (bt a0 x4_1) < 48
        ·rw [if_pos c8] at H
         have c8b0 : decide ((bt a0 x4_1) < 48) = true := decide_eq_true c8
         clear c8
         obtain rfl := Option.some.inj H
         have p7 : 0 ≤ (x4_1 : Int) := of_decide_eq_true (by first | (with_reducible assumption) | assumption)
         have q7 : x4_1 < (a0.size : Int) := of_decide_eq_true (by first | (with_reducible assumption) | assumption)
         have hx7 := bt_at a0 x4_1
         replace p7 := eq_true p7
         replace q7 := eq_true q7
         go_wp2
         go_ret
         exact ⟨by first | rfl | (simp; done) | (simp [*]; done), by repeat (first | exact Drawn0.refl _ | apply Drawn0.step)⟩
        ·rw [if_neg c8] at H
         have c8b0 : decide ((bt a0 x4_1) < 48) = false := decide_eq_false c8
         clear c8
         by_cases c10 : (bt a0 x4_1) > 57
         ·rw [if_pos c10] at H
          have c10b0 : decide (57 < (bt a0 x4_1)) = true := decide_eq_true c10
          clear c10
          obtain rfl := Option.some.inj H
          have p7 : 0 ≤ (x4_1 : Int) := of_decide_eq_true (by first | (with_reducible assumption) | assumption)
          have q7 : x4_1 < (a0.size : Int) := of_decide_eq_true (by first | (with_reducible assumption) | assumption)
          have hx7 := bt_at a0 x4_1
          replace p7 := eq_true p7
          replace q7 := eq_true q7
          have p9 : 0 ≤ (x4_1 : Int) := of_decide_eq_true (by first | (with_reducible assumption) | assumption)
          have q9 : x4_1 < (a0.size : Int) := of_decide_eq_true (by first | (with_reducible assumption) | assumption)
          have hx9 := bt_at a0 x4_1
          replace p9 := eq_true p9
          replace q9 := eq_true q9
          go_wp2
          go_ret
          exact ⟨by first | rfl | (simp; done) | (simp [*]; done), by repeat (first | exact Drawn0.refl _ | apply Drawn0.step)⟩
         ·rw [if_neg c10] at H
          have c10b0 : decide (57 < (bt a0 x4_1)) = false := decide_eq_false c10
          clear c10
          have H' := aM H
          clear H
          have p7 : 0 ≤ (x4_1 : Int) := of_decide_eq_true (by first | (with_reducible assumption) | assumption)
          have q7 : x4_1 < (a0.size : Int) := of_decide_eq_true (by first | (with_reducible assumption) | assumption)
          have hx7 := bt_at a0 x4_1
          replace p7 := eq_true p7
          replace q7 := eq_true q7
          have p9 : 0 ≤ (x4_1 : Int) := of_decide_eq_true (by first | (with_reducible assumption) | assumption)
          have q9 : x4_1 < (a0.size : Int) := of_decide_eq_true (by first | (with_reducible assumption) | assumption)
          have hx9 := bt_at a0 x4_1
          replace p9 := eq_true p9
          replace q9 := eq_true q9
          have p11 : 0 ≤ (x4_1 : Int) := of_decide_eq_true (by first | (with_reducible assumption) | assumption)
          have q11 : x4_1 < (a0.size : Int) := of_decide_eq_true (by first | (with_reducible assumption) | assumption)
          have hx11 := bt_at a0 x4_1
          replace p11 := eq_true p11
          replace q11 := eq_true q11
          go_wp2
          go_roundg kj1
          case measure => have := HK1.out; have := HJ1.out; omega
          case rel => exact ⟨(wrap64 ((wrap64 (x3_1 * 10)) + (((bt a0 x4_1) - 48) % 256))), (wrap64 (x4_1 + 1)), (by first | rfl | (simp; done) | (simp [*]; done)), (by first | rfl | (simp; done) | (simp [*]; done)), H', ⟨by have := HK1.out; have := HJ1.out; omega⟩, by repeat (first | exact Drawn0.refl _ | apply Drawn0.step)⟩
       ·rw [if_neg c6] at H
        exact absurd H (by simp)
      ·rw [if_neg c5] at H
       exact absurd H (by simp)
     ·replace c4 := Bool.eq_false_iff.mpr c4
      subst c4
      have H1 : (some x3_1) = some r := by rw [if_neg (show ¬ (false = true) by decide)] at H; exact H
      clear H
      have H := H1
      clear H1
      obtain rfl := Option.some.inj H
      go_wp2
      go_ret
      exact ⟨by first | rfl | (simp; done) | (simp [*]; done), by repeat (first | exact Drawn0.refl _ | apply Drawn0.step)⟩
end Go.Proofs.YtcbiilbmldinhaaDoor.PB
end

section
namespace Go.Proofs.YtcbiilbmldinhaaDoor.PB
open Go.RowKit Go.Proofs.YtcbiilbmldinhaaDoorW.PrintWords Go.Proofs.YtcbiilbmldinhaaDoorW.PrintLast Go.Proofs.YtcbiilbmldinhaaDoorW.PrintMore
attribute [local go_sem] max2_int min2_int max_two min_two max_three min_three max_four min_four
set_option linter.unusedVariables false
set_option linter.unusedSimpArgs false
def putMark (dash : Bool) (n : Nat) (m : List Bool) : List Bool := if n < 64 ∧ dash = false then m.set n true else m
def scanMarks (dash : Bool) : List UInt8 → Nat → List Bool → List Bool
  | [], n, m => putMark dash n m
  | c :: r, n, m => if 48 ≤ c.toNat ∧ c.toNat ≤ 57 ∧ n < 1000 then scanMarks dash r (n * 10 + (c.toNat - 48)) m else scanMarks dash r 0 (putMark dash n m)
def scanAt (s : ByteArray) (i n : Nat) (m : List Bool) : List Bool := if i ≤ s.size then scanMarks (s.toList == ([45] : List UInt8)) (s.data.toList.drop i) n m else m
def scanAll (s : ByteArray) : List Bool := scanMarks (s.toList == ([45] : List UInt8)) s.data.toList 0 (List.replicate 64 false)
theorem scanAt_zero (s : ByteArray) : scanAt s 0 0 (List.replicate 64 false) = scanAll s := by unfold scanAt scanAll; rw [if_pos (Nat.zero_le _), List.drop_zero]
theorem putMark_len (d : Bool) (n : Nat) (m : List Bool) : (putMark d n m).length = m.length := by unfold putMark; split <;> simp
theorem drop_at (s : ByteArray) (i : Nat) (h : i < s.size) : s.data.toList.drop i = s[i] :: s.data.toList.drop (i + 1) := by
  rw [List.drop_eq_getElem_cons (by simpa using h)]; rfl
theorem scanAt_more (s : ByteArray) (i n : Nat) (m : List Bool) (h : i < s.size) (h1 : 48 ≤ s[i].toNat) (h2 : s[i].toNat ≤ 57) (h3 : n < 1000) : scanAt s i n m = scanAt s (i + 1) (n * 10 + (s[i].toNat - 48)) m := by
  unfold scanAt
  rw [if_pos (by omega), if_pos (by omega), drop_at s i h, scanMarks, if_pos ⟨h1, h2, h3⟩]
theorem scanAt_cut (s : ByteArray) (i n : Nat) (m : List Bool) (h : i < s.size) (h1 : ¬ (48 ≤ s[i].toNat ∧ s[i].toNat ≤ 57 ∧ n < 1000)) : scanAt s i n m = scanAt s (i + 1) 0 (putMark (s.toList == ([45] : List UInt8)) n m) := by
  unfold scanAt
  rw [if_pos (by omega), if_pos (by omega), drop_at s i h, scanMarks, if_neg h1]
theorem scanAt_end (s : ByteArray) (n : Nat) (m : List Bool) : scanAt s s.size n m = scanAt s (s.size + 1) 0 (putMark (s.toList == ([45] : List UInt8)) n m) := by
  unfold scanAt
  rw [if_pos (by omega), if_neg (by omega), List.drop_eq_nil_of_le (by simp), scanMarks]
theorem scanAt_last (s : ByteArray) (n : Nat) (m : List Bool) : scanAt s (s.size + 1) n m = m := by unfold scanAt; rw [if_neg (by omega)]
theorem putMark_yes (n : Nat) (m : List Bool) (h : n < 64) : putMark false n m = m.set n true := by unfold putMark; rw [if_pos ⟨h, rfl⟩]
theorem putMark_dash (n : Nat) (m : List Bool) : putMark true n m = m := by unfold putMark; rw [if_neg (by simp)]
theorem putMark_big (d : Bool) (n : Nat) (m : List Bool) (h : ¬ n < 64) : putMark d n m = m := by unfold putMark; rw [if_neg (by omega)]
def labelScan (s : ByteArray) : Int := ((ofBits (scanAll s) : Nat) : Int)
def parsePost (s t : ByteArray) (w : World) (e : Ending) (w' : World) : Prop := e = .returned (.tuple #[.int .u64 (if t.toList = s.toList then labelScan s else 0), .int .i64 (if t.toList = s.toList then 0 else 5)]) ∧ Below w.heap.size w w'
theorem parsePost_yes {s t : ByteArray} {w w' : World} {e : Ending} (h : t.toList = s.toList) (he : e = .returned (.tuple #[.int .u64 (labelScan s), .int .i64 0])) (hb : Below w.heap.size w w') : parsePost s t w e w' := by
  unfold parsePost; rw [if_pos h, if_pos h]; exact ⟨he, hb⟩
theorem parsePost_no {s t : ByteArray} {w w' : World} {e : Ending} (h : ¬ t.toList = s.toList) (he : e = .returned (.tuple #[.int .u64 0, .int .i64 5])) (hb : Below w.heap.size w w') : parsePost s t w e w' := by
  unfold parsePost; rw [if_neg h, if_neg h]; exact ⟨he, hb⟩
set_option maxHeartbeats 8000000 in
set_option maxRecDepth 100000 in
theorem Parse_calls (k : Nat) (s t : ByteArray) (w : World) (hs : s.size ≤ 192) (h : bureauref01_Print.f k (labelScan s) = some t) :
    Calls Tryd.prog 49 #[.string s] w (parsePost s t w) := by
  have HLB := aM (fun (q : List Bool) (hq : q.length = 64) W => Label_calls q hq W)
  have HPR := aM (fun W => bureauref01_Print.calls k (labelScan s) t W h)
  clear h
  have hs0 : decide ((s.size : Int) > 192) = false := by simp; omega
  have hs1 : decide (192 < s.size) = false := by simp; omega
  have Z := aM (scanAt_zero s)
  have ZL := aM (fun i n m h h1 h2 h3 => scanAt_more s i n m h h1 h2 h3)
  have ZC := aM (fun i n m h h1 => scanAt_cut s i n m h h1)
  have ZE := aM (fun n m => scanAt_end s n m)
  have ZF := aM (fun n m => scanAt_last s n m)
  have HS := aM hs
  obtain ⟨dash, hdash⟩ : ∃ d, d = (s.toList == ([45] : List UInt8)) := ⟨_, rfl⟩
  rw [← hdash] at ZC ZE
  have HD := aM hdash.symm
  clear hdash
  generalize hR : scanAll s = R at *
  have HRL : Aside0 (labelScan s = ((ofBits R : Nat) : Int)) := ⟨by unfold labelScan; rw [hR]⟩
  clear hR
  go_enter Tryd.func49, Tryd.ntmps49
  go_wp2_with (first | ((with_reducible refine gate_dst (N := 4) rfl ?_); refine box_event ?hg (N := 4) ?hd (cs := mcells (List.replicate 64 false)) (t := 72) ?hr ?_; (case hd => rfl); (case hg => rfl); (case hr => first | (go_simp; done) | (go_simp; rfl)); intro g4 hg4 w4 hbox4 hb4; have HX4 := aM hbox4; have HB4 := aM hb4; have HE4 := aM hg4; clear hbox4 hb4 hg4))
  have h4w : w.heap.size ≤ g4 := by have := HE4.out; omega
  clear hs0 hs1
  go_loopw [5, 6] (fun v5 v6 wr => ∃ (i n : Nat) (m : List Bool), i ≤ s.size + 1 ∧ n ≤ 9999 ∧ v6 = .int .i64 i ∧ v5 = .int .i64 n ∧ Aside0 (m.length = 64) ∧ Aside0 (scanAt s i n m = R) ∧ Aside0 (wr.heap[g4]? = some (.cells (mcells m) 72 (0, 0))) ∧ Aside0 (Below w.heap.size w wr)) (fun _ i _ => s.size + 1 - (intOf i).toNat)
  case atStart => exact ⟨0, 0, _, by omega, by omega, rfl, rfl, ⟨zlen⟩, Z, HX4, HB4⟩
  case round =>
    obtain ⟨i, n, m, hi, hn, rfl, rfl, HM, HQ, HA, HB⟩ := hrel
    have hs := HS.out
    by_cases hlt : i < s.size
    · by_cases hdig : 48 ≤ s[i].toNat ∧ s[i].toNat ≤ 57 ∧ n < 1000
      · obtain ⟨h1, h2, h3⟩ := hdig
        have HN := aM (ZL.out i n m hlt h1 h2 h3)
        have hlt' : (i : Int) < (s.size : Int) := by omega
        have hle' : (i : Int) ≤ (s.size : Int) := by omega
        have h1' : 48 ≤ (s[i].toNat : Int) := by omega
        have h2' : (s[i].toNat : Int) ≤ 57 := by omega
        have h3' : (n : Int) < 1000 := by omega
        go_wp2
        refine ⟨⟨i + 1, n * 10 + (s[i].toNat - 48), m, by omega, by omega, by go_num, ?_, HM, ⟨by rw [← HN.out]; exact HQ.out⟩, HA, HB⟩, by simp [intOf] <;> omega⟩
        congr 1
        omega
      · have HN := aM (ZC.out i n m hlt hdig)
        have hlt' : (i : Int) < (s.size : Int) := by omega
        have hle' : (i : Int) ≤ (s.size : Int) := by omega
        by_cases h1 : 48 ≤ s[i].toNat
        · by_cases h2 : s[i].toNat ≤ 57
          · have h1' : 48 ≤ (s[i].toNat : Int) := by omega
            have h2' : (s[i].toNat : Int) ≤ 57 := by omega
            have h3' : ¬ (n : Int) < 1000 := by omega
            clear h1 h2 hdig
            have h64 : ¬ (n : Int) < 64 := by omega
            · have HP := aM (putMark_big dash n m (by omega))
              rw [HP.out] at HN
              clear HP
              go_wp2
              exact ⟨⟨i + 1, 0, m, by omega, by omega, by go_num, rfl, HM, ⟨by rw [← HN.out]; exact HQ.out⟩, HA, HB⟩, by simp [intOf] <;> omega⟩
          · have h1' : 48 ≤ (s[i].toNat : Int) := by omega
            have h2' : ¬ (s[i].toNat : Int) ≤ 57 := by omega
            clear h1 h2 hdig
            by_cases h64 : (n : Int) < 64
            · cases hd : dash
              · rw [hd] at HN HD
                have HP := aM (putMark_yes n m (by omega))
                rw [HP.out] at HN
                have hd1 := HD.out
                have hd2 : (s.toList != ([45] : List UInt8)) = true := by rw [bne, hd1]; rfl
                have hc := (bC HA.out n).trans (mcells_get _ n (by rw [HM.out]; omega))
                have hf := bF HA.out n
                have hb2 := aM (blk_set HA.out n (.bool true))
                rw [mcells_set] at hb2
                clear hd HP
                go_wp2
                exact ⟨⟨i + 1, 0, m.set n true, by omega, by omega, by go_num, rfl, ⟨by rw [List.length_set]; exact HM.out⟩, ⟨by rw [← HN.out]; exact HQ.out⟩, hb2, ⟨HB.out.setCell h4w _⟩⟩, by simp [intOf] <;> omega⟩
              · rw [hd] at HN HD
                rw [putMark_dash] at HN
                have hd1 := HD.out
                have hd2 : (s.toList != ([45] : List UInt8)) = false := by rw [bne, hd1]; rfl
                clear hd
                go_wp2
                exact ⟨⟨i + 1, 0, m, by omega, by omega, by go_num, rfl, HM, ⟨by rw [← HN.out]; exact HQ.out⟩, HA, HB⟩, by simp [intOf] <;> omega⟩
            · have HP := aM (putMark_big dash n m (by omega))
              rw [HP.out] at HN
              clear HP
              go_wp2
              exact ⟨⟨i + 1, 0, m, by omega, by omega, by go_num, rfl, HM, ⟨by rw [← HN.out]; exact HQ.out⟩, HA, HB⟩, by simp [intOf] <;> omega⟩
        · have h1' : ¬ 48 ≤ (s[i].toNat : Int) := by omega
          clear h1 hdig
          by_cases h64 : (n : Int) < 64
          · cases hd : dash
            · rw [hd] at HN HD
              have HP := aM (putMark_yes n m (by omega))
              rw [HP.out] at HN
              have hd1 := HD.out
              have hd2 : (s.toList != ([45] : List UInt8)) = true := by rw [bne, hd1]; rfl
              have hc := (bC HA.out n).trans (mcells_get _ n (by rw [HM.out]; omega))
              have hf := bF HA.out n
              have hb2 := aM (blk_set HA.out n (.bool true))
              rw [mcells_set] at hb2
              clear hd HP
              go_wp2
              exact ⟨⟨i + 1, 0, m.set n true, by omega, by omega, by go_num, rfl, ⟨by rw [List.length_set]; exact HM.out⟩, ⟨by rw [← HN.out]; exact HQ.out⟩, hb2, ⟨HB.out.setCell h4w _⟩⟩, by simp [intOf] <;> omega⟩
            · rw [hd] at HN HD
              rw [putMark_dash] at HN
              have hd1 := HD.out
              have hd2 : (s.toList != ([45] : List UInt8)) = false := by rw [bne, hd1]; rfl
              clear hd
              go_wp2
              exact ⟨⟨i + 1, 0, m, by omega, by omega, by go_num, rfl, HM, ⟨by rw [← HN.out]; exact HQ.out⟩, HA, HB⟩, by simp [intOf] <;> omega⟩
          · have HP := aM (putMark_big dash n m (by omega))
            rw [HP.out] at HN
            clear HP
            go_wp2
            exact ⟨⟨i + 1, 0, m, by omega, by omega, by go_num, rfl, HM, ⟨by rw [← HN.out]; exact HQ.out⟩, HA, HB⟩, by simp [intOf] <;> omega⟩
    · by_cases hend : i = s.size
      · subst hend
        have HN := aM (ZE.out n m)
        have hlt' : ¬ ((s.size : Nat) : Int) < (s.size : Int) := by omega
        by_cases h64 : (n : Int) < 64
        · cases hd : dash
          · rw [hd] at HN HD
            have HP := aM (putMark_yes n m (by omega))
            rw [HP.out] at HN
            have hd1 := HD.out
            have hd2 : (s.toList != ([45] : List UInt8)) = true := by rw [bne, hd1]; rfl
            have hc := (bC HA.out n).trans (mcells_get _ n (by rw [HM.out]; omega))
            have hf := bF HA.out n
            have hb2 := aM (blk_set HA.out n (.bool true))
            rw [mcells_set] at hb2
            clear hd HP
            go_wp2
            exact ⟨⟨s.size + 1, 0, m.set n true, by omega, by omega, by go_num, rfl, ⟨by rw [List.length_set]; exact HM.out⟩, ⟨by rw [← HN.out]; exact HQ.out⟩, hb2, ⟨HB.out.setCell h4w _⟩⟩, by simp [intOf] <;> omega⟩
          · rw [hd] at HN HD
            rw [putMark_dash] at HN
            have hd1 := HD.out
            have hd2 : (s.toList != ([45] : List UInt8)) = false := by rw [bne, hd1]; rfl
            clear hd
            go_wp2
            exact ⟨⟨s.size + 1, 0, m, by omega, by omega, by go_num, rfl, HM, ⟨by rw [← HN.out]; exact HQ.out⟩, HA, HB⟩, by simp [intOf] <;> omega⟩
        · have HP := aM (putMark_big dash n m (by omega))
          rw [HP.out] at HN
          clear HP
          go_wp2
          exact ⟨⟨s.size + 1, 0, m, by omega, by omega, by go_num, rfl, HM, ⟨by rw [← HN.out]; exact HQ.out⟩, HA, HB⟩, by simp [intOf] <;> omega⟩
      · obtain rfl : i = s.size + 1 := by omega
        have HF := ZF.out n m
        rw [HQ.out] at HF
        subst HF
        have HLB2 := aM (fun W => HLB.out R HM.out W)
        have hpr := HPR.out
        rw [HRL.out] at hpr
        have HPR2 := aM hpr
        have hle' : ¬ ((s.size + 1 : Nat) : Int) ≤ (s.size : Int) := by omega
        clear HLB hpr HPR HQ ZL ZC ZE ZF Z HD
        by_cases he : t.toList = s.toList
        · have he1 : (t.toList == s.toList) = true := beq_iff_eq.mpr he
          have he2 : (t.toList != s.toList) = false := bne_eq_false_iff_eq.mpr he
          have HE := aM he
          clear he
          go_wp2_with (first | ((with_reducible refine gate_dst (N := 53) rfl ?_); refine wpList_load_row rfl 72 (.tmp 4) rfl g4 rfl 72 (mcells R) (0, 0) _ HA.out Tryd.underlying72 rfl (mcells_full _ HM.out) ?_) | (go_at_call 63; refine (HLB2.out _).mono ?_; rintro e w9 ⟨rfl, hb9⟩; have HB9 := aM (HB.out.trans (hb9.mono HB.out.size)); clear hb9) | (go_at_call 44; refine (HPR2.out _).mono ?_; rintro e w10 ⟨rfl, hb10⟩; have HB10 := aM (HB9.out.trans (hb10.mono HB9.out.size)); clear hb10))
          go_ret2
          exact parsePost_yes HE.out (by rw [HRL.out]; rfl) HB10.out
        · have he1 : (t.toList == s.toList) = false := beq_eq_false_iff_ne.mpr he
          have he2 : (t.toList != s.toList) = true := bne_iff_ne.mpr he
          have HE := aM he
          clear he
          go_wp2_with (first | ((with_reducible refine gate_dst (N := 53) rfl ?_); refine wpList_load_row rfl 72 (.tmp 4) rfl g4 rfl 72 (mcells R) (0, 0) _ HA.out Tryd.underlying72 rfl (mcells_full _ HM.out) ?_) | (go_at_call 63; refine (HLB2.out _).mono ?_; rintro e w9 ⟨rfl, hb9⟩; have HB9 := aM (HB.out.trans (hb9.mono HB.out.size)); clear hb9) | (go_at_call 44; refine (HPR2.out _).mono ?_; rintro e w10 ⟨rfl, hb10⟩; have HB10 := aM (HB9.out.trans (hb10.mono HB9.out.size)); clear hb10))
          go_ret2
          exact parsePost_no HE.out rfl HB10.out
set_option maxHeartbeats 4000000 in
theorem Parse_long (s : ByteArray) (w : World) (hs : 192 < s.size) :
    Calls Tryd.prog 49 #[.string s] w fun e w' => e = .returned (.tuple #[.int .u64 0, .int .i64 5]) ∧ Below w.heap.size w w' := by
  have hs0 : (192 : Int) < (s.size : Int) := by omega
  go_enter Tryd.func49, Tryd.ntmps49
  go_wp2
  go_ret2
  exact ⟨rfl, Below.refl _ _⟩
def bureauref01_Parse.f (k : Nat) (a0 : ByteArray) : Option (Int × Int) :=
  if a0.size ≤ 192 then (bureauref01_Print.f k (labelScan a0)).bind fun t => some (if t.toList = a0.toList then labelScan a0 else 0, if t.toList = a0.toList then 0 else 5) else some (0, 5)
theorem bureauref01_Parse.calls (k : Nat) (a0 : ByteArray) (r1 r2 : Int) (w : World) (h : bureauref01_Parse.f k a0 = some (r1, r2)) :
    Calls Tryd.prog 49 #[.string a0] w fun e w' => e = .returned (.tuple #[.int .u64 r1, .int .i64 r2]) ∧ Below w.heap.size w w' := by
  unfold bureauref01_Parse.f at h
  by_cases hs : a0.size ≤ 192
  · rw [if_pos hs] at h
    obtain ⟨t, ht, h2⟩ := Option.bind_eq_some_iff.1 h
    have := Parse_calls k a0 t w hs ht
    unfold parsePost at this
    simp only [Option.some.injEq, Prod.mk.injEq] at h2
    rw [h2.1, h2.2] at this
    exact this
  · rw [if_neg hs] at h
    simp only [Option.some.injEq, Prod.mk.injEq] at h
    obtain ⟨rfl, rfl⟩ := h
    exact Parse_long a0 w (by omega)
end Go.Proofs.YtcbiilbmldinhaaDoor.PB
end
