/- What the row hangs on, part 2. -/
import Derived.Test.YtnbdldpjiofafaaProg
import Derived.Shelf.Small.Strs
import Derived.Shelf.Strings.Search1
import Derived.Shelf.Strings.Search2
import Derived.Shelf.Strings.Search3
import Derived.Shelf.Strings.Count
import Derived.Shelf.LaysM
import Derived.Shelf.Strings.Shaped
import Derived.Test.YtnbdldpjiofafaaProg
import Derived.Test.YtnbdldpjiofafaaQSubstDoes1
section
namespace Go.Proofs.Ytnbdldpjiofafaa.PB
open Go.RowKit Go.Proofs.YtnbdldpjiofafaaW.PrintWords Go.Proofs.YtnbdldpjiofafaaW.PrintLast Go.Proofs.YtnbdldpjiofafaaW.PrintMore
theorem qn : type_of% @blk_drewN := @blk_drewN
theorem qd : type_of% @blk_drew := @blk_drew
theorem qa : type_of% @blk_alloc := @blk_alloc
theorem ra : type_of% @Kd.R_alloc := @Kd.R_alloc
theorem rn : type_of% @Kd.R_drewN := @Kd.R_drewN
theorem rd_ : type_of% @Kd.R_drew := @Kd.R_drew
theorem va : type_of% @Kd.V_alloc := @Kd.V_alloc
theorem vn : type_of% @Kd.V_drewN := @Kd.V_drewN
theorem vd : type_of% @Kd.V_drew := @Kd.V_drew
theorem ea : type_of% @below_alloc := @below_alloc
theorem en : type_of% @pw_below_drewN := @pw_below_drewN
theorem ed : type_of% @below_drew1 := @below_drew1
theorem es : type_of% @below_set := @below_set
theorem aM : type_of% @Aside0.mk := @Aside0.mk
theorem bC : type_of% @blk_cell := @blk_cell
theorem bF : type_of% @blk_frozen := @blk_frozen
theorem rF : type_of% @Kd.R_far := @Kd.R_far
theorem bZ : type_of% @below_size := @below_size
theorem bB : type_of% @blk_below := @blk_below
theorem bP : type_of% @below_step := @below_step
theorem rT : type_of% @Kd.R_types := @Kd.R_types
theorem rM : type_of% @Kd.R_mono := @Kd.R_mono
theorem rR : type_of% @Kd.R_reads' := @Kd.R_reads'
theorem cB_ : type_of% @Kd.C_below := @Kd.C_below
theorem rL : type_of% @Kd.R_lower := @Kd.R_lower
theorem rE : type_of% @Kd.R_elder' := @Kd.R_elder'
theorem bR : type_of% @blk_far := @blk_far
theorem bU : type_of% @blk_put := @blk_put
theorem sA : type_of% @List.setIfInBounds_toArray := @List.setIfInBounds_toArray
theorem sZ : type_of% @List.set_cons_zero := @List.set_cons_zero
theorem sS : type_of% @List.set_cons_succ := @List.set_cons_succ
theorem mT : type_of% @List.map_toArray := @List.map_toArray
theorem mC : type_of% @List.map_cons := @List.map_cons
theorem mN : type_of% @List.map_nil := @List.map_nil
theorem lD : type_of% @List.length_drop := @List.length_drop
theorem lT : type_of% @List.length_take := @List.length_take
class Up (W w : World) : Prop where
  b : Below w.heap.size w W
instance (w : World) : Up w w := ⟨Below.refl _ _⟩
instance {W w : World} (o : Obj) [u : Up W w] : Up (W.alloc o) w := ⟨below_alloc u.b o⟩
instance {W w : World} [u : Up W w] : Up W.drew w := ⟨below_drew1 u.b⟩
instance {W w : World} (n : Nat) [u : Up W w] : Up (W.drewN n) w := ⟨pw_below_drewN u.b n⟩
theorem qy {W w : World} {g : Nat} {o : Obj} [u : Up W w] (h : w.heap[g]? = some o) : W.heap[g]? = some o := blk_below h u.b
theorem ry {α : Type} {d : Kd α} {e : TypeId} {W w : World} {base : Nat} {ok : Nat → Prop} {v : Value} {xs : List α} [u : Up W w] (h : d.R e w base ok v xs) : d.R e W base ok v xs := Kd.R_below h u.b
theorem ey {W w v : World} [u : Up W w] (h : Below v.heap.size v w) : Below v.heap.size v W := below_then h h.size u.b
section
variable {P : Program} {ops : Array Oper} {Q : Exit → Act → World → Prop} {md : Region.Mode} {S : World → Prop} {ds : List Nat} {oi : Oper} {v : Value} {fuel : Nat} {l : Array Bool} {a : Act} {w : World} {T : Bool × List (List Nat × List Nat)} {B : List Nat} {a' : Act}
theorem pv (i n : Nat) (l' : Array Bool) (HT : Aside0 (rtab md ops = T)) (h : wpAnyLast P md ops Q S ds fuel l' a' w) (hi : ops[i]? = some oi := by rfl) (hN : oi.dst = some n := by rfl) (hc : anyT T l.toList l'.toList i = true := by kernel_rfl) (hQ : ∀ (c : List PanicEntry) (a : Act) (w : World), Q (.panic c) (a.put oi.dst v) w → Q (.panic c) a w := by exact fun _ _ _ h => h) (hy : Yields P ops oi v a := by exact Or.inl ⟨by rfl, fun w' => by go_simp; with_reducible rfl⟩) (ha : a.put (some n) v = a' := by simp only [Act.put, sA, sZ, sS, i64_w, i32_w]; rfl) : wpAnyLast P md ops Q S ds (fuel + 1) l a w := pure_ l' hi hN (any_of HT.out hc) hQ hy ha h
theorem pu (i n : Nat) (l' : Array Bool) (HT : Aside0 (rtab md ops = T)) (h : wpAnyLast P md ops Q S ds fuel l' a' w) (hi : ops[i]? = some oi := by rfl) (hN : oi.dst = some n := by rfl) (hc : anyT T l.toList l'.toList i = true := by kernel_rfl) (hQ : ∀ (c : List PanicEntry) (a : Act) (w : World), Q (.panic c) (a.put oi.dst undef) w → Q (.panic c) a w := by exact fun _ _ _ h => h) (hy : Yields P ops oi undef a := by exact Or.inr ⟨by rfl, rfl⟩) (ha : a.put (some n) undef = a' := by simp only [Act.put, sA, sZ, sS, i64_w, i32_w]; rfl) : wpAnyLast P md ops Q S ds (fuel + 1) l a w := pure_ l' hi hN (any_of HT.out hc) hQ hy ha h
theorem pt (i n : Nat) (l' : Array Bool) (HT : Aside0 (rtab md ops = T)) (HW : Aside0 (waitsOk T.2 B = true)) (hS : S w) (h : wpAnyLast P md ops Q S ds fuel l' a' w) (hi : ops[i]? = some oi := by rfl) (hN : oi.dst = some n := by rfl) (hc : takeW T B ds l.toList l'.toList i = true := by kernel_rfl) (hQ : ∀ (c : List PanicEntry) (a : Act) (w : World), Q (.panic c) (a.put oi.dst v) w → Q (.panic c) a w := by exact fun _ _ _ h => h) (hy : YieldsIf P ops S oi v a := by exact Or.inl ⟨by rfl, fun w' hs => by (repeat obtain ⟨_, hs⟩ := hs); go_simp; with_reducible rfl⟩) (ha : a.put (some n) v = a' := by simp only [Act.put, sA, sZ, sS, i64_w, i32_w]; rfl) : wpAnyLast P md ops Q S ds (fuel + 1) l a w := take_ l' hi hN (take_ofW HT.out HW.out hc) hQ hy hS ha h
theorem p1 (i : Nat) (N : Option Tmp) (l' : Array Bool) (HT : Aside0 (rtab md ops = T)) (h : ∀ (K : Act → World → Prop), Shut (∀ (a' : Act) (w' : World), S w' → (S w' → wpAnyLast P md ops Q S ds fuel l' a' w') → K a' w') → if Region.wanted oi (yielded ops a.tmps) = true then Oper.wp P oi a w K Q else K (a.put N undef) w) (hi : ops[i]? = some oi := by rfl) (hN : oi.dst = N := by rfl) (hc : (readyT T.snd l.toList == [i] && l.toList.set i true == l'.toList) = true := by kernel_rfl) (hd : i ∉ ds := by decide) : wpAnyLast P md ops Q S ds (fuel + 1) l a w := one_ l' hi hN (one_of HT.out hc) hd h
end
theorem zC {w : World} {g : Nat} {t : TypeId} {cs : Array Value} (h : w.heap[g]? = some (.cells cs t (0, 0))) (i : Nat) (v : Value) (e : cs[i]? = some v := by rfl) : w.cell? ⟨g, i, none⟩ = some v := (bC h i).trans e
abbrev I := true
abbrev O := false
abbrev b0_ : Array Bool := #[O,O,O,O,O,O,O,O,O]
abbrev b1_ : Array Bool := #[I,O,O,O,O,O,O,O,O]
abbrev b2_ : Array Bool := #[I,O,I,O,O,O,O,O,O]
abbrev b3_ : Array Bool := #[I,O,I,I,O,O,O,O,O]
abbrev b4_ : Array Bool := #[I,O,I,I,O,I,O,O,O]
abbrev b5_ : Array Bool := #[I,I,I,I,O,I,O,O,O]
abbrev b6_ : Array Bool := #[I,I,I,I,I,I,O,O,O]
abbrev b7_ : Array Bool := #[I,I,I,I,I,I,I,O,O]
abbrev b8_ : Array Bool := #[I,I,I,I,I,I,I,I,O]
abbrev b9_ : Array Bool := #[I,I,I,I,I,I,I,I,I]
abbrev b10_ : Array Bool := #[O,O,O,O,O,O,O,O,O,O,O,O,O]
abbrev b11_ : Array Bool := #[I,O,O,O,O,O,O,O,O,O,O,O,O]
abbrev b12_ : Array Bool := #[I,I,O,O,O,O,O,O,O,O,O,O,O]
abbrev b13_ : Array Bool := #[I,I,I,O,O,O,O,O,O,O,O,O,O]
abbrev b14_ : Array Bool := #[I,I,I,I,O,O,O,O,O,O,O,O,O]
abbrev b15_ : Array Bool := #[I,I,I,I,I,O,O,O,O,O,O,O,O]
abbrev b16_ : Array Bool := #[I,I,I,I,I,O,O,I,O,O,O,O,O]
abbrev b17_ : Array Bool := #[I,I,I,I,I,I,O,I,O,O,O,O,O]
abbrev b18_ : Array Bool := #[I,I,I,I,I,I,O,I,I,O,O,O,O]
abbrev b19_ : Array Bool := #[I,I,I,I,I,I,O,I,I,I,O,O,O]
abbrev b20_ : Array Bool := #[I,I,I,I,I,I,I,I,I,I,O,O,O]
abbrev b21_ : Array Bool := #[I,I,I,I,I,I,I,I,I,I,I,O,O]
abbrev b22_ : Array Bool := #[I,I,I,I,I,I,I,I,I,I,I,I,O]
abbrev b23_ : Array Bool := #[I,I,I,I,I,I,I,I,I,I,I,I,I]
abbrev b24_ : Array Bool := #[I,I,I,I,I,I,O,O,O,O,O,O,O]
abbrev b25_ : Array Bool := #[I,I,I,I,I,I,I,O,O,O,O,O,O]
abbrev b26_ : Array Bool := #[I,I,I,I,I,I,I,I,O,O,O,O,O]
abbrev b27_ : Array Bool := #[I,I,I,I,I,I,I,I,I,O,O,O,O]
abbrev b28_ : Array Bool := #[O,O,O,O,O,O,O,O,O,O,O,O,O,O,O,O]
abbrev b29_ : Array Bool := #[I,O,O,O,O,O,O,O,O,O,O,O,O,O,O,O]
abbrev b30_ : Array Bool := #[I,O,I,O,O,O,O,O,O,O,O,O,O,O,O,O]
abbrev b31_ : Array Bool := #[I,O,I,O,I,O,O,O,O,O,O,O,O,O,O,O]
abbrev b32_ : Array Bool := #[I,O,I,O,I,O,O,I,O,O,O,O,O,O,O,O]
abbrev b33_ : Array Bool := #[I,O,I,O,I,O,O,I,O,I,O,O,O,O,O,O]
abbrev b34_ : Array Bool := #[I,O,I,O,I,O,O,I,O,I,O,O,I,O,O,O]
abbrev b35_ : Array Bool := #[I,I,I,O,I,O,O,I,O,I,O,O,I,O,O,O]
abbrev b36_ : Array Bool := #[I,I,I,I,I,O,O,I,O,I,O,O,I,O,O,O]
abbrev b37_ : Array Bool := #[I,I,I,I,I,I,O,I,O,I,O,O,I,O,O,O]
abbrev b38_ : Array Bool := #[I,I,I,I,I,I,I,I,O,I,O,O,I,O,O,O]
abbrev b39_ : Array Bool := #[I,I,I,I,I,I,I,I,I,I,O,O,I,O,O,O]
abbrev b40_ : Array Bool := #[I,I,I,I,I,I,I,I,I,I,I,O,I,O,O,O]
abbrev b41_ : Array Bool := #[I,I,I,I,I,I,I,I,I,I,I,I,I,O,O,O]
abbrev b42_ : Array Bool := #[I,I,I,I,I,I,I,I,I,I,I,I,I,I,O,O]
abbrev b43_ : Array Bool := #[I,I,I,I,I,I,I,I,I,I,I,I,I,I,I,O]
abbrev b44_ : Array Bool := #[I,I,I,I,I,I,I,I,I,I,I,I,I,I,I,I]
abbrev b45_ : Array Bool := #[O,O,O,O,O,O,O,O]
abbrev b46_ : Array Bool := #[I,O,O,O,O,O,O,O]
abbrev b47_ : Array Bool := #[I,O,O,O,O,I,O,O]
abbrev b48_ : Array Bool := #[I,I,O,O,O,I,O,O]
abbrev b49_ : Array Bool := #[I,I,I,O,O,I,O,O]
abbrev b50_ : Array Bool := #[I,I,I,I,O,I,O,O]
abbrev b51_ : Array Bool := #[I,I,I,I,I,I,O,O]
abbrev b52_ : Array Bool := #[I,I,I,I,I,I,I,O]
abbrev b53_ : Array Bool := #[I,I,I,I,I,I,I,I]
abbrev b54_ : Array Bool := #[O,O,O,O,O,O,O,O,O,O,O,O,O,O,O,O,O,O,O,O,O,O,O,O,O,O,O,O,O,O,O,O,O,O,O,O,O]
abbrev b55_ : Array Bool := #[I,O,O,O,O,O,O,O,O,O,O,O,O,O,O,O,O,O,O,O,O,O,O,O,O,O,O,O,O,O,O,O,O,O,O,O,O]
abbrev b56_ : Array Bool := #[I,I,O,O,O,O,O,O,O,O,O,O,O,O,O,O,O,O,O,O,O,O,O,O,O,O,O,O,O,O,O,O,O,O,O,O,O]
abbrev b57_ : Array Bool := #[I,I,I,O,O,O,O,O,O,O,O,O,O,O,O,O,O,O,O,O,O,O,O,O,O,O,O,O,O,O,O,O,O,O,O,O,O]
abbrev b58_ : Array Bool := #[I,I,I,I,O,O,O,O,O,O,O,O,O,O,O,O,O,O,O,O,O,O,O,O,O,O,O,O,O,O,O,O,O,O,O,O,O]
abbrev b59_ : Array Bool := #[I,I,I,I,I,O,O,O,O,O,O,O,O,O,O,O,O,O,O,O,O,O,O,O,O,O,O,O,O,O,O,O,O,O,O,O,O]
abbrev b60_ : Array Bool := #[I,I,I,I,I,I,O,O,O,O,O,O,O,O,O,O,O,O,O,O,O,O,O,O,O,O,O,O,O,O,O,O,O,O,O,O,O]
abbrev b61_ : Array Bool := #[I,I,I,I,I,I,I,O,O,O,O,O,O,O,O,O,O,O,O,O,O,O,O,O,O,O,O,O,O,O,O,O,O,O,O,O,O]
abbrev b62_ : Array Bool := #[I,I,I,I,I,I,I,I,O,O,O,O,O,O,O,O,O,O,O,O,O,O,O,O,O,O,O,O,O,O,O,O,O,O,O,O,O]
abbrev b63_ : Array Bool := #[I,I,I,I,I,I,I,I,I,O,O,O,O,O,O,O,O,O,O,O,O,O,O,O,O,O,O,O,O,O,O,O,O,O,O,O,O]
abbrev b64_ : Array Bool := #[I,I,I,I,I,I,I,I,I,I,O,O,O,O,O,O,O,O,O,O,O,O,O,O,O,O,O,O,O,O,O,O,O,O,O,O,O]
abbrev b65_ : Array Bool := #[I,I,I,I,I,I,I,I,I,I,I,O,O,O,O,O,O,O,O,O,O,O,O,O,O,O,O,O,O,O,O,O,O,O,O,O,O]
abbrev b66_ : Array Bool := #[I,I,I,I,I,I,I,I,I,I,I,I,O,O,O,O,O,O,O,O,O,O,O,O,O,O,O,O,O,O,O,O,O,O,O,O,O]
abbrev b67_ : Array Bool := #[I,I,I,I,I,I,I,I,I,I,I,I,I,O,O,O,O,O,O,O,O,O,O,O,O,O,O,O,O,O,O,O,O,O,O,O,O]
abbrev b68_ : Array Bool := #[I,I,I,I,I,I,I,I,I,I,I,I,I,I,O,O,O,O,O,O,O,O,O,O,O,O,O,O,O,O,O,O,O,O,O,O,O]
abbrev b69_ : Array Bool := #[I,I,I,I,I,I,I,I,I,I,I,I,I,I,I,O,O,O,O,O,O,O,O,O,O,O,O,O,O,O,O,O,O,O,O,O,O]
abbrev b70_ : Array Bool := #[I,I,I,I,I,I,I,I,I,I,I,I,I,I,I,I,O,O,O,O,O,O,O,O,O,O,O,O,O,O,O,O,O,O,O,O,O]
abbrev b71_ : Array Bool := #[I,I,I,I,I,I,I,I,I,I,I,I,I,I,I,I,I,O,O,O,O,O,O,O,O,O,O,O,O,O,O,O,O,O,O,O,O]
abbrev b72_ : Array Bool := #[I,I,I,I,I,I,I,I,I,I,I,I,I,I,I,I,I,I,O,O,O,O,O,O,O,O,O,O,O,O,O,O,O,O,O,O,O]
abbrev b73_ : Array Bool := #[I,I,I,I,I,I,I,I,I,I,I,I,I,I,I,I,I,I,I,O,O,O,O,O,O,O,O,O,O,O,O,O,O,O,O,O,O]
abbrev b74_ : Array Bool := #[I,I,I,I,I,I,I,I,I,I,I,I,I,I,I,I,I,I,I,I,O,O,O,O,O,O,O,O,O,O,O,O,O,O,O,O,O]
abbrev b75_ : Array Bool := #[I,I,I,I,I,I,I,I,I,I,I,I,I,I,I,I,I,I,I,I,I,O,O,O,O,O,O,O,O,O,O,O,O,O,O,O,O]
abbrev b76_ : Array Bool := #[I,I,I,I,I,I,I,I,I,I,I,I,I,I,I,I,I,I,I,I,I,I,O,O,O,O,O,O,O,O,O,O,O,O,O,O,O]
abbrev b77_ : Array Bool := #[I,I,I,I,I,I,I,I,I,I,I,I,I,I,I,I,I,I,I,I,I,I,I,O,O,O,O,O,O,O,O,O,O,O,O,O,O]
abbrev b78_ : Array Bool := #[I,I,I,I,I,I,I,I,I,I,I,I,I,I,I,I,I,I,I,I,I,I,I,I,O,O,O,O,O,O,O,O,O,O,O,O,O]
abbrev b79_ : Array Bool := #[I,I,I,I,I,I,I,I,I,I,I,I,I,I,I,I,I,I,I,I,I,I,I,I,I,O,O,O,O,O,O,O,O,O,O,O,O]
abbrev b80_ : Array Bool := #[I,I,I,I,I,I,I,I,I,I,I,I,I,I,I,I,I,I,I,I,I,I,I,I,I,I,O,O,O,O,O,O,O,O,O,O,O]
abbrev b81_ : Array Bool := #[I,I,I,I,I,I,I,I,I,I,I,I,I,I,I,I,I,I,I,I,I,I,I,I,I,I,I,O,O,O,O,O,O,O,O,O,O]
abbrev b82_ : Array Bool := #[I,I,I,I,I,I,I,I,I,I,I,I,I,I,I,I,I,I,I,I,I,I,I,I,I,I,I,I,O,O,O,O,O,O,O,O,O]
abbrev b83_ : Array Bool := #[I,I,I,I,I,I,I,I,I,I,I,I,I,I,I,I,I,I,I,I,I,I,I,I,I,I,I,I,I,O,O,O,O,O,O,O,O]
abbrev b84_ : Array Bool := #[I,I,I,I,I,I,I,I,I,I,I,I,I,I,I,I,I,I,I,I,I,I,I,I,I,I,I,I,I,I,O,O,O,O,O,O,O]
abbrev b85_ : Array Bool := #[I,I,I,I,I,I,I,I,I,I,I,I,I,I,I,I,I,I,I,I,I,I,I,I,I,I,I,I,I,I,I,O,O,O,O,O,O]
abbrev b86_ : Array Bool := #[I,I,I,I,I,I,I,I,I,I,I,I,I,I,I,I,I,I,I,I,I,I,I,I,I,I,I,I,I,I,I,I,O,O,O,O,O]
abbrev b87_ : Array Bool := #[I,I,I,I,I,I,I,I,I,I,I,I,I,I,I,I,I,I,I,I,I,I,I,I,I,I,I,I,I,I,I,I,I,O,O,O,O]
abbrev b88_ : Array Bool := #[I,I,I,I,I,I,I,I,I,I,I,I,I,I,I,I,I,I,I,I,I,I,I,I,I,I,I,I,I,I,I,I,I,I,O,O,O]
abbrev b89_ : Array Bool := #[I,I,I,I,I,I,I,I,I,I,I,I,I,I,I,I,I,I,I,I,I,I,I,I,I,I,I,I,I,I,I,I,I,I,I,O,O]
abbrev b90_ : Array Bool := #[I,I,I,I,I,I,I,I,I,I,I,I,I,I,I,I,I,I,I,I,I,I,I,I,I,I,I,I,I,I,I,I,I,I,I,I,O]
abbrev b91_ : Array Bool := #[I,I,I,I,I,I,I,I,I,I,I,I,I,I,I,I,I,I,I,I,I,I,I,I,I,I,I,I,I,I,I,I,I,I,I,I,I]
abbrev b92_ : Array Bool := #[I,I,I,I,I,I,I,I,I,O,I,O,O,O,O,O,O,O,O,O,O,O,O,O,O,O,O,O,O,O,O,O,O,O,O,O,O]
abbrev b93_ : Array Bool := #[I,I,I,I,I,I,I,I,I,I,I,I,I,I,I,I,O,I,O,O,O,O,O,O,O,O,O,O,O,O,O,O,O,O,O,O,O]
abbrev b94_ : Array Bool := #[O,O,O,O,O,O,O,O,O,O,O,O,O,O,O,O,O,O,O,O,O,O,O,O,O,O,O,O,O]
abbrev b95_ : Array Bool := #[I,O,O,O,O,O,O,O,O,O,O,O,O,O,O,O,O,O,O,O,O,O,O,O,O,O,O,O,O]
abbrev b96_ : Array Bool := #[I,I,O,O,O,O,O,O,O,O,O,O,O,O,O,O,O,O,O,O,O,O,O,O,O,O,O,O,O]
abbrev b97_ : Array Bool := #[I,I,I,O,O,O,O,O,O,O,O,O,O,O,O,O,O,O,O,O,O,O,O,O,O,O,O,O,O]
abbrev b98_ : Array Bool := #[I,I,I,I,O,O,O,O,O,O,O,O,O,O,O,O,O,O,O,O,O,O,O,O,O,O,O,O,O]
abbrev b99_ : Array Bool := #[I,I,I,I,I,O,O,O,O,O,O,O,O,O,O,O,O,O,O,O,O,O,O,O,O,O,O,O,O]
abbrev b100_ : Array Bool := #[I,I,I,I,I,I,O,O,O,O,O,O,O,O,O,O,O,O,O,O,O,O,O,O,O,O,O,O,O]
abbrev b101_ : Array Bool := #[I,I,I,I,I,I,I,O,O,O,O,O,O,O,O,O,O,O,O,O,O,O,O,O,O,O,O,O,O]
abbrev b102_ : Array Bool := #[I,I,I,I,I,I,I,I,O,O,O,O,O,O,O,O,O,O,O,O,O,O,O,O,O,O,O,O,O]
abbrev b103_ : Array Bool := #[I,I,I,I,I,I,I,I,I,O,O,O,O,O,O,O,O,O,O,O,O,O,O,O,O,O,O,O,O]
abbrev b104_ : Array Bool := #[I,I,I,I,I,I,I,I,I,I,O,O,O,O,O,O,O,O,O,O,O,O,O,O,O,O,O,O,O]
abbrev b105_ : Array Bool := #[I,I,I,I,I,I,I,I,I,I,I,O,O,O,O,O,O,O,O,O,O,O,O,O,O,O,O,O,O]
abbrev b106_ : Array Bool := #[I,I,I,I,I,I,I,I,I,I,I,I,O,O,O,O,O,O,O,O,O,O,O,O,O,O,O,O,O]
abbrev b107_ : Array Bool := #[I,I,I,I,I,I,I,I,I,I,I,I,I,O,O,O,O,O,O,O,O,O,O,O,O,O,O,O,O]
abbrev b108_ : Array Bool := #[I,I,I,I,I,I,I,I,I,I,I,I,I,I,O,O,O,O,O,O,O,O,O,O,O,O,O,O,O]
abbrev b109_ : Array Bool := #[I,I,I,I,I,I,I,I,I,I,I,I,I,I,I,O,O,O,O,O,O,O,O,O,O,O,O,O,O]
abbrev b110_ : Array Bool := #[I,I,I,I,I,I,I,I,I,I,I,I,I,I,I,I,O,O,O,O,O,O,O,O,O,O,O,O,O]
abbrev b111_ : Array Bool := #[I,I,I,I,I,I,I,I,I,I,I,I,I,I,I,I,I,O,O,O,O,O,O,O,O,O,O,O,O]
abbrev b112_ : Array Bool := #[I,I,I,I,I,I,I,I,I,I,I,I,I,I,I,I,I,I,O,O,O,O,O,O,O,O,O,O,O]
abbrev b113_ : Array Bool := #[I,I,I,I,I,I,I,I,I,I,I,I,I,I,I,I,I,I,I,O,O,O,O,O,O,O,O,O,O]
abbrev b114_ : Array Bool := #[I,I,I,I,I,I,I,I,I,I,I,I,I,I,I,I,I,I,I,I,O,O,O,O,O,O,O,O,O]
abbrev b115_ : Array Bool := #[I,I,I,I,I,I,I,I,I,I,I,I,I,I,I,I,I,I,I,I,I,O,O,O,O,O,O,O,O]
abbrev b116_ : Array Bool := #[I,I,I,I,I,I,I,I,I,I,I,I,I,I,I,I,I,I,I,I,I,I,O,O,O,O,O,O,O]
abbrev b117_ : Array Bool := #[I,I,I,I,I,I,I,I,I,I,I,I,I,I,I,I,I,I,I,I,I,I,I,O,O,O,O,O,O]
abbrev b118_ : Array Bool := #[I,I,I,I,I,I,I,I,I,I,I,I,I,I,I,I,I,I,I,I,I,I,I,I,O,O,O,O,O]
abbrev b119_ : Array Bool := #[I,I,I,I,I,I,I,I,I,I,I,I,I,I,I,I,I,I,I,I,I,I,I,I,I,O,O,O,O]
abbrev b120_ : Array Bool := #[I,I,I,I,I,I,I,I,I,I,I,I,I,I,I,I,I,I,I,I,I,I,I,I,I,I,O,O,O]
abbrev b121_ : Array Bool := #[I,I,I,I,I,I,I,I,I,I,I,I,I,I,I,I,I,I,I,I,I,I,I,I,I,I,I,O,O]
abbrev b122_ : Array Bool := #[I,I,I,I,I,I,I,I,I,I,I,I,I,I,I,I,I,I,I,I,I,I,I,I,I,I,I,I,O]
abbrev b123_ : Array Bool := #[I,I,I,I,I,I,I,I,I,I,I,I,I,I,I,I,I,I,I,I,I,I,I,I,I,I,I,I,I]
abbrev b124_ : Array Bool := #[I,I,I,I,I,O,I,O,O,O,O,O,O,O,O,O,O,O,O,O,O,O,O,O,O,O,O,O,O]
abbrev b125_ : Array Bool := #[I,I,I,I,I,I,I,I,I,I,I,I,O,I,O,O,O,O,O,O,O,O,O,O,O,O,O,O,O]
abbrev b126_ : Array Bool := #[I,O,I,O,O,O,O,O,O,O,O,O,O]
abbrev b127_ : Array Bool := #[I,O,I,I,O,O,O,O,O,O,O,O,O]
abbrev b128_ : Array Bool := #[I,O,I,I,O,I,O,O,O,O,O,O,O]
abbrev b129_ : Array Bool := #[I,O,I,I,O,I,I,O,O,O,O,O,O]
abbrev b130_ : Array Bool := #[I,O,I,I,O,I,I,I,O,O,O,O,O]
abbrev b131_ : Array Bool := #[I,O,I,I,O,I,I,I,I,O,O,O,O]
abbrev b132_ : Array Bool := #[I,I,I,I,O,I,I,I,I,O,O,O,O]
abbrev b133_ : Array Bool := #[I,O,O,I,O,O,O,O]
abbrev b134_ : Array Bool := #[I,I,O,I,O,O,O,O]
abbrev b135_ : Array Bool := #[I,I,O,I,I,O,O,O]
abbrev b136_ : Array Bool := #[I,I,I,I,I,O,O,O]
abbrev b137_ : Array Bool := #[O,O,O,O,O,O,O,O,O,O,O,O,O,O,O,O,O,O,O,O,O]
abbrev b138_ : Array Bool := #[I,O,O,O,O,O,O,O,O,O,O,O,O,O,O,O,O,O,O,O,O]
abbrev b139_ : Array Bool := #[I,O,I,O,O,O,O,O,O,O,O,O,O,O,O,O,O,O,O,O,O]
abbrev b140_ : Array Bool := #[I,O,I,I,O,O,O,O,O,O,O,O,O,O,O,O,O,O,O,O,O]
abbrev b141_ : Array Bool := #[I,O,I,I,I,O,O,O,O,O,O,O,O,O,O,O,O,O,O,O,O]
abbrev b142_ : Array Bool := #[I,O,I,I,I,O,I,O,O,O,O,O,O,O,O,O,O,O,O,O,O]
abbrev b143_ : Array Bool := #[I,O,I,I,I,O,I,I,O,O,O,O,O,O,O,O,O,O,O,O,O]
abbrev b144_ : Array Bool := #[I,I,I,I,I,O,I,I,O,O,O,O,O,O,O,O,O,O,O,O,O]
abbrev b145_ : Array Bool := #[I,I,I,I,I,I,I,I,O,O,O,O,O,O,O,O,O,O,O,O,O]
abbrev b146_ : Array Bool := #[I,I,I,I,I,I,I,I,I,O,O,O,O,O,O,O,O,O,O,O,O]
abbrev b147_ : Array Bool := #[I,I,I,I,I,I,I,I,I,I,O,O,O,O,O,O,O,O,O,O,O]
abbrev b148_ : Array Bool := #[I,I,I,I,I,I,I,I,I,I,I,O,O,O,O,O,O,O,O,O,O]
abbrev b149_ : Array Bool := #[I,I,I,I,I,I,I,I,I,I,I,I,O,O,O,O,O,O,O,O,O]
abbrev b150_ : Array Bool := #[I,I,I,I,I,I,I,I,I,I,I,I,I,O,O,O,O,O,O,O,O]
abbrev b151_ : Array Bool := #[I,I,I,I,I,I,I,I,I,I,I,I,I,I,O,O,O,O,O,O,O]
abbrev b152_ : Array Bool := #[I,I,I,I,I,I,I,I,I,I,I,I,I,I,I,O,O,O,O,O,O]
abbrev b153_ : Array Bool := #[I,I,I,I,I,I,I,I,I,I,I,I,I,I,I,I,O,O,O,O,O]
abbrev b154_ : Array Bool := #[I,I,I,I,I,I,I,I,I,I,I,I,I,I,I,I,O,I,O,O,O]
abbrev b155_ : Array Bool := #[I,I,I,I,I,I,I,I,I,I,I,I,I,I,I,I,I,I,O,O,O]
abbrev b156_ : Array Bool := #[I,I,I,I,I,I,I,I,I,I,I,I,I,I,I,I,I,I,I,O,O]
abbrev b157_ : Array Bool := #[I,I,I,I,I,I,I,I,I,I,I,I,I,I,I,I,I,I,I,I,O]
abbrev b158_ : Array Bool := #[I,I,I,I,I,I,I,I,I,I,I,I,I,I,I,I,I,I,I,I,I]
abbrev b159_ : Array Bool := #[I,I,I,I,I,I,I,I,I,I,I,I,I,I,I,I,I,O,O,O,O]
abbrev b160_ : Array Bool := #[O,I,O,O,O,O,O,O,O,O,O,O,O]
abbrev b161_ : Array Bool := #[I,I,I,O,O,O,O,O,O,I,O,O,O]
abbrev b162_ : Array Bool := #[I,I,I,I,O,O,O,O,O,I,O,O,O]
abbrev b163_ : Array Bool := #[I,I,I,I,I,O,O,O,O,I,O,O,O]
abbrev b164_ : Array Bool := #[I,I,I,I,I,I,O,O,O,I,O,O,O]
abbrev b165_ : Array Bool := #[I,I,I,I,I,I,I,O,O,I,O,O,O]
abbrev b166_ : Array Bool := #[I,I,I,I,I,I,I,I,O,I,O,O,O]
attribute [local go_sem] max2_int min2_int max_two min_two max_three min_three max_four min_four   
set_option linter.unusedVariables false
set_option linter.unusedSimpArgs false
def errW : Option Int → Value
 | none => .nilIface
 | some c => .iface 0 (.int .i64 c)
theorem errW_none : errW none = .nilIface := rfl
theorem errW_some (c : Int) : errW (some c) = .iface 0 (.int .i64 c) := rfl
theorem info3 : (Try.prog.info? 3).map (fun i => (i.zero, i.size, i.bytes)) = some (some (.int .i64 0), 1, 8) := by kernel_rfl
theorem info5 : (Try.prog.info? 5).map (fun i => (i.zero, i.size, i.bytes)) = some (some (.int .u8 0), 1, 1) := by kernel_rfl
theorem info26 : (Try.prog.info? 26).map (fun i => (i.zero, i.size, i.bytes)) = some (some (.int .u64 0), 1, 8) := by kernel_rfl
theorem info51 : (Try.prog.info? 51).map (fun i => (i.zero, i.size, i.bytes)) = some (some (.agg #[(.int .u64 0), (.int .i64 0)]), 2, 16) := by kernel_rfl
structure S51 where
 f0 : Int
 f1 : Int
def z51 : S51 := ⟨(0 : Int), (0 : Int)⟩
def k51 : Kd S51 := Kd.iso (Kd.pair (Kd.int .u64) (Kd.int .i64)) (fun x : S51 => (x.f0, x.f1))
theorem k51_open {w : World} {x : S51} {cs : List Value} (h : k51.K w x cs) : cs = [.int .u64 x.f0, .int .i64 x.f1] := by
 obtain ⟨_, _, rfl, rfl, rfl⟩ := h
 exact rfl
theorem k51_openM {w : World} {base : Nat} {ok : Nat → Prop} {x : S51} {cs : List Value} (h : k51.M w base ok x cs) : cs = [.int .u64 x.f0, .int .i64 x.f1] := by
 obtain ⟨_, _, rfl, rfl, rfl⟩ := h
 exact rfl
theorem k51_mkM (w : World) (base : Nat) (ok : Nat → Prop) (x : S51)  : k51.M w base ok x [.int .u64 x.f0, .int .i64 x.f1] := ⟨[.int .u64 x.f0], [.int .i64 x.f1], rfl, rfl, rfl⟩
def rd_T51 (xs : List S51) (i : Int) : S51 := xs.getD i.toNat z51
theorem at_T51 {w : World} {A : Option Addr} {n : Nat} {xs : List S51} (h : Kd.C k51 w A n xs) (i : Int) (h0 : 0 ≤ i) (h1 : i < n) : ∃ ad , A = some ad ∧ w.cell? (ad.add (i.toNat * 2)) = some (.int .u64 (rd_T51 xs i).f0) ∧ w.cell? ⟨(ad.add (i.toNat * 2)).block, (ad.add (i.toNat * 2)).off + 1, none⟩ = some (.int .i64 (rd_T51 xs i).f1) := by
 obtain ⟨ad, c, e, _, hK, hc0⟩ := Kd.C_get h z51 i h0 h1
 have hc : ∀ j u, c[j]? = some u → w.cell? (ad.add (i.toNat * 2 + j)) = some u := hc0
 obtain rfl := k51_open hK
 exact ⟨ad, e, hc 0 _ rfl, by rw [← add_field _ _ 1 (by omega)]; exact hc 1 _ rfl⟩
structure S24 where
 f0 : ByteArray
 f1 : (List S51)
def k24 : Kd S24 := Kd.iso (Kd.pair Kd.string (Kd.slice 51 k51)) (fun x : S24 => (x.f0, x.f1))
theorem k24_open {w : World} {x : S24} {cs : List Value} (h : k24.K w x cs) : ∃ A1 c1, cs = [.string x.f0, .slice A1 x.f1.length c1] ∧ x.f1.length ≤ c1 ∧ k51.C w A1 x.f1.length x.f1 := by
 obtain ⟨_, _, rfl, rfl, ⟨A1, c1, rfl, l1, g1⟩⟩ := h
 exact ⟨A1, c1, rfl, l1, g1⟩
end Go.Proofs.Ytnbdldpjiofafaa.PB
end

section
namespace Go.Proofs.Ytnbdldpjiofafaa.PB
open Go.RowKit Go.Proofs.YtnbdldpjiofafaaW.PrintWords Go.Proofs.YtnbdldpjiofafaaW.PrintLast Go.Proofs.YtnbdldpjiofafaaW.PrintMore
attribute [local go_sem] max2_int min2_int max_two min_two max_three min_three max_four min_four   
set_option linter.unusedVariables false
set_option linter.unusedSimpArgs false
def bureaulaw14_Fits.f (a0_0 : ByteArray) (l0_1 : List (S51)) : Option (Bool) := if (a0_0.size : Int) ≤ 1024 then (some (decide ((l0_1.length : Int) ≤ 5000))) else (some false)
set_option maxHeartbeats 8000000 in
set_option maxRecDepth 100000 in
theorem bureaulaw14_Fits.calls (a0_0 : ByteArray) (A0_1 : Option Addr) (c0_1 : Nat) (l0_1 : List (S51)) (r : Bool) (w : World) (hr0_1 : Kd.C k51 w A0_1 l0_1.length l0_1) (hc0_1 : l0_1.length ≤ c0_1) (h : bureaulaw14_Fits.f a0_0 l0_1 = some r) :
  Calls Try.prog 18 #[.agg #[.string a0_0, .slice A0_1 l0_1.length c0_1]] w fun e w' => e = .returned (.bool r) ∧ Below w.heap.size w w' := by
 have hu24 := Try.underlying24
 have HR0_1 := aM hr0_1
 have HC0_1 := aM hc0_1
 clear hr0_1 hc0_1
 have HB := aM (Below.refl w.heap.size w)
 have H : (if (a0_0.size : Int) ≤ 1024 then (some (decide ((l0_1.length : Int) ≤ 5000))) else (some false)) = some r := h
 clear h
 by_cases c2 : (a0_0.size : Int) ≤ 1024
 ·rw [if_pos c2] at H
  have c2b0 : decide ((a0_0.size : Int) ≤ 1024) = true := decide_eq_true c2
  have c2b1 : decide (a0_0.size ≤ 1024) = true := decide_eq_true (by omega)
  clear c2
  obtain rfl := Option.some.inj H
  go_enter Try.func18, Try.ntmps18
  go_wp2_with (first | ((with_reducible refine gate_dst (N := 1) rfl ?_); (try (refine gate_guard (by rfl) ?_; dsimp only)); refine box_event ?hg (N := 1) ?hd (cs := #[.string a0_0, .slice A0_1 l0_1.length c0_1]) (t := 24) ?hr ?_; (case hd | hg => rfl); (case hr => first | (go_simp; done) | (go_simp; rfl)); intro gb274 hg w3 hbox hb; have n0_ := aM (bP (ey HB.out) hb); have n1_ := aM (hbox); have n2_ := aM ((by rw [hg]; exact (bZ (ey HB.out)) : w.heap.size ≤ gb274)); have n3_ := n2_; clear HB; have HB := n0_; have BK274 := n1_; have GW274 := n2_; have GE274 := n3_; clear n0_ n1_ n2_ n3_; clear hb hbox hg; have hcz4_0 := zC BK274.out 0 (.string a0_0); have hcz4_1 := zC BK274.out 1 (.slice A0_1 l0_1.length c0_1); have hfz4_0 := bF BK274.out 0; have hfz4_1 := bF BK274.out 1))
  go_ret
  exact ⟨by first | rfl | (simp [errW_none, errW_some] <;> rfl) | (simp [*, errW_none, errW_some] <;> rfl), by repeat (first | (with_reducible first | exact HB.out | apply ea | apply en | apply ed | refine es ?_ GE274.out) | exact HB.out)⟩
 ·rw [if_neg c2] at H
  have c2b0 : decide ((a0_0.size : Int) ≤ 1024) = false := decide_eq_false c2
  have c2b1 : decide (a0_0.size ≤ 1024) = false := decide_eq_false (by omega)
  clear c2
  obtain rfl := Option.some.inj H
  go_enter Try.func18, Try.ntmps18
  go_wp2_with (first | ((with_reducible refine gate_dst (N := 1) rfl ?_); (try (refine gate_guard (by rfl) ?_; dsimp only)); refine box_event ?hg (N := 1) ?hd (cs := #[.string a0_0, .slice A0_1 l0_1.length c0_1]) (t := 24) ?hr ?_; (case hd | hg => rfl); (case hr => first | (go_simp; done) | (go_simp; rfl)); intro gb274 hg w5 hbox hb; have n0_ := aM (bP (ey HB.out) hb); have n1_ := aM (hbox); have n2_ := aM ((by rw [hg]; exact (bZ (ey HB.out)) : w.heap.size ≤ gb274)); have n3_ := n2_; clear HB; have HB := n0_; have BK274 := n1_; have GW274 := n2_; have GE274 := n3_; clear n0_ n1_ n2_ n3_; clear hb hbox hg; have hcz6_0 := zC BK274.out 0 (.string a0_0); have hcz6_1 := zC BK274.out 1 (.slice A0_1 l0_1.length c0_1); have hfz6_0 := bF BK274.out 0; have hfz6_1 := bF BK274.out 1))
  go_ret
  exact ⟨by first | rfl | (simp [errW_none, errW_some] <;> rfl) | (simp [*, errW_none, errW_some] <;> rfl), by repeat (first | (with_reducible first | exact HB.out | apply ea | apply en | apply ed | refine es ?_ GE274.out) | exact HB.out)⟩
end Go.Proofs.Ytnbdldpjiofafaa.PB
end

section
namespace Go.Proofs.Ytnbdldpjiofafaa.PB
open Go.RowKit Go.Proofs.YtnbdldpjiofafaaW.PrintWords Go.Proofs.YtnbdldpjiofafaaW.PrintLast Go.Proofs.YtnbdldpjiofafaaW.PrintMore
attribute [local go_sem] max2_int min2_int max_two min_two max_three min_three max_four min_four   
set_option linter.unusedVariables false
set_option linter.unusedSimpArgs false
def bureaulaw15_fits.f (a0_0 : ByteArray) (l0_1 : List (S51)) (a1_0 : Int) (a1_1 : Int) (a1_2 : ByteArray) (a1_3 : ByteArray) (a1_4 : Bool) : Option (Bool) := (bureaulaw14_Fits.f a0_0 l0_1).bind fun t277 => (if t277 = true then (if (a1_2.size : Int) ≤ 5000 then (some (decide ((a1_3.size : Int) ≤ 5000))) else (some false)) else (some false))
set_option maxHeartbeats 8000000 in
set_option maxRecDepth 100000 in
theorem bureaulaw15_fits.calls (a0_0 : ByteArray) (A0_1 : Option Addr) (c0_1 : Nat) (l0_1 : List (S51)) (a1_0 : Int) (a1_1 : Int) (a1_2 : ByteArray) (a1_3 : ByteArray) (a1_4 : Bool) (r : Bool) (w : World) (hr0_1 : Kd.C k51 w A0_1 l0_1.length l0_1) (hc0_1 : l0_1.length ≤ c0_1) (h : bureaulaw15_fits.f a0_0 l0_1 a1_0 a1_1 a1_2 a1_3 a1_4 = some r) :
  Calls Try.prog 9 #[.agg #[.string a0_0, .slice A0_1 l0_1.length c0_1], .agg #[.int .i64 a1_0, .int .i64 a1_1, .string a1_2, .string a1_3, .bool a1_4]] w fun e w' => e = .returned (.bool r) ∧ Below w.heap.size w w' := by
 have hu24 := Try.underlying24
 have hu28 := Try.underlying28
 have HR0_1 := aM hr0_1
 have HC0_1 := aM hc0_1
 clear hr0_1 hc0_1
 have HB := aM (Below.refl w.heap.size w)
 have H : ((bureaulaw14_Fits.f a0_0 l0_1).bind fun t277 => (if t277 = true then (if (a1_2.size : Int) ≤ 5000 then (some (decide ((a1_3.size : Int) ≤ 5000))) else (some false)) else (some false))) = some r := h
 clear h
 replace H := Option.bind_eq_some_iff.mp H
 obtain ⟨t277, A30, H⟩ := H
 replace H : (if t277 = true then (if (a1_2.size : Int) ≤ 5000 then (some (decide ((a1_3.size : Int) ≤ 5000))) else (some false)) else (some false)) = some r := H
 have A3 := aM A30
 clear A30
 by_cases c4 : t277 = true
 ·subst c4
  have H1 : (if (a1_2.size : Int) ≤ 5000 then (some (decide ((a1_3.size : Int) ≤ 5000))) else (some false)) = some r := by rw [if_pos rfl] at H; exact H
  clear H
  have H := H1
  clear H1
  by_cases c5 : (a1_2.size : Int) ≤ 5000
  ·rw [if_pos c5] at H
   have c5b0 : decide ((a1_2.size : Int) ≤ 5000) = true := decide_eq_true c5
   have c5b1 : decide (a1_2.size ≤ 5000) = true := decide_eq_true (by omega)
   clear c5
   obtain rfl := Option.some.inj H
   go_enter Try.func9, Try.ntmps9
   go_wp2_with (first | ((with_reducible refine gate_dst (N := 2) rfl ?_); (try (refine gate_guard (by rfl) ?_; dsimp only)); refine box_event ?hg (N := 2) ?hd (cs := #[.string a0_0, .slice A0_1 l0_1.length c0_1]) (t := 24) ?hr ?_; (case hd | hg => rfl); (case hr => first | (go_simp; done) | (go_simp; rfl)); intro gb275 hg w6 hbox hb; have n0_ := aM (bP (ey HB.out) hb); have n1_ := aM (hbox); have n2_ := aM ((by rw [hg]; exact (bZ (ey HB.out)) : w.heap.size ≤ gb275)); have n3_ := n2_; clear HB; have HB := n0_; have BK275 := n1_; have GW275 := n2_; have GE275 := n3_; clear n0_ n1_ n2_ n3_; clear hb hbox hg) | ((with_reducible refine gate_dst (N := 3) rfl ?_); (try (refine gate_guard (by rfl) ?_; dsimp only)); refine box_event ?hg (N := 3) ?hd (cs := #[.int .i64 a1_0, .int .i64 a1_1, .string a1_2, .string a1_3, .bool a1_4]) (t := 28) ?hr ?_; (case hd | hg => rfl); (case hr => first | (go_simp; done) | (go_simp; rfl)); intro gb276 hg w7 hbox hb; have n0_ := aM (bB (g := gb275) (qy BK275.out) hb); have n1_ := aM (bP (by repeat (first | (with_reducible first | exact HB.out | apply ea | apply en | apply ed | refine es ?_ GE275.out) | exact HB.out)) hb); have n2_ := aM (hbox); have n3_ := aM ((by rw [hg]; exact (bZ (by repeat (first | (with_reducible first | exact HB.out | apply ea | apply en | apply ed | refine es ?_ GE275.out) | exact HB.out))) : w.heap.size ≤ gb276)); have n4_ := n3_; have n5_ := aM ((by rw [hg]; exact Nat.ne_of_lt (blk_lt (g := gb275) (qy BK275.out)) : gb275 ≠ gb276)); have n6_ := aM ((by rw [hg]; exact Nat.ne_of_gt (blk_lt (g := gb275) (qy BK275.out)) : gb276 ≠ gb275)); clear BK275 HB; have BK275 := n0_; have HB := n1_; have BK276 := n2_; have GW276 := n3_; have GE276 := n4_; have NB275_276 := n5_; have NB276_275 := n6_; clear n0_ n1_ n2_ n3_ n4_ n5_ n6_; clear hb hbox hg; have hnb8 := NB275_276.out; have hnc8 := NB276_275.out; have hcz9_0 := zC BK275.out 0 (.string a0_0); have hcz9_1 := zC BK275.out 1 (.slice A0_1 l0_1.length c0_1); have hfz9_0 := bF BK275.out 0; have hfz9_1 := bF BK275.out 1) | ((with_reducible refine gate_callee (f := 18) rfl ?_); refine goesL_ (some 6) rfl rfl Try.func18 (by kernel_rfl) rfl #[.agg #[.string a0_0, .slice A0_1 l0_1.length c0_1]] rfl (by (try simp only [mT, mC, mN]); first | done | rfl | (simp only [lD, lT]; rfl)) ?_; (with_reducible refine (bureaulaw14_Fits.calls a0_0 _ _ l0_1 true _ ?side1 ?side2 A3.out).mono ?_); (case side1 => repeat (first | exact (cB_ HR0_1.out HB.out) | (with_reducible refine Kd.C_alloc ?_ _) | (with_reducible refine Kd.C_drewN ?_ _) | (with_reducible refine Kd.C_drew ?_))); (case side2 => exact HC0_1.out); rintro e w10 ⟨rfl, hb⟩; refine ⟨_, rfl, ?_⟩; have n0_ := aM (bB (g := gb275) (qy BK275.out) hb); have n1_ := aM (bB (g := gb276) (qy BK276.out) hb); have n2_ := aM (bP (by repeat (first | (with_reducible first | exact HB.out | apply ea | apply en | apply ed | refine es ?_ GE275.out | refine es ?_ GE276.out) | exact HB.out)) hb); clear BK275 BK276 HB; have BK275 := n0_; have BK276 := n1_; have HB := n2_; clear n0_ n1_ n2_; (try clear hb); (try clear hb2); (try clear hk); (try clear hi); have hcz11_0 := zC BK276.out 0 (.int .i64 a1_0); have hcz11_1 := zC BK276.out 1 (.int .i64 a1_1); have hcz11_2 := zC BK276.out 2 (.string a1_2); have hcz11_3 := zC BK276.out 3 (.string a1_3); have hcz11_4 := zC BK276.out 4 (.bool a1_4); have hfz11_0 := bF BK276.out 0; have hfz11_1 := bF BK276.out 1; have hfz11_2 := bF BK276.out 2; have hfz11_3 := bF BK276.out 3; have hfz11_4 := bF BK276.out 4))
   go_ret
   exact ⟨by first | rfl | (simp [errW_none, errW_some] <;> rfl) | (simp [*, errW_none, errW_some] <;> rfl), by repeat (first | (with_reducible first | exact HB.out | apply ea | apply en | apply ed | refine es ?_ GE275.out | refine es ?_ GE276.out) | exact HB.out)⟩
  ·rw [if_neg c5] at H
   have c5b0 : decide ((a1_2.size : Int) ≤ 5000) = false := decide_eq_false c5
   have c5b1 : decide (a1_2.size ≤ 5000) = false := decide_eq_false (by omega)
   clear c5
   obtain rfl := Option.some.inj H
   go_enter Try.func9, Try.ntmps9
   go_wp2_with (first | ((with_reducible refine gate_dst (N := 2) rfl ?_); (try (refine gate_guard (by rfl) ?_; dsimp only)); refine box_event ?hg (N := 2) ?hd (cs := #[.string a0_0, .slice A0_1 l0_1.length c0_1]) (t := 24) ?hr ?_; (case hd | hg => rfl); (case hr => first | (go_simp; done) | (go_simp; rfl)); intro gb275 hg w12 hbox hb; have n0_ := aM (bP (ey HB.out) hb); have n1_ := aM (hbox); have n2_ := aM ((by rw [hg]; exact (bZ (ey HB.out)) : w.heap.size ≤ gb275)); have n3_ := n2_; clear HB; have HB := n0_; have BK275 := n1_; have GW275 := n2_; have GE275 := n3_; clear n0_ n1_ n2_ n3_; clear hb hbox hg) | ((with_reducible refine gate_dst (N := 3) rfl ?_); (try (refine gate_guard (by rfl) ?_; dsimp only)); refine box_event ?hg (N := 3) ?hd (cs := #[.int .i64 a1_0, .int .i64 a1_1, .string a1_2, .string a1_3, .bool a1_4]) (t := 28) ?hr ?_; (case hd | hg => rfl); (case hr => first | (go_simp; done) | (go_simp; rfl)); intro gb276 hg w13 hbox hb; have n0_ := aM (bB (g := gb275) (qy BK275.out) hb); have n1_ := aM (bP (by repeat (first | (with_reducible first | exact HB.out | apply ea | apply en | apply ed | refine es ?_ GE275.out) | exact HB.out)) hb); have n2_ := aM (hbox); have n3_ := aM ((by rw [hg]; exact (bZ (by repeat (first | (with_reducible first | exact HB.out | apply ea | apply en | apply ed | refine es ?_ GE275.out) | exact HB.out))) : w.heap.size ≤ gb276)); have n4_ := n3_; have n5_ := aM ((by rw [hg]; exact Nat.ne_of_lt (blk_lt (g := gb275) (qy BK275.out)) : gb275 ≠ gb276)); have n6_ := aM ((by rw [hg]; exact Nat.ne_of_gt (blk_lt (g := gb275) (qy BK275.out)) : gb276 ≠ gb275)); clear BK275 HB; have BK275 := n0_; have HB := n1_; have BK276 := n2_; have GW276 := n3_; have GE276 := n4_; have NB275_276 := n5_; have NB276_275 := n6_; clear n0_ n1_ n2_ n3_ n4_ n5_ n6_; clear hb hbox hg; have hnb14 := NB275_276.out; have hnc14 := NB276_275.out; have hcz15_0 := zC BK275.out 0 (.string a0_0); have hcz15_1 := zC BK275.out 1 (.slice A0_1 l0_1.length c0_1); have hfz15_0 := bF BK275.out 0; have hfz15_1 := bF BK275.out 1) | ((with_reducible refine gate_callee (f := 18) rfl ?_); refine goesL_ (some 6) rfl rfl Try.func18 (by kernel_rfl) rfl #[.agg #[.string a0_0, .slice A0_1 l0_1.length c0_1]] rfl (by (try simp only [mT, mC, mN]); first | done | rfl | (simp only [lD, lT]; rfl)) ?_; (with_reducible refine (bureaulaw14_Fits.calls a0_0 _ _ l0_1 true _ ?side1 ?side2 A3.out).mono ?_); (case side1 => repeat (first | exact (cB_ HR0_1.out HB.out) | (with_reducible refine Kd.C_alloc ?_ _) | (with_reducible refine Kd.C_drewN ?_ _) | (with_reducible refine Kd.C_drew ?_))); (case side2 => exact HC0_1.out); rintro e w16 ⟨rfl, hb⟩; refine ⟨_, rfl, ?_⟩; have n0_ := aM (bB (g := gb275) (qy BK275.out) hb); have n1_ := aM (bB (g := gb276) (qy BK276.out) hb); have n2_ := aM (bP (by repeat (first | (with_reducible first | exact HB.out | apply ea | apply en | apply ed | refine es ?_ GE275.out | refine es ?_ GE276.out) | exact HB.out)) hb); clear BK275 BK276 HB; have BK275 := n0_; have BK276 := n1_; have HB := n2_; clear n0_ n1_ n2_; (try clear hb); (try clear hb2); (try clear hk); (try clear hi); have hcz17_0 := zC BK276.out 0 (.int .i64 a1_0); have hcz17_1 := zC BK276.out 1 (.int .i64 a1_1); have hcz17_2 := zC BK276.out 2 (.string a1_2); have hcz17_3 := zC BK276.out 3 (.string a1_3); have hcz17_4 := zC BK276.out 4 (.bool a1_4); have hfz17_0 := bF BK276.out 0; have hfz17_1 := bF BK276.out 1; have hfz17_2 := bF BK276.out 2; have hfz17_3 := bF BK276.out 3; have hfz17_4 := bF BK276.out 4))
   go_ret
   exact ⟨by first | rfl | (simp [errW_none, errW_some] <;> rfl) | (simp [*, errW_none, errW_some] <;> rfl), by repeat (first | (with_reducible first | exact HB.out | apply ea | apply en | apply ed | refine es ?_ GE275.out | refine es ?_ GE276.out) | exact HB.out)⟩
 ·replace c4 := Bool.eq_false_iff.mpr c4
  subst c4
  have H1 : (some false) = some r := by rw [if_neg (show ¬ (false = true) by decide)] at H; exact H
  clear H
  have H := H1
  clear H1
  obtain rfl := Option.some.inj H
  go_enter Try.func9, Try.ntmps9
  go_wp2_with (first | ((with_reducible refine gate_dst (N := 2) rfl ?_); (try (refine gate_guard (by rfl) ?_; dsimp only)); refine box_event ?hg (N := 2) ?hd (cs := #[.string a0_0, .slice A0_1 l0_1.length c0_1]) (t := 24) ?hr ?_; (case hd | hg => rfl); (case hr => first | (go_simp; done) | (go_simp; rfl)); intro gb275 hg w18 hbox hb; have n0_ := aM (bP (ey HB.out) hb); have n1_ := aM (hbox); have n2_ := aM ((by rw [hg]; exact (bZ (ey HB.out)) : w.heap.size ≤ gb275)); have n3_ := n2_; clear HB; have HB := n0_; have BK275 := n1_; have GW275 := n2_; have GE275 := n3_; clear n0_ n1_ n2_ n3_; clear hb hbox hg) | ((with_reducible refine gate_dst (N := 3) rfl ?_); (try (refine gate_guard (by rfl) ?_; dsimp only)); refine box_event ?hg (N := 3) ?hd (cs := #[.int .i64 a1_0, .int .i64 a1_1, .string a1_2, .string a1_3, .bool a1_4]) (t := 28) ?hr ?_; (case hd | hg => rfl); (case hr => first | (go_simp; done) | (go_simp; rfl)); intro gb276 hg w19 hbox hb; have n0_ := aM (bB (g := gb275) (qy BK275.out) hb); have n1_ := aM (bP (by repeat (first | (with_reducible first | exact HB.out | apply ea | apply en | apply ed | refine es ?_ GE275.out) | exact HB.out)) hb); have n2_ := aM (hbox); have n3_ := aM ((by rw [hg]; exact (bZ (by repeat (first | (with_reducible first | exact HB.out | apply ea | apply en | apply ed | refine es ?_ GE275.out) | exact HB.out))) : w.heap.size ≤ gb276)); have n4_ := n3_; have n5_ := aM ((by rw [hg]; exact Nat.ne_of_lt (blk_lt (g := gb275) (qy BK275.out)) : gb275 ≠ gb276)); have n6_ := aM ((by rw [hg]; exact Nat.ne_of_gt (blk_lt (g := gb275) (qy BK275.out)) : gb276 ≠ gb275)); clear BK275 HB; have BK275 := n0_; have HB := n1_; have BK276 := n2_; have GW276 := n3_; have GE276 := n4_; have NB275_276 := n5_; have NB276_275 := n6_; clear n0_ n1_ n2_ n3_ n4_ n5_ n6_; clear hb hbox hg; have hnb20 := NB275_276.out; have hnc20 := NB276_275.out; have hcz21_0 := zC BK275.out 0 (.string a0_0); have hcz21_1 := zC BK275.out 1 (.slice A0_1 l0_1.length c0_1); have hfz21_0 := bF BK275.out 0; have hfz21_1 := bF BK275.out 1) | ((with_reducible refine gate_callee (f := 18) rfl ?_); refine goesL_ (some 6) rfl rfl Try.func18 (by kernel_rfl) rfl #[.agg #[.string a0_0, .slice A0_1 l0_1.length c0_1]] rfl (by (try simp only [mT, mC, mN]); first | done | rfl | (simp only [lD, lT]; rfl)) ?_; (with_reducible refine (bureaulaw14_Fits.calls a0_0 _ _ l0_1 false _ ?side1 ?side2 A3.out).mono ?_); (case side1 => repeat (first | exact (cB_ HR0_1.out HB.out) | (with_reducible refine Kd.C_alloc ?_ _) | (with_reducible refine Kd.C_drewN ?_ _) | (with_reducible refine Kd.C_drew ?_))); (case side2 => exact HC0_1.out); rintro e w22 ⟨rfl, hb⟩; refine ⟨_, rfl, ?_⟩; have n0_ := aM (bB (g := gb275) (qy BK275.out) hb); have n1_ := aM (bB (g := gb276) (qy BK276.out) hb); have n2_ := aM (bP (by repeat (first | (with_reducible first | exact HB.out | apply ea | apply en | apply ed | refine es ?_ GE275.out | refine es ?_ GE276.out) | exact HB.out)) hb); clear BK275 BK276 HB; have BK275 := n0_; have BK276 := n1_; have HB := n2_; clear n0_ n1_ n2_; (try clear hb); (try clear hb2); (try clear hk); (try clear hi)))
  go_ret
  exact ⟨by first | rfl | (simp [errW_none, errW_some] <;> rfl) | (simp [*, errW_none, errW_some] <;> rfl), by repeat (first | (with_reducible first | exact HB.out | apply ea | apply en | apply ed | refine es ?_ GE275.out | refine es ?_ GE276.out) | exact HB.out)⟩
end Go.Proofs.Ytnbdldpjiofafaa.PB
end

section
namespace Go.Proofs.Ytnbdldpjiofafaa.PB
open Go.RowKit Go.Proofs.YtnbdldpjiofafaaW.PrintWords Go.Proofs.YtnbdldpjiofafaaW.PrintLast Go.Proofs.YtnbdldpjiofafaaW.PrintMore
attribute [local go_sem] max2_int min2_int max_two min_two max_three min_three max_four min_four   
set_option linter.unusedVariables false
set_option linter.unusedSimpArgs false
def bureaulaw15_ours.f (a0_0 : Int) (a0_1 : Int) (a0_2 : ByteArray) (a0_3 : ByteArray) (a0_4 : Bool) : Option (Int × Int × ByteArray × ByteArray × Bool) := some (a0_0, a0_1, a0_2, a0_3, a0_4)
set_option maxHeartbeats 8000000 in
set_option maxRecDepth 100000 in
theorem bureaulaw15_ours.calls (a0_0 : Int) (a0_1 : Int) (a0_2 : ByteArray) (a0_3 : ByteArray) (a0_4 : Bool) (r1 : Int) (r2 : Int) (r3 : ByteArray) (r4 : ByteArray) (r5 : Bool) (w : World) (h : bureaulaw15_ours.f a0_0 a0_1 a0_2 a0_3 a0_4 = some (r1, r2, r3, r4, r5)) :
  Calls Try.prog 12 #[.agg #[.int .i64 a0_0, .int .i64 a0_1, .string a0_2, .string a0_3, .bool a0_4]] w fun e w' => e = .returned (.agg #[.int .i64 r1, .int .i64 r2, .string r3, .string r4, .bool r5]) ∧ Below w.heap.size w w' := by
 have hu28 := Try.underlying28
 have hu38 := Try.underlying38
 have HB := aM (Below.refl w.heap.size w)
 have H : (some (a0_0, a0_1, a0_2, a0_3, a0_4)) = some (r1, r2, r3, r4, r5) := h
 clear h
 simp only [Option.some.injEq, Prod.mk.injEq] at H
 obtain ⟨rfl, rfl, rfl, rfl, rfl⟩ := H
 go_enter Try.func12, Try.ntmps12
 go_wp2_with (first | ((with_reducible refine gate_dst (N := 1) rfl ?_); refine box_event ?hg (N := 1) ?hd (cs := #[.int .i64 a0_0, .int .i64 a0_1, .string a0_2, .string a0_3, .bool a0_4]) (t := 28) ?hr ?_; (case hd | hg => rfl); (case hr => first | (go_simp; done) | (go_simp; rfl)); intro gb456 hg w2 hbox hb; have n0_ := aM (bP (ey HB.out) hb); have n1_ := aM (hbox); have n2_ := aM ((by rw [hg]; exact (bZ (ey HB.out)) : w.heap.size ≤ gb456)); have n3_ := n2_; clear HB; have HB := n0_; have BK456 := n1_; have GW456 := n2_; have GE456 := n3_; clear n0_ n1_ n2_ n3_; clear hb hbox hg) | ((with_reducible refine gate_dst (N := 2) rfl ?_); refine box_event ?hg (N := 2) ?hd (cs := #[.int .i64 0, .int .i64 0, .string (⟨#[]⟩ : ByteArray), .string (⟨#[]⟩ : ByteArray), .bool false]) (t := 38) ?hr ?_; (case hd | hg => rfl); (case hr => first | (go_simp; done) | (go_simp; rfl)); intro gb457 hg w3 hbox hb; have n0_ := aM (bB (g := gb456) (qy BK456.out) hb); have n1_ := aM (bP (by repeat (first | (with_reducible first | exact HB.out | apply ea | apply en | apply ed | refine es ?_ GE456.out) | exact HB.out)) hb); have n2_ := aM (hbox); have n3_ := aM ((by rw [hg]; exact (bZ (by repeat (first | (with_reducible first | exact HB.out | apply ea | apply en | apply ed | refine es ?_ GE456.out) | exact HB.out))) : w.heap.size ≤ gb457)); have n4_ := n3_; have n5_ := aM ((by rw [hg]; exact Nat.ne_of_lt (blk_lt (g := gb456) (qy BK456.out)) : gb456 ≠ gb457)); have n6_ := aM ((by rw [hg]; exact Nat.ne_of_gt (blk_lt (g := gb456) (qy BK456.out)) : gb457 ≠ gb456)); clear BK456 HB; have BK456 := n0_; have HB := n1_; have BK457 := n2_; have GW457 := n3_; have GE457 := n4_; have NB456_457 := n5_; have NB457_456 := n6_; clear n0_ n1_ n2_ n3_ n4_ n5_ n6_; clear hb hbox hg; have hnb4 := NB456_457.out; have hnc4 := NB457_456.out; have hcz5_0 := zC BK456.out 0 (.int .i64 a0_0); have hcz5_1 := zC BK456.out 1 (.int .i64 a0_1); have hcz5_2 := zC BK456.out 2 (.string a0_2); have hcz5_3 := zC BK456.out 3 (.string a0_3); have hcz5_4 := zC BK456.out 4 (.bool a0_4); have hfz5_0 := bF BK456.out 0; have hfz5_1 := bF BK456.out 1; have hfz5_2 := bF BK456.out 2; have hfz5_3 := bF BK456.out 3; have hfz5_4 := bF BK456.out 4; have hcz6_0 := zC BK457.out 0 (.int .i64 0); have hcz6_1 := zC BK457.out 1 (.int .i64 0); have hcz6_2 := zC BK457.out 2 (.string (⟨#[]⟩ : ByteArray)); have hcz6_3 := zC BK457.out 3 (.string (⟨#[]⟩ : ByteArray)); have hcz6_4 := zC BK457.out 4 (.bool false); have hfz6_0 := bF BK457.out 0; have hfz6_1 := bF BK457.out 1; have hfz6_2 := bF BK457.out 2; have hfz6_3 := bF BK457.out 3; have hfz6_4 := bF BK457.out 4))
 refine bodyPost_ret (results_cell_row rfl _ _ gb457 38 #[.int .i64 a0_0, .int .i64 a0_1, .string a0_2, .string a0_3, .bool a0_4] (0, 0) _ rfl (by (with_reducible repeat (first | apply qn | apply qd | apply qa)); refine bU (cs := #[.int .i64 a0_0, .int .i64 a0_1, .string a0_2, .string a0_3, .bool false]) ?_ 4 _ rfl; (with_reducible repeat (first | apply qn | apply qd | apply qa)); refine bU (cs := #[.int .i64 a0_0, .int .i64 a0_1, .string a0_2, .string (⟨#[]⟩ : ByteArray), .bool false]) ?_ 3 _ rfl; (with_reducible repeat (first | apply qn | apply qd | apply qa)); refine bU (cs := #[.int .i64 a0_0, .int .i64 a0_1, .string (⟨#[]⟩ : ByteArray), .string (⟨#[]⟩ : ByteArray), .bool false]) ?_ 2 _ rfl; (with_reducible repeat (first | apply qn | apply qd | apply qa)); refine bU (cs := #[.int .i64 a0_0, .int .i64 0, .string (⟨#[]⟩ : ByteArray), .string (⟨#[]⟩ : ByteArray), .bool false]) ?_ 1 _ rfl; (with_reducible repeat (first | apply qn | apply qd | apply qa)); refine bU (cs := #[.int .i64 0, .int .i64 0, .string (⟨#[]⟩ : ByteArray), .string (⟨#[]⟩ : ByteArray), .bool false]) ?_ 0 _ rfl; exact qy BK457.out) Try.underlying38 rfl (by kernel_rfl)) rfl ?_
 exact ⟨by first | rfl | (simp [errW_none, errW_some] <;> rfl) | (simp [*, errW_none, errW_some] <;> rfl), by repeat (first | (with_reducible first | exact HB.out | apply ea | apply en | apply ed | refine es ?_ GE456.out | refine es ?_ GE457.out) | exact HB.out)⟩
end Go.Proofs.Ytnbdldpjiofafaa.PB
end

section
namespace Go.Proofs.Ytnbdldpjiofafaa.PB
open Go.RowKit Go.Proofs.YtnbdldpjiofafaaW.PrintWords Go.Proofs.YtnbdldpjiofafaaW.PrintLast Go.Proofs.YtnbdldpjiofafaaW.PrintMore
attribute [local go_sem] max2_int min2_int max_two min_two max_three min_three max_four min_four   
set_option linter.unusedVariables false
set_option linter.unusedSimpArgs false
theorem eqA51 (d : Nat) (w : World) (x0 y0 : Int) (x1 y1 : Int) :
  (Op.equalIn (d + 2) 51 (.agg #[.int .u64 x0, .int .i64 x1]) (.agg #[.int .u64 y0, .int .i64 y1])).run Try.prog w = .ok (x0 == y0 && (x1 == y1)) w := by
 refine eqA_of Try.underlying51 (by kernel_rfl) ?_
 refine eqf_cons (by rfl) (by go_simp; rfl) (by go_simp; rfl) (by go_simp) ?_
 exact eqf_last (by rfl) (by go_simp; rfl) (by go_simp; rfl) (by go_simp)
end Go.Proofs.Ytnbdldpjiofafaa.PB
end

section
namespace Go.Proofs.Ytnbdldpjiofafaa.PB
open Go.RowKit Go.Proofs.YtnbdldpjiofafaaW.PrintWords Go.Proofs.YtnbdldpjiofafaaW.PrintLast Go.Proofs.YtnbdldpjiofafaaW.PrintMore
attribute [local go_sem] max2_int min2_int max_two min_two max_three min_three max_four min_four   
set_option linter.unusedVariables false
set_option linter.unusedSimpArgs false
attribute [local go_sem high] eqA51
def bureauref03_Same.l0 : Nat → List (S51) → List (S51) → Int → Option (Bool)
 | 0, _, _, _ => none
 | k + 1, x0, x1, x5 => if x5 < (x0.length : Int) then (if 0 ≤ x5 then (if x5 < (x1.length : Int) then (if (!(((rd_T51 x0 x5).f0) == ((rd_T51 x1 x5).f0)) || (!(((rd_T51 x0 x5).f1) == ((rd_T51 x1 x5).f1)))) = true then (some false) else (bureauref03_Same.l0 k x0 x1 (wrap64 (x5 + 1)))) else (none)) else (none)) else (some true)
def bureauref03_Same.f (k : Nat) (l0 : List (S51)) (l1 : List (S51)) : Option (Bool) := if (l0.length : Int) = (l1.length : Int) then (bureauref03_Same.l0 k l0 l1 0) else (some false)
set_option maxHeartbeats 8000000 in
set_option maxRecDepth 100000 in
theorem bureauref03_Same.calls (k : Nat) (A0 : Option Addr) (c0 : Nat) (l0 : List (S51)) (A1 : Option Addr) (c1 : Nat) (l1 : List (S51)) (r : Bool) (w : World) (hr0 : Kd.C k51 w A0 l0.length l0) (hc0 : l0.length ≤ c0) (hr1 : Kd.C k51 w A1 l1.length l1) (hc1 : l1.length ≤ c1) (h : bureauref03_Same.f k l0 l1 = some r) :
  Calls Try.prog 42 #[.slice A0 l0.length c0, .slice A1 l1.length c1] w fun e w' => e = .returned (.bool r) ∧ Drawn0 w w' := by
 have hu51 := Try.underlying51
 have HR0 := aM hr0
 have HC0 := aM hc0
 clear hr0 hc0
 have HR1 := aM hr1
 have HC1 := aM hc1
 clear hr1 hc1
 have H : (if (l0.length : Int) = (l1.length : Int) then (bureauref03_Same.l0 k l0 l1 0) else (some false)) = some r := h
 clear h
 by_cases c3 : (l0.length : Int) = (l1.length : Int)
 ·rw [if_pos c3] at H
  have c3b0 : ((l0.length : Int) == (l1.length : Int)) = true := beq_iff_eq.mpr c3
  have c3b1 : ((l0.length : Int) != (l1.length : Int)) = false := bne_eq_false_iff_eq.mpr c3
  have c3b2 : (l0.length == l1.length) = true := by first | simpa using c3 | (simp at c3 ⊢; omega)
  clear c3
  have H' := aM H
  clear H
  go_enter Try.func42, Try.ntmps42
  go_wp2
  repeat (go_quiet (fail); try go_wp2)
  go_loopg [5] k (fun kq v5 w' => ∃ (x5_1 : Int), v5 = .int .i64 x5_1 ∧ Aside0 (bureauref03_Same.l0 kq l0 l1 x5_1 = some r) ∧ Aside0 (kq ≤ k) ∧ Drawn0 w w')
  case atStart => exact ⟨(0), (by first | rfl | (simp; done) | (simp [*]; done)), H', ⟨Nat.le_refl _⟩, by repeat (first | exact Drawn0.refl _ | apply Drawn0.step)⟩
  case round =>
   clear H'
   try clear c1
   try clear p2
   try clear c3
   try clear c3b0
   try clear c3b1
   try clear c3b2
   obtain ⟨x5_1, rfl, HA, HK1, ⟨m1, rfl⟩⟩ := hrel
   cases gk with
   | zero => exact absurd HA.out (by simp [bureauref03_Same.l0])
   | succ k1 =>
    have H := HA.out
    clear HA
    simp only [bureauref03_Same.l0] at H
    by_cases c4 : x5_1 < (l0.length : Int)
    ·rw [if_pos c4] at H
     have c4b0 : decide (x5_1 < (l0.length : Int)) = true := decide_eq_true c4
     clear c4
     by_cases c5 : 0 ≤ x5_1
     ·rw [if_pos c5] at H
      have c5b0 : decide (0 ≤ x5_1) = true := decide_eq_true c5
      clear c5
      by_cases c6 : x5_1 < (l1.length : Int)
      ·rw [if_pos c6] at H
       have c6b0 : decide (x5_1 < (l1.length : Int)) = true := decide_eq_true c6
       clear c6
       by_cases c7 : (!(((rd_T51 l0 x5_1).f0) == ((rd_T51 l1 x5_1).f0)) || (!(((rd_T51 l0 x5_1).f1) == ((rd_T51 l1 x5_1).f1)))) = true
       ·rw [if_pos c7] at H
        have c7b0 : (!(((rd_T51 l0 x5_1).f0) == ((rd_T51 l1 x5_1).f0)) || (!(((rd_T51 l0 x5_1).f1) == ((rd_T51 l1 x5_1).f1)))) = true := c7
        clear c7
        obtain rfl := Option.some.inj H
        have p283 : 0 ≤ (x5_1 : Int) := of_decide_eq_true (by first | (with_reducible assumption) | assumption)
        have q283 : x5_1 < (l0.length : Int) := of_decide_eq_true (by first | (with_reducible assumption) | assumption)
        obtain ⟨ad283, e283, hx283_0, hx283_1⟩ := at_T51 HR0.out x5_1 p283 q283
        cases e283
        replace p283 := eq_true p283
        replace q283 := eq_true q283
        have p284 : 0 ≤ (x5_1 : Int) := of_decide_eq_true (by first | (with_reducible assumption) | assumption)
        have q284 : x5_1 < (l1.length : Int) := of_decide_eq_true (by first | (with_reducible assumption) | assumption)
        obtain ⟨ad284, e284, hx284_0, hx284_1⟩ := at_T51 HR1.out x5_1 p284 q284
        cases e284
        replace p284 := eq_true p284
        replace q284 := eq_true q284
        go_wp2
        repeat (go_quiet (fail); try go_wp2)
        go_ret
        exact ⟨by first | rfl | (simp; done) | (simp [*]; done), by repeat (first | exact Drawn0.refl _ | apply Drawn0.step)⟩
       ·rw [if_neg c7] at H
        have c7b0 : (!(((rd_T51 l0 x5_1).f0) == ((rd_T51 l1 x5_1).f0)) || (!(((rd_T51 l0 x5_1).f1) == ((rd_T51 l1 x5_1).f1)))) = false := by simpa using c7
        clear c7
        have H' := aM H
        clear H
        have p283 : 0 ≤ (x5_1 : Int) := of_decide_eq_true (by first | (with_reducible assumption) | assumption)
        have q283 : x5_1 < (l0.length : Int) := of_decide_eq_true (by first | (with_reducible assumption) | assumption)
        obtain ⟨ad283, e283, hx283_0, hx283_1⟩ := at_T51 HR0.out x5_1 p283 q283
        cases e283
        replace p283 := eq_true p283
        replace q283 := eq_true q283
        have p284 : 0 ≤ (x5_1 : Int) := of_decide_eq_true (by first | (with_reducible assumption) | assumption)
        have q284 : x5_1 < (l1.length : Int) := of_decide_eq_true (by first | (with_reducible assumption) | assumption)
        obtain ⟨ad284, e284, hx284_0, hx284_1⟩ := at_T51 HR1.out x5_1 p284 q284
        cases e284
        replace p284 := eq_true p284
        replace q284 := eq_true q284
        go_wp2
        repeat (go_quiet (fail); try go_wp2)
        go_roundg k1
        case measure => have := HK1.out; omega
        case rel => exact ⟨(wrap64 (x5_1 + 1)), (by first | rfl | (simp; done) | (simp [*]; done)), H', ⟨by have := HK1.out; omega⟩, by repeat (first | exact Drawn0.refl _ | apply Drawn0.step)⟩
      ·rw [if_neg c6] at H
       exact absurd H (by simp)
     ·rw [if_neg c5] at H
      exact absurd H (by simp)
    ·rw [if_neg c4] at H
     have c4b0 : decide (x5_1 < (l0.length : Int)) = false := decide_eq_false c4
     clear c4
     obtain rfl := Option.some.inj H
     go_wp2
     repeat (go_quiet (fail); try go_wp2)
     go_ret
     exact ⟨by first | rfl | (simp; done) | (simp [*]; done), by repeat (first | exact Drawn0.refl _ | apply Drawn0.step)⟩
 ·rw [if_neg c3] at H
  have c3b0 : ((l0.length : Int) == (l1.length : Int)) = false := beq_eq_false_iff_ne.mpr c3
  have c3b1 : ((l0.length : Int) != (l1.length : Int)) = true := bne_iff_ne.mpr c3
  have c3b2 : (l0.length == l1.length) = false := by first | simpa using c3 | (simp at c3 ⊢; omega)
  obtain rfl := Option.some.inj H
  go_enter Try.func42, Try.ntmps42
  go_wp2
  repeat (go_quiet (fail); try go_wp2)
  go_ret
  exact ⟨by first | rfl | (simp; done) | (simp [*]; done), by repeat (first | exact Drawn0.refl _ | apply Drawn0.step)⟩
end Go.Proofs.Ytnbdldpjiofafaa.PB
end

section
namespace Go.Proofs.Ytnbdldpjiofafaa.PB
open Go.RowKit Go.Proofs.YtnbdldpjiofafaaW.PrintWords Go.Proofs.YtnbdldpjiofafaaW.PrintLast Go.Proofs.YtnbdldpjiofafaaW.PrintMore
attribute [local go_sem] max2_int min2_int max_two min_two max_three min_three max_four min_four   
set_option linter.unusedVariables false
set_option linter.unusedSimpArgs false
def bureauref04_Same.f (k : Nat) (a0_0 : ByteArray) (l0_1 : List (S51)) (a1_0 : ByteArray) (l1_1 : List (S51)) : Option (Bool) := if a0_0.toList = a1_0.toList then ((bureauref03_Same.f k l0_1 l1_1).bind fun t460 => (some t460)) else (some false)
set_option maxHeartbeats 8000000 in
set_option maxRecDepth 100000 in
theorem bureauref04_Same.calls (k : Nat) (a0_0 : ByteArray) (A0_1 : Option Addr) (c0_1 : Nat) (l0_1 : List (S51)) (a1_0 : ByteArray) (A1_1 : Option Addr) (c1_1 : Nat) (l1_1 : List (S51)) (r : Bool) (w : World) (hr0_1 : Kd.C k51 w A0_1 l0_1.length l0_1) (hc0_1 : l0_1.length ≤ c0_1) (hr1_1 : Kd.C k51 w A1_1 l1_1.length l1_1) (hc1_1 : l1_1.length ≤ c1_1) (h : bureauref04_Same.f k a0_0 l0_1 a1_0 l1_1 = some r) :
  Calls Try.prog 36 #[.agg #[.string a0_0, .slice A0_1 l0_1.length c0_1], .agg #[.string a1_0, .slice A1_1 l1_1.length c1_1]] w fun e w' => e = .returned (.bool r) ∧ Below w.heap.size w w' := by
 have hu24 := Try.underlying24
 have HR0_1 := aM hr0_1
 have HC0_1 := aM hc0_1
 clear hr0_1 hc0_1
 have HR1_1 := aM hr1_1
 have HC1_1 := aM hc1_1
 clear hr1_1 hc1_1
 have HB := aM (Below.refl w.heap.size w)
 have H : (if a0_0.toList = a1_0.toList then ((bureauref03_Same.f k l0_1 l1_1).bind fun t460 => (some t460)) else (some false)) = some r := h
 clear h
 by_cases c3 : a0_0.toList = a1_0.toList
 ·rw [if_pos c3] at H
  have c3b0 : (a0_0.toList == a1_0.toList) = true := beq_iff_eq.mpr c3
  have c3b1 : (a0_0.toList != a1_0.toList) = false := bne_eq_false_iff_eq.mpr c3
  clear c3
  replace H := Option.bind_eq_some_iff.mp H
  obtain ⟨t460, A40, H⟩ := H
  replace H : (some t460) = some r := H
  have A4 := aM A40
  clear A40
  obtain rfl := Option.some.inj H
  go_enter Try.func36, Try.ntmps36
  go_wp2_with (first | ((with_reducible refine gate_dst (N := 2) rfl ?_); refine box_event ?hg (N := 2) ?hd (cs := #[.string a0_0, .slice A0_1 l0_1.length c0_1]) (t := 24) ?hr ?_; (case hd | hg => rfl); (case hr => first | (go_simp; done) | (go_simp; rfl)); intro gb458 hg w5 hbox hb; have n0_ := aM (bP (ey HB.out) hb); have n1_ := aM (hbox); have n2_ := aM ((by rw [hg]; exact (bZ (ey HB.out)) : w.heap.size ≤ gb458)); have n3_ := n2_; clear HB; have HB := n0_; have BK458 := n1_; have GW458 := n2_; have GE458 := n3_; clear n0_ n1_ n2_ n3_; clear hb hbox hg) | ((with_reducible refine gate_dst (N := 3) rfl ?_); refine box_event ?hg (N := 3) ?hd (cs := #[.string a1_0, .slice A1_1 l1_1.length c1_1]) (t := 24) ?hr ?_; (case hd | hg => rfl); (case hr => first | (go_simp; done) | (go_simp; rfl)); intro gb459 hg w6 hbox hb; have n0_ := aM (bB (g := gb458) (qy BK458.out) hb); have n1_ := aM (bP (by repeat (first | (with_reducible first | exact HB.out | apply ea | apply en | apply ed | refine es ?_ GE458.out) | exact HB.out)) hb); have n2_ := aM (hbox); have n3_ := aM ((by rw [hg]; exact (bZ (by repeat (first | (with_reducible first | exact HB.out | apply ea | apply en | apply ed | refine es ?_ GE458.out) | exact HB.out))) : w.heap.size ≤ gb459)); have n4_ := n3_; have n5_ := aM ((by rw [hg]; exact Nat.ne_of_lt (blk_lt (g := gb458) (qy BK458.out)) : gb458 ≠ gb459)); have n6_ := aM ((by rw [hg]; exact Nat.ne_of_gt (blk_lt (g := gb458) (qy BK458.out)) : gb459 ≠ gb458)); clear BK458 HB; have BK458 := n0_; have HB := n1_; have BK459 := n2_; have GW459 := n3_; have GE459 := n4_; have NB458_459 := n5_; have NB459_458 := n6_; clear n0_ n1_ n2_ n3_ n4_ n5_ n6_; clear hb hbox hg; have hnb7 := NB458_459.out; have hnc7 := NB459_458.out; have hcz8_0 := zC BK458.out 0 (.string a0_0); have hcz8_1 := zC BK458.out 1 (.slice A0_1 l0_1.length c0_1); have hfz8_0 := bF BK458.out 0; have hfz8_1 := bF BK458.out 1; have hcz9_0 := zC BK459.out 0 (.string a1_0); have hcz9_1 := zC BK459.out 1 (.slice A1_1 l1_1.length c1_1); have hfz9_0 := bF BK459.out 0; have hfz9_1 := bF BK459.out 1) | (go_at_call 42; (with_reducible refine (bureauref03_Same.calls k _ _ l0_1 _ _ l1_1 t460 _ ?side1 ?side2 ?side3 ?side4 A4.out).mono ?_); (case side1 => repeat (first | exact (cB_ HR0_1.out HB.out) | (with_reducible refine Kd.C_alloc ?_ _) | (with_reducible refine Kd.C_drewN ?_ _) | (with_reducible refine Kd.C_drew ?_))); (case side2 => exact HC0_1.out); (case side3 => repeat (first | exact (cB_ HR1_1.out HB.out) | (with_reducible refine Kd.C_alloc ?_ _) | (with_reducible refine Kd.C_drewN ?_ _) | (with_reducible refine Kd.C_drew ?_))); (case side4 => exact HC1_1.out); rintro e w' ⟨rfl, ⟨nd, rfl⟩⟩))
  go_ret
  exact ⟨by first | rfl | (simp [errW_none, errW_some] <;> rfl) | (simp [*, errW_none, errW_some] <;> rfl), by repeat (first | (with_reducible first | exact HB.out | apply ea | apply en | apply ed | refine es ?_ GE458.out | refine es ?_ GE459.out) | exact HB.out)⟩
 ·rw [if_neg c3] at H
  have c3b0 : (a0_0.toList == a1_0.toList) = false := beq_eq_false_iff_ne.mpr c3
  have c3b1 : (a0_0.toList != a1_0.toList) = true := bne_iff_ne.mpr c3
  obtain rfl := Option.some.inj H
  go_enter Try.func36, Try.ntmps36
  go_wp2_with (first | ((with_reducible refine gate_dst (N := 2) rfl ?_); refine box_event ?hg (N := 2) ?hd (cs := #[.string a0_0, .slice A0_1 l0_1.length c0_1]) (t := 24) ?hr ?_; (case hd | hg => rfl); (case hr => first | (go_simp; done) | (go_simp; rfl)); intro gb458 hg w10 hbox hb; have n0_ := aM (bP (ey HB.out) hb); have n1_ := aM (hbox); have n2_ := aM ((by rw [hg]; exact (bZ (ey HB.out)) : w.heap.size ≤ gb458)); have n3_ := n2_; clear HB; have HB := n0_; have BK458 := n1_; have GW458 := n2_; have GE458 := n3_; clear n0_ n1_ n2_ n3_; clear hb hbox hg) | ((with_reducible refine gate_dst (N := 3) rfl ?_); refine box_event ?hg (N := 3) ?hd (cs := #[.string a1_0, .slice A1_1 l1_1.length c1_1]) (t := 24) ?hr ?_; (case hd | hg => rfl); (case hr => first | (go_simp; done) | (go_simp; rfl)); intro gb459 hg w11 hbox hb; have n0_ := aM (bB (g := gb458) (qy BK458.out) hb); have n1_ := aM (bP (by repeat (first | (with_reducible first | exact HB.out | apply ea | apply en | apply ed | refine es ?_ GE458.out) | exact HB.out)) hb); have n2_ := aM (hbox); have n3_ := aM ((by rw [hg]; exact (bZ (by repeat (first | (with_reducible first | exact HB.out | apply ea | apply en | apply ed | refine es ?_ GE458.out) | exact HB.out))) : w.heap.size ≤ gb459)); have n4_ := n3_; have n5_ := aM ((by rw [hg]; exact Nat.ne_of_lt (blk_lt (g := gb458) (qy BK458.out)) : gb458 ≠ gb459)); have n6_ := aM ((by rw [hg]; exact Nat.ne_of_gt (blk_lt (g := gb458) (qy BK458.out)) : gb459 ≠ gb458)); clear BK458 HB; have BK458 := n0_; have HB := n1_; have BK459 := n2_; have GW459 := n3_; have GE459 := n4_; have NB458_459 := n5_; have NB459_458 := n6_; clear n0_ n1_ n2_ n3_ n4_ n5_ n6_; clear hb hbox hg; have hnb12 := NB458_459.out; have hnc12 := NB459_458.out; have hcz13_0 := zC BK458.out 0 (.string a0_0); have hcz13_1 := zC BK458.out 1 (.slice A0_1 l0_1.length c0_1); have hfz13_0 := bF BK458.out 0; have hfz13_1 := bF BK458.out 1; have hcz14_0 := zC BK459.out 0 (.string a1_0); have hcz14_1 := zC BK459.out 1 (.slice A1_1 l1_1.length c1_1); have hfz14_0 := bF BK459.out 0; have hfz14_1 := bF BK459.out 1))
  go_ret
  exact ⟨by first | rfl | (simp [errW_none, errW_some] <;> rfl) | (simp [*, errW_none, errW_some] <;> rfl), by repeat (first | (with_reducible first | exact HB.out | apply ea | apply en | apply ed | refine es ?_ GE458.out | refine es ?_ GE459.out) | exact HB.out)⟩
end Go.Proofs.Ytnbdldpjiofafaa.PB
end

section
namespace Go.Proofs.Ytnbdldpjiofafaa.PB
open Go.RowKit Go.Proofs.YtnbdldpjiofafaaW.PrintWords Go.Proofs.YtnbdldpjiofafaaW.PrintLast Go.Proofs.YtnbdldpjiofafaaW.PrintMore
attribute [local go_sem] max2_int min2_int max_two min_two max_three min_three max_four min_four   
set_option linter.unusedVariables false
set_option linter.unusedSimpArgs false
def bureauref07_Same.f (k : Nat) (a0_0 : Int) (a0_1 : ByteArray) (l0_2 : List (S51)) (a0_3 : ByteArray) (l0_4 : List (S51)) (a1_0 : Int) (a1_1 : ByteArray) (l1_2 : List (S51)) (a1_3 : ByteArray) (l1_4 : List (S51)) : Option (Bool) := if a0_0 = a1_0 then ((bureauref04_Same.f k a0_1 l0_2 a1_1 l1_2).bind fun t463 => (if t463 = true then ((bureauref04_Same.f k a0_3 l0_4 a1_3 l1_4).bind fun t464 => (some t464)) else (some false))) else (some false)
set_option maxHeartbeats 8000000 in
set_option maxRecDepth 100000 in
theorem bureauref07_Same.calls (k : Nat) (a0_0 : Int) (a0_1 : ByteArray) (A0_2 : Option Addr) (c0_2 : Nat) (l0_2 : List (S51)) (a0_3 : ByteArray) (A0_4 : Option Addr) (c0_4 : Nat) (l0_4 : List (S51)) (a1_0 : Int) (a1_1 : ByteArray) (A1_2 : Option Addr) (c1_2 : Nat) (l1_2 : List (S51)) (a1_3 : ByteArray) (A1_4 : Option Addr) (c1_4 : Nat) (l1_4 : List (S51)) (r : Bool) (w : World) (hr0_2 : Kd.C k51 w A0_2 l0_2.length l0_2) (hc0_2 : l0_2.length ≤ c0_2) (hr0_4 : Kd.C k51 w A0_4 l0_4.length l0_4) (hc0_4 : l0_4.length ≤ c0_4) (hr1_2 : Kd.C k51 w A1_2 l1_2.length l1_2) (hc1_2 : l1_2.length ≤ c1_2) (hr1_4 : Kd.C k51 w A1_4 l1_4.length l1_4) (hc1_4 : l1_4.length ≤ c1_4) (h : bureauref07_Same.f k a0_0 a0_1 l0_2 a0_3 l0_4 a1_0 a1_1 l1_2 a1_3 l1_4 = some r) :
  Calls Try.prog 13 #[.agg #[.int .i64 a0_0, .string a0_1, .slice A0_2 l0_2.length c0_2, .string a0_3, .slice A0_4 l0_4.length c0_4], .agg #[.int .i64 a1_0, .string a1_1, .slice A1_2 l1_2.length c1_2, .string a1_3, .slice A1_4 l1_4.length c1_4]] w fun e w' => e = .returned (.bool r) ∧ Below w.heap.size w w' := by
 have hu32 := Try.underlying32
 have hu24 := Try.underlying24
 have HR0_2 := aM hr0_2
 have HC0_2 := aM hc0_2
 clear hr0_2 hc0_2
 have HR0_4 := aM hr0_4
 have HC0_4 := aM hc0_4
 clear hr0_4 hc0_4
 have HR1_2 := aM hr1_2
 have HC1_2 := aM hc1_2
 clear hr1_2 hc1_2
 have HR1_4 := aM hr1_4
 have HC1_4 := aM hc1_4
 clear hr1_4 hc1_4
 have HB := aM (Below.refl w.heap.size w)
 have H : (if a0_0 = a1_0 then ((bureauref04_Same.f k a0_1 l0_2 a1_1 l1_2).bind fun t463 => (if t463 = true then ((bureauref04_Same.f k a0_3 l0_4 a1_3 l1_4).bind fun t464 => (some t464)) else (some false))) else (some false)) = some r := h
 clear h
 by_cases c3 : a0_0 = a1_0
 ·rw [if_pos c3] at H
  have c3b0 : (a0_0 == a1_0) = true := beq_iff_eq.mpr c3
  have c3b1 : (a0_0 != a1_0) = false := bne_eq_false_iff_eq.mpr c3
  clear c3
  replace H := Option.bind_eq_some_iff.mp H
  obtain ⟨t463, A40, H⟩ := H
  replace H : (if t463 = true then ((bureauref04_Same.f k a0_3 l0_4 a1_3 l1_4).bind fun t464 => (some t464)) else (some false)) = some r := H
  have A4 := aM A40
  clear A40
  by_cases c5 : t463 = true
  ·subst c5
   have H1 : ((bureauref04_Same.f k a0_3 l0_4 a1_3 l1_4).bind fun t464 => (some t464)) = some r := by rw [if_pos rfl] at H; exact H
   clear H
   have H := H1
   clear H1
   replace H := Option.bind_eq_some_iff.mp H
   obtain ⟨t464, A60, H⟩ := H
   replace H : (some t464) = some r := H
   have A6 := aM A60
   clear A60
   obtain rfl := Option.some.inj H
   go_enter Try.func13, Try.ntmps13
   go_wp2_with (first | ((with_reducible refine gate_dst (N := 2) rfl ?_); refine box_event ?hg (N := 2) ?hd (cs := #[.int .i64 a0_0, .string a0_1, .slice A0_2 l0_2.length c0_2, .string a0_3, .slice A0_4 l0_4.length c0_4]) (t := 32) ?hr ?_; (case hd | hg => rfl); (case hr => first | (go_simp; done) | (go_simp; rfl)); intro gb461 hg w7 hbox hb; have n0_ := aM (bP (ey HB.out) hb); have n1_ := aM (hbox); have n2_ := aM ((by rw [hg]; exact (bZ (ey HB.out)) : w.heap.size ≤ gb461)); have n3_ := n2_; clear HB; have HB := n0_; have BK461 := n1_; have GW461 := n2_; have GE461 := n3_; clear n0_ n1_ n2_ n3_; clear hb hbox hg) | ((with_reducible refine gate_dst (N := 3) rfl ?_); refine box_event ?hg (N := 3) ?hd (cs := #[.int .i64 a1_0, .string a1_1, .slice A1_2 l1_2.length c1_2, .string a1_3, .slice A1_4 l1_4.length c1_4]) (t := 32) ?hr ?_; (case hd | hg => rfl); (case hr => first | (go_simp; done) | (go_simp; rfl)); intro gb462 hg w8 hbox hb; have n0_ := aM (bB (g := gb461) (qy BK461.out) hb); have n1_ := aM (bP (by repeat (first | (with_reducible first | exact HB.out | apply ea | apply en | apply ed | refine es ?_ GE461.out) | exact HB.out)) hb); have n2_ := aM (hbox); have n3_ := aM ((by rw [hg]; exact (bZ (by repeat (first | (with_reducible first | exact HB.out | apply ea | apply en | apply ed | refine es ?_ GE461.out) | exact HB.out))) : w.heap.size ≤ gb462)); have n4_ := n3_; have n5_ := aM ((by rw [hg]; exact Nat.ne_of_lt (blk_lt (g := gb461) (qy BK461.out)) : gb461 ≠ gb462)); have n6_ := aM ((by rw [hg]; exact Nat.ne_of_gt (blk_lt (g := gb461) (qy BK461.out)) : gb462 ≠ gb461)); clear BK461 HB; have BK461 := n0_; have HB := n1_; have BK462 := n2_; have GW462 := n3_; have GE462 := n4_; have NB461_462 := n5_; have NB462_461 := n6_; clear n0_ n1_ n2_ n3_ n4_ n5_ n6_; clear hb hbox hg; have hnb9 := NB461_462.out; have hnc9 := NB462_461.out; have hcz10_0 := zC BK461.out 0 (.int .i64 a0_0); have hcz10_1 := zC BK461.out 1 (.string a0_1); have hcz10_2 := zC BK461.out 2 (.slice A0_2 l0_2.length c0_2); have hcz10_3 := zC BK461.out 3 (.string a0_3); have hcz10_4 := zC BK461.out 4 (.slice A0_4 l0_4.length c0_4); have hfz10_0 := bF BK461.out 0; have hfz10_1 := bF BK461.out 1; have hfz10_2 := bF BK461.out 2; have hfz10_3 := bF BK461.out 3; have hfz10_4 := bF BK461.out 4; have hcz11_0 := zC BK462.out 0 (.int .i64 a1_0); have hcz11_1 := zC BK462.out 1 (.string a1_1); have hcz11_2 := zC BK462.out 2 (.slice A1_2 l1_2.length c1_2); have hcz11_3 := zC BK462.out 3 (.string a1_3); have hcz11_4 := zC BK462.out 4 (.slice A1_4 l1_4.length c1_4); have hfz11_0 := bF BK462.out 0; have hfz11_1 := bF BK462.out 1; have hfz11_2 := bF BK462.out 2; have hfz11_3 := bF BK462.out 3; have hfz11_4 := bF BK462.out 4) | (go_at_call 36; (with_reducible refine (bureauref04_Same.calls k a0_1 _ _ l0_2 a1_1 _ _ l1_2 true _ ?side1 ?side2 ?side3 ?side4 A4.out).mono ?_); (case side1 => repeat (first | exact (cB_ HR0_2.out HB.out) | (with_reducible refine Kd.C_alloc ?_ _) | (with_reducible refine Kd.C_drewN ?_ _) | (with_reducible refine Kd.C_drew ?_))); (case side2 => exact HC0_2.out); (case side3 => repeat (first | exact (cB_ HR1_2.out HB.out) | (with_reducible refine Kd.C_alloc ?_ _) | (with_reducible refine Kd.C_drewN ?_ _) | (with_reducible refine Kd.C_drew ?_))); (case side4 => exact HC1_2.out); rintro e w12 ⟨rfl, hb⟩; have n0_ := aM (bB (g := gb461) (qy BK461.out) hb); have n1_ := aM (bB (g := gb462) (qy BK462.out) hb); have n2_ := aM (bP (by repeat (first | (with_reducible first | exact HB.out | apply ea | apply en | apply ed | refine es ?_ GE461.out | refine es ?_ GE462.out) | exact HB.out)) hb); clear BK461 BK462 HB; have BK461 := n0_; have BK462 := n1_; have HB := n2_; clear n0_ n1_ n2_; (try clear hb); (try clear hb2); (try clear hk); (try clear hi); have hcz13_0 := zC BK461.out 0 (.int .i64 a0_0); have hcz13_1 := zC BK461.out 1 (.string a0_1); have hcz13_2 := zC BK461.out 2 (.slice A0_2 l0_2.length c0_2); have hcz13_3 := zC BK461.out 3 (.string a0_3); have hcz13_4 := zC BK461.out 4 (.slice A0_4 l0_4.length c0_4); have hfz13_0 := bF BK461.out 0; have hfz13_1 := bF BK461.out 1; have hfz13_2 := bF BK461.out 2; have hfz13_3 := bF BK461.out 3; have hfz13_4 := bF BK461.out 4; have hcz14_0 := zC BK462.out 0 (.int .i64 a1_0); have hcz14_1 := zC BK462.out 1 (.string a1_1); have hcz14_2 := zC BK462.out 2 (.slice A1_2 l1_2.length c1_2); have hcz14_3 := zC BK462.out 3 (.string a1_3); have hcz14_4 := zC BK462.out 4 (.slice A1_4 l1_4.length c1_4); have hfz14_0 := bF BK462.out 0; have hfz14_1 := bF BK462.out 1; have hfz14_2 := bF BK462.out 2; have hfz14_3 := bF BK462.out 3; have hfz14_4 := bF BK462.out 4) | (go_at_call 36; (with_reducible refine (bureauref04_Same.calls k a0_3 _ _ l0_4 a1_3 _ _ l1_4 t464 _ ?side1 ?side2 ?side3 ?side4 A6.out).mono ?_); (case side1 => repeat (first | exact (cB_ HR0_4.out HB.out) | (with_reducible refine Kd.C_alloc ?_ _) | (with_reducible refine Kd.C_drewN ?_ _) | (with_reducible refine Kd.C_drew ?_))); (case side2 => exact HC0_4.out); (case side3 => repeat (first | exact (cB_ HR1_4.out HB.out) | (with_reducible refine Kd.C_alloc ?_ _) | (with_reducible refine Kd.C_drewN ?_ _) | (with_reducible refine Kd.C_drew ?_))); (case side4 => exact HC1_4.out); rintro e w15 ⟨rfl, hb⟩; have n0_ := aM (bB (g := gb461) (qy BK461.out) hb); have n1_ := aM (bB (g := gb462) (qy BK462.out) hb); have n2_ := aM (bP (by repeat (first | (with_reducible first | exact HB.out | apply ea | apply en | apply ed | refine es ?_ GE461.out | refine es ?_ GE462.out) | exact HB.out)) hb); clear BK461 BK462 HB; have BK461 := n0_; have BK462 := n1_; have HB := n2_; clear n0_ n1_ n2_; (try clear hb); (try clear hb2); (try clear hk); (try clear hi)))
   go_ret
   exact ⟨by first | rfl | (simp [errW_none, errW_some] <;> rfl) | (simp [*, errW_none, errW_some] <;> rfl), by repeat (first | (with_reducible first | exact HB.out | apply ea | apply en | apply ed | refine es ?_ GE461.out | refine es ?_ GE462.out) | exact HB.out)⟩
  ·replace c5 := Bool.eq_false_iff.mpr c5
   subst c5
   have H1 : (some false) = some r := by rw [if_neg (show ¬ (false = true) by decide)] at H; exact H
   clear H
   have H := H1
   clear H1
   obtain rfl := Option.some.inj H
   go_enter Try.func13, Try.ntmps13
   go_wp2_with (first | ((with_reducible refine gate_dst (N := 2) rfl ?_); refine box_event ?hg (N := 2) ?hd (cs := #[.int .i64 a0_0, .string a0_1, .slice A0_2 l0_2.length c0_2, .string a0_3, .slice A0_4 l0_4.length c0_4]) (t := 32) ?hr ?_; (case hd | hg => rfl); (case hr => first | (go_simp; done) | (go_simp; rfl)); intro gb461 hg w16 hbox hb; have n0_ := aM (bP (ey HB.out) hb); have n1_ := aM (hbox); have n2_ := aM ((by rw [hg]; exact (bZ (ey HB.out)) : w.heap.size ≤ gb461)); have n3_ := n2_; clear HB; have HB := n0_; have BK461 := n1_; have GW461 := n2_; have GE461 := n3_; clear n0_ n1_ n2_ n3_; clear hb hbox hg) | ((with_reducible refine gate_dst (N := 3) rfl ?_); refine box_event ?hg (N := 3) ?hd (cs := #[.int .i64 a1_0, .string a1_1, .slice A1_2 l1_2.length c1_2, .string a1_3, .slice A1_4 l1_4.length c1_4]) (t := 32) ?hr ?_; (case hd | hg => rfl); (case hr => first | (go_simp; done) | (go_simp; rfl)); intro gb462 hg w17 hbox hb; have n0_ := aM (bB (g := gb461) (qy BK461.out) hb); have n1_ := aM (bP (by repeat (first | (with_reducible first | exact HB.out | apply ea | apply en | apply ed | refine es ?_ GE461.out) | exact HB.out)) hb); have n2_ := aM (hbox); have n3_ := aM ((by rw [hg]; exact (bZ (by repeat (first | (with_reducible first | exact HB.out | apply ea | apply en | apply ed | refine es ?_ GE461.out) | exact HB.out))) : w.heap.size ≤ gb462)); have n4_ := n3_; have n5_ := aM ((by rw [hg]; exact Nat.ne_of_lt (blk_lt (g := gb461) (qy BK461.out)) : gb461 ≠ gb462)); have n6_ := aM ((by rw [hg]; exact Nat.ne_of_gt (blk_lt (g := gb461) (qy BK461.out)) : gb462 ≠ gb461)); clear BK461 HB; have BK461 := n0_; have HB := n1_; have BK462 := n2_; have GW462 := n3_; have GE462 := n4_; have NB461_462 := n5_; have NB462_461 := n6_; clear n0_ n1_ n2_ n3_ n4_ n5_ n6_; clear hb hbox hg; have hnb18 := NB461_462.out; have hnc18 := NB462_461.out; have hcz19_0 := zC BK461.out 0 (.int .i64 a0_0); have hcz19_1 := zC BK461.out 1 (.string a0_1); have hcz19_2 := zC BK461.out 2 (.slice A0_2 l0_2.length c0_2); have hcz19_3 := zC BK461.out 3 (.string a0_3); have hcz19_4 := zC BK461.out 4 (.slice A0_4 l0_4.length c0_4); have hfz19_0 := bF BK461.out 0; have hfz19_1 := bF BK461.out 1; have hfz19_2 := bF BK461.out 2; have hfz19_3 := bF BK461.out 3; have hfz19_4 := bF BK461.out 4; have hcz20_0 := zC BK462.out 0 (.int .i64 a1_0); have hcz20_1 := zC BK462.out 1 (.string a1_1); have hcz20_2 := zC BK462.out 2 (.slice A1_2 l1_2.length c1_2); have hcz20_3 := zC BK462.out 3 (.string a1_3); have hcz20_4 := zC BK462.out 4 (.slice A1_4 l1_4.length c1_4); have hfz20_0 := bF BK462.out 0; have hfz20_1 := bF BK462.out 1; have hfz20_2 := bF BK462.out 2; have hfz20_3 := bF BK462.out 3; have hfz20_4 := bF BK462.out 4) | (go_at_call 36; (with_reducible refine (bureauref04_Same.calls k a0_1 _ _ l0_2 a1_1 _ _ l1_2 false _ ?side1 ?side2 ?side3 ?side4 A4.out).mono ?_); (case side1 => repeat (first | exact (cB_ HR0_2.out HB.out) | (with_reducible refine Kd.C_alloc ?_ _) | (with_reducible refine Kd.C_drewN ?_ _) | (with_reducible refine Kd.C_drew ?_))); (case side2 => exact HC0_2.out); (case side3 => repeat (first | exact (cB_ HR1_2.out HB.out) | (with_reducible refine Kd.C_alloc ?_ _) | (with_reducible refine Kd.C_drewN ?_ _) | (with_reducible refine Kd.C_drew ?_))); (case side4 => exact HC1_2.out); rintro e w21 ⟨rfl, hb⟩; have n0_ := aM (bB (g := gb461) (qy BK461.out) hb); have n1_ := aM (bB (g := gb462) (qy BK462.out) hb); have n2_ := aM (bP (by repeat (first | (with_reducible first | exact HB.out | apply ea | apply en | apply ed | refine es ?_ GE461.out | refine es ?_ GE462.out) | exact HB.out)) hb); clear BK461 BK462 HB; have BK461 := n0_; have BK462 := n1_; have HB := n2_; clear n0_ n1_ n2_; (try clear hb); (try clear hb2); (try clear hk); (try clear hi)))
   go_ret
   exact ⟨by first | rfl | (simp [errW_none, errW_some] <;> rfl) | (simp [*, errW_none, errW_some] <;> rfl), by repeat (first | (with_reducible first | exact HB.out | apply ea | apply en | apply ed | refine es ?_ GE461.out | refine es ?_ GE462.out) | exact HB.out)⟩
 ·rw [if_neg c3] at H
  have c3b0 : (a0_0 == a1_0) = false := beq_eq_false_iff_ne.mpr c3
  have c3b1 : (a0_0 != a1_0) = true := bne_iff_ne.mpr c3
  obtain rfl := Option.some.inj H
  go_enter Try.func13, Try.ntmps13
  go_wp2_with (first | ((with_reducible refine gate_dst (N := 2) rfl ?_); refine box_event ?hg (N := 2) ?hd (cs := #[.int .i64 a0_0, .string a0_1, .slice A0_2 l0_2.length c0_2, .string a0_3, .slice A0_4 l0_4.length c0_4]) (t := 32) ?hr ?_; (case hd | hg => rfl); (case hr => first | (go_simp; done) | (go_simp; rfl)); intro gb461 hg w22 hbox hb; have n0_ := aM (bP (ey HB.out) hb); have n1_ := aM (hbox); have n2_ := aM ((by rw [hg]; exact (bZ (ey HB.out)) : w.heap.size ≤ gb461)); have n3_ := n2_; clear HB; have HB := n0_; have BK461 := n1_; have GW461 := n2_; have GE461 := n3_; clear n0_ n1_ n2_ n3_; clear hb hbox hg) | ((with_reducible refine gate_dst (N := 3) rfl ?_); refine box_event ?hg (N := 3) ?hd (cs := #[.int .i64 a1_0, .string a1_1, .slice A1_2 l1_2.length c1_2, .string a1_3, .slice A1_4 l1_4.length c1_4]) (t := 32) ?hr ?_; (case hd | hg => rfl); (case hr => first | (go_simp; done) | (go_simp; rfl)); intro gb462 hg w23 hbox hb; have n0_ := aM (bB (g := gb461) (qy BK461.out) hb); have n1_ := aM (bP (by repeat (first | (with_reducible first | exact HB.out | apply ea | apply en | apply ed | refine es ?_ GE461.out) | exact HB.out)) hb); have n2_ := aM (hbox); have n3_ := aM ((by rw [hg]; exact (bZ (by repeat (first | (with_reducible first | exact HB.out | apply ea | apply en | apply ed | refine es ?_ GE461.out) | exact HB.out))) : w.heap.size ≤ gb462)); have n4_ := n3_; have n5_ := aM ((by rw [hg]; exact Nat.ne_of_lt (blk_lt (g := gb461) (qy BK461.out)) : gb461 ≠ gb462)); have n6_ := aM ((by rw [hg]; exact Nat.ne_of_gt (blk_lt (g := gb461) (qy BK461.out)) : gb462 ≠ gb461)); clear BK461 HB; have BK461 := n0_; have HB := n1_; have BK462 := n2_; have GW462 := n3_; have GE462 := n4_; have NB461_462 := n5_; have NB462_461 := n6_; clear n0_ n1_ n2_ n3_ n4_ n5_ n6_; clear hb hbox hg; have hnb24 := NB461_462.out; have hnc24 := NB462_461.out; have hcz25_0 := zC BK461.out 0 (.int .i64 a0_0); have hcz25_1 := zC BK461.out 1 (.string a0_1); have hcz25_2 := zC BK461.out 2 (.slice A0_2 l0_2.length c0_2); have hcz25_3 := zC BK461.out 3 (.string a0_3); have hcz25_4 := zC BK461.out 4 (.slice A0_4 l0_4.length c0_4); have hfz25_0 := bF BK461.out 0; have hfz25_1 := bF BK461.out 1; have hfz25_2 := bF BK461.out 2; have hfz25_3 := bF BK461.out 3; have hfz25_4 := bF BK461.out 4; have hcz26_0 := zC BK462.out 0 (.int .i64 a1_0); have hcz26_1 := zC BK462.out 1 (.string a1_1); have hcz26_2 := zC BK462.out 2 (.slice A1_2 l1_2.length c1_2); have hcz26_3 := zC BK462.out 3 (.string a1_3); have hcz26_4 := zC BK462.out 4 (.slice A1_4 l1_4.length c1_4); have hfz26_0 := bF BK462.out 0; have hfz26_1 := bF BK462.out 1; have hfz26_2 := bF BK462.out 2; have hfz26_3 := bF BK462.out 3; have hfz26_4 := bF BK462.out 4))
  go_ret
  exact ⟨by first | rfl | (simp [errW_none, errW_some] <;> rfl) | (simp [*, errW_none, errW_some] <;> rfl), by repeat (first | (with_reducible first | exact HB.out | apply ea | apply en | apply ed | refine es ?_ GE461.out | refine es ?_ GE462.out) | exact HB.out)⟩
end Go.Proofs.Ytnbdldpjiofafaa.PB
end

section
namespace Go.Proofs
open Go.Shelf
def Try.lays137_ren : Go.Shelf.Ren := ⟨fun | 137 => 47 | 217 => 68 | 266 => 79 | n => n, fun | 9 => 9 | 5 => 5 | 3 => 3 | n => n, fun | n => n⟩
theorem Try.lays137 : Go.Proofs.Lays.n137 Try.prog Try.lays137_ren := {
  mixed := by kernel_rfl
  f137 := Try.func47.trans (congrArg some (by kernel_rfl))
  f217 := Try.func68.trans (congrArg some (by kernel_rfl))
  f266 := Try.func79.trans (congrArg some (by kernel_rfl))
  t3 := Try.underlying3
  a3 := Try.isAgg3
  z3 := Try.sizeOf3
  v3 := Try.zeroValue3
  t5 := Try.underlying5
  a5 := Try.isAgg5
  z5 := Try.sizeOf5
  v5 := Try.zeroValue5
  t9 := Try.underlying9
  a9 := Try.isAgg9
  z9 := Try.sizeOf9
  v9 := Try.zeroValue9 }
open Go.RowKit in

theorem Try.strings_IndexByte (s : ByteArray) (c : Int) (w : World) :
    Calls Try.prog 47 #[.string s, .int .u8 c] w fun e w' => e = .returned (.int .i64 (Lib.indexByte s.data.toList c.toNat.toUInt8)) ∧ w' = w := Any.strings_IndexByte Try.lays137 s c w
def Try.lays143_ren : Go.Shelf.Ren := ⟨fun | 143 => 46 | 219 => 67 | 217 => 68 | 225 => 76 | 224 => 77 | 267 => 78 | 266 => 79 | 314 => 83 | n => n, fun | 9 => 9 | 3 => 3 | 4 => 4 | 5 => 5 | 46 => 111 | 146 => 114 | 51 => 113 | n => n, fun | 1 => 0 | n => n⟩
theorem Try.lays143 : Go.Proofs.Lays.n143 Try.prog Try.lays143_ren := {
  mixed := by kernel_rfl
  f143 := Try.func46.trans (congrArg some (by kernel_rfl))
  f217 := Try.func68.trans (congrArg some (by kernel_rfl))
  f219 := Try.func67.trans (congrArg some (by kernel_rfl))
  f224 := Try.func77.trans (congrArg some (by kernel_rfl))
  f225 := Try.func76.trans (congrArg some (by kernel_rfl))
  f266 := Try.func79.trans (congrArg some (by kernel_rfl))
  f267 := Try.func78.trans (congrArg some (by kernel_rfl))
  f314 := Try.func83.trans (congrArg some (by kernel_rfl))
  t3 := Try.underlying3
  a3 := Try.isAgg3
  z3 := Try.sizeOf3
  v3 := Try.zeroValue3
  t4 := Try.underlying4
  a4 := Try.isAgg4
  z4 := Try.sizeOf4
  v4 := Try.zeroValue4
  t5 := Try.underlying5
  a5 := Try.isAgg5
  z5 := Try.sizeOf5
  v5 := Try.zeroValue5
  t9 := Try.underlying9
  a9 := Try.isAgg9
  z9 := Try.sizeOf9
  v9 := Try.zeroValue9
  t46 := Try.underlying111
  a46 := Try.isAgg111
  z46 := Try.sizeOf111
  v46 := Try.zeroValue111
  t51 := Try.underlying113
  a51 := Try.isAgg113
  z51 := Try.sizeOf113
  v51 := Try.zeroValue113
  t146 := Try.underlying114
  a146 := Try.isAgg114
  z146 := Try.sizeOf114
  v146 := Try.zeroValue114
  g1 := by kernel_rfl }
open Go.RowKit Go.Lib in

theorem Try.strings_Index (s sub : ByteArray) (m : Int) (w : World) (hs : s.size < 4294967281) (hm : w.cell? ⟨0, 0, none⟩ = some (.int .i64 m)) :
    Calls Try.prog 46 #[.string s, .string sub] w fun e w' => e = .returned (.int .i64 (Lib.index s.data.toList sub.data.toList)) ∧ w' = w := Any.strings_Index Try.lays143 s sub m w hs hm
def Try.lays144_ren : Go.Shelf.Ren := ⟨fun | 144 => 21 | 143 => 46 | 219 => 67 | 217 => 68 | 225 => 76 | 224 => 77 | 267 => 78 | 266 => 79 | 314 => 83 | n => n, fun | 9 => 9 | 4 => 4 | 3 => 3 | 5 => 5 | 46 => 111 | 146 => 114 | 51 => 113 | n => n, fun | 1 => 0 | n => n⟩
theorem Try.lays144 : Go.Proofs.Lays.n144 Try.prog Try.lays144_ren := {
  mixed := by kernel_rfl
  f143 := Try.func46.trans (congrArg some (by kernel_rfl))
  f144 := Try.func21.trans (congrArg some (by kernel_rfl))
  f217 := Try.func68.trans (congrArg some (by kernel_rfl))
  f219 := Try.func67.trans (congrArg some (by kernel_rfl))
  f224 := Try.func77.trans (congrArg some (by kernel_rfl))
  f225 := Try.func76.trans (congrArg some (by kernel_rfl))
  f266 := Try.func79.trans (congrArg some (by kernel_rfl))
  f267 := Try.func78.trans (congrArg some (by kernel_rfl))
  f314 := Try.func83.trans (congrArg some (by kernel_rfl))
  t3 := Try.underlying3
  a3 := Try.isAgg3
  z3 := Try.sizeOf3
  v3 := Try.zeroValue3
  t4 := Try.underlying4
  a4 := Try.isAgg4
  z4 := Try.sizeOf4
  v4 := Try.zeroValue4
  t5 := Try.underlying5
  a5 := Try.isAgg5
  z5 := Try.sizeOf5
  v5 := Try.zeroValue5
  t9 := Try.underlying9
  a9 := Try.isAgg9
  z9 := Try.sizeOf9
  v9 := Try.zeroValue9
  t46 := Try.underlying111
  a46 := Try.isAgg111
  z46 := Try.sizeOf111
  v46 := Try.zeroValue111
  t51 := Try.underlying113
  a51 := Try.isAgg113
  z51 := Try.sizeOf113
  v51 := Try.zeroValue113
  t146 := Try.underlying114
  a146 := Try.isAgg114
  z146 := Try.sizeOf114
  v146 := Try.zeroValue114
  g1 := by kernel_rfl }
open Go.RowKit Go.Lib in

theorem Try.strings_Contains_one (s : ByteArray) (c : UInt8) (w : World) :
    Calls Try.prog 21 #[.string s, .string ⟨#[c]⟩] w fun e w' => e = .returned (.bool (decide (0 ≤ Lib.indexByte s.data.toList c))) ∧ w' = w := Any.strings_Contains_one Try.lays144 s c w
open Go.RowKit Go.Lib in

theorem Try.strings_Contains (s sub : ByteArray) (m : Int) (w : World) (hs : s.size < 4294967281) (hm : w.cell? ⟨0, 0, none⟩ = some (.int .i64 m)) :
    Calls Try.prog 21 #[.string s, .string sub] w fun e w' => e = .returned (.bool (Lib.contains s.data.toList sub.data.toList)) ∧ w' = w := Any.strings_Contains Try.lays144 s sub m w hs hm
def Try.lays138_ren : Go.Shelf.Ren := ⟨fun | 138 => 45 | 195 => 65 | 218 => 66 | 143 => 46 | 219 => 67 | 217 => 68 | 225 => 76 | 224 => 77 | 267 => 78 | 266 => 79 | 314 => 83 | n => n, fun | 9 => 9 | 3 => 3 | 4 => 4 | 5 => 5 | 0 => 0 | 46 => 111 | 146 => 114 | 51 => 113 | n => n, fun | 1 => 0 | n => n⟩
theorem Try.lays138 : Go.Proofs.Lays.n138 Try.prog Try.lays138_ren := {
  mixed := by kernel_rfl
  f138 := Try.func45.trans (congrArg some (by kernel_rfl))
  f143 := Try.func46.trans (congrArg some (by kernel_rfl))
  f195 := Try.func65.trans (congrArg some (by kernel_rfl))
  f217 := Try.func68.trans (congrArg some (by kernel_rfl))
  f218 := Try.func66.trans (congrArg some (by kernel_rfl))
  f219 := Try.func67.trans (congrArg some (by kernel_rfl))
  f224 := Try.func77.trans (congrArg some (by kernel_rfl))
  f225 := Try.func76.trans (congrArg some (by kernel_rfl))
  f266 := Try.func79.trans (congrArg some (by kernel_rfl))
  f267 := Try.func78.trans (congrArg some (by kernel_rfl))
  f314 := Try.func83.trans (congrArg some (by kernel_rfl))
  t0 := Try.underlying0
  a0 := Try.isAgg0
  z0 := Try.sizeOf0
  v0 := Try.zeroValue0
  t3 := Try.underlying3
  a3 := Try.isAgg3
  z3 := Try.sizeOf3
  v3 := Try.zeroValue3
  t4 := Try.underlying4
  a4 := Try.isAgg4
  z4 := Try.sizeOf4
  v4 := Try.zeroValue4
  t5 := Try.underlying5
  a5 := Try.isAgg5
  z5 := Try.sizeOf5
  v5 := Try.zeroValue5
  t9 := Try.underlying9
  a9 := Try.isAgg9
  z9 := Try.sizeOf9
  v9 := Try.zeroValue9
  t46 := Try.underlying111
  a46 := Try.isAgg111
  z46 := Try.sizeOf111
  v46 := Try.zeroValue111
  t51 := Try.underlying113
  a51 := Try.isAgg113
  z51 := Try.sizeOf113
  v51 := Try.zeroValue113
  t146 := Try.underlying114
  a146 := Try.isAgg114
  z146 := Try.sizeOf114
  v146 := Try.zeroValue114
  g1 := by kernel_rfl }
open Go.RowKit Go.Lib in

theorem Try.strings_Count_one (s : ByteArray) (c : UInt8) (w : World) :
    Calls Try.prog 45 #[.string s, .string ⟨#[c]⟩] w fun e w' => e = .returned (.int .i64 (Lib.countByte s.data.toList c)) ∧ w' = w := Any.strings_Count_one Try.lays138 s c w
open Go.RowKit Go.Lib in

theorem Try.strings_Count (s sub : ByteArray) (m : Int) (w : World) (hs : s.size < 4294967281) (hm : w.cell? ⟨0, 0, none⟩ = some (.int .i64 m)) (h2 : 2 ≤ sub.size) :
    Calls Try.prog 45 #[.string s, .string sub] w fun e w' => e = .returned (.int .i64 (Lib.countB s sub)) ∧ w' = w := Any.strings_Count Try.lays138 s sub m w hs hm h2
def Try.laysM143_ren : Go.Shelf.Ren := ⟨fun | 143 => 46 | 219 => 67 | 217 => 68 | 225 => 76 | 224 => 77 | 267 => 78 | 266 => 79 | 314 => 83 | n => n, fun | 9 => 9 | 3 => 3 | 4 => 4 | 5 => 5 | 46 => 111 | 146 => 114 | 51 => 113 | n => n, fun | 1 => 0 | n => n⟩
theorem Try.laysM143 : Go.Proofs.LaysM.n143 Try.prog Try.laysM143_ren := {
  mixed := by kernel_rfl
  f143 := Try.func46.trans (congrArg some (by kernel_rfl))
  f217 := Try.func68.trans (congrArg some (by kernel_rfl))
  f219 := Try.func67.trans (congrArg some (by kernel_rfl))
  f224 := Try.func77.trans (congrArg some (by kernel_rfl))
  f225 := Try.func76.trans (congrArg some (by kernel_rfl))
  f266 := Try.func79.trans (congrArg some (by kernel_rfl))
  f267 := Try.func78.trans (congrArg some (by kernel_rfl))
  f314 := Try.func83.trans (congrArg some (by kernel_rfl))
  t3 := Try.underlying3
  a3 := Try.isAgg3
  z3 := Try.sizeOf3
  v3 := Try.zeroValue3
  t4 := Try.underlying4
  a4 := Try.isAgg4
  z4 := Try.sizeOf4
  v4 := Try.zeroValue4
  t5 := Try.underlying5
  a5 := Try.isAgg5
  z5 := Try.sizeOf5
  v5 := Try.zeroValue5
  t9 := Try.underlying9
  a9 := Try.isAgg9
  z9 := Try.sizeOf9
  v9 := Try.zeroValue9
  t46 := Try.underlying111
  a46 := Try.isAgg111
  z46 := Try.sizeOf111
  v46 := Try.zeroValue111
  t51 := Try.underlying113
  a51 := Try.isAgg113
  z51 := Try.sizeOf113
  v51 := Try.zeroValue113
  t146 := Try.underlying114
  a146 := Try.isAgg114
  z146 := Try.sizeOf114
  v146 := Try.zeroValue114
  g1 := by kernel_rfl
  i3 := by kernel_rfl
  i4 := by kernel_rfl
  i5 := by kernel_rfl
  i9 := by kernel_rfl
  i46 := by kernel_rfl
  i51 := by kernel_rfl
  i146 := by kernel_rfl
  m1 := by kernel_rfl
  s1_3 := fun w h => Go.Proofs.cell_of_shapedOpen_int (zero := #[.int .i64 0]) (t := 3) h (of_decide_eq_true (by kernel_rfl)) (by kernel_rfl) rfl (by kernel_rfl) (by kernel_rfl) Try.underlying3 }
end Go.Proofs
end

section
namespace Go.Proofs.Ytnbdldpjiofafaa.PB
open Go.RowKit Go.Proofs.YtnbdldpjiofafaaW.PrintWords Go.Proofs.YtnbdldpjiofafaaW.PrintLast Go.Proofs.YtnbdldpjiofafaaW.PrintMore
set_option linter.unusedVariables false
set_option linter.unusedSimpArgs false
def MaxOk (w : World) : Prop := ∃ m, w.cell? ⟨0, 0, none⟩ = some (.int .i64 m)
theorem MaxOk.below {w w1 : World} (h : MaxOk w) (hb : Below w.heap.size w w1) : MaxOk w1 := by
  obtain ⟨m, hm⟩ := h
  exact ⟨m, (hb.cell (World.block_lt_of_cell? w _ hm)).trans hm⟩
theorem one_byte {s : ByteArray} (h : s.size = 1) : ∃ c : UInt8, s = ⟨#[c]⟩ := by
  obtain ⟨⟨l⟩⟩ := s
  match l, h with
  | [c], _ => exact ⟨c, rfl⟩
def strings_Index.f (a0 a1 : ByteArray) : Option Int := if a0.size < 4294967281 then some (Lib.index a0.data.toList a1.data.toList) else none
theorem strings_Index.calls (a0 a1 : ByteArray) (r : Int) (w : World) (hm : MaxOk w) (h : strings_Index.f a0 a1 = some r) :
    Calls Try.prog 46 #[.string a0, .string a1] w fun e w' => e = .returned (.int .i64 r) ∧ Below w.heap.size w w' := by
  unfold strings_Index.f at h
  split at h
  case isFalse => cases h
  rename_i hc
  injection h with h
  subst h
  obtain ⟨m, hm⟩ := hm
  refine (Try.strings_Index a0 a1 m w hc hm).mono fun e w' ⟨he, hw⟩ => ?_
  subst hw
  exact ⟨he, Below.refl _ _⟩
def strings_Count.f (a0 a1 : ByteArray) : Option Int := if a1.size = 1 then some (Lib.countByte a0.data.toList (a1.data.toList.getD 0 0)) else none
theorem strings_Count.calls (a0 a1 : ByteArray) (r : Int) (w : World) (h : strings_Count.f a0 a1 = some r) :
    Calls Try.prog 45 #[.string a0, .string a1] w fun e w' => e = .returned (.int .i64 r) ∧ Below w.heap.size w w' := by
  unfold strings_Count.f at h
  split at h
  case isFalse => cases h
  rename_i hc
  injection h with h
  subst h
  obtain ⟨c, rfl⟩ := one_byte hc
  refine (Try.strings_Count_one a0 c w).mono fun e w' ⟨he, hw⟩ => ?_
  subst hw
  exact ⟨he, Below.refl _ _⟩
def strings_Contains.f (a0 a1 : ByteArray) : Option Bool := if a1.size = 1 then some (decide (0 ≤ Lib.indexByte a0.data.toList (a1.data.toList.getD 0 0))) else none
theorem strings_Contains.calls (a0 a1 : ByteArray) (r : Bool) (w : World) (h : strings_Contains.f a0 a1 = some r) :
    Calls Try.prog 21 #[.string a0, .string a1] w fun e w' => e = .returned (.bool r) ∧ Below w.heap.size w w' := by
  unfold strings_Contains.f at h
  split at h
  case isFalse => cases h
  rename_i hc
  injection h with h
  subst h
  obtain ⟨c, rfl⟩ := one_byte hc
  refine (Try.strings_Contains_one a0 c w).mono fun e w' ⟨he, hw⟩ => ?_
  subst hw
  exact ⟨he, Below.refl _ _⟩
def strings_IndexByte.f (a0 : ByteArray) (a1 : Int) : Option Int := some (Lib.indexByte a0.data.toList a1.toNat.toUInt8)
theorem strings_IndexByte.calls (a0 : ByteArray) (a1 r : Int) (w : World) (h : strings_IndexByte.f a0 a1 = some r) :
    Calls Try.prog 47 #[.string a0, .int .u8 a1] w fun e w' => e = .returned (.int .i64 r) ∧ Below w.heap.size w w' := by
  have h := Option.some.inj h
  subst h
  refine (Try.strings_IndexByte a0 a1 w).mono fun e w' ⟨he, hw⟩ => ?_
  subst hw
  exact ⟨he, Below.refl _ _⟩
end Go.Proofs.Ytnbdldpjiofafaa.PB
end

section
namespace Go.Proofs.Ytnbdldpjiofafaa.PB
open Go.RowKit Go.Proofs.YtnbdldpjiofafaaW.PrintWords Go.Proofs.YtnbdldpjiofafaaW.PrintLast Go.Proofs.YtnbdldpjiofafaaW.PrintMore
attribute [local go_sem] max2_int min2_int max_two min_two max_three min_three max_four min_four   
set_option linter.unusedVariables false
set_option linter.unusedSimpArgs false
def line_Count.f (a0 : ByteArray) : Option (Int) := (strings_Count.f a0 (⟨#[10]⟩ : ByteArray)).bind fun t110 => (some (wrap64 (t110 + 1)))
set_option maxHeartbeats 8000000 in
set_option maxRecDepth 100000 in
theorem line_Count.calls (a0 : ByteArray) (r : Int) (w : World) (h : line_Count.f a0 = some r) :
  Calls Try.prog 20 #[.string a0] w fun e w' => e = .returned (.int .i64 r) ∧ Below w.heap.size w w' := by
 have HB := aM (Below.refl w.heap.size w)
 have H : ((strings_Count.f a0 (⟨#[10]⟩ : ByteArray)).bind fun t110 => (some (wrap64 (t110 + 1)))) = some r := h
 clear h
 replace H := Option.bind_eq_some_iff.mp H
 obtain ⟨t110, A20, H⟩ := H
 replace H : (some (wrap64 (t110 + 1))) = some r := H
 have A2 := aM A20
 clear A20
 obtain rfl := Option.some.inj H
 go_enter Try.func20, Try.ntmps20
 go_wp2_with (first | ((with_reducible refine gate_callee (f := 45) rfl ?_); refine goesL_ (some 4) rfl rfl Try.func45 (by kernel_rfl) rfl #[.string a0, .string (⟨#[10]⟩ : ByteArray)] rfl (by (try simp only [mT, mC, mN]); first | done | rfl | (simp only [lD, lT]; rfl)) ?_; (with_reducible refine (strings_Count.calls a0 (⟨#[10]⟩ : ByteArray) t110 _ A2.out).mono ?_); rintro e w3 ⟨rfl, hb⟩; refine ⟨_, rfl, ?_⟩; have n0_ := aM (bP (ey HB.out) hb); clear HB; have HB := n0_; clear n0_; (try clear hb); (try clear hb2); (try clear hk); (try clear hi)))
 go_ret
 exact ⟨by first | rfl | (simp [errW_none, errW_some] <;> rfl) | (simp [*, errW_none, errW_some] <;> rfl), by exact ey HB.out⟩
end Go.Proofs.Ytnbdldpjiofafaa.PB
end

section
namespace Go.Proofs.Ytnbdldpjiofafaa.PB
open Go.RowKit Go.Proofs.YtnbdldpjiofafaaW.PrintWords Go.Proofs.YtnbdldpjiofafaaW.PrintLast Go.Proofs.YtnbdldpjiofafaaW.PrintMore
attribute [local go_sem] max2_int min2_int max_two min_two max_three min_three max_four min_four   
set_option linter.unusedVariables false
set_option linter.unusedSimpArgs false
mutual
def line_Bounds.j0 : Nat → ByteArray → Int → Bool → Option (Int × Int × Int)
 | 0, _, _, _ => none
 | k + 1, x0, x1, x16 => if x16 = true then (some (0, 0, 2)) else (line_Bounds.l0 k x0 0 x1 0)
def line_Bounds.l0 : Nat → ByteArray → Int → Int → Int → Option (Int × Int × Int)
 | 0, _, _, _, _ => none
 | k + 1, x0, x7, x17, x18 => if x18 < x17 then (if 0 ≤ x7 then (if x7 ≤ (x0.size : Int) then ((strings_IndexByte.f (x0.extract (x7 : Int).toNat x0.size) 10).bind fun t112 => (line_Bounds.l0 k x0 (wrap64 (x7 + (wrap64 (t112 + 1)))) x17 (wrap64 (x18 + 1)))) else (none)) else (none)) else (if 0 ≤ x7 then (if x7 ≤ (x0.size : Int) then ((strings_IndexByte.f (x0.extract (x7 : Int).toNat x0.size) 10).bind fun t113 => (if t113 < 0 then (some (x7, (x0.size : Int), 0)) else (some (x7, wrap64 (x7 + t113), 0)))) else (none)) else (none))
end
def line_Bounds.f (k : Nat) (a0 : ByteArray) (a1 : Int) : Option (Int × Int × Int) := if a1 < 0 then (line_Bounds.j0 k a0 a1 true) else ((line_Count.f a0).bind fun t111 => (line_Bounds.j0 k a0 a1 (decide (a1 ≥ t111))))
theorem line_Bounds.mono_l : ∀ k, (∀ y0 y1 y2, LeO (line_Bounds.j0 k y0 y1 y2) (line_Bounds.j0 (k + 1) y0 y1 y2)) ∧ (∀ y0 y1 y2 y3, LeO (line_Bounds.l0 k y0 y1 y2 y3) (line_Bounds.l0 (k + 1) y0 y1 y2 y3))
 | 0 => ⟨fun _ _ _ r h => by simp [line_Bounds.j0] at h, fun _ _ _ _ r h => by simp [line_Bounds.l0] at h⟩
 | k + 1 => by
  obtain ⟨ih0, ih1⟩ := line_Bounds.mono_l k
  refine ⟨?_, ?_⟩
  ·intro y0 y1 y2
   unfold line_Bounds.j0
   repeat' first
   | (with_reducible exact ih0 _ _ _)
   | (with_reducible exact ih1 _ _ _ _)
   | (with_reducible exact LeO.refl _)
   | (with_reducible exact LeO.none _)
   | (with_reducible refine LeO.ite ?_ ?_)
   | (with_reducible refine LeO.bind ?_ (fun _ => ?_))
   | exact ih0 _ _ _
   | exact ih1 _ _ _ _
   | exact LeO.none _
   | refine LeO.ite ?_ ?_
   | refine LeO.bind ?_ (fun _ => ?_)
  ·intro y0 y1 y2 y3
   unfold line_Bounds.l0
   repeat' first
   | (with_reducible exact ih0 _ _ _)
   | (with_reducible exact ih1 _ _ _ _)
   | (with_reducible exact LeO.refl _)
   | (with_reducible exact LeO.none _)
   | (with_reducible refine LeO.ite ?_ ?_)
   | (with_reducible refine LeO.bind ?_ (fun _ => ?_))
   | exact ih0 _ _ _
   | exact ih1 _ _ _ _
   | exact LeO.none _
   | refine LeO.ite ?_ ?_
   | refine LeO.bind ?_ (fun _ => ?_)
theorem line_Bounds.mono : ∀ a0 a1 k, LeO (line_Bounds.f k a0 a1) (line_Bounds.f (k + 1) a0 a1) := by
 intro a0 a1 k
 obtain ⟨ih0, ih1⟩ := line_Bounds.mono_l k
 unfold line_Bounds.f
 repeat' first
   | (with_reducible exact ih0 _ _ _)
   | (with_reducible exact ih1 _ _ _ _)
   | (with_reducible exact LeO.refl _)
   | (with_reducible exact LeO.none _)
   | (with_reducible refine LeO.ite ?_ ?_)
   | (with_reducible refine LeO.bind ?_ (fun _ => ?_))
   | exact ih0 _ _ _
   | exact ih1 _ _ _ _
   | exact LeO.none _
   | refine LeO.ite ?_ ?_
   | refine LeO.bind ?_ (fun _ => ?_)
set_option maxHeartbeats 8000000 in
set_option maxRecDepth 100000 in
theorem line_Bounds.calls (k : Nat) (a0 : ByteArray) (a1 : Int) (r1 : Int) (r2 : Int) (r3 : Int) (w : World) (h : line_Bounds.f k a0 a1 = some (r1, r2, r3)) :
  Calls Try.prog 22 #[.string a0, .int .i64 a1] w fun e w' => e = .returned (.tuple #[.int .i64 r1, .int .i64 r2, .int .i64 r3]) ∧ Below w.heap.size w w' := by
 have HB := aM (Below.refl w.heap.size w)
 have H : (if a1 < 0 then (line_Bounds.j0 k a0 a1 true) else ((line_Count.f a0).bind fun t111 => (line_Bounds.j0 k a0 a1 (decide (a1 ≥ t111))))) = some (r1, r2, r3) := h
 clear h
 have HC3 := aM H
 clear H
 go_enter Try.func22, Try.ntmps22
 go_upto_region 1 with (fail)
 go_cut [16] (fun v16 wc => ∃ (kq : Nat) (x16_2 : Bool), v16 = .bool x16_2 ∧ Aside0 (line_Bounds.j0 kq a0 a1 x16_2 = some (r1, r2, r3)) ∧ Aside0 (kq ≤ k) ∧ Aside0 (Below w.heap.size w wc))
 case first =>
  have H := HC3.out
  clear HC3
  by_cases c4 : a1 < 0
  ·rw [if_pos c4] at H
   have c4b0 : decide (a1 < 0) = true := decide_eq_true c4
   clear c4
   (first | rw [c4b0] | (simp only [i64_w, i32_w]; rw [c4b0]) | skip)
   have H' := aM H
   clear H
   go_wp2
   go_meet
   case rel => exact ⟨_, (true), (by first | rfl | (simp; done) | (simp [*]; done)), H', ⟨by first | omega | exact Nat.le_refl _⟩, ⟨by exact ey HB.out⟩⟩
  ·rw [if_neg c4] at H
   have c4b0 : decide (a1 < 0) = false := decide_eq_false c4
   clear c4
   (first | rw [c4b0] | (simp only [i64_w, i32_w]; rw [c4b0]) | skip)
   replace H := Option.bind_eq_some_iff.mp H
   obtain ⟨t111, A50, H⟩ := H
   replace H : (line_Bounds.j0 k a0 a1 (decide (a1 ≥ t111))) = some (r1, r2, r3) := H
   have A5 := aM A50
   clear A50
   have H' := aM H
   clear H
   go_wp2_with (first | (go_at_call 20; (with_reducible refine (line_Count.calls a0 t111 _ A5.out).mono ?_); rintro e w6 ⟨rfl, hb⟩; have n0_ := aM (bP (ey HB.out) hb); clear HB; have HB := n0_; clear n0_; (try clear hb); (try clear hb2); (try clear hk); (try clear hi)))
   go_meet
   case rel => exact ⟨_, (decide (a1 ≥ t111)), (by first | rfl | (simp; done) | (simp [*]; done)), H', ⟨by first | omega | exact Nat.le_refl _⟩, ⟨by exact ey HB.out⟩⟩
 case rest =>
  clear HC3
  try clear c2
  try clear p2
  try clear c4
  try clear c4b0
  obtain ⟨kq, x16_2, rfl, HA, HJ2, HB⟩ := hcut
  cases kq with
  | zero => exact absurd HA.out (by simp [line_Bounds.j0])
  | succ kj2 =>
   have H := HA.out
   clear HA
   simp only [line_Bounds.j0] at H
   by_cases c7 : x16_2 = true
   ·subst c7
    have H1 : (some (0, 0, 2)) = some (r1, r2, r3) := by rw [if_pos rfl] at H; exact H
    clear H
    have H := H1
    clear H1
    simp only [Option.some.injEq, Prod.mk.injEq] at H
    obtain ⟨rfl, rfl, rfl⟩ := H
    go_wp2
    go_ret3
    exact ⟨by first | rfl | (simp [errW_none, errW_some] <;> rfl) | (simp [*, errW_none, errW_some] <;> rfl), by exact ey HB.out⟩
   ·replace c7 := Bool.eq_false_iff.mpr c7
    subst c7
    have H1 : (line_Bounds.l0 kj2 a0 0 a1 0) = some (r1, r2, r3) := by rw [if_neg (show ¬ (false = true) by decide)] at H; exact H
    clear H
    have H := H1
    clear H1
    have H' := aM H
    clear H
    go_wp2
    go_loopg [7, 18] kj2 (fun kq v7 v18 w' => ∃ (x7_2 : Int) (x18_2 : Int), v7 = .int .i64 x7_2 ∧ v18 = .int .i64 x18_2 ∧ Aside0 (line_Bounds.l0 kq a0 x7_2 a1 x18_2 = some (r1, r2, r3)) ∧ Aside0 (kq ≤ kj2) ∧ Aside0 (Below w.heap.size w w'))
    case atStart => exact ⟨(0), (0), (by first | rfl | (simp; done) | (simp [*]; done)), (by first | rfl | (simp; done) | (simp [*]; done)), H', ⟨Nat.le_refl _⟩, ⟨by exact ey HB.out⟩⟩
    case round =>
     clear H'
     try clear c2
     try clear p2
     try clear c4
     try clear c4b0
     try clear c7
     try clear p2
     obtain ⟨x7_2, x18_2, rfl, rfl, HA, HK2, HB⟩ := hrel
     cases gk with
     | zero => exact absurd HA.out (by simp [line_Bounds.l0])
     | succ k2 =>
      have H := HA.out
      clear HA
      simp only [line_Bounds.l0] at H
      by_cases c8 : x18_2 < a1
      ·rw [if_pos c8] at H
       have c8b0 : decide (x18_2 < a1) = true := decide_eq_true c8
       clear c8
       by_cases c9 : 0 ≤ x7_2
       ·rw [if_pos c9] at H
        have c9b0 := eq_true c9
        have c9b1 : decide (0 ≤ x7_2) = true := decide_eq_true c9
        clear c9
        by_cases c10 : x7_2 ≤ (a0.size : Int)
        ·rw [if_pos c10] at H
         have c10b0 := eq_true c10
         have c10b1 : decide (x7_2 ≤ (a0.size : Int)) = true := decide_eq_true c10
         clear c10
         replace H := Option.bind_eq_some_iff.mp H
         obtain ⟨t112, A110, H⟩ := H
         replace H : (line_Bounds.l0 k2 a0 (wrap64 (x7_2 + (wrap64 (t112 + 1)))) a1 (wrap64 (x18_2 + 1))) = some (r1, r2, r3) := H
         have A11 := aM A110
         clear A110
         have H' := aM H
         clear H
         go_wp2_with (first | ((with_reducible refine gate_callee (f := 47) rfl ?_); refine goesL_ (some 24) rfl rfl Try.func47 (by kernel_rfl) rfl #[.string (a0.extract (x7_2 : Int).toNat a0.size), .int .u8 10] rfl (by (try simp only [mT, mC, mN]); first | done | rfl | (simp only [lD, lT]; rfl)) ?_; (with_reducible refine (strings_IndexByte.calls (a0.extract (x7_2 : Int).toNat a0.size) 10 t112 _ A11.out).mono ?_); rintro e w12 ⟨rfl, hb⟩; refine ⟨_, rfl, ?_⟩; have n0_ := aM (bP (ey HB.out) hb); clear HB; have HB := n0_; clear n0_; (try clear hb); (try clear hb2); (try clear hk); (try clear hi)))
         go_roundg k2
         case measure => have := HJ2.out; have := HK2.out; omega
         case rel => exact ⟨(wrap64 (x7_2 + (wrap64 (t112 + 1)))), (wrap64 (x18_2 + 1)), (by first | rfl | (simp; done) | (simp [*]; done)), (by first | rfl | (simp; done) | (simp [*]; done)), H', ⟨by have := HJ2.out; have := HK2.out; omega⟩, ⟨by exact ey HB.out⟩⟩
        ·rw [if_neg c10] at H
         exact absurd H (by simp)
       ·rw [if_neg c9] at H
        exact absurd H (by simp)
      ·rw [if_neg c8] at H
       have c8b0 : decide (x18_2 < a1) = false := decide_eq_false c8
       clear c8
       by_cases c13 : 0 ≤ x7_2
       ·rw [if_pos c13] at H
        have c13b0 := eq_true c13
        have c13b1 : decide (0 ≤ x7_2) = true := decide_eq_true c13
        clear c13
        by_cases c14 : x7_2 ≤ (a0.size : Int)
        ·rw [if_pos c14] at H
         have c14b0 := eq_true c14
         have c14b1 : decide (x7_2 ≤ (a0.size : Int)) = true := decide_eq_true c14
         clear c14
         replace H := Option.bind_eq_some_iff.mp H
         obtain ⟨t113, A150, H⟩ := H
         replace H : (if t113 < 0 then (some (x7_2, (a0.size : Int), 0)) else (some (x7_2, wrap64 (x7_2 + t113), 0))) = some (r1, r2, r3) := H
         have A15 := aM A150
         clear A150
         by_cases c16 : t113 < 0
         ·rw [if_pos c16] at H
          have c16b0 : decide (t113 < 0) = true := decide_eq_true c16
          clear c16
          simp only [Option.some.injEq, Prod.mk.injEq] at H
          obtain ⟨rfl, rfl, rfl⟩ := H
          go_wp2_with (first | ((with_reducible refine gate_callee (f := 47) rfl ?_); refine goesL_ (some 31) rfl rfl Try.func47 (by kernel_rfl) rfl #[.string (a0.extract (x7_2 : Int).toNat a0.size), .int .u8 10] rfl (by (try simp only [mT, mC, mN]); first | done | rfl | (simp only [lD, lT]; rfl)) ?_; (with_reducible refine (strings_IndexByte.calls (a0.extract (x7_2 : Int).toNat a0.size) 10 t113 _ A15.out).mono ?_); rintro e w17 ⟨rfl, hb⟩; refine ⟨_, rfl, ?_⟩; have n0_ := aM (bP (ey HB.out) hb); clear HB; have HB := n0_; clear n0_; (try clear hb); (try clear hb2); (try clear hk); (try clear hi)))
          go_ret3
          exact ⟨by first | rfl | (simp [errW_none, errW_some] <;> rfl) | (simp [*, errW_none, errW_some] <;> rfl), by exact ey HB.out⟩
         ·rw [if_neg c16] at H
          have c16b0 : decide (t113 < 0) = false := decide_eq_false c16
          clear c16
          simp only [Option.some.injEq, Prod.mk.injEq] at H
          obtain ⟨rfl, rfl, rfl⟩ := H
          go_wp2_with (first | ((with_reducible refine gate_callee (f := 47) rfl ?_); refine goesL_ (some 31) rfl rfl Try.func47 (by kernel_rfl) rfl #[.string (a0.extract (x7_2 : Int).toNat a0.size), .int .u8 10] rfl (by (try simp only [mT, mC, mN]); first | done | rfl | (simp only [lD, lT]; rfl)) ?_; (with_reducible refine (strings_IndexByte.calls (a0.extract (x7_2 : Int).toNat a0.size) 10 t113 _ A15.out).mono ?_); rintro e w18 ⟨rfl, hb⟩; refine ⟨_, rfl, ?_⟩; have n0_ := aM (bP (ey HB.out) hb); clear HB; have HB := n0_; clear n0_; (try clear hb); (try clear hb2); (try clear hk); (try clear hi)))
          go_ret3
          exact ⟨by first | rfl | (simp [errW_none, errW_some] <;> rfl) | (simp [*, errW_none, errW_some] <;> rfl), by exact ey HB.out⟩
        ·rw [if_neg c14] at H
         exact absurd H (by simp)
       ·rw [if_neg c13] at H
        exact absurd H (by simp)
end Go.Proofs.Ytnbdldpjiofafaa.PB
end

section
namespace Go.Proofs.Ytnbdldpjiofafaa.PB
open Go.RowKit Go.Proofs.YtnbdldpjiofafaaW.PrintWords Go.Proofs.YtnbdldpjiofafaaW.PrintLast Go.Proofs.YtnbdldpjiofafaaW.PrintMore
attribute [local go_sem] max2_int min2_int max_two min_two max_three min_three max_four min_four   
set_option linter.unusedVariables false
set_option linter.unusedSimpArgs false
def label_Below.f (a0 : Int) (a1 : Int) : Option (Bool) := some ((Go.bits .andNot .u64 a0 a1) == 0)
set_option maxHeartbeats 8000000 in
set_option maxRecDepth 100000 in
theorem label_Below.calls (a0 : Int) (a1 : Int) (r : Bool) (w : World) (h : label_Below.f a0 a1 = some r) :
  Calls Try.prog 44 #[.int .u64 a0, .int .u64 a1] w fun e w' => e = .returned (.bool r) ∧ Drawn0 w w' := by
 have H : (some ((Go.bits .andNot .u64 a0 a1) == 0)) = some r := h
 clear h
 obtain rfl := Option.some.inj H
 go_enter Try.func44, Try.ntmps44
 go_wp2
 go_ret
 exact ⟨by first | rfl | (simp; done) | (simp [*]; done), by repeat (first | exact Drawn0.refl _ | apply Drawn0.step)⟩
end Go.Proofs.Ytnbdldpjiofafaa.PB
end

section
namespace Go.Proofs.Ytnbdldpjiofafaa.PB
open Go.RowKit Go.Proofs.YtnbdldpjiofafaaW.PrintWords Go.Proofs.YtnbdldpjiofafaaW.PrintLast Go.Proofs.YtnbdldpjiofafaaW.PrintMore
attribute [local go_sem] max2_int min2_int max_two min_two max_three min_three max_four min_four   
set_option linter.unusedVariables false
set_option linter.unusedSimpArgs false
def label_Join.f (a0 : Int) (a1 : Int) : Option (Int) := some (Go.bits .or .u64 a0 a1)
set_option maxHeartbeats 8000000 in
set_option maxRecDepth 100000 in
theorem label_Join.calls (a0 : Int) (a1 : Int) (r : Int) (w : World) (h : label_Join.f a0 a1 = some r) :
  Calls Try.prog 80 #[.int .u64 a0, .int .u64 a1] w fun e w' => e = .returned (.int .u64 r) ∧ Drawn0 w w' := by
 have H : (some (Go.bits .or .u64 a0 a1)) = some r := h
 clear h
 obtain rfl := Option.some.inj H
 go_enter Try.func80, Try.ntmps80
 go_wp2
 go_ret
 exact ⟨by first | rfl | (simp; done) | (simp [*]; done), by repeat (first | exact Drawn0.refl _ | apply Drawn0.step)⟩
end Go.Proofs.Ytnbdldpjiofafaa.PB
end

section
namespace Go.Proofs.Ytnbdldpjiofafaa.PB
open Go.RowKit Go.Proofs.YtnbdldpjiofafaaW.PrintWords Go.Proofs.YtnbdldpjiofafaaW.PrintLast Go.Proofs.YtnbdldpjiofafaaW.PrintMore
attribute [local go_sem] max2_int min2_int max_two min_two max_three min_three max_four min_four   
set_option linter.unusedVariables false
set_option linter.unusedSimpArgs false
def runs_All.l0 : Nat → Int → List (S51) → Int → Int → Option (Int)
 | 0, _, _, _, _ => none
 | k + 1, x3, x6, x7, x8 => if x8 < x7 then (if 0 ≤ x8 then (if x8 < (x6.length : Int) then (if ((rd_T51 x6 x8).f1) > 0 then ((label_Join.f x3 ((rd_T51 x6 x8).f0)).bind fun t118 => (runs_All.l0 k t118 x6 x7 (wrap64 (x8 + 1)))) else (runs_All.l0 k x3 x6 x7 (wrap64 (x8 + 1)))) else (none)) else (none)) else (some x3)
def runs_All.f (k : Nat) (l0 : List (S51)) : Option (Int) := runs_All.l0 k 0 l0 (l0.length : Int) 0
theorem runs_All.mono_l : ∀ k, (∀ y0 y1 y2 y3, LeO (runs_All.l0 k y0 y1 y2 y3) (runs_All.l0 (k + 1) y0 y1 y2 y3))
 | 0 => fun _ _ _ _ r h => by simp [runs_All.l0] at h
 | k + 1 => by
  have ih0 := runs_All.mono_l k
  ·intro y0 y1 y2 y3
   unfold runs_All.l0
   repeat' first
   | (with_reducible exact ih0 _ _ _ _)
   | (with_reducible exact LeO.refl _)
   | (with_reducible exact LeO.none _)
   | (with_reducible refine LeO.ite ?_ ?_)
   | (with_reducible refine LeO.bind ?_ (fun _ => ?_))
   | exact ih0 _ _ _ _
   | exact LeO.none _
   | refine LeO.ite ?_ ?_
   | refine LeO.bind ?_ (fun _ => ?_)
theorem runs_All.mono : ∀ a0 k, LeO (runs_All.f k a0) (runs_All.f (k + 1) a0) := by
 intro a0 k
 have ih0 := runs_All.mono_l k
 unfold runs_All.f
 repeat' first
   | (with_reducible exact ih0 _ _ _ _)
   | (with_reducible exact LeO.refl _)
   | (with_reducible exact LeO.none _)
   | (with_reducible refine LeO.ite ?_ ?_)
   | (with_reducible refine LeO.bind ?_ (fun _ => ?_))
   | exact ih0 _ _ _ _
   | exact LeO.none _
   | refine LeO.ite ?_ ?_
   | refine LeO.bind ?_ (fun _ => ?_)
set_option maxHeartbeats 8000000 in
set_option maxRecDepth 100000 in
theorem runs_All.calls (k : Nat) (A0 : Option Addr) (c0 : Nat) (l0 : List (S51)) (r : Int) (w : World) (hr0 : Kd.C k51 w A0 l0.length l0) (hc0 : l0.length ≤ c0) (h : runs_All.f k l0 = some r) :
  Calls Try.prog 69 #[.slice A0 l0.length c0] w fun e w' => e = .returned (.int .u64 r) ∧ Below w.heap.size w w' := by
 have hu51 := Try.underlying51
 have HR0 := aM hr0
 have HC0 := aM hc0
 clear hr0 hc0
 have HB := aM (Below.refl w.heap.size w)
 have H : (runs_All.l0 k 0 l0 (l0.length : Int) 0) = some r := h
 clear h
 have H' := aM H
 clear H
 go_enter Try.func69, Try.ntmps69
 go_wp2
 go_loopg [3, 8] k (fun kq v3 v8 w' => ∃ (x3_1 : Int) (x8_1 : Int), v3 = .int .u64 x3_1 ∧ v8 = .int .i64 x8_1 ∧ Aside0 (runs_All.l0 kq x3_1 l0 (l0.length : Int) x8_1 = some r) ∧ Aside0 (kq ≤ k) ∧ Aside0 (Below w.heap.size w w'))
 case atStart => exact ⟨(0), (0), (by first | rfl | (simp; done) | (simp [*]; done)), (by first | rfl | (simp; done) | (simp [*]; done)), H', ⟨Nat.le_refl _⟩, ⟨by exact ey HB.out⟩⟩
 case round =>
  clear H'
  obtain ⟨x3_1, x8_1, rfl, rfl, HA, HK1, HB⟩ := hrel
  cases gk with
  | zero => exact absurd HA.out (by simp [runs_All.l0])
  | succ k1 =>
   have H := HA.out
   clear HA
   simp only [runs_All.l0] at H
   by_cases c2 : x8_1 < (l0.length : Int)
   ·rw [if_pos c2] at H
    have c2b0 : decide (x8_1 < (l0.length : Int)) = true := decide_eq_true c2
    clear c2
    by_cases c3 : 0 ≤ x8_1
    ·rw [if_pos c3] at H
     have c3b0 : decide (0 ≤ x8_1) = true := decide_eq_true c3
     clear c3
     by_cases c4 : x8_1 < (l0.length : Int)
     ·rw [if_pos c4] at H
      have c4b0 : decide (x8_1 < (l0.length : Int)) = true := decide_eq_true c4
      clear c4
      by_cases c5 : ((rd_T51 l0 x8_1).f1) > 0
      ·rw [if_pos c5] at H
       have c5b0 : decide (0 < ((rd_T51 l0 x8_1).f1)) = true := decide_eq_true c5
       clear c5
       replace H := Option.bind_eq_some_iff.mp H
       obtain ⟨t118, A60, H⟩ := H
       replace H : (runs_All.l0 k1 t118 l0 (l0.length : Int) (wrap64 (x8_1 + 1))) = some r := H
       have A6 := aM A60
       clear A60
       have H' := aM H
       clear H
       have p116 : 0 ≤ (x8_1 : Int) := of_decide_eq_true (by first | (with_reducible assumption) | assumption)
       have q116 : x8_1 < (l0.length : Int) := of_decide_eq_true (by first | (with_reducible assumption) | assumption)
       obtain ⟨ad116, e116, hx116_0, hx116_1⟩ := at_T51 HR0.out x8_1 p116 q116
       cases e116
       replace hx116_0 := (HB.out.cell (World.block_lt_of_cell? w _ hx116_0)).trans hx116_0
       replace hx116_1 := (HB.out.cell (World.block_lt_of_cell? w _ hx116_1)).trans hx116_1
       replace p116 := eq_true p116
       replace q116 := eq_true q116
       go_wp2_with (first | ((with_reducible refine gate_dst (N := 5) rfl ?_); refine box_event ?hg (N := 5) ?hd (cs := #[.int .u64 0, .int .i64 0]) (t := 51) ?hr ?_; (case hd | hg => rfl); (case hr => first | (go_simp; done) | (go_simp; rfl)); intro gb117 hg w7 hbox hb; have n0_ := aM (bP (ey HB.out) hb); have n1_ := aM (hbox); have n2_ := aM ((by rw [hg]; exact (bZ (ey HB.out)) : w.heap.size ≤ gb117)); have n3_ := n2_; clear HB; have HB := n0_; have BK117 := n1_; have GW117 := n2_; have GE117 := n3_; clear n0_ n1_ n2_ n3_; clear hb hbox hg; have hcz8_0 := zC BK117.out 0 (.int .u64 0); have hcz8_1 := zC BK117.out 1 (.int .i64 0); have hfz8_0 := bF BK117.out 0; have hfz8_1 := bF BK117.out 1) | ((with_reducible refine gate_callee (f := 80) rfl ?_); refine goesL_ (some 18) rfl rfl Try.func80 (by kernel_rfl) rfl #[.int .u64 x3_1, .int .u64 ((rd_T51 l0 x8_1).f0)] rfl (by (try simp only [mT, mC, mN]); first | done | rfl | (simp only [lD, lT]; rfl)) ?_; (with_reducible refine (label_Join.calls x3_1 ((rd_T51 l0 x8_1).f0) t118 _ A6.out).mono ?_); rintro e w' ⟨rfl, ⟨nd, rfl⟩⟩; refine ⟨_, rfl, ?_⟩))
       go_roundg k1
       case measure => have := HK1.out; omega
       case rel => exact ⟨(t118), (wrap64 (x8_1 + 1)), (by first | rfl | (simp; done) | (simp [*]; done)), (by first | rfl | (simp; done) | (simp [*]; done)), H', ⟨by have := HK1.out; omega⟩, ⟨by repeat (first | (with_reducible first | exact HB.out | apply ea | apply en | apply ed | refine es ?_ GE117.out) | exact HB.out)⟩⟩
      ·rw [if_neg c5] at H
       have c5b0 : decide (0 < ((rd_T51 l0 x8_1).f1)) = false := decide_eq_false c5
       clear c5
       have H' := aM H
       clear H
       have p116 : 0 ≤ (x8_1 : Int) := of_decide_eq_true (by first | (with_reducible assumption) | assumption)
       have q116 : x8_1 < (l0.length : Int) := of_decide_eq_true (by first | (with_reducible assumption) | assumption)
       obtain ⟨ad116, e116, hx116_0, hx116_1⟩ := at_T51 HR0.out x8_1 p116 q116
       cases e116
       replace hx116_0 := (HB.out.cell (World.block_lt_of_cell? w _ hx116_0)).trans hx116_0
       replace hx116_1 := (HB.out.cell (World.block_lt_of_cell? w _ hx116_1)).trans hx116_1
       replace p116 := eq_true p116
       replace q116 := eq_true q116
       go_wp2_with (first | ((with_reducible refine gate_dst (N := 5) rfl ?_); refine box_event ?hg (N := 5) ?hd (cs := #[.int .u64 0, .int .i64 0]) (t := 51) ?hr ?_; (case hd | hg => rfl); (case hr => first | (go_simp; done) | (go_simp; rfl)); intro gb117 hg w9 hbox hb; have n0_ := aM (bP (ey HB.out) hb); have n1_ := aM (hbox); have n2_ := aM ((by rw [hg]; exact (bZ (ey HB.out)) : w.heap.size ≤ gb117)); have n3_ := n2_; clear HB; have HB := n0_; have BK117 := n1_; have GW117 := n2_; have GE117 := n3_; clear n0_ n1_ n2_ n3_; clear hb hbox hg; have hcz10_0 := zC BK117.out 0 (.int .u64 0); have hcz10_1 := zC BK117.out 1 (.int .i64 0); have hfz10_0 := bF BK117.out 0; have hfz10_1 := bF BK117.out 1))
       go_roundg k1
       case measure => have := HK1.out; omega
       case rel => exact ⟨(x3_1), (wrap64 (x8_1 + 1)), (by first | rfl | (simp; done) | (simp [*]; done)), (by first | rfl | (simp; done) | (simp [*]; done)), H', ⟨by have := HK1.out; omega⟩, ⟨by repeat (first | (with_reducible first | exact HB.out | apply ea | apply en | apply ed | refine es ?_ GE117.out) | exact HB.out)⟩⟩
     ·rw [if_neg c4] at H
      exact absurd H (by simp)
    ·rw [if_neg c3] at H
     exact absurd H (by simp)
   ·rw [if_neg c2] at H
    have c2b0 : decide (x8_1 < (l0.length : Int)) = false := decide_eq_false c2
    clear c2
    obtain rfl := Option.some.inj H
    go_wp2
    go_ret
    exact ⟨by first | rfl | (simp [errW_none, errW_some] <;> rfl) | (simp [*, errW_none, errW_some] <;> rfl), by exact ey HB.out⟩
end Go.Proofs.Ytnbdldpjiofafaa.PB
end

section
namespace Go.Proofs.Ytnbdldpjiofafaa.PB
open Go.RowKit Go.Proofs.YtnbdldpjiofafaaW.PrintWords Go.Proofs.YtnbdldpjiofafaaW.PrintLast Go.Proofs.YtnbdldpjiofafaaW.PrintMore
attribute [local go_sem] max2_int min2_int max_two min_two max_three min_three max_four min_four   
set_option linter.unusedVariables false
set_option linter.unusedSimpArgs false
def runs_Total.l0 : Nat → Int → List (S51) → Int → Int → Option (Int)
 | 0, _, _, _, _ => none
 | k + 1, x3, x6, x7, x8 => if x8 < x7 then (if 0 ≤ x8 then (if x8 < (x6.length : Int) then (if ((rd_T51 x6 x8).f1) > (wrap64 (4096 - x3)) then (some 4097) else (runs_Total.l0 k (wrap64 (x3 + (mx ((rd_T51 x6 x8).f1) 0))) x6 x7 (wrap64 (x8 + 1)))) else (none)) else (none)) else (some x3)
def runs_Total.f (k : Nat) (l0 : List (S51)) : Option (Int) := runs_Total.l0 k 0 l0 (l0.length : Int) 0
theorem runs_Total.mono_l : ∀ k, (∀ y0 y1 y2 y3, LeO (runs_Total.l0 k y0 y1 y2 y3) (runs_Total.l0 (k + 1) y0 y1 y2 y3))
 | 0 => fun _ _ _ _ r h => by simp [runs_Total.l0] at h
 | k + 1 => by
  have ih0 := runs_Total.mono_l k
  ·intro y0 y1 y2 y3
   unfold runs_Total.l0
   repeat' first
   | (with_reducible exact ih0 _ _ _ _)
   | (with_reducible exact LeO.refl _)
   | (with_reducible exact LeO.none _)
   | (with_reducible refine LeO.ite ?_ ?_)
   | (with_reducible refine LeO.bind ?_ (fun _ => ?_))
   | exact ih0 _ _ _ _
   | exact LeO.none _
   | refine LeO.ite ?_ ?_
   | refine LeO.bind ?_ (fun _ => ?_)
theorem runs_Total.mono : ∀ a0 k, LeO (runs_Total.f k a0) (runs_Total.f (k + 1) a0) := by
 intro a0 k
 have ih0 := runs_Total.mono_l k
 unfold runs_Total.f
 repeat' first
   | (with_reducible exact ih0 _ _ _ _)
   | (with_reducible exact LeO.refl _)
   | (with_reducible exact LeO.none _)
   | (with_reducible refine LeO.ite ?_ ?_)
   | (with_reducible refine LeO.bind ?_ (fun _ => ?_))
   | exact ih0 _ _ _ _
   | exact LeO.none _
   | refine LeO.ite ?_ ?_
   | refine LeO.bind ?_ (fun _ => ?_)
set_option maxHeartbeats 8000000 in
set_option maxRecDepth 100000 in
theorem runs_Total.calls (k : Nat) (A0 : Option Addr) (c0 : Nat) (l0 : List (S51)) (r : Int) (w : World) (hr0 : Kd.C k51 w A0 l0.length l0) (hc0 : l0.length ≤ c0) (h : runs_Total.f k l0 = some r) :
  Calls Try.prog 64 #[.slice A0 l0.length c0] w fun e w' => e = .returned (.int .i64 r) ∧ Below w.heap.size w w' := by
 have hu51 := Try.underlying51
 have HR0 := aM hr0
 have HC0 := aM hc0
 clear hr0 hc0
 have HB := aM (Below.refl w.heap.size w)
 have H : (runs_Total.l0 k 0 l0 (l0.length : Int) 0) = some r := h
 clear h
 have H' := aM H
 clear H
 go_enter Try.func64, Try.ntmps64
 go_wp2
 go_loopg [3, 8] k (fun kq v3 v8 w' => ∃ (x3_1 : Int) (x8_1 : Int), v3 = .int .i64 x3_1 ∧ v8 = .int .i64 x8_1 ∧ Aside0 (runs_Total.l0 kq x3_1 l0 (l0.length : Int) x8_1 = some r) ∧ Aside0 (kq ≤ k) ∧ Aside0 (Below w.heap.size w w'))
 case atStart => exact ⟨(0), (0), (by first | rfl | (simp; done) | (simp [*]; done)), (by first | rfl | (simp; done) | (simp [*]; done)), H', ⟨Nat.le_refl _⟩, ⟨by exact ey HB.out⟩⟩
 case round =>
  clear H'
  obtain ⟨x3_1, x8_1, rfl, rfl, HA, HK1, HB⟩ := hrel
  cases gk with
  | zero => exact absurd HA.out (by simp [runs_Total.l0])
  | succ k1 =>
   have H := HA.out
   clear HA
   simp only [runs_Total.l0] at H
   by_cases c2 : x8_1 < (l0.length : Int)
   ·rw [if_pos c2] at H
    have c2b0 : decide (x8_1 < (l0.length : Int)) = true := decide_eq_true c2
    clear c2
    by_cases c3 : 0 ≤ x8_1
    ·rw [if_pos c3] at H
     have c3b0 : decide (0 ≤ x8_1) = true := decide_eq_true c3
     clear c3
     by_cases c4 : x8_1 < (l0.length : Int)
     ·rw [if_pos c4] at H
      have c4b0 : decide (x8_1 < (l0.length : Int)) = true := decide_eq_true c4
      clear c4
      by_cases c5 : ((rd_T51 l0 x8_1).f1) > (wrap64 (4096 - x3_1))
      ·rw [if_pos c5] at H
       have c5b0 : decide ((wrap64 (4096 - x3_1)) < ((rd_T51 l0 x8_1).f1)) = true := decide_eq_true c5
       clear c5
       obtain rfl := Option.some.inj H
       have p101 : 0 ≤ (x8_1 : Int) := of_decide_eq_true (by first | (with_reducible assumption) | assumption)
       have q101 : x8_1 < (l0.length : Int) := of_decide_eq_true (by first | (with_reducible assumption) | assumption)
       obtain ⟨ad101, e101, hx101_0, hx101_1⟩ := at_T51 HR0.out x8_1 p101 q101
       cases e101
       replace hx101_0 := (HB.out.cell (World.block_lt_of_cell? w _ hx101_0)).trans hx101_0
       replace hx101_1 := (HB.out.cell (World.block_lt_of_cell? w _ hx101_1)).trans hx101_1
       replace p101 := eq_true p101
       replace q101 := eq_true q101
       go_wp2_with (first | ((with_reducible refine gate_dst (N := 5) rfl ?_); refine box_event ?hg (N := 5) ?hd (cs := #[.int .u64 0, .int .i64 0]) (t := 51) ?hr ?_; (case hd | hg => rfl); (case hr => first | (go_simp; done) | (go_simp; rfl)); intro gb102 hg w6 hbox hb; have n0_ := aM (bP (ey HB.out) hb); have n1_ := aM (hbox); have n2_ := aM ((by rw [hg]; exact (bZ (ey HB.out)) : w.heap.size ≤ gb102)); have n3_ := n2_; clear HB; have HB := n0_; have BK102 := n1_; have GW102 := n2_; have GE102 := n3_; clear n0_ n1_ n2_ n3_; clear hb hbox hg; have hcz7_0 := zC BK102.out 0 (.int .u64 0); have hcz7_1 := zC BK102.out 1 (.int .i64 0); have hfz7_0 := bF BK102.out 0; have hfz7_1 := bF BK102.out 1))
       go_ret
       exact ⟨by first | rfl | (simp [errW_none, errW_some] <;> rfl) | (simp [*, errW_none, errW_some] <;> rfl), by repeat (first | (with_reducible first | exact HB.out | apply ea | apply en | apply ed | refine es ?_ GE102.out) | exact HB.out)⟩
      ·rw [if_neg c5] at H
       have c5b0 : decide ((wrap64 (4096 - x3_1)) < ((rd_T51 l0 x8_1).f1)) = false := decide_eq_false c5
       clear c5
       obtain ⟨ji8, hji8⟩ : ∃ j_ : Int, (mx ((rd_T51 l0 x8_1).f1) 0) = j_ := ⟨_, rfl⟩
       replace H : (runs_Total.l0 k1 (wrap64 (x3_1 + (ji8))) l0 (l0.length : Int) (wrap64 (x8_1 + 1))) = some r := by first | (rw [hji8] at H; exact H) | (simp only [hji8] at H ⊢; exact H)
       have hji8_ : (if ((rd_T51 l0 x8_1).f1) < 0 then 0 else ((rd_T51 l0 x8_1).f1)) = ji8 := hji8
       have H' := aM H
       clear H
       have p101 : 0 ≤ (x8_1 : Int) := of_decide_eq_true (by first | (with_reducible assumption) | assumption)
       have q101 : x8_1 < (l0.length : Int) := of_decide_eq_true (by first | (with_reducible assumption) | assumption)
       obtain ⟨ad101, e101, hx101_0, hx101_1⟩ := at_T51 HR0.out x8_1 p101 q101
       cases e101
       replace hx101_0 := (HB.out.cell (World.block_lt_of_cell? w _ hx101_0)).trans hx101_0
       replace hx101_1 := (HB.out.cell (World.block_lt_of_cell? w _ hx101_1)).trans hx101_1
       replace p101 := eq_true p101
       replace q101 := eq_true q101
       go_wp2_with (first | ((with_reducible refine gate_dst (N := 5) rfl ?_); refine box_event ?hg (N := 5) ?hd (cs := #[.int .u64 0, .int .i64 0]) (t := 51) ?hr ?_; (case hd | hg => rfl); (case hr => first | (go_simp; done) | (go_simp; rfl)); intro gb102 hg w9 hbox hb; have n0_ := aM (bP (ey HB.out) hb); have n1_ := aM (hbox); have n2_ := aM ((by rw [hg]; exact (bZ (ey HB.out)) : w.heap.size ≤ gb102)); have n3_ := n2_; clear HB; have HB := n0_; have BK102 := n1_; have GW102 := n2_; have GE102 := n3_; clear n0_ n1_ n2_ n3_; clear hb hbox hg; have hcz10_0 := zC BK102.out 0 (.int .u64 0); have hcz10_1 := zC BK102.out 1 (.int .i64 0); have hfz10_0 := bF BK102.out 0; have hfz10_1 := bF BK102.out 1))
       go_roundg k1
       case measure => have := HK1.out; omega
       case rel => exact ⟨(wrap64 (x3_1 + (ji8))), (wrap64 (x8_1 + 1)), (by first | rfl | (simp; done) | (simp only [← hji8] <;> (first | rfl | simp)) | (simp [*]; done)), (by first | rfl | (simp; done) | (simp [*]; done)), H', ⟨by have := HK1.out; omega⟩, ⟨by repeat (first | (with_reducible first | exact HB.out | apply ea | apply en | apply ed | refine es ?_ GE102.out) | exact HB.out)⟩⟩
     ·rw [if_neg c4] at H
      exact absurd H (by simp)
    ·rw [if_neg c3] at H
     exact absurd H (by simp)
   ·rw [if_neg c2] at H
    have c2b0 : decide (x8_1 < (l0.length : Int)) = false := decide_eq_false c2
    clear c2
    obtain rfl := Option.some.inj H
    go_wp2
    go_ret
    exact ⟨by first | rfl | (simp [errW_none, errW_some] <;> rfl) | (simp [*, errW_none, errW_some] <;> rfl), by exact ey HB.out⟩
end Go.Proofs.Ytnbdldpjiofafaa.PB
end

section
namespace Go.Proofs.Ytnbdldpjiofafaa.PB
open Go.RowKit Go.Proofs.YtnbdldpjiofafaaW.PrintWords Go.Proofs.YtnbdldpjiofafaaW.PrintLast Go.Proofs.YtnbdldpjiofafaaW.PrintMore
attribute [local go_sem] max2_int min2_int max_two min_two max_three min_three max_four min_four   
set_option linter.unusedVariables false
set_option linter.unusedSimpArgs false
def runs_Good.l0 : Nat → List (S51) → List (S51) → Int → Int → Option (Bool)
 | 0, _, _, _, _ => none
 | k + 1, x0, x5, x6, x7 => if x7 < x6 then (if 0 ≤ x7 then (if x7 < (x5.length : Int) then (if ((rd_T51 x5 x7).f1) < 1 then (some false) else (if x7 > 0 then (if 0 ≤ (wrap64 (x7 - 1)) then (if (wrap64 (x7 - 1)) < (x0.length : Int) then (if ((rd_T51 x0 (wrap64 (x7 - 1))).f0) = ((rd_T51 x5 x7).f0) then (some false) else (runs_Good.l0 k x0 x5 x6 (wrap64 (x7 + 1)))) else (none)) else (none)) else (runs_Good.l0 k x0 x5 x6 (wrap64 (x7 + 1))))) else (none)) else (none)) else ((runs_Total.f k x0).bind fun t106 => (some (decide (t106 ≤ 4096))))
def runs_Good.f (k : Nat) (l0 : List (S51)) : Option (Bool) := runs_Good.l0 k l0 l0 (l0.length : Int) 0
theorem runs_Good.mono_l : ∀ k, (∀ y0 y1 y2 y3, LeO (runs_Good.l0 k y0 y1 y2 y3) (runs_Good.l0 (k + 1) y0 y1 y2 y3))
 | 0 => fun _ _ _ _ r h => by simp [runs_Good.l0] at h
 | k + 1 => by
  have ih0 := runs_Good.mono_l k
  ·intro y0 y1 y2 y3
   unfold runs_Good.l0
   repeat' first
   | (with_reducible exact ih0 _ _ _ _)
   | (with_reducible exact runs_Total.mono _ _)
   | (with_reducible exact LeO.refl _)
   | (with_reducible exact LeO.none _)
   | (with_reducible refine LeO.ite ?_ ?_)
   | (with_reducible refine LeO.bind ?_ (fun _ => ?_))
   | exact ih0 _ _ _ _
   | exact runs_Total.mono _ _
   | exact LeO.none _
   | refine LeO.ite ?_ ?_
   | refine LeO.bind ?_ (fun _ => ?_)
theorem runs_Good.mono : ∀ a0 k, LeO (runs_Good.f k a0) (runs_Good.f (k + 1) a0) := by
 intro a0 k
 have ih0 := runs_Good.mono_l k
 unfold runs_Good.f
 repeat' first
   | (with_reducible exact ih0 _ _ _ _)
   | (with_reducible exact runs_Total.mono _ _)
   | (with_reducible exact LeO.refl _)
   | (with_reducible exact LeO.none _)
   | (with_reducible refine LeO.ite ?_ ?_)
   | (with_reducible refine LeO.bind ?_ (fun _ => ?_))
   | exact ih0 _ _ _ _
   | exact runs_Total.mono _ _
   | exact LeO.none _
   | refine LeO.ite ?_ ?_
   | refine LeO.bind ?_ (fun _ => ?_)
set_option maxHeartbeats 8000000 in
set_option maxRecDepth 100000 in
theorem runs_Good.calls (k : Nat) (A0 : Option Addr) (c0 : Nat) (l0 : List (S51)) (r : Bool) (w : World) (hr0 : Kd.C k51 w A0 l0.length l0) (hc0 : l0.length ≤ c0) (h : runs_Good.f k l0 = some r) :
  Calls Try.prog 63 #[.slice A0 l0.length c0] w fun e w' => e = .returned (.bool r) ∧ Below w.heap.size w w' := by
 have hu51 := Try.underlying51
 have HR0 := aM hr0
 have HC0 := aM hc0
 clear hr0 hc0
 have HB := aM (Below.refl w.heap.size w)
 have H : (runs_Good.l0 k l0 l0 (l0.length : Int) 0) = some r := h
 clear h
 have H' := aM H
 clear H
 go_enter Try.func63, Try.ntmps63
 go_wp2
 repeat (go_quiet (fail); try go_wp2)
 go_loopg [7] k (fun kq v7 w' => ∃ (x7_1 : Int), v7 = .int .i64 x7_1 ∧ Aside0 (runs_Good.l0 kq l0 l0 (l0.length : Int) x7_1 = some r) ∧ Aside0 (kq ≤ k) ∧ Aside0 (Below w.heap.size w w'))
 case atStart => exact ⟨(0), (by first | rfl | (simp; done) | (simp [*]; done)), H', ⟨Nat.le_refl _⟩, ⟨by exact ey HB.out⟩⟩
 case round =>
  clear H'
  obtain ⟨x7_1, rfl, HA, HK1, HB⟩ := hrel
  cases gk with
  | zero => exact absurd HA.out (by simp [runs_Good.l0])
  | succ k1 =>
   have H := HA.out
   clear HA
   simp only [runs_Good.l0] at H
   by_cases c2 : x7_1 < (l0.length : Int)
   ·rw [if_pos c2] at H
    have c2b0 : decide (x7_1 < (l0.length : Int)) = true := decide_eq_true c2
    clear c2
    by_cases c3 : 0 ≤ x7_1
    ·rw [if_pos c3] at H
     have c3b0 : decide (0 ≤ x7_1) = true := decide_eq_true c3
     clear c3
     by_cases c4 : x7_1 < (l0.length : Int)
     ·rw [if_pos c4] at H
      have c4b0 : decide (x7_1 < (l0.length : Int)) = true := decide_eq_true c4
      clear c4
      by_cases c5 : ((rd_T51 l0 x7_1).f1) < 1
      ·rw [if_pos c5] at H
       have c5b0 : decide (((rd_T51 l0 x7_1).f1) < 1) = true := decide_eq_true c5
       clear c5
       obtain rfl := Option.some.inj H
       have p103 : 0 ≤ (x7_1 : Int) := of_decide_eq_true (by first | (with_reducible assumption) | assumption)
       have q103 : x7_1 < (l0.length : Int) := of_decide_eq_true (by first | (with_reducible assumption) | assumption)
       obtain ⟨ad103, e103, hx103_0, hx103_1⟩ := at_T51 HR0.out x7_1 p103 q103
       cases e103
       replace hx103_0 := (HB.out.cell (World.block_lt_of_cell? w _ hx103_0)).trans hx103_0
       replace hx103_1 := (HB.out.cell (World.block_lt_of_cell? w _ hx103_1)).trans hx103_1
       replace p103 := eq_true p103
       replace q103 := eq_true q103
       go_wp2_with (first | ((with_reducible refine gate_dst (N := 4) rfl ?_); refine box_event ?hg (N := 4) ?hd (cs := #[.int .u64 0, .int .i64 0]) (t := 51) ?hr ?_; (case hd | hg => rfl); (case hr => first | (go_simp; done) | (go_simp; rfl)); intro gb104 hg w6 hbox hb; have n0_ := aM (bP (ey HB.out) hb); have n1_ := aM (hbox); have n2_ := aM ((by rw [hg]; exact (bZ (ey HB.out)) : w.heap.size ≤ gb104)); have n3_ := n2_; clear HB; have HB := n0_; have BK104 := n1_; have GW104 := n2_; have GE104 := n3_; clear n0_ n1_ n2_ n3_; clear hb hbox hg; have hcz7_0 := zC BK104.out 0 (.int .u64 0); have hcz7_1 := zC BK104.out 1 (.int .i64 0); have hfz7_0 := bF BK104.out 0; have hfz7_1 := bF BK104.out 1))
       repeat (go_quiet (first | ((with_reducible refine gate_dst (N := 4) rfl ?_); refine box_event ?hg (N := 4) ?hd (cs := #[.int .u64 0, .int .i64 0]) (t := 51) ?hr ?_; (case hd | hg => rfl); (case hr => first | (go_simp; done) | (go_simp; rfl)); intro gb104 hg w6 hbox hb; have n0_ := aM (bP (ey HB.out) hb); have n1_ := aM (hbox); have n2_ := aM ((by rw [hg]; exact (bZ (ey HB.out)) : w.heap.size ≤ gb104)); have n3_ := n2_; clear HB; have HB := n0_; have BK104 := n1_; have GW104 := n2_; have GE104 := n3_; clear n0_ n1_ n2_ n3_; clear hb hbox hg; have hcz7_0 := zC BK104.out 0 (.int .u64 0); have hcz7_1 := zC BK104.out 1 (.int .i64 0); have hfz7_0 := bF BK104.out 0; have hfz7_1 := bF BK104.out 1)); try go_wp2_with (first | ((with_reducible refine gate_dst (N := 4) rfl ?_); refine box_event ?hg (N := 4) ?hd (cs := #[.int .u64 0, .int .i64 0]) (t := 51) ?hr ?_; (case hd | hg => rfl); (case hr => first | (go_simp; done) | (go_simp; rfl)); intro gb104 hg w6 hbox hb; have n0_ := aM (bP (ey HB.out) hb); have n1_ := aM (hbox); have n2_ := aM ((by rw [hg]; exact (bZ (ey HB.out)) : w.heap.size ≤ gb104)); have n3_ := n2_; clear HB; have HB := n0_; have BK104 := n1_; have GW104 := n2_; have GE104 := n3_; clear n0_ n1_ n2_ n3_; clear hb hbox hg; have hcz7_0 := zC BK104.out 0 (.int .u64 0); have hcz7_1 := zC BK104.out 1 (.int .i64 0); have hfz7_0 := bF BK104.out 0; have hfz7_1 := bF BK104.out 1)))
       go_ret
       exact ⟨by first | rfl | (simp [errW_none, errW_some] <;> rfl) | (simp [*, errW_none, errW_some] <;> rfl), by repeat (first | (with_reducible first | exact HB.out | apply ea | apply en | apply ed | refine es ?_ GE104.out) | exact HB.out)⟩
      ·rw [if_neg c5] at H
       have c5b0 : decide (((rd_T51 l0 x7_1).f1) < 1) = false := decide_eq_false c5
       clear c5
       by_cases c8 : x7_1 > 0
       ·rw [if_pos c8] at H
        have c8b0 : decide (0 < x7_1) = true := decide_eq_true c8
        clear c8
        obtain ⟨ji9, hji9⟩ : ∃ j_ : Int, (wrap64 (x7_1 - 1)) = j_ := ⟨_, rfl⟩
        replace H : (if 0 ≤ (ji9) then (if (ji9) < (l0.length : Int) then (if ((rd_T51 l0 (ji9)).f0) = ((rd_T51 l0 x7_1).f0) then (some false) else (runs_Good.l0 k1 l0 l0 (l0.length : Int) (wrap64 (x7_1 + 1)))) else (none)) else (none)) = some r := by first | (rw [hji9] at H; exact H) | (simp only [hji9] at H ⊢; exact H)
        have hji9w : (IntKind.i64.wrap (x7_1 - 1)) = ji9 := (i64_w _).trans hji9
        by_cases c10 : 0 ≤ (ji9)
        ·rw [if_pos c10] at H
         have c10b0 : decide (0 ≤ (ji9)) = true := decide_eq_true c10
         clear c10
         by_cases c11 : (ji9) < (l0.length : Int)
         ·rw [if_pos c11] at H
          have c11b0 : decide ((ji9) < (l0.length : Int)) = true := decide_eq_true c11
          clear c11
          by_cases c12 : ((rd_T51 l0 (ji9)).f0) = ((rd_T51 l0 x7_1).f0)
          ·rw [if_pos c12] at H
           have c12b0 : (((rd_T51 l0 (ji9)).f0) == ((rd_T51 l0 x7_1).f0)) = true := beq_iff_eq.mpr c12
           have c12b1 : (((rd_T51 l0 (ji9)).f0) != ((rd_T51 l0 x7_1).f0)) = false := bne_eq_false_iff_eq.mpr c12
           clear c12
           obtain rfl := Option.some.inj H
           have p103 : 0 ≤ (x7_1 : Int) := of_decide_eq_true (by first | (with_reducible assumption) | assumption)
           have q103 : x7_1 < (l0.length : Int) := of_decide_eq_true (by first | (with_reducible assumption) | assumption)
           obtain ⟨ad103, e103, hx103_0, hx103_1⟩ := at_T51 HR0.out x7_1 p103 q103
           cases e103
           replace hx103_0 := (HB.out.cell (World.block_lt_of_cell? w _ hx103_0)).trans hx103_0
           replace hx103_1 := (HB.out.cell (World.block_lt_of_cell? w _ hx103_1)).trans hx103_1
           replace p103 := eq_true p103
           replace q103 := eq_true q103
           go_wp2_with (first | ((with_reducible refine gate_dst (N := 4) rfl ?_); refine box_event ?hg (N := 4) ?hd (cs := #[.int .u64 0, .int .i64 0]) (t := 51) ?hr ?_; (case hd | hg => rfl); (case hr => first | (go_simp; done) | (go_simp; rfl)); intro gb104 hg w13 hbox hb; have n0_ := aM (bP (ey HB.out) hb); have n1_ := aM (hbox); have n2_ := aM ((by rw [hg]; exact (bZ (ey HB.out)) : w.heap.size ≤ gb104)); have n3_ := n2_; clear HB; have HB := n0_; have BK104 := n1_; have GW104 := n2_; have GE104 := n3_; clear n0_ n1_ n2_ n3_; clear hb hbox hg; have hcz14_0 := zC BK104.out 0 (.int .u64 0); have hcz14_1 := zC BK104.out 1 (.int .i64 0); have hfz14_0 := bF BK104.out 0; have hfz14_1 := bF BK104.out 1; have p105 : 0 ≤ ((ji9) : Int) := of_decide_eq_true (by first | (with_reducible assumption) | assumption); have q105 : (ji9) < (l0.length : Int) := of_decide_eq_true (by first | (with_reducible assumption) | assumption); obtain ⟨ad105, e105, hx105_0, hx105_1⟩ := at_T51 HR0.out (ji9) p105 q105; obtain rfl : ad103 = ad105 := (by injection e105); have hn105_0 : ad103.block ≠ gb104 := Nat.ne_of_lt (Nat.lt_of_lt_of_le (by have := World.block_lt_of_cell? _ _ hx105_0; first | rwa [add_block] at this | exact this) GW104.out); have hn105_1 : ad103.block ≠ gb104 := Nat.ne_of_lt (Nat.lt_of_lt_of_le (by have := World.block_lt_of_cell? _ _ hx105_0; first | rwa [add_block] at this | exact this) GW104.out); replace hx105_0 := (HB.out.cell (World.block_lt_of_cell? w _ hx105_0)).trans hx105_0; replace hx105_1 := (HB.out.cell (World.block_lt_of_cell? w _ hx105_1)).trans hx105_1; replace hx105_0 := (cell_far (p := ⟨gb104, 0, none⟩) (by first | (rw [add_block]; exact hn105_0) | (show (Addr.add _ _).block ≠ _; rw [add_block]; exact hn105_0) | exact hn105_0) (.int .u64 ((rd_T51 l0 x7_1).f0))).trans hx105_0; replace hx105_1 := (cell_far (p := ⟨gb104, 0, none⟩) (by first | (rw [add_block]; exact hn105_0) | (show (Addr.add _ _).block ≠ _; rw [add_block]; exact hn105_0) | exact hn105_0) (.int .u64 ((rd_T51 l0 x7_1).f0))).trans hx105_1; replace hx105_0 := (cell_far (p := ⟨gb104, 1, none⟩) (by first | (rw [add_block]; exact hn105_1) | (show (Addr.add _ _).block ≠ _; rw [add_block]; exact hn105_1) | exact hn105_1) (.int .i64 ((rd_T51 l0 x7_1).f1))).trans hx105_0; replace hx105_1 := (cell_far (p := ⟨gb104, 1, none⟩) (by first | (rw [add_block]; exact hn105_1) | (show (Addr.add _ _).block ≠ _; rw [add_block]; exact hn105_1) | exact hn105_1) (.int .i64 ((rd_T51 l0 x7_1).f1))).trans hx105_1; (try have hy105_0 := fun (n_ : Nat) => (show ((((w13.drewN n_).setCell ⟨gb104, 0, none⟩ (.int .u64 ((rd_T51 l0 x7_1).f0))).setCell ⟨gb104, 1, none⟩ (.int .i64 ((rd_T51 l0 x7_1).f1)))).cell? _ = some _ from hx105_0)); (try have hy105_1 := fun (n_ : Nat) => (show ((((w13.drewN n_).setCell ⟨gb104, 0, none⟩ (.int .u64 ((rd_T51 l0 x7_1).f0))).setCell ⟨gb104, 1, none⟩ (.int .i64 ((rd_T51 l0 x7_1).f1)))).cell? _ = some _ from hx105_1)); clear hn105_0 hn105_1; replace p105 := eq_true p105; replace q105 := eq_true q105))
           repeat (go_quiet (first | ((with_reducible refine gate_dst (N := 4) rfl ?_); refine box_event ?hg (N := 4) ?hd (cs := #[.int .u64 0, .int .i64 0]) (t := 51) ?hr ?_; (case hd | hg => rfl); (case hr => first | (go_simp; done) | (go_simp; rfl)); intro gb104 hg w13 hbox hb; have n0_ := aM (bP (ey HB.out) hb); have n1_ := aM (hbox); have n2_ := aM ((by rw [hg]; exact (bZ (ey HB.out)) : w.heap.size ≤ gb104)); have n3_ := n2_; clear HB; have HB := n0_; have BK104 := n1_; have GW104 := n2_; have GE104 := n3_; clear n0_ n1_ n2_ n3_; clear hb hbox hg; have hcz14_0 := zC BK104.out 0 (.int .u64 0); have hcz14_1 := zC BK104.out 1 (.int .i64 0); have hfz14_0 := bF BK104.out 0; have hfz14_1 := bF BK104.out 1; have p105 : 0 ≤ ((ji9) : Int) := of_decide_eq_true (by first | (with_reducible assumption) | assumption); have q105 : (ji9) < (l0.length : Int) := of_decide_eq_true (by first | (with_reducible assumption) | assumption); obtain ⟨ad105, e105, hx105_0, hx105_1⟩ := at_T51 HR0.out (ji9) p105 q105; obtain rfl : ad103 = ad105 := (by injection e105); have hn105_0 : ad103.block ≠ gb104 := Nat.ne_of_lt (Nat.lt_of_lt_of_le (by have := World.block_lt_of_cell? _ _ hx105_0; first | rwa [add_block] at this | exact this) GW104.out); have hn105_1 : ad103.block ≠ gb104 := Nat.ne_of_lt (Nat.lt_of_lt_of_le (by have := World.block_lt_of_cell? _ _ hx105_0; first | rwa [add_block] at this | exact this) GW104.out); replace hx105_0 := (HB.out.cell (World.block_lt_of_cell? w _ hx105_0)).trans hx105_0; replace hx105_1 := (HB.out.cell (World.block_lt_of_cell? w _ hx105_1)).trans hx105_1; replace hx105_0 := (cell_far (p := ⟨gb104, 0, none⟩) (by first | (rw [add_block]; exact hn105_0) | (show (Addr.add _ _).block ≠ _; rw [add_block]; exact hn105_0) | exact hn105_0) (.int .u64 ((rd_T51 l0 x7_1).f0))).trans hx105_0; replace hx105_1 := (cell_far (p := ⟨gb104, 0, none⟩) (by first | (rw [add_block]; exact hn105_0) | (show (Addr.add _ _).block ≠ _; rw [add_block]; exact hn105_0) | exact hn105_0) (.int .u64 ((rd_T51 l0 x7_1).f0))).trans hx105_1; replace hx105_0 := (cell_far (p := ⟨gb104, 1, none⟩) (by first | (rw [add_block]; exact hn105_1) | (show (Addr.add _ _).block ≠ _; rw [add_block]; exact hn105_1) | exact hn105_1) (.int .i64 ((rd_T51 l0 x7_1).f1))).trans hx105_0; replace hx105_1 := (cell_far (p := ⟨gb104, 1, none⟩) (by first | (rw [add_block]; exact hn105_1) | (show (Addr.add _ _).block ≠ _; rw [add_block]; exact hn105_1) | exact hn105_1) (.int .i64 ((rd_T51 l0 x7_1).f1))).trans hx105_1; (try have hy105_0 := fun (n_ : Nat) => (show ((((w13.drewN n_).setCell ⟨gb104, 0, none⟩ (.int .u64 ((rd_T51 l0 x7_1).f0))).setCell ⟨gb104, 1, none⟩ (.int .i64 ((rd_T51 l0 x7_1).f1)))).cell? _ = some _ from hx105_0)); (try have hy105_1 := fun (n_ : Nat) => (show ((((w13.drewN n_).setCell ⟨gb104, 0, none⟩ (.int .u64 ((rd_T51 l0 x7_1).f0))).setCell ⟨gb104, 1, none⟩ (.int .i64 ((rd_T51 l0 x7_1).f1)))).cell? _ = some _ from hx105_1)); clear hn105_0 hn105_1; replace p105 := eq_true p105; replace q105 := eq_true q105)); try go_wp2_with (first | ((with_reducible refine gate_dst (N := 4) rfl ?_); refine box_event ?hg (N := 4) ?hd (cs := #[.int .u64 0, .int .i64 0]) (t := 51) ?hr ?_; (case hd | hg => rfl); (case hr => first | (go_simp; done) | (go_simp; rfl)); intro gb104 hg w13 hbox hb; have n0_ := aM (bP (ey HB.out) hb); have n1_ := aM (hbox); have n2_ := aM ((by rw [hg]; exact (bZ (ey HB.out)) : w.heap.size ≤ gb104)); have n3_ := n2_; clear HB; have HB := n0_; have BK104 := n1_; have GW104 := n2_; have GE104 := n3_; clear n0_ n1_ n2_ n3_; clear hb hbox hg; have hcz14_0 := zC BK104.out 0 (.int .u64 0); have hcz14_1 := zC BK104.out 1 (.int .i64 0); have hfz14_0 := bF BK104.out 0; have hfz14_1 := bF BK104.out 1; have p105 : 0 ≤ ((ji9) : Int) := of_decide_eq_true (by first | (with_reducible assumption) | assumption); have q105 : (ji9) < (l0.length : Int) := of_decide_eq_true (by first | (with_reducible assumption) | assumption); obtain ⟨ad105, e105, hx105_0, hx105_1⟩ := at_T51 HR0.out (ji9) p105 q105; obtain rfl : ad103 = ad105 := (by injection e105); have hn105_0 : ad103.block ≠ gb104 := Nat.ne_of_lt (Nat.lt_of_lt_of_le (by have := World.block_lt_of_cell? _ _ hx105_0; first | rwa [add_block] at this | exact this) GW104.out); have hn105_1 : ad103.block ≠ gb104 := Nat.ne_of_lt (Nat.lt_of_lt_of_le (by have := World.block_lt_of_cell? _ _ hx105_0; first | rwa [add_block] at this | exact this) GW104.out); replace hx105_0 := (HB.out.cell (World.block_lt_of_cell? w _ hx105_0)).trans hx105_0; replace hx105_1 := (HB.out.cell (World.block_lt_of_cell? w _ hx105_1)).trans hx105_1; replace hx105_0 := (cell_far (p := ⟨gb104, 0, none⟩) (by first | (rw [add_block]; exact hn105_0) | (show (Addr.add _ _).block ≠ _; rw [add_block]; exact hn105_0) | exact hn105_0) (.int .u64 ((rd_T51 l0 x7_1).f0))).trans hx105_0; replace hx105_1 := (cell_far (p := ⟨gb104, 0, none⟩) (by first | (rw [add_block]; exact hn105_0) | (show (Addr.add _ _).block ≠ _; rw [add_block]; exact hn105_0) | exact hn105_0) (.int .u64 ((rd_T51 l0 x7_1).f0))).trans hx105_1; replace hx105_0 := (cell_far (p := ⟨gb104, 1, none⟩) (by first | (rw [add_block]; exact hn105_1) | (show (Addr.add _ _).block ≠ _; rw [add_block]; exact hn105_1) | exact hn105_1) (.int .i64 ((rd_T51 l0 x7_1).f1))).trans hx105_0; replace hx105_1 := (cell_far (p := ⟨gb104, 1, none⟩) (by first | (rw [add_block]; exact hn105_1) | (show (Addr.add _ _).block ≠ _; rw [add_block]; exact hn105_1) | exact hn105_1) (.int .i64 ((rd_T51 l0 x7_1).f1))).trans hx105_1; (try have hy105_0 := fun (n_ : Nat) => (show ((((w13.drewN n_).setCell ⟨gb104, 0, none⟩ (.int .u64 ((rd_T51 l0 x7_1).f0))).setCell ⟨gb104, 1, none⟩ (.int .i64 ((rd_T51 l0 x7_1).f1)))).cell? _ = some _ from hx105_0)); (try have hy105_1 := fun (n_ : Nat) => (show ((((w13.drewN n_).setCell ⟨gb104, 0, none⟩ (.int .u64 ((rd_T51 l0 x7_1).f0))).setCell ⟨gb104, 1, none⟩ (.int .i64 ((rd_T51 l0 x7_1).f1)))).cell? _ = some _ from hx105_1)); clear hn105_0 hn105_1; replace p105 := eq_true p105; replace q105 := eq_true q105)))
           go_ret
           exact ⟨by first | rfl | (simp [errW_none, errW_some] <;> rfl) | (simp only [← hji9]; first | rfl | (simp [errW_none, errW_some] <;> rfl)) | (simp [*, errW_none, errW_some] <;> rfl), by repeat (first | (with_reducible first | exact HB.out | apply ea | apply en | apply ed | refine es ?_ GE104.out) | exact HB.out)⟩
          ·rw [if_neg c12] at H
           have c12b0 : (((rd_T51 l0 (ji9)).f0) == ((rd_T51 l0 x7_1).f0)) = false := beq_eq_false_iff_ne.mpr c12
           have c12b1 : (((rd_T51 l0 (ji9)).f0) != ((rd_T51 l0 x7_1).f0)) = true := bne_iff_ne.mpr c12
           have H' := aM H
           clear H
           have p103 : 0 ≤ (x7_1 : Int) := of_decide_eq_true (by first | (with_reducible assumption) | assumption)
           have q103 : x7_1 < (l0.length : Int) := of_decide_eq_true (by first | (with_reducible assumption) | assumption)
           obtain ⟨ad103, e103, hx103_0, hx103_1⟩ := at_T51 HR0.out x7_1 p103 q103
           cases e103
           replace hx103_0 := (HB.out.cell (World.block_lt_of_cell? w _ hx103_0)).trans hx103_0
           replace hx103_1 := (HB.out.cell (World.block_lt_of_cell? w _ hx103_1)).trans hx103_1
           replace p103 := eq_true p103
           replace q103 := eq_true q103
           go_wp2_with (first | ((with_reducible refine gate_dst (N := 4) rfl ?_); refine box_event ?hg (N := 4) ?hd (cs := #[.int .u64 0, .int .i64 0]) (t := 51) ?hr ?_; (case hd | hg => rfl); (case hr => first | (go_simp; done) | (go_simp; rfl)); intro gb104 hg w15 hbox hb; have n0_ := aM (bP (ey HB.out) hb); have n1_ := aM (hbox); have n2_ := aM ((by rw [hg]; exact (bZ (ey HB.out)) : w.heap.size ≤ gb104)); have n3_ := n2_; clear HB; have HB := n0_; have BK104 := n1_; have GW104 := n2_; have GE104 := n3_; clear n0_ n1_ n2_ n3_; clear hb hbox hg; have hcz16_0 := zC BK104.out 0 (.int .u64 0); have hcz16_1 := zC BK104.out 1 (.int .i64 0); have hfz16_0 := bF BK104.out 0; have hfz16_1 := bF BK104.out 1; have p105 : 0 ≤ ((ji9) : Int) := of_decide_eq_true (by first | (with_reducible assumption) | assumption); have q105 : (ji9) < (l0.length : Int) := of_decide_eq_true (by first | (with_reducible assumption) | assumption); obtain ⟨ad105, e105, hx105_0, hx105_1⟩ := at_T51 HR0.out (ji9) p105 q105; obtain rfl : ad103 = ad105 := (by injection e105); have hn105_0 : ad103.block ≠ gb104 := Nat.ne_of_lt (Nat.lt_of_lt_of_le (by have := World.block_lt_of_cell? _ _ hx105_0; first | rwa [add_block] at this | exact this) GW104.out); have hn105_1 : ad103.block ≠ gb104 := Nat.ne_of_lt (Nat.lt_of_lt_of_le (by have := World.block_lt_of_cell? _ _ hx105_0; first | rwa [add_block] at this | exact this) GW104.out); replace hx105_0 := (HB.out.cell (World.block_lt_of_cell? w _ hx105_0)).trans hx105_0; replace hx105_1 := (HB.out.cell (World.block_lt_of_cell? w _ hx105_1)).trans hx105_1; replace hx105_0 := (cell_far (p := ⟨gb104, 0, none⟩) (by first | (rw [add_block]; exact hn105_0) | (show (Addr.add _ _).block ≠ _; rw [add_block]; exact hn105_0) | exact hn105_0) (.int .u64 ((rd_T51 l0 x7_1).f0))).trans hx105_0; replace hx105_1 := (cell_far (p := ⟨gb104, 0, none⟩) (by first | (rw [add_block]; exact hn105_0) | (show (Addr.add _ _).block ≠ _; rw [add_block]; exact hn105_0) | exact hn105_0) (.int .u64 ((rd_T51 l0 x7_1).f0))).trans hx105_1; replace hx105_0 := (cell_far (p := ⟨gb104, 1, none⟩) (by first | (rw [add_block]; exact hn105_1) | (show (Addr.add _ _).block ≠ _; rw [add_block]; exact hn105_1) | exact hn105_1) (.int .i64 ((rd_T51 l0 x7_1).f1))).trans hx105_0; replace hx105_1 := (cell_far (p := ⟨gb104, 1, none⟩) (by first | (rw [add_block]; exact hn105_1) | (show (Addr.add _ _).block ≠ _; rw [add_block]; exact hn105_1) | exact hn105_1) (.int .i64 ((rd_T51 l0 x7_1).f1))).trans hx105_1; (try have hy105_0 := fun (n_ : Nat) => (show ((((w15.drewN n_).setCell ⟨gb104, 0, none⟩ (.int .u64 ((rd_T51 l0 x7_1).f0))).setCell ⟨gb104, 1, none⟩ (.int .i64 ((rd_T51 l0 x7_1).f1)))).cell? _ = some _ from hx105_0)); (try have hy105_1 := fun (n_ : Nat) => (show ((((w15.drewN n_).setCell ⟨gb104, 0, none⟩ (.int .u64 ((rd_T51 l0 x7_1).f0))).setCell ⟨gb104, 1, none⟩ (.int .i64 ((rd_T51 l0 x7_1).f1)))).cell? _ = some _ from hx105_1)); clear hn105_0 hn105_1; replace p105 := eq_true p105; replace q105 := eq_true q105))
           repeat (go_quiet (first | ((with_reducible refine gate_dst (N := 4) rfl ?_); refine box_event ?hg (N := 4) ?hd (cs := #[.int .u64 0, .int .i64 0]) (t := 51) ?hr ?_; (case hd | hg => rfl); (case hr => first | (go_simp; done) | (go_simp; rfl)); intro gb104 hg w15 hbox hb; have n0_ := aM (bP (ey HB.out) hb); have n1_ := aM (hbox); have n2_ := aM ((by rw [hg]; exact (bZ (ey HB.out)) : w.heap.size ≤ gb104)); have n3_ := n2_; clear HB; have HB := n0_; have BK104 := n1_; have GW104 := n2_; have GE104 := n3_; clear n0_ n1_ n2_ n3_; clear hb hbox hg; have hcz16_0 := zC BK104.out 0 (.int .u64 0); have hcz16_1 := zC BK104.out 1 (.int .i64 0); have hfz16_0 := bF BK104.out 0; have hfz16_1 := bF BK104.out 1; have p105 : 0 ≤ ((ji9) : Int) := of_decide_eq_true (by first | (with_reducible assumption) | assumption); have q105 : (ji9) < (l0.length : Int) := of_decide_eq_true (by first | (with_reducible assumption) | assumption); obtain ⟨ad105, e105, hx105_0, hx105_1⟩ := at_T51 HR0.out (ji9) p105 q105; obtain rfl : ad103 = ad105 := (by injection e105); have hn105_0 : ad103.block ≠ gb104 := Nat.ne_of_lt (Nat.lt_of_lt_of_le (by have := World.block_lt_of_cell? _ _ hx105_0; first | rwa [add_block] at this | exact this) GW104.out); have hn105_1 : ad103.block ≠ gb104 := Nat.ne_of_lt (Nat.lt_of_lt_of_le (by have := World.block_lt_of_cell? _ _ hx105_0; first | rwa [add_block] at this | exact this) GW104.out); replace hx105_0 := (HB.out.cell (World.block_lt_of_cell? w _ hx105_0)).trans hx105_0; replace hx105_1 := (HB.out.cell (World.block_lt_of_cell? w _ hx105_1)).trans hx105_1; replace hx105_0 := (cell_far (p := ⟨gb104, 0, none⟩) (by first | (rw [add_block]; exact hn105_0) | (show (Addr.add _ _).block ≠ _; rw [add_block]; exact hn105_0) | exact hn105_0) (.int .u64 ((rd_T51 l0 x7_1).f0))).trans hx105_0; replace hx105_1 := (cell_far (p := ⟨gb104, 0, none⟩) (by first | (rw [add_block]; exact hn105_0) | (show (Addr.add _ _).block ≠ _; rw [add_block]; exact hn105_0) | exact hn105_0) (.int .u64 ((rd_T51 l0 x7_1).f0))).trans hx105_1; replace hx105_0 := (cell_far (p := ⟨gb104, 1, none⟩) (by first | (rw [add_block]; exact hn105_1) | (show (Addr.add _ _).block ≠ _; rw [add_block]; exact hn105_1) | exact hn105_1) (.int .i64 ((rd_T51 l0 x7_1).f1))).trans hx105_0; replace hx105_1 := (cell_far (p := ⟨gb104, 1, none⟩) (by first | (rw [add_block]; exact hn105_1) | (show (Addr.add _ _).block ≠ _; rw [add_block]; exact hn105_1) | exact hn105_1) (.int .i64 ((rd_T51 l0 x7_1).f1))).trans hx105_1; (try have hy105_0 := fun (n_ : Nat) => (show ((((w15.drewN n_).setCell ⟨gb104, 0, none⟩ (.int .u64 ((rd_T51 l0 x7_1).f0))).setCell ⟨gb104, 1, none⟩ (.int .i64 ((rd_T51 l0 x7_1).f1)))).cell? _ = some _ from hx105_0)); (try have hy105_1 := fun (n_ : Nat) => (show ((((w15.drewN n_).setCell ⟨gb104, 0, none⟩ (.int .u64 ((rd_T51 l0 x7_1).f0))).setCell ⟨gb104, 1, none⟩ (.int .i64 ((rd_T51 l0 x7_1).f1)))).cell? _ = some _ from hx105_1)); clear hn105_0 hn105_1; replace p105 := eq_true p105; replace q105 := eq_true q105)); try go_wp2_with (first | ((with_reducible refine gate_dst (N := 4) rfl ?_); refine box_event ?hg (N := 4) ?hd (cs := #[.int .u64 0, .int .i64 0]) (t := 51) ?hr ?_; (case hd | hg => rfl); (case hr => first | (go_simp; done) | (go_simp; rfl)); intro gb104 hg w15 hbox hb; have n0_ := aM (bP (ey HB.out) hb); have n1_ := aM (hbox); have n2_ := aM ((by rw [hg]; exact (bZ (ey HB.out)) : w.heap.size ≤ gb104)); have n3_ := n2_; clear HB; have HB := n0_; have BK104 := n1_; have GW104 := n2_; have GE104 := n3_; clear n0_ n1_ n2_ n3_; clear hb hbox hg; have hcz16_0 := zC BK104.out 0 (.int .u64 0); have hcz16_1 := zC BK104.out 1 (.int .i64 0); have hfz16_0 := bF BK104.out 0; have hfz16_1 := bF BK104.out 1; have p105 : 0 ≤ ((ji9) : Int) := of_decide_eq_true (by first | (with_reducible assumption) | assumption); have q105 : (ji9) < (l0.length : Int) := of_decide_eq_true (by first | (with_reducible assumption) | assumption); obtain ⟨ad105, e105, hx105_0, hx105_1⟩ := at_T51 HR0.out (ji9) p105 q105; obtain rfl : ad103 = ad105 := (by injection e105); have hn105_0 : ad103.block ≠ gb104 := Nat.ne_of_lt (Nat.lt_of_lt_of_le (by have := World.block_lt_of_cell? _ _ hx105_0; first | rwa [add_block] at this | exact this) GW104.out); have hn105_1 : ad103.block ≠ gb104 := Nat.ne_of_lt (Nat.lt_of_lt_of_le (by have := World.block_lt_of_cell? _ _ hx105_0; first | rwa [add_block] at this | exact this) GW104.out); replace hx105_0 := (HB.out.cell (World.block_lt_of_cell? w _ hx105_0)).trans hx105_0; replace hx105_1 := (HB.out.cell (World.block_lt_of_cell? w _ hx105_1)).trans hx105_1; replace hx105_0 := (cell_far (p := ⟨gb104, 0, none⟩) (by first | (rw [add_block]; exact hn105_0) | (show (Addr.add _ _).block ≠ _; rw [add_block]; exact hn105_0) | exact hn105_0) (.int .u64 ((rd_T51 l0 x7_1).f0))).trans hx105_0; replace hx105_1 := (cell_far (p := ⟨gb104, 0, none⟩) (by first | (rw [add_block]; exact hn105_0) | (show (Addr.add _ _).block ≠ _; rw [add_block]; exact hn105_0) | exact hn105_0) (.int .u64 ((rd_T51 l0 x7_1).f0))).trans hx105_1; replace hx105_0 := (cell_far (p := ⟨gb104, 1, none⟩) (by first | (rw [add_block]; exact hn105_1) | (show (Addr.add _ _).block ≠ _; rw [add_block]; exact hn105_1) | exact hn105_1) (.int .i64 ((rd_T51 l0 x7_1).f1))).trans hx105_0; replace hx105_1 := (cell_far (p := ⟨gb104, 1, none⟩) (by first | (rw [add_block]; exact hn105_1) | (show (Addr.add _ _).block ≠ _; rw [add_block]; exact hn105_1) | exact hn105_1) (.int .i64 ((rd_T51 l0 x7_1).f1))).trans hx105_1; (try have hy105_0 := fun (n_ : Nat) => (show ((((w15.drewN n_).setCell ⟨gb104, 0, none⟩ (.int .u64 ((rd_T51 l0 x7_1).f0))).setCell ⟨gb104, 1, none⟩ (.int .i64 ((rd_T51 l0 x7_1).f1)))).cell? _ = some _ from hx105_0)); (try have hy105_1 := fun (n_ : Nat) => (show ((((w15.drewN n_).setCell ⟨gb104, 0, none⟩ (.int .u64 ((rd_T51 l0 x7_1).f0))).setCell ⟨gb104, 1, none⟩ (.int .i64 ((rd_T51 l0 x7_1).f1)))).cell? _ = some _ from hx105_1)); clear hn105_0 hn105_1; replace p105 := eq_true p105; replace q105 := eq_true q105)))
           go_roundg k1
           case measure => have := HK1.out; omega
           case rel => exact ⟨(wrap64 (x7_1 + 1)), (by first | rfl | (simp; done) | (simp [*]; done)), H', ⟨by have := HK1.out; omega⟩, ⟨by repeat (first | (with_reducible first | exact HB.out | apply ea | apply en | apply ed | refine es ?_ GE104.out) | exact HB.out)⟩⟩
         ·rw [if_neg c11] at H
          exact absurd H (by simp)
        ·rw [if_neg c10] at H
         exact absurd H (by simp)
       ·rw [if_neg c8] at H
        have c8b0 : decide (0 < x7_1) = false := decide_eq_false c8
        clear c8
        have H' := aM H
        clear H
        have p103 : 0 ≤ (x7_1 : Int) := of_decide_eq_true (by first | (with_reducible assumption) | assumption)
        have q103 : x7_1 < (l0.length : Int) := of_decide_eq_true (by first | (with_reducible assumption) | assumption)
        obtain ⟨ad103, e103, hx103_0, hx103_1⟩ := at_T51 HR0.out x7_1 p103 q103
        cases e103
        replace hx103_0 := (HB.out.cell (World.block_lt_of_cell? w _ hx103_0)).trans hx103_0
        replace hx103_1 := (HB.out.cell (World.block_lt_of_cell? w _ hx103_1)).trans hx103_1
        replace p103 := eq_true p103
        replace q103 := eq_true q103
        go_wp2_with (first | ((with_reducible refine gate_dst (N := 4) rfl ?_); refine box_event ?hg (N := 4) ?hd (cs := #[.int .u64 0, .int .i64 0]) (t := 51) ?hr ?_; (case hd | hg => rfl); (case hr => first | (go_simp; done) | (go_simp; rfl)); intro gb104 hg w17 hbox hb; have n0_ := aM (bP (ey HB.out) hb); have n1_ := aM (hbox); have n2_ := aM ((by rw [hg]; exact (bZ (ey HB.out)) : w.heap.size ≤ gb104)); have n3_ := n2_; clear HB; have HB := n0_; have BK104 := n1_; have GW104 := n2_; have GE104 := n3_; clear n0_ n1_ n2_ n3_; clear hb hbox hg; have hcz18_0 := zC BK104.out 0 (.int .u64 0); have hcz18_1 := zC BK104.out 1 (.int .i64 0); have hfz18_0 := bF BK104.out 0; have hfz18_1 := bF BK104.out 1))
        repeat (go_quiet (first | ((with_reducible refine gate_dst (N := 4) rfl ?_); refine box_event ?hg (N := 4) ?hd (cs := #[.int .u64 0, .int .i64 0]) (t := 51) ?hr ?_; (case hd | hg => rfl); (case hr => first | (go_simp; done) | (go_simp; rfl)); intro gb104 hg w17 hbox hb; have n0_ := aM (bP (ey HB.out) hb); have n1_ := aM (hbox); have n2_ := aM ((by rw [hg]; exact (bZ (ey HB.out)) : w.heap.size ≤ gb104)); have n3_ := n2_; clear HB; have HB := n0_; have BK104 := n1_; have GW104 := n2_; have GE104 := n3_; clear n0_ n1_ n2_ n3_; clear hb hbox hg; have hcz18_0 := zC BK104.out 0 (.int .u64 0); have hcz18_1 := zC BK104.out 1 (.int .i64 0); have hfz18_0 := bF BK104.out 0; have hfz18_1 := bF BK104.out 1)); try go_wp2_with (first | ((with_reducible refine gate_dst (N := 4) rfl ?_); refine box_event ?hg (N := 4) ?hd (cs := #[.int .u64 0, .int .i64 0]) (t := 51) ?hr ?_; (case hd | hg => rfl); (case hr => first | (go_simp; done) | (go_simp; rfl)); intro gb104 hg w17 hbox hb; have n0_ := aM (bP (ey HB.out) hb); have n1_ := aM (hbox); have n2_ := aM ((by rw [hg]; exact (bZ (ey HB.out)) : w.heap.size ≤ gb104)); have n3_ := n2_; clear HB; have HB := n0_; have BK104 := n1_; have GW104 := n2_; have GE104 := n3_; clear n0_ n1_ n2_ n3_; clear hb hbox hg; have hcz18_0 := zC BK104.out 0 (.int .u64 0); have hcz18_1 := zC BK104.out 1 (.int .i64 0); have hfz18_0 := bF BK104.out 0; have hfz18_1 := bF BK104.out 1)))
        go_roundg k1
        case measure => have := HK1.out; omega
        case rel => exact ⟨(wrap64 (x7_1 + 1)), (by first | rfl | (simp; done) | (simp [*]; done)), H', ⟨by have := HK1.out; omega⟩, ⟨by repeat (first | (with_reducible first | exact HB.out | apply ea | apply en | apply ed | refine es ?_ GE104.out) | exact HB.out)⟩⟩
     ·rw [if_neg c4] at H
      exact absurd H (by simp)
    ·rw [if_neg c3] at H
     exact absurd H (by simp)
   ·rw [if_neg c2] at H
    have c2b0 : decide (x7_1 < (l0.length : Int)) = false := decide_eq_false c2
    clear c2
    replace H := Option.bind_eq_some_iff.mp H
    obtain ⟨t106, A190, H⟩ := H
    replace H : (some (decide (t106 ≤ 4096))) = some r := H
    have A19 := aM A190
    clear A190
    obtain rfl := Option.some.inj H
    go_wp2_with (first | (go_at_call 64; (with_reducible refine (runs_Total.calls k1 _ _ l0 t106 _ ?side1 ?side2 A19.out).mono ?_); (case side1 => repeat (first | exact (cB_ HR0.out HB.out) | (with_reducible refine Kd.C_alloc ?_ _) | (with_reducible refine Kd.C_drewN ?_ _) | (with_reducible refine Kd.C_drew ?_))); (case side2 => exact HC0.out); rintro e w20 ⟨rfl, hb⟩; have n0_ := aM (bP (ey HB.out) hb); clear HB; have HB := n0_; clear n0_; (try clear hb); (try clear hb2); (try clear hk); (try clear hi)))
    repeat (go_quiet (first | (go_at_call 64; (with_reducible refine (runs_Total.calls k1 _ _ l0 t106 _ ?side1 ?side2 A19.out).mono ?_); (case side1 => repeat (first | exact (cB_ HR0.out HB.out) | (with_reducible refine Kd.C_alloc ?_ _) | (with_reducible refine Kd.C_drewN ?_ _) | (with_reducible refine Kd.C_drew ?_))); (case side2 => exact HC0.out); rintro e w20 ⟨rfl, hb⟩; have n0_ := aM (bP (ey HB.out) hb); clear HB; have HB := n0_; clear n0_; (try clear hb); (try clear hb2); (try clear hk); (try clear hi))); try go_wp2_with (first | (go_at_call 64; (with_reducible refine (runs_Total.calls k1 _ _ l0 t106 _ ?side1 ?side2 A19.out).mono ?_); (case side1 => repeat (first | exact (cB_ HR0.out HB.out) | (with_reducible refine Kd.C_alloc ?_ _) | (with_reducible refine Kd.C_drewN ?_ _) | (with_reducible refine Kd.C_drew ?_))); (case side2 => exact HC0.out); rintro e w20 ⟨rfl, hb⟩; have n0_ := aM (bP (ey HB.out) hb); clear HB; have HB := n0_; clear n0_; (try clear hb); (try clear hb2); (try clear hk); (try clear hi))))
    go_ret
    exact ⟨by first | rfl | (simp [errW_none, errW_some] <;> rfl) | (simp [*, errW_none, errW_some] <;> rfl), by exact ey HB.out⟩
end Go.Proofs.Ytnbdldpjiofafaa.PB
end

section
namespace Go.Proofs.Ytnbdldpjiofafaa.PB
open Go.RowKit Go.Proofs.YtnbdldpjiofafaaW.PrintWords Go.Proofs.YtnbdldpjiofafaaW.PrintLast Go.Proofs.YtnbdldpjiofafaaW.PrintMore
attribute [local go_sem] max2_int min2_int max_two min_two max_three min_three max_four min_four   
set_option linter.unusedVariables false
set_option linter.unusedSimpArgs false
def runs_within.f (k : Nat) (l0 : List (S51)) (a1 : Int) (a2 : Int) : Option (Bool) := (runs_Good.f k l0).bind fun t114 => (if t114 = true then (if a1 ≥ 0 then (if a1 ≤ a2 then ((runs_Total.f k l0).bind fun t115 => (some (decide (a2 ≤ t115)))) else (some false)) else (some false)) else (some false))
theorem runs_within.mono : ∀ a0 a1 a2 k, LeO (runs_within.f k a0 a1 a2) (runs_within.f (k + 1) a0 a1 a2) := by
 intro a0 a1 a2 k
 unfold runs_within.f
 repeat' first
   | (with_reducible exact runs_Good.mono _ _)
   | (with_reducible exact runs_Total.mono _ _)
   | (with_reducible exact LeO.refl _)
   | (with_reducible exact LeO.none _)
   | (with_reducible refine LeO.ite ?_ ?_)
   | (with_reducible refine LeO.bind ?_ (fun _ => ?_))
   | exact runs_Good.mono _ _
   | exact runs_Total.mono _ _
   | exact LeO.none _
   | refine LeO.ite ?_ ?_
   | refine LeO.bind ?_ (fun _ => ?_)
set_option maxHeartbeats 8000000 in
set_option maxRecDepth 100000 in
theorem runs_within.calls (k : Nat) (A0 : Option Addr) (c0 : Nat) (l0 : List (S51)) (a1 : Int) (a2 : Int) (r : Bool) (w : World) (hr0 : Kd.C k51 w A0 l0.length l0) (hc0 : l0.length ≤ c0) (h : runs_within.f k l0 a1 a2 = some r) :
  Calls Try.prog 73 #[.slice A0 l0.length c0, .int .i64 a1, .int .i64 a2] w fun e w' => e = .returned (.bool r) ∧ Below w.heap.size w w' := by
 have HR0 := aM hr0
 have HC0 := aM hc0
 clear hr0 hc0
 have HB := aM (Below.refl w.heap.size w)
 have H : ((runs_Good.f k l0).bind fun t114 => (if t114 = true then (if a1 ≥ 0 then (if a1 ≤ a2 then ((runs_Total.f k l0).bind fun t115 => (some (decide (a2 ≤ t115)))) else (some false)) else (some false)) else (some false))) = some r := h
 clear h
 replace H := Option.bind_eq_some_iff.mp H
 obtain ⟨t114, A40, H⟩ := H
 replace H : (if t114 = true then (if a1 ≥ 0 then (if a1 ≤ a2 then ((runs_Total.f k l0).bind fun t115 => (some (decide (a2 ≤ t115)))) else (some false)) else (some false)) else (some false)) = some r := H
 have A4 := aM A40
 clear A40
 by_cases c5 : t114 = true
 ·subst c5
  have H1 : (if a1 ≥ 0 then (if a1 ≤ a2 then ((runs_Total.f k l0).bind fun t115 => (some (decide (a2 ≤ t115)))) else (some false)) else (some false)) = some r := by rw [if_pos rfl] at H; exact H
  clear H
  have H := H1
  clear H1
  by_cases c6 : a1 ≥ 0
  ·rw [if_pos c6] at H
   have c6b0 : decide (0 ≤ a1) = true := decide_eq_true c6
   clear c6
   by_cases c7 : a1 ≤ a2
   ·rw [if_pos c7] at H
    have c7b0 : decide (a1 ≤ a2) = true := decide_eq_true c7
    clear c7
    replace H := Option.bind_eq_some_iff.mp H
    obtain ⟨t115, A80, H⟩ := H
    replace H : (some (decide (a2 ≤ t115))) = some r := H
    have A8 := aM A80
    clear A80
    obtain rfl := Option.some.inj H
    go_enter Try.func73, Try.ntmps73
    go_wp2_with (first | ((with_reducible refine gate_callee (f := 63) rfl ?_); refine goesL_ (some 8) rfl rfl Try.func63 (by kernel_rfl) rfl #[.slice A0 l0.length c0] rfl (by (try simp only [mT, mC, mN]); first | done | rfl | (simp only [lD, lT]; rfl)) ?_; (with_reducible refine (runs_Good.calls k _ _ l0 true _ ?side1 ?side2 A4.out).mono ?_); (case side1 => repeat (first | exact HR0.out | (with_reducible refine Kd.C_alloc ?_ _) | (with_reducible refine Kd.C_drewN ?_ _) | (with_reducible refine Kd.C_drew ?_))); (case side2 => exact HC0.out); rintro e w9 ⟨rfl, hb⟩; refine ⟨_, rfl, ?_⟩; have n0_ := aM (bP (ey HB.out) hb); clear HB; have HB := n0_; clear n0_; (try clear hb); (try clear hb2); (try clear hk); (try clear hi)) | (go_at_call 64; (with_reducible refine (runs_Total.calls k _ _ l0 t115 _ ?side1 ?side2 A8.out).mono ?_); (case side1 => repeat (first | exact (cB_ HR0.out HB.out) | (with_reducible refine Kd.C_alloc ?_ _) | (with_reducible refine Kd.C_drewN ?_ _) | (with_reducible refine Kd.C_drew ?_))); (case side2 => exact HC0.out); rintro e w10 ⟨rfl, hb⟩; have n0_ := aM (bP (ey HB.out) hb); clear HB; have HB := n0_; clear n0_; (try clear hb); (try clear hb2); (try clear hk); (try clear hi)))
    go_ret
    exact ⟨by first | rfl | (simp [errW_none, errW_some] <;> rfl) | (simp [*, errW_none, errW_some] <;> rfl), by exact ey HB.out⟩
   ·rw [if_neg c7] at H
    have c7b0 : decide (a1 ≤ a2) = false := decide_eq_false c7
    clear c7
    obtain rfl := Option.some.inj H
    go_enter Try.func73, Try.ntmps73
    go_wp2_with (first | ((with_reducible refine gate_callee (f := 63) rfl ?_); refine goesL_ (some 8) rfl rfl Try.func63 (by kernel_rfl) rfl #[.slice A0 l0.length c0] rfl (by (try simp only [mT, mC, mN]); first | done | rfl | (simp only [lD, lT]; rfl)) ?_; (with_reducible refine (runs_Good.calls k _ _ l0 true _ ?side1 ?side2 A4.out).mono ?_); (case side1 => repeat (first | exact HR0.out | (with_reducible refine Kd.C_alloc ?_ _) | (with_reducible refine Kd.C_drewN ?_ _) | (with_reducible refine Kd.C_drew ?_))); (case side2 => exact HC0.out); rintro e w11 ⟨rfl, hb⟩; refine ⟨_, rfl, ?_⟩; have n0_ := aM (bP (ey HB.out) hb); clear HB; have HB := n0_; clear n0_; (try clear hb); (try clear hb2); (try clear hk); (try clear hi)))
    go_ret
    exact ⟨by first | rfl | (simp [errW_none, errW_some] <;> rfl) | (simp [*, errW_none, errW_some] <;> rfl), by exact ey HB.out⟩
  ·rw [if_neg c6] at H
   have c6b0 : decide (0 ≤ a1) = false := decide_eq_false c6
   clear c6
   obtain rfl := Option.some.inj H
   go_enter Try.func73, Try.ntmps73
   go_wp2_with (first | ((with_reducible refine gate_callee (f := 63) rfl ?_); refine goesL_ (some 8) rfl rfl Try.func63 (by kernel_rfl) rfl #[.slice A0 l0.length c0] rfl (by (try simp only [mT, mC, mN]); first | done | rfl | (simp only [lD, lT]; rfl)) ?_; (with_reducible refine (runs_Good.calls k _ _ l0 true _ ?side1 ?side2 A4.out).mono ?_); (case side1 => repeat (first | exact HR0.out | (with_reducible refine Kd.C_alloc ?_ _) | (with_reducible refine Kd.C_drewN ?_ _) | (with_reducible refine Kd.C_drew ?_))); (case side2 => exact HC0.out); rintro e w12 ⟨rfl, hb⟩; refine ⟨_, rfl, ?_⟩; have n0_ := aM (bP (ey HB.out) hb); clear HB; have HB := n0_; clear n0_; (try clear hb); (try clear hb2); (try clear hk); (try clear hi)))
   go_ret
   exact ⟨by first | rfl | (simp [errW_none, errW_some] <;> rfl) | (simp [*, errW_none, errW_some] <;> rfl), by exact ey HB.out⟩
 ·replace c5 := Bool.eq_false_iff.mpr c5
  subst c5
  have H1 : (some false) = some r := by rw [if_neg (show ¬ (false = true) by decide)] at H; exact H
  clear H
  have H := H1
  clear H1
  obtain rfl := Option.some.inj H
  go_enter Try.func73, Try.ntmps73
  go_wp2_with (first | ((with_reducible refine gate_callee (f := 63) rfl ?_); refine goesL_ (some 8) rfl rfl Try.func63 (by kernel_rfl) rfl #[.slice A0 l0.length c0] rfl (by (try simp only [mT, mC, mN]); first | done | rfl | (simp only [lD, lT]; rfl)) ?_; (with_reducible refine (runs_Good.calls k _ _ l0 false _ ?side1 ?side2 A4.out).mono ?_); (case side1 => repeat (first | exact HR0.out | (with_reducible refine Kd.C_alloc ?_ _) | (with_reducible refine Kd.C_drewN ?_ _) | (with_reducible refine Kd.C_drew ?_))); (case side2 => exact HC0.out); rintro e w13 ⟨rfl, hb⟩; refine ⟨_, rfl, ?_⟩; have n0_ := aM (bP (ey HB.out) hb); clear HB; have HB := n0_; clear n0_; (try clear hb); (try clear hb2); (try clear hk); (try clear hi)))
  go_ret
  exact ⟨by first | rfl | (simp [errW_none, errW_some] <;> rfl) | (simp [*, errW_none, errW_some] <;> rfl), by exact ey HB.out⟩
end Go.Proofs.Ytnbdldpjiofafaa.PB
end

section
namespace Go.Proofs.Ytnbdldpjiofafaa.PB
open Go.RowKit Go.Proofs.YtnbdldpjiofafaaW.PrintWords Go.Proofs.YtnbdldpjiofafaaW.PrintLast Go.Proofs.YtnbdldpjiofafaaW.PrintMore
attribute [local go_sem] max2_int min2_int max_two min_two max_three min_three max_four min_four
set_option linter.unusedVariables false
set_option linter.unusedSimpArgs false
structure GFrame (B g : Nat) (w w' : World) : Prop where
  below : Below B w w'
  typ : ∀ i cs t fr, i ≠ g → t ≠ 51 → w.heap[i]? = some (.cells cs t fr) → w'.heap[i]? = some (.cells cs t fr)
theorem GFrame.refl (B g : Nat) (w : World) : GFrame B g w w := ⟨Below.refl _ _, fun _ _ _ _ _ _ h => h⟩
theorem GFrame.trans {B g : Nat} {a b c : World} (h : GFrame B g a b) (k : GFrame B g b c) : GFrame B g a c :=
  ⟨h.below.trans k.below, fun i cs t fr h1 h2 h3 => k.typ i cs t fr h1 h2 (h.typ i cs t fr h1 h2 h3)⟩
theorem GFrame.alloc {B g : Nat} {a w : World} (h : GFrame B g a w) (hB : B ≤ w.heap.size) (o : Obj) : GFrame B g a (w.alloc o) :=
  h.trans ⟨(Below.refl _ _).alloc hB o, fun i cs t fr _ _ h3 => by rw [Below.heap_alloc _ _ _ (Array.getElem?_eq_some_iff.1 h3).1]; exact h3⟩
theorem GFrame.drewN {B g : Nat} {a w : World} (h : GFrame B g a w) (n : Nat) : GFrame B g a (w.drewN n) :=
  h.trans ⟨pw_below_drewN (Below.refl _ _) n, fun i cs t fr _ _ h3 => h3⟩
theorem GFrame.drew {B g : Nat} {a w : World} (h : GFrame B g a w) : GFrame B g a w.drew :=
  h.trans ⟨(Below.refl _ _).drew, fun i cs t fr _ _ h3 => h3⟩
theorem GFrame.setg {B g : Nat} {a w : World} (h : GFrame B g a w) (hB : B ≤ g) (j : Nat) (u : Value) : GFrame B g a (w.setCell ⟨g, j, none⟩ u) :=
  h.trans ⟨(Below.refl _ _).setCell hB u, fun i cs t fr h1 _ h3 => by rw [Below.heap_setCell _ _ _ _ h1]; exact h3⟩
theorem GFrame.grown {B g : Nat} {a w w' : World} {row : Option Nat} (h : GFrame B g a w) (hg : w.grownBy w' row) (hB : B ≤ w.heap.size) (hr : ∀ k, row = some k → B ≤ k ∧ ∃ cells fr, w.heap[k]? = some (.cells cells 51 fr)) : GFrame B g a w' :=
  h.trans ⟨(Below.refl _ _).grown hg hB (fun k hk => (hr k hk).1), fun i cs t fr _ h2 h3 => by
    rw [hg.block i (Array.getElem?_eq_some_iff.1 h3).1 (fun e => by
      obtain ⟨_, cells, fr', hc⟩ := hr i e.symm
      rw [hc] at h3
      injection h3 with h3
      injection h3 with _ h3
      exact h2 h3.symm)]
    exact h3⟩
def GS (B g : Nat) (w : World) (xs : List S51) : Prop := ∃ v, w.heap[g]? = some (.cells #[v] 22 (0, 0)) ∧ Kd.R k51 51 w B (fun _ => True) v xs
def addRun (xs : List S51) (r : S51) : List S51 :=
  if r.f1 < 1 then xs else if 0 < xs.length then (if (xs.getD (xs.length - 1) z51).f0 = r.f0 then xs.set (xs.length - 1) ⟨(xs.getD (xs.length - 1) z51).f0, wrap64 ((xs.getD (xs.length - 1) z51).f1 + r.f1)⟩ else xs ++ [r]) else xs ++ [r]
theorem R_typed' {B : Nat} {w : World} {v : Value} {xs : List S51} (h : Kd.R k51 51 w B (fun _ => True) v xs) : ∀ k, v.ownBlock = some k → B ≤ k ∧ ∃ cells fr, w.heap[k]? = some (.cells cells 51 fr) := fun k hk => by
  obtain ⟨cells, hc⟩ := Kd.R_typed h k hk
  exact ⟨Kd.R_base h k hk, cells, _, hc⟩
set_option maxHeartbeats 4000000 in
theorem gather1_small (L N : Int) (g : Nat) (w : World) (hN : N < 1) :
    Calls Try.prog 81 #[.agg #[.int .u64 L, .int .i64 N], .pointer (some ⟨g, 0, none⟩)] w fun e w' => e = .returned (.tuple #[]) ∧ w' = w.alloc (.cells #[.int .u64 L, .int .i64 N] 51) := by
  have hu51 := Try.underlying51
  have hN' : decide (N < 1) = true := by simpa using hN
  go_enter Try.func81, Try.ntmps81
  go_wp2
  exact bodyPost_ret (results_none rfl _ _ _) rfl ⟨rfl, rfl⟩
theorem notype : ∀ q, q ∈ 51 :: k51.E → q ≠ 22 := by
  intro q hq
  have : q = 51 := by simpa [k51, Kd.iso, Kd.pair, Kd.int, Kd.scalar] using hq
  omega
theorem GS_grown {B g : Nat} {w w1 W : World} {v : Value} {xs : List S51} (hB : B ≤ g) (hg : W.heap[g]? = some (.cells #[v] 22 (0, 0))) (hR : Kd.R k51 51 W B (fun _ => True) v xs) (hF : GFrame B g w W)
    (hg1 : W.grownBy w1 v.ownBlock) : w1.heap[g]? = some (.cells #[v] 22 (0, 0)) ∧ GFrame B g w w1 :=
  ⟨blk_grown hg hg1 (Kd.R_ne hR hg (by decide)), hF.grown hg1 (Nat.le_trans hB (Nat.le_of_lt (blk_lt hg))) (R_typed' hR)⟩
theorem GS_put {B g : Nat} {w w1 : World} {v v1 : Value} {ys : List S51} (hB : B ≤ g) (hg : w1.heap[g]? = some (.cells #[v] 22 (0, 0))) (hR : Kd.R k51 51 w1 B (fun _ => True) v1 ys) (hF : GFrame B g w w1) :
    GS B g (w1.setCell ⟨g, 0, none⟩ v1) ys ∧ GFrame B g w (w1.setCell ⟨g, 0, none⟩ v1) :=
  ⟨⟨v1, blk_set hg 0 v1, Kd.R_set hR hg notype 0 v1⟩, hF.setg hB 0 v1⟩
theorem GFrame.box {B g : Nat} {w : World} (hB : B ≤ w.heap.size) (o : Obj) (n : Nat) : GFrame B g w ((w.alloc o).drewN n) := ((GFrame.refl B g w).alloc hB o).drewN n
theorem box_heap {g : Nat} {w : World} {x : Obj} (o : Obj) (n : Nat) (h : w.heap[g]? = some x) : ((w.alloc o).drewN n).heap[g]? = some x := by
  show (w.alloc o).heap[g]? = some x
  rw [Below.heap_alloc _ _ _ (blk_lt h)]; exact h
theorem GS_same {B g n b c : Nat} {w W : World} {xs : List S51} (hB : B ≤ g) (hg : W.heap[g]? = some (.cells #[.slice (some ⟨b, 0, none⟩) (n + 1) c] 22 (0, 0))) (hR : Kd.R k51 51 W B (fun _ => True) (.slice (some ⟨b, 0, none⟩) (n + 1) c) xs)
    (hF : GFrame B g w W) (hn : xs.length = n + 1) (x : Int) :
    GS B g (W.setCell ⟨b, n * 2 + 1, none⟩ (.int .i64 x)) (xs.set n ⟨(xs.getD n z51).f0, x⟩) ∧ GFrame B g w (W.setCell ⟨b, n * 2 + 1, none⟩ (.int .i64 x)) := by
  obtain ⟨ce, hcl, hM, hcc, hfr⟩ := Kd.R_elem hR z51 (n : Int) (by omega) (by omega)
  obtain rfl := k51_openM hM
  obtain ⟨h1, h2⟩ := Kd.R_seg hR (n : Int) (by omega) (by omega) (seg := [.int .i64 x]) (j := 1) hcl hcc (show 2 ≤ 2 from by decide) (x' := (⟨(xs.getD (n : Int).toNat z51).f0, x⟩ : S51)) (k51_mkM _ _ _ (⟨(xs.getD (n : Int).toNat z51).f0, x⟩ : S51)) (fun _ hk => hk)
  have h3 : some g ≠ some b := Kd.R_ne hR hg (by decide)
  exact ⟨⟨_, blk_grown hg h2 h3, h1⟩, hF.grown h2 (Nat.le_trans hB (Nat.le_of_lt (blk_lt hg))) (R_typed' hR)⟩
set_option maxHeartbeats 4000000 in
set_option maxRecDepth 100000 in
theorem gather1_first (L N : Int) (B g : Nat) (A : Option Addr) (c : Nat) (w : World) (hN : ¬ N < 1) (hB : B ≤ g) (hg : w.heap[g]? = some (.cells #[.slice A 0 c] 22 (0, 0))) (hR : Kd.R k51 51 w B (fun _ => True) (.slice A 0 c) []) :
    Calls Try.prog 81 #[.agg #[.int .u64 L, .int .i64 N], .pointer (some ⟨g, 0, none⟩)] w fun e w' => e = .returned (.tuple #[]) ∧ GS B g w' [⟨L, N⟩] ∧ GFrame B g w w' := by
  have hu51 := Try.underlying51
  have hN' : decide (N < 1) = false := by simpa using hN
  have hc : w.cell? ⟨g, 0, none⟩ = some (.slice A 0 c) := by rw [bC hg]; rfl
  have hlt := World.block_lt_of_cell? w _ hc
  have HR := aM hR
  have HG := aM hg
  clear hR hg
  go_enter Try.func81, Try.ntmps81
  go_wp2
  go_quiet (fail)
  go_wp2_with (at_builtin; go_loud (refine Kd.R_append k51 (w0 := w) B rfl (.tmp 33) (.tmp 35) 22 51 (.agg #[(.int .u64 0), (.int .i64 0)]) 16 rfl Try.underlying22 info51 rfl (by decide) (by omega) (.slice A 0 c) [] (⟨L, N⟩ : S51) [.int .u64 L, .int .i64 N] (fun _ => True) (fun _ => False) rfl ?aX ?aP (fun _ hk => hk.elim) ?aF ?aO ?aB ?aS ?aL ?_); (case aX => simp [Act.eval, go_sem]); (case aP => exact k51_mkM _ _ _ (⟨L, N⟩ : S51)); (case aB => exact pw_below_drewN ((Below.refl _ _).alloc (by omega) _) _); (case aF => exact (fun _ _ => trivial)); (case aO => exact (by (with_reducible repeat (first | apply ra | apply rn | apply rd_)); exact HR.out)); (case aS => simp; omega); (case aL => simp); intro v1 w1 ho hb hg1 hat; obtain ⟨A1, c1, rfl⟩ := Kd.R_slice ho; go_loud (have HF := aM (GS_grown hB (box_heap _ _ HG.out) (Kd.R_drewN (Kd.R_alloc HR.out _) _) (GFrame.box (by omega) _ _) hg1)); have HO := aM ho; clear ho hb hg1 hat; have hcg := bC HF.out.1 0; have hfg := bF HF.out.1 0)
  go_end0
  exact ⟨rfl, GS_put hB HF.out.1 HO.out HF.out.2⟩
set_option maxHeartbeats 4000000 in
set_option maxRecDepth 100000 in
theorem gather1_other (L N : Int) (B g : Nat) (v : Value) (xs : List S51) (w : World) (hN : ¬ N < 1) (hB : B ≤ g) (hg : w.heap[g]? = some (.cells #[v] 22 (0, 0))) (hR : Kd.R k51 51 w B (fun _ => True) v xs)
    (hp : 0 < xs.length) (hne : ¬ (xs.getD (xs.length - 1) z51).f0 = L) (hlen : (xs.length + 1) * 16 ≤ 140737488355328) :
    Calls Try.prog 81 #[.agg #[.int .u64 L, .int .i64 N], .pointer (some ⟨g, 0, none⟩)] w fun e w' => e = .returned (.tuple #[]) ∧ GS B g w' (xs ++ [⟨L, N⟩]) ∧ GFrame B g w w' := by
  have hu51 := Try.underlying51
  obtain ⟨b, c, rfl, hbb, hbl, _⟩ := Kd.R_form hR hp
  have hmax := (rR hR).2.2.2.1
  obtain ⟨ce, hcl, hM, hcc, hfr⟩ := Kd.R_elem hR z51 ((xs.length : Int) - 1) (by omega) (by omega)
  obtain rfl := k51_openM hM
  obtain ⟨n, hn⟩ : ∃ n, xs.length = n + 1 := ⟨xs.length - 1, by omega⟩
  have en : ((xs.length : Int) - 1).toNat = n := by omega
  have hx0 : w.cell? ⟨b, n * 2, none⟩ = some (.int .u64 (xs.getD n z51).f0) := by have := hcc 0 _ rfl; rw [en] at this; exact this
  have hx1 : w.cell? ⟨b, n * 2 + 1, none⟩ = some (.int .i64 (xs.getD n z51).f1) := by have := hcc 1 _ rfl; rw [en] at this; exact this
  rw [show xs.length - 1 = n by omega] at hne
  have hb : ((xs.getD n z51).f0 == L) = false := by simpa using hne
  have hN' : decide (N < 1) = false := by simpa using hN
  rw [hn] at hg hR
  have HL := aM hlen
  clear hlen
  have hc : w.cell? ⟨g, 0, none⟩ = some (.slice (some ⟨b, 0, none⟩) (n + 1) c) := by rw [bC hg]; rfl
  have hlt := World.block_lt_of_cell? w _ hc
  have HR := aM hR
  have HG := aM hg
  have HN := aM hn
  have hn2 : n ≤ 9223372036854775806 := by omega
  generalize (xs.getD n z51).f0 = L1 at *
  generalize (xs.getD n z51).f1 = N1 at *
  clear hR hg hn hne hM hcc hcl hfr en hp hmax
  go_enter Try.func81, Try.ntmps81
  go_wp2
  go_quiet (fail)
  go_wp2_with (at_builtin; go_loud (refine Kd.R_append k51 (w0 := w) B rfl (.tmp 33) (.tmp 35) 22 51 (.agg #[(.int .u64 0), (.int .i64 0)]) 16 rfl Try.underlying22 info51 rfl (by decide) (by omega) (.slice (some ⟨b, 0, none⟩) (n + 1) c) xs (⟨L, N⟩ : S51) [.int .u64 L, .int .i64 N] (fun _ => True) (fun _ => False) rfl ?aX ?aP (fun _ hk => hk.elim) ?aF ?aO ?aB ?aS ?aL ?_); (case aX => simp [Act.eval, go_sem]); (case aP => exact k51_mkM _ _ _ (⟨L, N⟩ : S51)); (case aB => exact pw_below_drewN ((Below.refl _ _).alloc (by omega) _) _); (case aF => exact (fun _ _ => trivial)); (case aO => exact (by (with_reducible repeat (first | apply ra | apply rn | apply rd_)); exact HR.out)); (case aS => simp; omega); (case aL => exact HL.out); intro v1 w1 ho hb hg1 hat; obtain ⟨A1, c1, rfl⟩ := Kd.R_slice ho; go_loud (have HF := aM (GS_grown hB (box_heap _ _ HG.out) (Kd.R_drewN (Kd.R_alloc HR.out _) _) (GFrame.box (by omega) _ _) hg1)); have HO := aM ho; clear ho hb hg1 hat; have hcg := bC HF.out.1 0; have hfg := bF HF.out.1 0)
  go_end0
  exact ⟨rfl, GS_put hB HF.out.1 (by have h := HO.out; rw [List.length_append] at h; exact h) HF.out.2⟩
set_option maxHeartbeats 4000000 in
set_option maxRecDepth 100000 in
theorem gather1_same (L N : Int) (B g : Nat) (v : Value) (xs : List S51) (w : World) (hN : ¬ N < 1) (hB : B ≤ g) (hg : w.heap[g]? = some (.cells #[v] 22 (0, 0))) (hR : Kd.R k51 51 w B (fun _ => True) v xs)
    (hp : 0 < xs.length) (hne : (xs.getD (xs.length - 1) z51).f0 = L) :
    Calls Try.prog 81 #[.agg #[.int .u64 L, .int .i64 N], .pointer (some ⟨g, 0, none⟩)] w fun e w' => e = .returned (.tuple #[]) ∧ GS B g w' (xs.set (xs.length - 1) ⟨(xs.getD (xs.length - 1) z51).f0, wrap64 ((xs.getD (xs.length - 1) z51).f1 + N)⟩) ∧ GFrame B g w w' := by
  have hu51 := Try.underlying51
  obtain ⟨b, c, rfl, hbb, hbl, _⟩ := Kd.R_form hR hp
  have hmax := (rR hR).2.2.2.1
  obtain ⟨ce, hcl, hM, hcc, hfr⟩ := Kd.R_elem hR z51 ((xs.length : Int) - 1) (by omega) (by omega)
  obtain rfl := k51_openM hM
  obtain ⟨n, hn⟩ : ∃ n, xs.length = n + 1 := ⟨xs.length - 1, by omega⟩
  have en : ((xs.length : Int) - 1).toNat = n := by omega
  rw [en] at hcc hfr
  have hx0 : w.cell? ⟨b, n * 2, none⟩ = some (.int .u64 (xs.getD n z51).f0) := hcc 0 _ rfl
  have hx1 : w.cell? ⟨b, n * 2 + 1, none⟩ = some (.int .i64 (xs.getD n z51).f1) := hcc 1 _ rfl
  have hf1 : w.frozen? ⟨b, n * 2 + 1, none⟩ = false := hfr 1
  rw [show xs.length - 1 = n by omega] at hne ⊢
  have hb : ((xs.getD n z51).f0 == L) = true := by simpa using hne
  have hN' : decide (N < 1) = false := by simpa using hN
  rw [hn] at hg hR
  have hc : w.cell? ⟨g, 0, none⟩ = some (.slice (some ⟨b, 0, none⟩) (n + 1) c) := by rw [bC hg]; rfl
  have hlt := World.block_lt_of_cell? w _ hc
  have HR := aM hR
  have HG := aM hg
  have HN := aM hn
  have hn2 : n ≤ 9223372036854775806 := by omega
  generalize hL1 : (xs.getD n z51).f0 = L1 at *
  have HL1 := aM hL1
  clear hL1
  generalize (xs.getD n z51).f1 = N1 at *
  clear hR hg hn hne hM hcc hcl hfr en hp hmax
  go_enter Try.func81, Try.ntmps81
  go_wp2
  go_quiet (fail)
  go_wp2
  go_region
  go_wp2
  refine bodyPost_ret (results_none rfl _ _ _) rfl ⟨rfl, ?_⟩
  obtain rfl := HL1.out
  exact GS_same hB (box_heap _ _ HG.out) (Kd.R_drewN (Kd.R_alloc HR.out _) _) (GFrame.box (by omega) _ _) HN.out (wrap64 (N1 + N))
theorem gather1 (L N : Int) (B g : Nat) (xs : List S51) (w : World) (hB : B ≤ g) (hS : GS B g w xs) (hlen : (xs.length + 1) * 16 ≤ 140737488355328) :
    Calls Try.prog 81 #[.agg #[.int .u64 L, .int .i64 N], .pointer (some ⟨g, 0, none⟩)] w fun e w' => e = .returned (.tuple #[]) ∧ GS B g w' (addRun xs ⟨L, N⟩) ∧ GFrame B g w w' := by
  obtain ⟨v, hg, hR⟩ := hS
  unfold addRun
  by_cases hN : N < 1
  · rw [if_pos hN]
    refine (gather1_small L N g w hN).mono ?_
    rintro e w' ⟨rfl, rfl⟩
    exact ⟨rfl, ⟨v, box_heap _ 0 hg, Kd.R_alloc hR _⟩, GFrame.box (Nat.le_trans hB (Nat.le_of_lt (blk_lt hg))) _ 0⟩
  rw [if_neg hN]
  by_cases hp : 0 < xs.length
  · rw [if_pos hp]
    by_cases he : (xs.getD (xs.length - 1) z51).f0 = L
    · rw [if_pos he]
      exact gather1_same L N B g v xs w hN hB hg hR hp he
    · rw [if_neg he]
      exact gather1_other L N B g v xs w hN hB hg hR hp he hlen
  · rw [if_neg hp]
    obtain rfl : xs = [] := List.eq_nil_of_length_eq_zero (by omega)
    obtain ⟨A, c, rfl⟩ := Kd.R_slice hR
    exact gather1_first L N B g A c w hN hB hg hR
def someTo (step : List S51 → S51 → List S51) (a b : Int) : List S51 → Int → List S51 → List S51
  | [], _, acc => acc
  | r :: l, p, acc => someTo step a b l (wrap64 (p + r.f1)) (step acc ⟨r.f0, wrap64 ((if b < wrap64 (p + r.f1) then b else wrap64 (p + r.f1)) - (if p < a then a else p))⟩)
theorem GS_alloc {B g : Nat} {w : World} {xs : List S51} (h : GS B g w xs) (o : Obj) : GS B g (w.alloc o) xs := by
  obtain ⟨v, hg, hR⟩ := h
  exact ⟨v, box_heap o 0 hg, Kd.R_alloc hR o⟩
theorem someTo_snoc {step : List S51 → S51 → List S51} {a b : Int} {l : List S51} {k : Nat} (hk : k < l.length) (p : Int) (acc : List S51) :
    someTo step a b (l.drop k) p acc = someTo step a b (l.drop (k + 1)) (wrap64 (p + (rd_T51 l (k : Int)).f1)) (step acc ⟨(rd_T51 l (k : Int)).f0, wrap64 ((if b < wrap64 (p + (rd_T51 l (k : Int)).f1) then b else wrap64 (p + (rd_T51 l (k : Int)).f1)) - (if p < a then a else p))⟩) := by
  rw [List.drop_eq_getElem_cons hk]
  unfold rd_T51
  rw [Int.toNat_natCast, List.getD_eq_getElem?_getD, List.getElem?_eq_getElem hk]
  rfl
set_option maxHeartbeats 4000000 in
set_option maxRecDepth 100000 in
theorem some_any (step : List S51 → S51 → List S51) (hstep : ∀ acc r, (step acc r).length ≤ acc.length + 1) (fid : Nat) (caps : Array Value)
    (hcf : ∀ (args : Array Value) (w : World), Sem.run Try.prog (callFunc fid args) w = .ok (.enter fid args) w)
    (A : Option Addr) (c : Nat) (l : List S51) (a b : Int) (g : Nat) (acc0 : List S51) (w0 w : World) (hB : w0.heap.size ≤ g)
    (hr : Kd.C k51 w0 A l.length l) (hw : Below w0.heap.size w0 w) (hS : GS w0.heap.size g w acc0) (hlen : (acc0.length + l.length) * 16 ≤ 140737488355328)
    (hadd : ∀ acc L N w1, (acc.length + 1) * 16 ≤ 140737488355328 → GS w0.heap.size g w1 acc → GFrame w0.heap.size g w w1 →
      Calls Try.prog fid (#[.agg #[.int .u64 L, .int .i64 N]] ++ caps) w1 fun e w' => e = .returned (.tuple #[]) ∧ GS w0.heap.size g w' (step acc ⟨L, N⟩) ∧ GFrame w0.heap.size g w1 w') :
    Calls Try.prog 72 #[.slice A l.length c, .int .i64 a, .int .i64 b, .func (.func fid) #[] caps] w fun e w' => e = .returned (.tuple #[]) ∧ GS w0.heap.size g w' (someTo step a b l 0 acc0) ∧ GFrame w0.heap.size g w w' := by
  have hu51 := Try.underlying51
  have hmax : l.length ≤ 9223372036854775807 := hr.2.1
  have HR := aM hr
  have HW := aM hw
  have HS := aM hS
  have HA := aM hadd
  have HL := aM hlen
  have HP := aM hstep
  clear hr hw hS hadd hlen hstep
  go_enter Try.func72, Try.ntmps72
  go_wp2
  go_loopw [8, 14] (fun p i wr => ∃ (k : Nat) (pz : Int) (acc : List S51), k ≤ l.length ∧ i = .int .i64 k ∧ p = .int .i64 pz ∧ Aside0 (GS w0.heap.size g wr acc) ∧ Aside0 (GFrame w0.heap.size g w wr) ∧ Aside0 (acc.length ≤ acc0.length + k) ∧ Aside0 (someTo step a b (l.drop k) pz acc = someTo step a b l 0 acc0)) (fun _ i _ => l.length - (intOf i).toNat)
  case atStart => exact ⟨0, 0, acc0, Nat.zero_le _, rfl, rfl, HS, ⟨GFrame.refl _ _ _⟩, ⟨by omega⟩, ⟨rfl⟩⟩
  case round =>
    obtain ⟨k, pz, acc, hk, rfl, rfl, HG, HF, HAL, HE⟩ := hrel
    by_cases hlt : k < l.length
    · obtain ⟨ad, rfl, hx0, hx1⟩ := at_T51 HR.out (k : Int) (by omega) (by omega)
      have hb1 : Below w0.heap.size w0 wr := HW.out.trans HF.out.below
      replace hx0 := (hb1.cell (World.block_lt_of_cell? w0 _ hx0)).trans hx0
      replace hx1 := (hb1.cell (World.block_lt_of_cell? w0 _ hx1)).trans hx1
      simp only [Int.toNat_natCast] at hx0 hx1
      have hsn := someTo_snoc (step := step) (a := a) (b := b) hlt pz acc
      generalize (rd_T51 l (k : Int)).f0 = e0 at *
      generalize (rd_T51 l (k : Int)).f1 = e1 at *
      have HB1 := aM hb1
      have HSN := aM hsn
      clear hsn
      clear hb1
      go_wp2_with ((with_reducible refine (HA.out acc _ _ _ ?h1 ?h2 ?h3).mono ?_); (case h1 => have h1 := HL.out; have h2 := HAL.out; omega); (case h2 => exact GS_alloc HG.out _); (case h3 => exact HF.out.alloc (by have := HB1.out.size; omega) _); rintro e w2 ⟨rfl, hg2, hf2⟩; have HG2 := aM hg2; have HF2 := aM hf2; clear hg2 hf2)
      go_roundw
      case rel => exact ⟨k + 1, wrap64 (pz + e1), _, by omega, by go_num, rfl, HG2, ⟨(HF.out.alloc (by have := HB1.out.size; omega) _).trans HF2.out⟩, ⟨by have h1 := HP.out acc; have h2 := HAL.out; exact Nat.le_trans (h1 _) (by omega)⟩, ⟨HSN.out.symm.trans HE.out⟩⟩
      case measure => simp [intOf]; omega
    · have hkl : k = l.length := by omega
      subst hkl
      go_wp2
      exact bodyPost_end (results_none rfl _ _ _) rfl ⟨rfl, by have h := HE.out; rw [List.drop_length] at h; rw [← h]; exact HG.out, HF.out⟩
theorem run_enter {P : Program} {f : FuncId} {fn : Func} {c : Code} (hf : P.funcs[f]? = some fn) (hname : (fn.name == "runtime.NumGoroutine") = false) (hb : fn.body = some c) (args : Array Value) (w : World) :
    Sem.run P (callFunc f args) w = .ok (.enter f args) w := by
  have h1 : fn.name ≠ "runtime.NumGoroutine" := by simpa using hname
  simp [callFunc, hf, h1, hb]
theorem hcf103 : ∀ (args : Array Value) (w : World), Sem.run Try.prog (callFunc 81 args) w = .ok (.enter 81 args) w := fun args w => run_enter Try.func81 rfl rfl args w
theorem addRun_len (acc : List S51) (r : S51) : (addRun acc r).length ≤ acc.length + 1 := by
  unfold addRun
  repeat' split
  all_goals simp
theorem some_add (A : Option Addr) (c : Nat) (l : List S51) (a b : Int) (g : Nat) (acc0 : List S51) (w0 w : World) (hB : w0.heap.size ≤ g)
    (hr : Kd.C k51 w0 A l.length l) (hw : Below w0.heap.size w0 w) (hS : GS w0.heap.size g w acc0) (hlen : (acc0.length + l.length) * 16 ≤ 140737488355328) :
    Calls Try.prog 72 #[.slice A l.length c, .int .i64 a, .int .i64 b, .func (.func 81) #[] #[.pointer (some ⟨g, 0, none⟩)]] w fun e w' => e = .returned (.tuple #[]) ∧ GS w0.heap.size g w' (someTo addRun a b l 0 acc0) ∧ GFrame w0.heap.size g w w' :=
  some_any addRun addRun_len 81 _ hcf103 A c l a b g acc0 w0 w hB hr hw hS hlen (fun acc L N w1 h1 h2 _ => gather1 L N _ g acc w1 hB h2 h1)
set_option maxHeartbeats 4000000 in
set_option maxRecDepth 100000 in
theorem gather_any (lid : Nat) (caps : Array Value) (args : Nat → Array Value) (hargs : ∀ g, #[.func (.func 81) #[] #[.pointer (some ⟨g, 0, none⟩)]] ++ caps = args g) (hcf : ∀ (args : Array Value) (w : World), Sem.run Try.prog (callFunc lid args) w = .ok (.enter lid args) w) (R : List S51) (w : World)
    (hlay : ∀ g w1, w.heap.size ≤ g → GS w.heap.size g w1 [] → Below w.heap.size w w1 →
      Calls Try.prog lid (args g) w1 fun e w' => e = .returned (.tuple #[]) ∧ GS w.heap.size g w' R ∧ GFrame w.heap.size g w1 w') :
    Calls Try.prog 70 #[.func (.func lid) #[] caps] w fun e w' => ∃ v, e = .returned v ∧ Kd.R k51 51 w' w.heap.size (fun _ => True) v R ∧ Below w.heap.size w w' := by
  have hmf : ∀ (fn : Fn) (first cap : Array Value) (w : World), (Instr.makeFunc fn first cap).run Try.prog w = .ok (.func fn first cap) w := fun _ _ _ _ => rfl
  have HY := aM hlay
  have hargs' := hargs w.heap.size
  clear hlay hargs
  go_enter Try.func70, Try.ntmps70
  go_wp2_with ((with_reducible refine (HY.out w.heap.size _ ?h1 ?h2 ?h3).mono ?_); (case h1 => omega); (case h2 => exact ⟨_, blk_new _ _, Kd.R_nil _ _ _ _ _⟩); (case h3 => exact (Below.refl _ _).alloc (Nat.le_refl _) _); rintro e w2 ⟨rfl, hg2, hf2⟩; obtain ⟨v, hgv, hRv⟩ := hg2; have hcv : w2.cell? ⟨w.heap.size, 0, none⟩ = some v := (by rw [bC hgv]; rfl); have HG2 := aM hgv; have HR2 := aM hRv; have HF2 := aM hf2; clear hgv hRv hf2)
  go_ret
  exact ⟨v, rfl, HR2.out, ((Below.refl _ _).alloc (Nat.le_refl _) _).trans HF2.out.below⟩
theorem hcf81 : ∀ (args : Array Value) (w : World), Sem.run Try.prog (callFunc 71 args) w = .ok (.enter 71 args) w := fun args w => run_enter Try.func71 rfl rfl args w
theorem hcf86 : ∀ (args : Array Value) (w : World), Sem.run Try.prog (callFunc 74 args) w = .ok (.enter 74 args) w := fun args w => run_enter Try.func74 rfl rfl args w
theorem hcf93 : ∀ (args : Array Value) (w : World), Sem.run Try.prog (callFunc 82 args) w = .ok (.enter 82 args) w := fun args w => run_enter Try.func82 rfl rfl args w
theorem cell_later' {w0 w : World} (h : Below w0.heap.size w0 w) {p : Addr} {v : Value} (hc : w0.cell? p = some v) : w.cell? p = some v := (h.cell (World.block_lt_of_cell? w0 _ hc)).trans hc
set_option maxHeartbeats 4000000 in
set_option maxRecDepth 100000 in
theorem lay_normal (A : Option Addr) (c : Nat) (l : List S51) (bl g : Nat) (w0 w : World) (hB : w0.heap.size ≤ g) (hr : Kd.C k51 w0 A l.length l) (hbx : w0.cell? ⟨bl, 0, none⟩ = some (.slice A l.length c))
    (hw : Below w0.heap.size w0 w) (hS : GS w0.heap.size g w []) (hlen : l.length * 16 ≤ 140737488355328) :
    Calls Try.prog 71 #[.func (.func 81) #[] #[.pointer (some ⟨g, 0, none⟩)], .pointer (some ⟨bl, 0, none⟩)] w fun e w' => e = .returned (.tuple #[]) ∧ GS w0.heap.size g w' (someTo addRun 0 4096 l 0 []) ∧ GFrame w0.heap.size g w w' := by
  have hb := cell_later' hw hbx
  have HC := some_add A c l 0 4096 g [] w0 w hB hr hw hS (by simpa using hlen)
  have HC := aM HC
  clear hr hw hS hlen hbx
  go_enter Try.func71, Try.ntmps71
  go_wp2_with ((with_reducible refine HC.out.mono ?_); rintro e w2 ⟨rfl, hg2, hf2⟩; have HG2 := aM hg2; have HF2 := aM hf2; clear hg2 hf2)
  go_end0
  exact ⟨rfl, HG2.out, HF2.out⟩
set_option maxHeartbeats 4000000 in
set_option maxRecDepth 100000 in
theorem lay_slice (A : Option Addr) (c : Nat) (l : List S51) (a b : Int) (bl ba bb g : Nat) (w0 w : World) (hB : w0.heap.size ≤ g) (hr : Kd.C k51 w0 A l.length l) (hbx : w0.cell? ⟨bl, 0, none⟩ = some (.slice A l.length c))
    (hba : w0.cell? ⟨ba, 0, none⟩ = some (.int .i64 a)) (hbb : w0.cell? ⟨bb, 0, none⟩ = some (.int .i64 b))
    (hw : Below w0.heap.size w0 w) (hS : GS w0.heap.size g w []) (hlen : l.length * 16 ≤ 140737488355328) :
    Calls Try.prog 74 #[.func (.func 81) #[] #[.pointer (some ⟨g, 0, none⟩)], .pointer (some ⟨bl, 0, none⟩), .pointer (some ⟨ba, 0, none⟩), .pointer (some ⟨bb, 0, none⟩)] w fun e w' => e = .returned (.tuple #[]) ∧ GS w0.heap.size g w' (someTo addRun a b l 0 []) ∧ GFrame w0.heap.size g w w' := by
  have hb := cell_later' hw hbx
  have hb1 := cell_later' hw hba
  have hb2 := cell_later' hw hbb
  have HC := some_add A c l a b g [] w0 w hB hr hw hS (by simpa using hlen)
  have HC := aM HC
  clear hr hw hS hlen hbx hba hbb
  go_enter Try.func74, Try.ntmps74
  go_wp2_with ((with_reducible refine HC.out.mono ?_); rintro e w2 ⟨rfl, hg2, hf2⟩; have HG2 := aM hg2; have HF2 := aM hf2; clear hg2 hf2)
  go_end0
  exact ⟨rfl, HG2.out, HF2.out⟩
theorem someTo_len {step : List S51 → S51 → List S51} (hstep : ∀ acc r, (step acc r).length ≤ acc.length + 1) (a b : Int) (l : List S51) : ∀ p acc, (someTo step a b l p acc).length ≤ acc.length + l.length := by
  induction l with
  | nil => intro p acc; simp [someTo]
  | cons r l ih => intro p acc; have := ih (wrap64 (p + r.f1)) (step acc ⟨r.f0, wrap64 ((if b < wrap64 (p + r.f1) then b else wrap64 (p + r.f1)) - (if p < a then a else p))⟩); have h2 := hstep acc ⟨r.f0, wrap64 ((if b < wrap64 (p + r.f1) then b else wrap64 (p + r.f1)) - (if p < a then a else p))⟩; simp only [someTo, List.length_cons]; omega
def spliceRuns (l : List S51) (a b : Int) (m : List S51) : List S51 := someTo addRun b 4096 l 0 (someTo addRun 0 4096 m 0 (someTo addRun 0 a l 0 []))
set_option maxHeartbeats 4000000 in
set_option maxRecDepth 100000 in
theorem lay_splice (A : Option Addr) (c : Nat) (l : List S51) (a b : Int) (A2 : Option Addr) (c2 : Nat) (m : List S51) (bl ba bb bm g : Nat) (w0 w : World) (hB : w0.heap.size ≤ g) (hr : Kd.C k51 w0 A l.length l) (hrm : Kd.C k51 w0 A2 m.length m)
    (hbx : w0.cell? ⟨bl, 0, none⟩ = some (.slice A l.length c)) (hbm : w0.cell? ⟨bm, 0, none⟩ = some (.slice A2 m.length c2))
    (hba : w0.cell? ⟨ba, 0, none⟩ = some (.int .i64 a)) (hbb : w0.cell? ⟨bb, 0, none⟩ = some (.int .i64 b))
    (hw : Below w0.heap.size w0 w) (hS : GS w0.heap.size g w []) (hlen : (l.length + m.length + l.length) * 16 ≤ 140737488355328) :
    Calls Try.prog 82 #[.func (.func 81) #[] #[.pointer (some ⟨g, 0, none⟩)], .pointer (some ⟨bl, 0, none⟩), .pointer (some ⟨ba, 0, none⟩), .pointer (some ⟨bm, 0, none⟩), .pointer (some ⟨bb, 0, none⟩)] w fun e w' => e = .returned (.tuple #[]) ∧ GS w0.heap.size g w' (spliceRuns l a b m) ∧ GFrame w0.heap.size g w w' := by
  have hb := cell_later' hw hbx
  have hb1 := cell_later' hw hba
  have l1 := someTo_len addRun_len 0 a l 0 []
  have l2 := someTo_len addRun_len 0 4096 m 0 (someTo addRun 0 a l 0 [])
  simp only [List.length_nil] at l1
  have HC := some_add A c l 0 a g [] w0 w hB hr hw hS (by simp only [List.length_nil]; omega)
  have HC2 := fun W (h : Below w0.heap.size w0 W) hs => some_add A2 c2 m 0 4096 g (someTo addRun 0 a l 0 []) w0 W hB hrm h hs (by omega)
  have HC3 := fun W (h : Below w0.heap.size w0 W) hs => some_add A c l b 4096 g (someTo addRun 0 4096 m 0 (someTo addRun 0 a l 0 [])) w0 W hB hr h hs (by omega)
  have HC := aM HC
  have HC2 := aM HC2
  have HC3 := aM HC3
  have HW := aM hw
  have HBX := aM hbx
  have HBM := aM hbm
  have HBB := aM hbb
  clear hr hrm hw hS hlen hbx hbm hbb hba l1 l2
  go_enter Try.func82, Try.ntmps82
  go_wp2_with fail
  refine HC.out.mono ?_
  rintro e w1 ⟨rfl, hg2, hf2⟩
  have HG2 := aM hg2
  have HF2 := aM hf2
  have hw1 := HW.out.trans hf2.below
  have hc1 := cell_later' hw1 HBM.out
  have hc2 := cell_later' hw1 HBX.out
  have hc3 := cell_later' hw1 HBB.out
  have HW1 := aM hw1
  clear hg2 hf2 hw1
  go_wp2_with fail
  refine (HC2.out _ HW1.out HG2.out).mono ?_
  rintro e w2 ⟨rfl, hg2, hf2⟩
  have HG3 := aM hg2
  have HF3 := aM (HF2.out.trans hf2)
  have hw1 := HW1.out.trans hf2.below
  have hc4 := cell_later' hw1 HBX.out
  have hc5 := cell_later' hw1 HBB.out
  have HW2 := aM hw1
  clear hg2 hf2 hw1
  go_wp2_with fail
  refine (HC3.out _ HW2.out HG3.out).mono ?_
  rintro e w3 ⟨rfl, hg2, hf2⟩
  have HG4 := aM hg2
  have HF4 := aM (HF3.out.trans hf2)
  clear hg2 hf2
  go_wp2
  go_end0
  exact ⟨rfl, HG4.out, HF4.out⟩
def runs_Slice.f (k : Nat) (l0 : List S51) (a1 : Int) (a2 : Int) : Option (List S51 × Int) :=
  (runs_within.f k l0 a1 a2).bind fun t => if t = true then (if l0.length * 16 ≤ 140737488355328 then some (someTo addRun a1 a2 l0 0 [], 0) else none) else some ([], 2)
theorem runs_Slice.mono : ∀ a0 a1 a2 k, LeO (runs_Slice.f k a0 a1 a2) (runs_Slice.f (k + 1) a0 a1 a2) := fun a0 a1 a2 k => LeO.bind (runs_within.mono _ _ _ _) (fun _ => LeO.refl _)
set_option maxHeartbeats 4000000 in
set_option maxRecDepth 100000 in
theorem runs_Slice.calls (k : Nat) (A0 : Option Addr) (c0 : Nat) (l0 : List S51) (a1 : Int) (a2 : Int) (r1 : List S51) (r2 : Int) (w : World) (hr0 : Kd.C k51 w A0 l0.length l0) (hc0 : l0.length ≤ c0) (h : runs_Slice.f k l0 a1 a2 = some (r1, r2)) :
    Calls Try.prog 51 #[.slice A0 l0.length c0, .int .i64 a1, .int .i64 a2] w fun e w' => ∃ v0_ : Value, e = .returned (.tuple #[v0_, .int .i64 r2]) ∧ Kd.R k51 51 w' w.heap.size (fun _ => True) v0_ r1 ∧ Below w.heap.size w w' := by
  have hmf : ∀ (fn : Fn) (first cap : Array Value) (w : World), (Instr.makeFunc fn first cap).run Try.prog w = .ok (.func fn first cap) w := fun _ _ _ _ => rfl
  unfold runs_Slice.f at h
  obtain ⟨t, ht, h⟩ := Option.bind_eq_some_iff.1 h
  have HC := aM (fun W (hw : Below w.heap.size w W) => runs_within.calls k A0 c0 l0 a1 a2 t W (cB_ hr0 hw) hc0 ht)
  have HR := aM hr0
  clear hr0 ht
  cases t with
  | false =>
    simp only [Bool.false_eq_true, if_false] at h
    injection h with h
    injection h with h1 h2
    subst h1; subst h2
    go_enter Try.func51, Try.ntmps51
    go_wp2_with fail
    refine (HC.out _ (((Below.refl _ _).alloc (Nat.le_refl _) _).alloc (by simp) _ |>.alloc (by simp; omega) _)).mono ?_
    rintro e w1 ⟨rfl, hb⟩
    have HB := aM hb
    clear hb
    go_wp2
    go_ret2
    exact ⟨_, rfl, Kd.R_nil _ _ _ _ _, ((((Below.refl _ _).alloc (Nat.le_refl _) _).alloc (by simp) _).alloc (by simp; omega) _).trans (HB.out.mono (by simp; omega))⟩
  | true =>
    simp only [if_true] at h
    by_cases hl : l0.length * 16 ≤ 140737488355328
    case neg => rw [if_neg hl] at h; cases h
    rw [if_pos hl] at h
    injection h with h
    injection h with h1 h2
    subst h1; subst h2
    have HL := aM hl
    clear hl
    go_enter Try.func51, Try.ntmps51
    go_wp2_with fail
    have hb3 := (((Below.refl w.heap.size w).alloc (Nat.le_refl _) (.cells #[.slice A0 l0.length c0] 22)).alloc (by simp) (.cells #[.int .i64 a1] 3) |>.alloc (by simp; omega) (.cells #[.int .i64 a2] 3))
    refine (HC.out _ hb3).mono ?_
    rintro e w1 ⟨rfl, hb⟩
    have HB := aM hb
    have HB3 := aM hb3
    have c1 : w1.cell? ⟨w.heap.size, 0, none⟩ = some (.slice A0 l0.length c0) := cell_later' hb (by simp [go_sem])
    have c2 : w1.cell? ⟨w.heap.size + 1, 0, none⟩ = some (.int .i64 a1) := cell_later' hb (by simp [go_sem])
    have c3 : w1.cell? ⟨w.heap.size + 1 + 1, 0, none⟩ = some (.int .i64 a2) := cell_later' hb (by simp [go_sem])
    clear hb hb3
    have HG := aM (gather_any 74 #[.pointer (some ⟨w.heap.size, 0, none⟩), .pointer (some ⟨w.heap.size + 1, 0, none⟩), .pointer (some ⟨w.heap.size + 1 + 1, 0, none⟩)] _ (fun g => rfl) hcf86 (someTo addRun a1 a2 l0 0 []) w1 (fun g w2 h1 h2 h3 => lay_slice A0 c0 l0 a1 a2 _ _ _ g w1 w2 h1 (cB_ HR.out ((HB3.out.trans (HB.out.mono (by simp; omega))))) c1 c2 c3 h3 h2 HL.out))
    go_wp2_with ((with_reducible refine HG.out.mono ?_); rintro e w3 ⟨v, rfl, hRv, hBv⟩; have HV := aM hRv; have HBV := aM hBv; clear hRv hBv)
    go_ret2
    exact ⟨_, rfl, rL HV.out (by have := HB.out.size; simp at this; omega), (HB3.out.trans (HB.out.mono (by simp; omega))).trans (HBV.out.mono (by have := HB.out.size; simp at this; omega))⟩
def runs_Normal.f (k : Nat) (l0 : List S51) : Option (List S51 × Int) :=
  if (∃ j : Nat, j < l0.length ∧ (rd_T51 l0 (j : Int)).f1 < 0) then some ([], 2) else (runs_Total.f k l0).bind fun t => if t > 4096 then some ([], 3) else if l0.length * 16 ≤ 140737488355328 then some (someTo addRun 0 4096 l0 0 [], 0) else none
theorem runs_Normal.mono : ∀ a0 k, LeO (runs_Normal.f k a0) (runs_Normal.f (k + 1) a0) := fun a0 k => LeO.ite (LeO.refl _) (LeO.bind (runs_Total.mono _ _) (fun _ => LeO.refl _))
set_option maxHeartbeats 4000000 in
set_option maxRecDepth 100000 in
theorem runs_Normal.neg (A0 : Option Addr) (c0 : Nat) (l0 : List S51) (j : Nat) (w : World) (hr0 : Kd.C k51 w A0 l0.length l0) (hj : j < l0.length) (hn : (rd_T51 l0 (j : Int)).f1 < 0) :
    Calls Try.prog 49 #[.slice A0 l0.length c0] w fun e w' => ∃ v0_ : Value, e = .returned (.tuple #[v0_, .int .i64 2]) ∧ Kd.R k51 51 w' w.heap.size (fun _ => True) v0_ [] ∧ Below w.heap.size w w' := by
  have hmf : ∀ (fn : Fn) (first cap : Array Value) (w : World), (Instr.makeFunc fn first cap).run Try.prog w = .ok (.func fn first cap) w := fun _ _ _ _ => rfl
  have hu51 := Try.underlying51
  have hmax : l0.length ≤ 9223372036854775807 := hr0.2.1
  have HR := aM hr0
  have HN := aM hn
  clear hr0 hn
  go_enter Try.func49, Try.ntmps49
  go_wp2
  go_loopw [8] (fun i wr => ∃ (k : Nat), k ≤ j ∧ i = .int .i64 k ∧ Aside0 (Below w.heap.size w wr)) (fun i _ => l0.length - (intOf i).toNat)
  case atStart => exact ⟨0, Nat.zero_le _, rfl, ⟨(Below.refl _ _).alloc (Nat.le_refl _) _⟩⟩
  case round =>
    obtain ⟨k, hk, rfl, HB⟩ := hrel
    have hlt : k < l0.length := by omega
    obtain ⟨ad, rfl, hx0, hx1⟩ := at_T51 HR.out (k : Int) (by omega) (by omega)
    replace hx0 := (HB.out.cell (World.block_lt_of_cell? w _ hx0)).trans hx0
    replace hx1 := (HB.out.cell (World.block_lt_of_cell? w _ hx1)).trans hx1
    simp only [Int.toNat_natCast] at hx0 hx1
    by_cases hneg : (rd_T51 l0 (k : Int)).f1 < 0
    · generalize (rd_T51 l0 (k : Int)).f0 = e0 at *
      generalize (rd_T51 l0 (k : Int)).f1 = e1 at *
      have hd : decide (e1 < 0) = true := by simpa using hneg
      go_wp2
      go_ret2
      exact ⟨_, rfl, Kd.R_nil _ _ _ _ _, HB.out.alloc HB.out.size _⟩
    · have hkj : k < j := by
        rcases Nat.lt_or_ge k j with h | h
        · exact h
        · obtain rfl : k = j := by omega
          exact absurd HN.out hneg
      generalize (rd_T51 l0 (k : Int)).f0 = e0 at *
      generalize (rd_T51 l0 (k : Int)).f1 = e1 at *
      have hd : decide (e1 < 0) = false := by simpa using hneg
      go_wp2
      go_roundw
      case rel => exact ⟨k + 1, by omega, by go_num, ⟨HB.out.alloc HB.out.size _⟩⟩
      case measure => simp [intOf]; omega
set_option maxHeartbeats 4000000 in
set_option maxRecDepth 100000 in
theorem runs_Normal.pos (k : Nat) (A0 : Option Addr) (c0 : Nat) (l0 : List S51) (r1 : List S51) (r2 : Int) (w : World) (hr0 : Kd.C k51 w A0 l0.length l0) (hc0 : l0.length ≤ c0)
    (hn : ∀ j : Nat, j < l0.length → ¬ (rd_T51 l0 (j : Int)).f1 < 0) (t : Int) (ht : runs_Total.f k l0 = some t)
    (h : (if t > 4096 then some ([], 3) else if l0.length * 16 ≤ 140737488355328 then some (someTo addRun 0 4096 l0 0 [], 0) else none) = some (r1, r2)) :
    Calls Try.prog 49 #[.slice A0 l0.length c0] w fun e w' => ∃ v0_ : Value, e = .returned (.tuple #[v0_, .int .i64 r2]) ∧ Kd.R k51 51 w' w.heap.size (fun _ => True) v0_ r1 ∧ Below w.heap.size w w' := by
  have hmf : ∀ (fn : Fn) (first cap : Array Value) (w : World), (Instr.makeFunc fn first cap).run Try.prog w = .ok (.func fn first cap) w := fun _ _ _ _ => rfl
  have hu51 := Try.underlying51
  have hmax : l0.length ≤ 9223372036854775807 := hr0.2.1
  have HR := aM hr0
  have HN := aM hn
  have HC := aM (fun W (hw : Below w.heap.size w W) => runs_Total.calls k A0 c0 l0 t W (cB_ hr0 hw) hc0 ht)
  have HH := aM h
  clear hr0 hn h ht
  go_enter Try.func49, Try.ntmps49
  go_wp2
  go_loopw [8] (fun i wr => ∃ (k : Nat), k ≤ l0.length ∧ i = .int .i64 k ∧ Aside0 (Below w.heap.size w wr) ∧ Aside0 (w.heap.size + 1 ≤ wr.heap.size) ∧ wr.cell? ⟨w.heap.size, 0, none⟩ = some (.slice A0 l0.length c0)) (fun i _ => l0.length - (intOf i).toNat)
  case atStart => exact ⟨0, Nat.zero_le _, rfl, ⟨(Below.refl _ _).alloc (Nat.le_refl _) _⟩, ⟨by simp⟩, by simp [go_sem]⟩
  case round =>
    obtain ⟨k, hk, rfl, HB, HZ, hcl⟩ := hrel
    have hcl2 := World.block_lt_of_cell? wr _ hcl
    by_cases hlt : k < l0.length
    · obtain ⟨ad, rfl, hx0, hx1⟩ := at_T51 HR.out (k : Int) (by omega) (by omega)
      replace hx0 := (HB.out.cell (World.block_lt_of_cell? w _ hx0)).trans hx0
      replace hx1 := (HB.out.cell (World.block_lt_of_cell? w _ hx1)).trans hx1
      simp only [Int.toNat_natCast] at hx0 hx1
      have hneg := HN.out k hlt
      generalize (rd_T51 l0 (k : Int)).f0 = e0 at *
      generalize (rd_T51 l0 (k : Int)).f1 = e1 at *
      have hd : decide (e1 < 0) = false := by simpa using hneg
      go_wp2
      go_roundw
      case rel => exact ⟨k + 1, by omega, by go_num, ⟨HB.out.alloc HB.out.size _⟩, ⟨by have := HZ.out; simp; omega⟩, (by first | exact cell_later' ((Below.refl _ _).alloc (Nat.le_refl _) _) hcl | simp [go_sem, hcl])⟩
      case measure => simp [intOf]; omega
    · have hkl : k = l0.length := by omega
      subst hkl
      go_wp2_with fail
      refine (HC.out _ HB.out).mono ?_
      rintro e w1 ⟨rfl, hb⟩
      have c1 := cell_later' hb hcl
      have HB1 := aM hb
      have HH1 := HH.out
      clear hb
      by_cases h4 : t > 4096
      · have hd : decide (4096 < t) = true := by simpa using h4
        rw [if_pos h4] at HH1
        injection HH1 with h
        injection h with h1 h2
        subst h1; subst h2
        clear h4
        go_wp2
        go_ret2
        exact ⟨_, rfl, Kd.R_nil _ _ _ _ _, HB.out.trans (HB1.out.mono HB.out.size)⟩
      · have hd : decide (4096 < t) = false := by simpa using h4
        rw [if_neg h4] at HH1
        by_cases hl : l0.length * 16 ≤ 140737488355328
        case neg => rw [if_neg hl] at HH1; cases HH1
        rw [if_pos hl] at HH1
        injection HH1 with h
        injection h with h1 h2
        subst h1; subst h2
        have HL := aM hl
        clear hl h4
        have HG := aM (gather_any 71 #[.pointer (some ⟨w.heap.size, 0, none⟩)] _ (fun g => rfl) hcf81 (someTo addRun 0 4096 l0 0 []) w1 (fun g w2 h1 h2 h3 => lay_normal A0 c0 l0 _ g w1 w2 h1 (cB_ HR.out (HB.out.trans (HB1.out.mono HB.out.size))) c1 h3 h2 HL.out))
        go_wp2_with ((with_reducible refine HG.out.mono ?_); rintro e w3 ⟨v, rfl, hRv, hBv⟩; have HV := aM hRv; have HBV := aM hBv; clear hRv hBv)
        go_ret2
        exact ⟨_, rfl, rL HV.out (Nat.le_trans HB.out.size HB1.out.size), (HB.out.trans (HB1.out.mono HB.out.size)).trans (HBV.out.mono (Nat.le_trans HB.out.size HB1.out.size))⟩
theorem runs_Normal.calls (k : Nat) (A0 : Option Addr) (c0 : Nat) (l0 : List S51) (r1 : List S51) (r2 : Int) (w : World) (hr0 : Kd.C k51 w A0 l0.length l0) (hc0 : l0.length ≤ c0) (h : runs_Normal.f k l0 = some (r1, r2)) :
    Calls Try.prog 49 #[.slice A0 l0.length c0] w fun e w' => ∃ v0_ : Value, e = .returned (.tuple #[v0_, .int .i64 r2]) ∧ Kd.R k51 51 w' w.heap.size (fun _ => True) v0_ r1 ∧ Below w.heap.size w w' := by
  unfold runs_Normal.f at h
  by_cases hn : ∃ j : Nat, j < l0.length ∧ (rd_T51 l0 (j : Int)).f1 < 0
  · rw [if_pos hn] at h
    injection h with h
    injection h with h1 h2
    subst h1; subst h2
    obtain ⟨j, hj, hn⟩ := hn
    exact runs_Normal.neg A0 c0 l0 j w hr0 hj hn
  · rw [if_neg hn] at h
    obtain ⟨t, ht, h⟩ := Option.bind_eq_some_iff.1 h
    exact runs_Normal.pos k A0 c0 l0 r1 r2 w hr0 hc0 (fun j hj hh => hn ⟨j, hj, hh⟩) t ht h
def runs_Splice.f (k : Nat) (l0 : List S51) (a1 : Int) (a2 : Int) (l3 : List S51) : Option (List S51 × Int) :=
  (runs_within.f k l0 a1 a2).bind fun t => if t = true then ((runs_Good.f k l3).bind fun u => if u = true then ((runs_Total.f k l0).bind fun p => (runs_Total.f k l3).bind fun q =>
    if wrap64 (wrap64 (p - wrap64 (a2 - a1)) + q) > 4096 then some ([], 3) else if (l0.length + l3.length + l0.length) * 16 ≤ 140737488355328 then some (spliceRuns l0 a1 a2 l3, 0) else none) else some ([], 2)) else some ([], 2)
theorem runs_Splice.mono : ∀ a0 a1 a2 a3 k, LeO (runs_Splice.f k a0 a1 a2 a3) (runs_Splice.f (k + 1) a0 a1 a2 a3) := fun a0 a1 a2 a3 k =>
  LeO.bind (runs_within.mono _ _ _ _) (fun _ => LeO.ite (LeO.bind (runs_Good.mono _ _) (fun _ => LeO.ite (LeO.bind (runs_Total.mono _ _) (fun _ => LeO.bind (runs_Total.mono _ _) (fun _ => LeO.refl _))) (LeO.refl _))) (LeO.refl _))
theorem splice_boxes {w w1 : World} {x0 x1 x2 x3 : Value} (hb : Below ((((w.alloc (.cells #[x0] 22)).alloc (.cells #[x1] 3)).alloc (.cells #[x2] 3)).alloc (.cells #[x3] 22)).heap.size ((((w.alloc (.cells #[x0] 22)).alloc (.cells #[x1] 3)).alloc (.cells #[x2] 3)).alloc (.cells #[x3] 22)) w1) :
    Below w.heap.size w w1 ∧ w1.cell? ⟨w.heap.size, 0, none⟩ = some x0 ∧ w1.cell? ⟨w.heap.size + 1, 0, none⟩ = some x1 ∧ w1.cell? ⟨w.heap.size + 1 + 1, 0, none⟩ = some x2 ∧ w1.cell? ⟨w.heap.size + 1 + 1 + 1, 0, none⟩ = some x3 ∧ w.heap.size + 1 + 1 + 1 + 1 ≤ w1.heap.size :=
  ⟨((((Below.refl _ _).alloc (Nat.le_refl _) _).alloc (by simp) _).alloc (by simp; omega) _ |>.alloc (by simp; omega) _).trans (hb.mono (by simp; omega)),
   cell_later' hb (by simp [go_sem]), cell_later' hb (by simp [go_sem]), cell_later' hb (by simp [go_sem]), cell_later' hb (by simp [go_sem]), by have := hb.size; simpa using this⟩
set_option maxHeartbeats 4000000 in
set_option maxRecDepth 100000 in
theorem runs_Splice.out (k : Nat) (A0 : Option Addr) (c0 : Nat) (l0 : List S51) (a1 : Int) (a2 : Int) (A3 : Option Addr) (c3 : Nat) (l3 : List S51) (w : World) (hr0 : Kd.C k51 w A0 l0.length l0) (hc0 : l0.length ≤ c0) (ht : runs_within.f k l0 a1 a2 = some false) :
    Calls Try.prog 75 #[.slice A0 l0.length c0, .int .i64 a1, .int .i64 a2, .slice A3 l3.length c3] w fun e w' => ∃ v0_ : Value, e = .returned (.tuple #[v0_, .int .i64 2]) ∧ Kd.R k51 51 w' w.heap.size (fun _ => True) v0_ [] ∧ Below w.heap.size w w' := by
  have hmf : ∀ (fn : Fn) (first cap : Array Value) (w : World), (Instr.makeFunc fn first cap).run Try.prog w = .ok (.func fn first cap) w := fun _ _ _ _ => rfl
  have HC := aM (fun W (hw : Below w.heap.size w W) => runs_within.calls k A0 c0 l0 a1 a2 false W (cB_ hr0 hw) hc0 ht)
  clear hr0 ht
  go_enter Try.func75, Try.ntmps75
  go_wp2_with fail
  refine (HC.out _ (splice_boxes (Below.refl _ _)).1).mono ?_
  rintro e w1 ⟨rfl, hb⟩
  have HB := aM (splice_boxes hb)
  clear hb
  go_wp2
  go_ret2
  exact ⟨_, rfl, Kd.R_nil _ _ _ _ _, HB.out.1⟩
set_option maxHeartbeats 4000000 in
set_option maxRecDepth 100000 in
theorem runs_Splice.bad (k : Nat) (A0 : Option Addr) (c0 : Nat) (l0 : List S51) (a1 : Int) (a2 : Int) (A3 : Option Addr) (c3 : Nat) (l3 : List S51) (w : World) (hr0 : Kd.C k51 w A0 l0.length l0) (hc0 : l0.length ≤ c0) (hr3 : Kd.C k51 w A3 l3.length l3) (hc3 : l3.length ≤ c3)
    (ht : runs_within.f k l0 a1 a2 = some true) (hu : runs_Good.f k l3 = some false) :
    Calls Try.prog 75 #[.slice A0 l0.length c0, .int .i64 a1, .int .i64 a2, .slice A3 l3.length c3] w fun e w' => ∃ v0_ : Value, e = .returned (.tuple #[v0_, .int .i64 2]) ∧ Kd.R k51 51 w' w.heap.size (fun _ => True) v0_ [] ∧ Below w.heap.size w w' := by
  have hmf : ∀ (fn : Fn) (first cap : Array Value) (w : World), (Instr.makeFunc fn first cap).run Try.prog w = .ok (.func fn first cap) w := fun _ _ _ _ => rfl
  have HC := aM (fun W (hw : Below w.heap.size w W) => runs_within.calls k A0 c0 l0 a1 a2 true W (cB_ hr0 hw) hc0 ht)
  have HG := aM (fun W (hw : Below w.heap.size w W) => runs_Good.calls k A3 c3 l3 false W (cB_ hr3 hw) hc3 hu)
  clear hr0 ht hr3 hu
  go_enter Try.func75, Try.ntmps75
  go_wp2_with fail
  refine (HC.out _ (splice_boxes (Below.refl _ _)).1).mono ?_
  rintro e w1 ⟨rfl, hb⟩
  have HB := aM (splice_boxes hb)
  have hc4 := (splice_boxes hb).2.2.2.2.1
  clear hb
  go_wp2_with fail
  refine (HG.out _ HB.out.1).mono ?_
  rintro e w2 ⟨rfl, hb⟩
  have HB2 := aM (HB.out.1.trans (hb.mono (by have := HB.out.2.2.2.2.2; omega)))
  clear hb
  go_wp2
  go_ret2
  exact ⟨_, rfl, Kd.R_nil _ _ _ _ _, HB2.out⟩
set_option maxHeartbeats 4000000 in
set_option maxRecDepth 100000 in
theorem runs_Splice.rest (k : Nat) (A0 : Option Addr) (c0 : Nat) (l0 : List S51) (a1 : Int) (a2 : Int) (A3 : Option Addr) (c3 : Nat) (l3 : List S51) (r1 : List S51) (r2 : Int) (w : World) (hr0 : Kd.C k51 w A0 l0.length l0) (hc0 : l0.length ≤ c0) (hr3 : Kd.C k51 w A3 l3.length l3) (hc3 : l3.length ≤ c3)
    (ht : runs_within.f k l0 a1 a2 = some true) (hu : runs_Good.f k l3 = some true) (p q : Int) (hp : runs_Total.f k l0 = some p) (hq : runs_Total.f k l3 = some q)
    (h : (if wrap64 (wrap64 (p - wrap64 (a2 - a1)) + q) > 4096 then some ([], 3) else if (l0.length + l3.length + l0.length) * 16 ≤ 140737488355328 then some (spliceRuns l0 a1 a2 l3, 0) else none) = some (r1, r2)) :
    Calls Try.prog 75 #[.slice A0 l0.length c0, .int .i64 a1, .int .i64 a2, .slice A3 l3.length c3] w fun e w' => ∃ v0_ : Value, e = .returned (.tuple #[v0_, .int .i64 r2]) ∧ Kd.R k51 51 w' w.heap.size (fun _ => True) v0_ r1 ∧ Below w.heap.size w w' := by
  have hmf : ∀ (fn : Fn) (first cap : Array Value) (w : World), (Instr.makeFunc fn first cap).run Try.prog w = .ok (.func fn first cap) w := fun _ _ _ _ => rfl
  have HC := aM (fun W (hw : Below w.heap.size w W) => runs_within.calls k A0 c0 l0 a1 a2 true W (cB_ hr0 hw) hc0 ht)
  have HG := aM (fun W (hw : Below w.heap.size w W) => runs_Good.calls k A3 c3 l3 true W (cB_ hr3 hw) hc3 hu)
  have HT1 := aM (fun W (hw : Below w.heap.size w W) => runs_Total.calls k A0 c0 l0 p W (cB_ hr0 hw) hc0 hp)
  have HT2 := aM (fun W (hw : Below w.heap.size w W) => runs_Total.calls k A3 c3 l3 q W (cB_ hr3 hw) hc3 hq)
  have HR0 := aM hr0
  have HR3 := aM hr3
  have HH := aM h
  clear hr0 ht hr3 hu hp hq h
  go_enter Try.func75, Try.ntmps75
  go_wp2_with fail
  refine (HC.out _ (splice_boxes (Below.refl _ _)).1).mono ?_
  rintro e w1 ⟨rfl, hb⟩
  have HB := aM hb
  have hc4 := (splice_boxes hb).2.2.2.2.1
  clear hb
  go_wp2_with fail
  refine (HG.out _ (splice_boxes HB.out).1).mono ?_
  rintro e w2 ⟨rfl, hb⟩
  have HB2 := aM (HB.out.trans (hb.mono (by have := (splice_boxes HB.out).2.2.2.2.2; simp; omega)))
  clear hb hc4
  obtain ⟨hc1, hc2, hc3', hc4, hc5⟩ := (splice_boxes HB2.out).2
  have HZ := aM hc5
  clear hc5
  go_wp2_with fail
  go_region_held3 (fun w' => w'.cell? ⟨w.heap.size, 0, none⟩ = some (.slice A0 l0.length c0) ∧ w'.cell? ⟨w.heap.size + 1, 0, none⟩ = some (.int .i64 a1) ∧ w'.cell? ⟨w.heap.size + 1 + 1, 0, none⟩ = some (.int .i64 a2) ∧ w'.cell? ⟨w.heap.size + 1 + 1 + 1, 0, none⟩ = some (.slice A3 l3.length c3) ∧ Aside0 (Below w2.heap.size w2 w'))
    (first
      | exact ⟨hc1, hc2, hc3', hc4, ⟨below_drew (Below.refl _ _)⟩⟩
      | (go_split_ands; exact ⟨cell_later' hb (by assumption), cell_later' hb (by assumption), cell_later' hb (by assumption), cell_later' hb (by assumption), ⟨(fun (g5 : Aside0 (Below w2.heap.size w2 _)) => g5.out.trans (hb.mono g5.out.size)) (by assumption)⟩⟩))
    (first
      | (go_at_call 64; first | ((with_reducible refine (HT1.out _ ?hw).mono ?_); (case hw => go_split_ands; exact (splice_boxes HB2.out).1.trans ((by assumption : Aside0 (Below w2.heap.size w2 _)).out.mono (by have := HZ.out; omega))); rintro e w3 ⟨rfl, hb⟩) | ((with_reducible refine (HT2.out _ ?hw).mono ?_); (case hw => go_split_ands; exact (splice_boxes HB2.out).1.trans ((by assumption : Aside0 (Below w2.heap.size w2 _)).out.mono (by have := HZ.out; omega))); rintro e w3 ⟨rfl, hb⟩)))
  clear hc1 hc2 hc3' hc4
  obtain ⟨hc1, hc2, hc3', hc4, hB3⟩ := ‹_ ∧ _›
  have HB3 := aM (HB2.out.trans (hB3.out.mono (by have := HZ.out; simp; omega)))
  clear hB3
  have HH1 := HH.out
  rw [← i64_w, ← i64_w, ← i64_w] at HH1
  generalize IntKind.i64.wrap (IntKind.i64.wrap (p - IntKind.i64.wrap (a2 - a1)) + q) = z at HH1 ⊢
  by_cases h4 : z > 4096
  · have hd : decide (4096 < z) = true := by simpa using h4
    rw [if_pos h4] at HH1
    injection HH1 with h
    injection h with h1 h2
    subst h1; subst h2
    have h4' : 4096 < z := h4
    go_wp2
    go_ret2
    exact ⟨_, rfl, Kd.R_nil _ _ _ _ _, (splice_boxes HB3.out).1⟩
  · have hd : decide (4096 < z) = false := by simpa using h4
    rw [if_neg h4] at HH1
    by_cases hl : (l0.length + l3.length + l0.length) * 16 ≤ 140737488355328
    case neg => rw [if_neg hl] at HH1; cases HH1
    rw [if_pos hl] at HH1
    injection HH1 with h
    injection h with h1 h2
    subst h1; subst h2
    have HL := aM hl
    have h4' : ¬ 4096 < z := h4
    clear hl
    have HG := aM (gather_any 82 #[.pointer (some ⟨w.heap.size, 0, none⟩), .pointer (some ⟨w.heap.size + 1, 0, none⟩), .pointer (some ⟨w.heap.size + 1 + 1 + 1, 0, none⟩), .pointer (some ⟨w.heap.size + 1 + 1, 0, none⟩)] _ (fun g => rfl) hcf93 (spliceRuns l0 a1 a2 l3) w3 (fun g w4 h1 h2 h3 => lay_splice A0 c0 l0 a1 a2 A3 c3 l3 _ _ _ _ g w3 w4 h1 (cB_ HR0.out (splice_boxes HB3.out).1) (cB_ HR3.out (splice_boxes HB3.out).1) hc1 hc4 hc2 hc3' h3 h2 HL.out))
    go_wp2_with ((with_reducible refine HG.out.mono ?_); rintro e w5 ⟨v, rfl, hRv, hBv⟩; have HV := aM hRv; have HBV := aM hBv; clear hRv hBv)
    go_ret2
    exact ⟨_, rfl, rL HV.out (by have := (splice_boxes HB3.out).1.size; omega), (splice_boxes HB3.out).1.trans (HBV.out.mono (by have := (splice_boxes HB3.out).1.size; omega))⟩
theorem runs_Splice.calls (k : Nat) (A0 : Option Addr) (c0 : Nat) (l0 : List S51) (a1 : Int) (a2 : Int) (A3 : Option Addr) (c3 : Nat) (l3 : List S51) (r1 : List S51) (r2 : Int) (w : World) (hr0 : Kd.C k51 w A0 l0.length l0) (hc0 : l0.length ≤ c0) (hr3 : Kd.C k51 w A3 l3.length l3) (hc3 : l3.length ≤ c3) (h : runs_Splice.f k l0 a1 a2 l3 = some (r1, r2)) :
    Calls Try.prog 75 #[.slice A0 l0.length c0, .int .i64 a1, .int .i64 a2, .slice A3 l3.length c3] w fun e w' => ∃ v0_ : Value, e = .returned (.tuple #[v0_, .int .i64 r2]) ∧ Kd.R k51 51 w' w.heap.size (fun _ => True) v0_ r1 ∧ Below w.heap.size w w' := by
  unfold runs_Splice.f at h
  obtain ⟨t, ht, h⟩ := Option.bind_eq_some_iff.1 h
  cases t with
  | false =>
    simp only [Bool.false_eq_true, if_false] at h
    injection h with h
    injection h with h1 h2
    subst h1; subst h2
    exact runs_Splice.out k A0 c0 l0 a1 a2 A3 c3 l3 w hr0 hc0 ht
  | true =>
    simp only [if_true] at h
    obtain ⟨u, hu, h⟩ := Option.bind_eq_some_iff.1 h
    cases u with
    | false =>
      simp only [Bool.false_eq_true, if_false] at h
      injection h with h
      injection h with h1 h2
      subst h1; subst h2
      exact runs_Splice.bad k A0 c0 l0 a1 a2 A3 c3 l3 w hr0 hc0 hr3 hc3 ht hu
    | true =>
      simp only [if_true] at h
      obtain ⟨p, hp, h⟩ := Option.bind_eq_some_iff.1 h
      obtain ⟨q, hq, h⟩ := Option.bind_eq_some_iff.1 h
      exact runs_Splice.rest k A0 c0 l0 a1 a2 A3 c3 l3 r1 r2 w hr0 hc0 hr3 hc3 ht hu p q hp hq h
end Go.Proofs.Ytnbdldpjiofafaa.PB
end

section
namespace Go.Proofs.Ytnbdldpjiofafaa.PB
open Go.RowKit Go.Proofs.YtnbdldpjiofafaaW.PrintWords Go.Proofs.YtnbdldpjiofafaaW.PrintLast Go.Proofs.YtnbdldpjiofafaaW.PrintMore
attribute [local go_sem] max2_int min2_int max_two min_two max_three min_three max_four min_four   
set_option linter.unusedVariables false
set_option linter.unusedSimpArgs false
def subst_seen.f (k : Nat) (a0_0 : ByteArray) (l0_1 : List (S51)) (a1 : Int) (a2 : Int) (a3 : Int) : Option (Bool) := (runs_Slice.f k l0_1 a2 a3).bind fun bt120 => ((runs_All.f k bt120.1).bind fun t124 => ((label_Below.f t124 a1).bind fun t125 => (some t125)))
theorem subst_seen.mono : ∀ a0 a1 a2 a3 a4 k, LeO (subst_seen.f k a0 a1 a2 a3 a4) (subst_seen.f (k + 1) a0 a1 a2 a3 a4) := by
 intro a0 a1 a2 a3 a4 k
 unfold subst_seen.f
 repeat' first
   | (with_reducible exact runs_All.mono _ _)
   | (with_reducible exact runs_Slice.mono _ _ _ _)
   | (with_reducible exact LeO.refl _)
   | (with_reducible exact LeO.none _)
   | (with_reducible refine LeO.ite ?_ ?_)
   | (with_reducible refine LeO.bind ?_ (fun _ => ?_))
   | exact runs_All.mono _ _
   | exact runs_Slice.mono _ _ _ _
   | exact LeO.none _
   | refine LeO.ite ?_ ?_
   | refine LeO.bind ?_ (fun _ => ?_)
set_option maxHeartbeats 8000000 in
set_option maxRecDepth 100000 in
theorem subst_seen.calls (k : Nat) (a0_0 : ByteArray) (A0_1 : Option Addr) (c0_1 : Nat) (l0_1 : List (S51)) (a1 : Int) (a2 : Int) (a3 : Int) (r : Bool) (w : World) (hr0_1 : Kd.C k51 w A0_1 l0_1.length l0_1) (hc0_1 : l0_1.length ≤ c0_1) (h : subst_seen.f k a0_0 l0_1 a1 a2 a3 = some r) :
  Calls Try.prog 48 #[.agg #[.string a0_0, .slice A0_1 l0_1.length c0_1], .int .u64 a1, .int .i64 a2, .int .i64 a3] w fun e w' => e = .returned (.bool r) ∧ Below w.heap.size w w' := by
 have hu24 := Try.underlying24
 have HR0_1 := aM hr0_1
 have HC0_1 := aM hc0_1
 clear hr0_1 hc0_1
 have HB := aM (Below.refl w.heap.size w)
 have H : ((runs_Slice.f k l0_1 a2 a3).bind fun bt120 => ((runs_All.f k bt120.1).bind fun t124 => ((label_Below.f t124 a1).bind fun t125 => (some t125)))) = some r := h
 clear h
 replace H := Option.bind_eq_some_iff.mp H
 obtain ⟨⟨t120, t121⟩, A50, H⟩ := H
 replace H : ((runs_All.f k t120).bind fun t124 => ((label_Below.f t124 a1).bind fun t125 => (some t125))) = some r := H
 have A5 := aM A50
 clear A50
 replace H := Option.bind_eq_some_iff.mp H
 obtain ⟨t124, A60, H⟩ := H
 replace H : ((label_Below.f t124 a1).bind fun t125 => (some t125)) = some r := H
 have A6 := aM A60
 clear A60
 replace H := Option.bind_eq_some_iff.mp H
 obtain ⟨t125, A70, H⟩ := H
 replace H : (some t125) = some r := H
 have A7 := aM A70
 clear A70
 obtain rfl := Option.some.inj H
 go_enter Try.func48, Try.ntmps48
 go_wp2_with (first | ((with_reducible refine gate_dst (N := 4) rfl ?_); refine box_event ?hg (N := 4) ?hd (cs := #[.string a0_0, .slice A0_1 l0_1.length c0_1]) (t := 24) ?hr ?_; (case hd | hg => rfl); (case hr => first | (go_simp; done) | (go_simp; rfl)); intro gb119 hg w8 hbox hb; have n0_ := aM (bP (ey HB.out) hb); have n1_ := aM (hbox); have n2_ := aM ((by rw [hg]; exact (bZ (ey HB.out)) : w.heap.size ≤ gb119)); have n3_ := n2_; clear HB; have HB := n0_; have BK119 := n1_; have GW119 := n2_; have GE119 := n3_; clear n0_ n1_ n2_ n3_; clear hb hbox hg; have hcz9_0 := zC BK119.out 0 (.string a0_0); have hcz9_1 := zC BK119.out 1 (.slice A0_1 l0_1.length c0_1); have hfz9_0 := bF BK119.out 0; have hfz9_1 := bF BK119.out 1) | ((with_reducible refine gate_callee (f := 51) rfl ?_); refine goesL_ (some 16) rfl rfl Try.func51 (by kernel_rfl) rfl #[.slice A0_1 l0_1.length c0_1, .int .i64 a2, .int .i64 a3] rfl (by (try simp only [mT, mC, mN]); first | done | rfl | (simp only [lD, lT]; rfl)) ?_; (with_reducible refine (runs_Slice.calls k _ _ l0_1 a2 a3 t120 t121 _ ?side1 ?side2 A5.out).mono ?_); (case side1 => repeat (first | exact (cB_ HR0_1.out HB.out) | (with_reducible refine Kd.C_alloc ?_ _) | (with_reducible refine Kd.C_drewN ?_ _) | (with_reducible refine Kd.C_drew ?_))); (case side2 => exact HC0_1.out); rintro e w10 ⟨v122, rfl, ho0, hb⟩; refine ⟨_, rfl, ?_⟩; have n0_ := aM (rL ho0 (bZ (by repeat (first | (with_reducible first | exact HB.out | apply ea | apply en | apply ed | refine es ?_ GE119.out) | exact HB.out)))); have n1_ := aM (bB (g := gb119) (qy BK119.out) hb); have n2_ := aM (bP (by repeat (first | (with_reducible first | exact HB.out | apply ea | apply en | apply ed | refine es ?_ GE119.out) | exact HB.out)) hb); clear BK119 HB; have HO123 := n0_; have BK119 := n1_; have HB := n2_; clear n0_ n1_ n2_; (try clear hb); (try clear hb2); (try clear hk); (try clear hi); (try clear ho0); obtain ⟨Ao11, co11, eo11⟩ := Kd.R_slice HO123.out; subst eo11) | ((with_reducible refine gate_callee (f := 69) rfl ?_); refine goesL_ (some 20) rfl rfl Try.func69 (by kernel_rfl) rfl #[.slice Ao11 t120.length co11] rfl (by (try simp only [mT, mC, mN]); first | done | rfl | (simp only [lD, lT]; rfl)) ?_; (with_reducible refine (runs_All.calls k _ _ t120 t124 _ ?side1 ?side2 A6.out).mono ?_); (case side1 => repeat (first | exact (rR HO123.out).2.2 | (with_reducible refine Kd.C_alloc ?_ _) | (with_reducible refine Kd.C_drewN ?_ _) | (with_reducible refine Kd.C_drew ?_))); (case side2 => exact (rR HO123.out).2.1); rintro e w12 ⟨rfl, hb⟩; refine ⟨_, rfl, ?_⟩; have n0_ := aM (Kd.R_below (ry HO123.out) hb); have n1_ := aM (bB (g := gb119) (qy BK119.out) hb); have n2_ := aM (bP (by repeat (first | (with_reducible first | exact HB.out | apply ea | apply en | apply ed | refine es ?_ GE119.out) | exact HB.out)) hb); clear HO123 BK119 HB; have HO123 := n0_; have BK119 := n1_; have HB := n2_; clear n0_ n1_ n2_; (try clear hb); (try clear hb2); (try clear hk); (try clear hi)) | ((with_reducible refine gate_callee (f := 44) rfl ?_); refine goesL_ (some 22) rfl rfl Try.func44 (by kernel_rfl) rfl #[.int .u64 t124, .int .u64 a1] rfl (by (try simp only [mT, mC, mN]); first | done | rfl | (simp only [lD, lT]; rfl)) ?_; (with_reducible refine (label_Below.calls t124 a1 t125 _ A7.out).mono ?_); rintro e w' ⟨rfl, ⟨nd, rfl⟩⟩; refine ⟨_, rfl, ?_⟩))
 go_ret
 exact ⟨by first | rfl | (simp [errW_none, errW_some] <;> rfl) | (simp [*, errW_none, errW_some] <;> rfl), by repeat (first | (with_reducible first | exact HB.out | apply ea | apply en | apply ed | refine es ?_ GE119.out) | exact HB.out)⟩
end Go.Proofs.Ytnbdldpjiofafaa.PB
end

section
namespace Go.Proofs.Ytnbdldpjiofafaa.PB
open Go.RowKit Go.Proofs.YtnbdldpjiofafaaW.PrintWords Go.Proofs.YtnbdldpjiofafaaW.PrintLast Go.Proofs.YtnbdldpjiofafaaW.PrintMore
attribute [local go_sem] max2_int min2_int max_two min_two max_three min_three max_four min_four   
set_option linter.unusedVariables false
set_option linter.unusedSimpArgs false
def subst_places.l0 : Nat → Int → Int → List Int → Int → ByteArray → List (S51) → Int → Int → ByteArray → ByteArray → Bool → Option (List Int)
 | 0, _, _, _, _, _, _, _, _, _, _, _ => none
 | k + 1, x1, x4, x11, x12, x127000, x127001, x128000, x128001, x128002, x128003, x128004 => if x12 < x4 then (if 0 ≤ x12 then (if x12 ≤ x4 then (if x4 ≤ (x127000.size : Int) then ((strings_Index.f (x127000.extract (x12 : Int).toNat (x4 : Int).toNat) x128002).bind fun t128 => (if t128 < 0 then (some x11) else ((subst_seen.f k x127000 x127001 x1 (wrap64 (x12 + t128)) (wrap64 ((wrap64 (x12 + t128)) + (x128002.size : Int)))).bind fun t129 => (if t129 = true then (if x11.length < 17592186044416 then ((some (x11 ++ [wrap64 (x12 + t128)] : List Int)).bind fun y130 => (if x128004 = true then (subst_places.l0 k x1 x4 y130 (wrap64 ((wrap64 (x12 + t128)) + (x128002.size : Int))) x127000 x127001 x128000 x128001 x128002 x128003 x128004) else (some y130))) else (none)) else (subst_places.l0 k x1 x4 x11 (wrap64 ((wrap64 (x12 + t128)) + 1)) x127000 x127001 x128000 x128001 x128002 x128003 x128004))))) else (none)) else (none)) else (none)) else (some x11)
def subst_places.f (k : Nat) (a0_0 : ByteArray) (l0_1 : List (S51)) (a1 : Int) (a2_0 : Int) (a2_1 : Int) (a2_2 : ByteArray) (a2_3 : ByteArray) (a2_4 : Bool) (a3 : Int) (a4 : Int) : Option (List Int) := subst_places.l0 k a1 a4 ([] : List Int) a3 a0_0 l0_1 a2_0 a2_1 a2_2 a2_3 a2_4
theorem subst_places.mono_l : ∀ k, (∀ y0 y1 y2 y3 y4 y5 y6 y7 y8 y9 y10, LeO (subst_places.l0 k y0 y1 y2 y3 y4 y5 y6 y7 y8 y9 y10) (subst_places.l0 (k + 1) y0 y1 y2 y3 y4 y5 y6 y7 y8 y9 y10))
 | 0 => fun _ _ _ _ _ _ _ _ _ _ _ r h => by simp [subst_places.l0] at h
 | k + 1 => by
  have ih0 := subst_places.mono_l k
  ·intro y0 y1 y2 y3 y4 y5 y6 y7 y8 y9 y10
   unfold subst_places.l0
   repeat' first
   | (with_reducible exact ih0 _ _ _ _ _ _ _ _ _ _ _)
   | (with_reducible exact subst_seen.mono _ _ _ _ _ _)
   | (with_reducible exact LeO.refl _)
   | (with_reducible exact LeO.none _)
   | (with_reducible refine LeO.ite ?_ ?_)
   | (with_reducible refine LeO.bind ?_ (fun _ => ?_))
   | exact ih0 _ _ _ _ _ _ _ _ _ _ _
   | exact subst_seen.mono _ _ _ _ _ _
   | exact LeO.none _
   | refine LeO.ite ?_ ?_
   | refine LeO.bind ?_ (fun _ => ?_)
theorem subst_places.mono : ∀ a0 a1 a2 a3 a4 a5 a6 a7 a8 a9 k, LeO (subst_places.f k a0 a1 a2 a3 a4 a5 a6 a7 a8 a9) (subst_places.f (k + 1) a0 a1 a2 a3 a4 a5 a6 a7 a8 a9) := by
 intro a0 a1 a2 a3 a4 a5 a6 a7 a8 a9 k
 have ih0 := subst_places.mono_l k
 unfold subst_places.f
 repeat' first
   | (with_reducible exact ih0 _ _ _ _ _ _ _ _ _ _ _)
   | (with_reducible exact subst_seen.mono _ _ _ _ _ _)
   | (with_reducible exact LeO.refl _)
   | (with_reducible exact LeO.none _)
   | (with_reducible refine LeO.ite ?_ ?_)
   | (with_reducible refine LeO.bind ?_ (fun _ => ?_))
   | exact ih0 _ _ _ _ _ _ _ _ _ _ _
   | exact subst_seen.mono _ _ _ _ _ _
   | exact LeO.none _
   | refine LeO.ite ?_ ?_
   | refine LeO.bind ?_ (fun _ => ?_)
def subst_places.T4 : Bool × List (List Nat × List Nat) := (true, [([], []), ([0], [0]), ([], []), ([], []), ([1, 2, 3], [1, 2, 3]), ([], []), ([5], [5]), ([4, 6], [4, 6]), ([7, 7, 0, 1, 2, 3, 4, 5, 6, 7], [7])])
def subst_places.B4 : List Nat := [0, 1, 0, 0, 15, 0, 32, 127, 255]
theorem subst_places.tab4 : rtab .any (opsOf Try.f23 4) = subst_places.T4 := by kernel_rfl
theorem subst_places.bits4 : waitsOk subst_places.T4.2 subst_places.B4 = true := by kernel_rfl
set_option maxHeartbeats 8000000 in
set_option maxRecDepth 100000 in
theorem subst_places.calls (k : Nat) (a0_0 : ByteArray) (A0_1 : Option Addr) (c0_1 : Nat) (l0_1 : List (S51)) (a1 : Int) (a2_0 : Int) (a2_1 : Int) (a2_2 : ByteArray) (a2_3 : ByteArray) (a2_4 : Bool) (a3 : Int) (a4 : Int) (r : List Int) (w : World) (hMX : MaxOk w) (hr0_1 : Kd.C k51 w A0_1 l0_1.length l0_1) (hc0_1 : l0_1.length ≤ c0_1) (h : subst_places.f k a0_0 l0_1 a1 a2_0 a2_1 a2_2 a2_3 a2_4 a3 a4 = some r) :
  Calls Try.prog 23 #[.agg #[.string a0_0, .slice A0_1 l0_1.length c0_1], .int .u64 a1, .agg #[.int .i64 a2_0, .int .i64 a2_1, .string a2_2, .string a2_3, .bool a2_4], .int .i64 a3, .int .i64 a4] w fun e w' => ∃ v0_ : Value, e = .returned (v0_) ∧ Kd.R (Kd.int .i64) 3 w' w.heap.size (fun _ => True) v0_ r ∧ Below w.heap.size w w' := by
 have HMX := aM hMX
 clear hMX
 have hu24 := Try.underlying24
 have hu28 := Try.underlying28
 have HR0_1 := aM hr0_1
 have HC0_1 := aM hc0_1
 clear hr0_1 hc0_1
 have HB := aM (Below.refl w.heap.size w)
 have H : (subst_places.l0 k a1 a4 ([] : List Int) a3 a0_0 l0_1 a2_0 a2_1 a2_2 a2_3 a2_4) = some r := h
 clear h
 have H' := aM H
 clear H
 go_enter Try.func23, Try.ntmps23
 go_wp2_with (first | ((with_reducible refine gate_dst (N := 5) rfl ?_); refine box_event ?hg (N := 5) ?hd (cs := #[.string a0_0, .slice A0_1 l0_1.length c0_1]) (t := 24) ?hr ?_; (case hd | hg => rfl); (case hr => first | (go_simp; done) | (go_simp; rfl)); intro gb126 hg w6 hbox hb; have n0_ := aM (bP (ey HB.out) hb); have n1_ := aM (hbox); have n2_ := aM ((by rw [hg]; exact (bZ (ey HB.out)) : w.heap.size ≤ gb126)); have n3_ := n2_; clear HB; have HB := n0_; have BK126 := n1_; have GW126 := n2_; have GE126 := n3_; clear n0_ n1_ n2_ n3_; clear hb hbox hg) | ((with_reducible refine gate_dst (N := 7) rfl ?_); refine box_event ?hg (N := 7) ?hd (cs := #[.int .i64 a2_0, .int .i64 a2_1, .string a2_2, .string a2_3, .bool a2_4]) (t := 28) ?hr ?_; (case hd | hg => rfl); (case hr => first | (go_simp; done) | (go_simp; rfl)); intro gb127 hg w7 hbox hb; have n0_ := aM (bB (g := gb126) (qy BK126.out) hb); have n1_ := aM (bP (by repeat (first | (with_reducible first | exact HB.out | apply ea | apply en | apply ed | refine es ?_ GE126.out) | exact HB.out)) hb); have n2_ := aM (hbox); have n3_ := aM ((by rw [hg]; exact (bZ (by repeat (first | (with_reducible first | exact HB.out | apply ea | apply en | apply ed | refine es ?_ GE126.out) | exact HB.out))) : w.heap.size ≤ gb127)); have n4_ := n3_; have n5_ := aM ((by rw [hg]; exact Nat.ne_of_lt (blk_lt (g := gb126) (qy BK126.out)) : gb126 ≠ gb127)); have n6_ := aM ((by rw [hg]; exact Nat.ne_of_gt (blk_lt (g := gb126) (qy BK126.out)) : gb127 ≠ gb126)); clear BK126 HB; have BK126 := n0_; have HB := n1_; have BK127 := n2_; have GW127 := n3_; have GE127 := n4_; have NB126_127 := n5_; have NB127_126 := n6_; clear n0_ n1_ n2_ n3_ n4_ n5_ n6_; clear hb hbox hg))
 go_loopg [11, 12] k (fun kq v11 v12 w' => ∃ (x11_1 : List Int) (x12_1 : Int), v12 = .int .i64 x12_1 ∧ Aside0 (subst_places.l0 kq a1 a4 x11_1 x12_1 a0_0 l0_1 a2_0 a2_1 a2_2 a2_3 a2_4 = some r) ∧ Aside0 (kq ≤ k) ∧ Aside0 (Kd.R (Kd.int .i64) 3 w' w.heap.size (fun _ => True) v11 x11_1) ∧ Aside0 (w'.heap[gb126]? = some (.cells #[.string a0_0, (.slice A0_1 l0_1.length c0_1)] 24 (0, 0))) ∧ Aside0 (w'.heap[gb127]? = some (.cells #[.int .i64 a2_0, .int .i64 a2_1, .string a2_2, .string a2_3, .bool a2_4] 28 (0, 0))) ∧ Aside0 (Below w.heap.size w w'))
 case atStart => exact ⟨(([] : List Int)), (a3), (by first | rfl | (simp; done) | (simp [*]; done)), H', ⟨Nat.le_refl _⟩, ⟨by first | exact Kd.R_nil _ _ _ _ _ | exact Kd.N_nil _ _ _ _ _ | exact Kd.V_nil _ _ _ _ _ | exact Kd.Q_nil _ _ _ _ _ | exact Kd.S_nil _ _ _ _ _⟩, ⟨by exact qy BK126.out⟩, ⟨by exact qy BK127.out⟩, ⟨by repeat (first | (with_reducible first | exact HB.out | apply ea | apply en | apply ed | refine es ?_ GE126.out | refine es ?_ GE127.out) | exact HB.out)⟩⟩
 case round =>
  clear H'
  try clear c2
  try clear p2
  obtain ⟨x11_1, x12_1, rfl, HA, HK1, HO_11, BK126, BK127, HB⟩ := hrel
  cases gk with
  | zero => exact absurd HA.out (by simp [subst_places.l0])
  | succ k1 =>
   have H := HA.out
   clear HA
   simp only [subst_places.l0] at H
   by_cases c8 : x12_1 < a4
   ·rw [if_pos c8] at H
    have c8b0 : decide (x12_1 < a4) = true := decide_eq_true c8
    clear c8
    by_cases c9 : 0 ≤ x12_1
    ·rw [if_pos c9] at H
     have c9b0 := eq_true c9
     have c9b1 : decide (0 ≤ x12_1) = true := decide_eq_true c9
     clear c9
     by_cases c10 : x12_1 ≤ a4
     ·rw [if_pos c10] at H
      have c10b0 := eq_true c10
      have c10b1 : decide (x12_1 ≤ a4) = true := decide_eq_true c10
      clear c10
      by_cases c11 : a4 ≤ (a0_0.size : Int)
      ·rw [if_pos c11] at H
       have c11b0 := eq_true c11
       have c11b1 : decide (a4 ≤ (a0_0.size : Int)) = true := decide_eq_true c11
       clear c11
       replace H := Option.bind_eq_some_iff.mp H
       obtain ⟨t128, A120, H⟩ := H
       replace H : (if t128 < 0 then (some x11_1) else ((subst_seen.f k1 a0_0 l0_1 a1 (wrap64 (x12_1 + t128)) (wrap64 ((wrap64 (x12_1 + t128)) + (a2_2.size : Int)))).bind fun t129 => (if t129 = true then (if x11_1.length < 17592186044416 then ((some (x11_1 ++ [wrap64 (x12_1 + t128)] : List Int)).bind fun y130 => (if a2_4 = true then (subst_places.l0 k1 a1 a4 y130 (wrap64 ((wrap64 (x12_1 + t128)) + (a2_2.size : Int))) a0_0 l0_1 a2_0 a2_1 a2_2 a2_3 a2_4) else (some y130))) else (none)) else (subst_places.l0 k1 a1 a4 x11_1 (wrap64 ((wrap64 (x12_1 + t128)) + 1)) a0_0 l0_1 a2_0 a2_1 a2_2 a2_3 a2_4)))) = some r := H
       have A12 := aM A120
       clear A120
       by_cases c13 : t128 < 0
       ·rw [if_pos c13] at H
        have c13b0 : decide (t128 < 0) = true := decide_eq_true c13
        clear c13
        obtain rfl := Option.some.inj H
        try go_wp2
        have n0_ := aM (Kd.R_drew HO_11.out)
        have n1_ := aM (blk_drew BK126.out)
        have n2_ := aM (blk_drew BK127.out)
        have n3_ := aM (below_drew1 HB.out)
        clear HO_11
        clear BK126
        clear BK127
        clear HB
        have HO_11 := n0_
        have BK126 := n1_
        have BK127 := n2_
        have HB := n3_
        clear n0_ n1_ n2_ n3_
        refine start_ (n := 9) (S := fun w' => w'.cell? ⟨gb126, 0, none⟩ = some (.string a0_0) ∧ w'.cell? ⟨gb126, 1, none⟩ = some (.slice A0_1 l0_1.length c0_1) ∧ w'.cell? ⟨gb127, 0, none⟩ = some (.int .i64 a2_0) ∧ w'.cell? ⟨gb127, 1, none⟩ = some (.int .i64 a2_1) ∧ w'.cell? ⟨gb127, 2, none⟩ = some (.string a2_2) ∧ w'.cell? ⟨gb127, 3, none⟩ = some (.string a2_3) ∧ w'.cell? ⟨gb127, 4, none⟩ = some (.bool a2_4)) (ds := []) b0_ (by kernel_rfl) rfl rfl ⟨(bC BK126.out 0).trans rfl, (bC BK126.out 1).trans rfl, (bC BK127.out 0).trans rfl, (bC BK127.out 1).trans rfl, (bC BK127.out 2).trans rfl, (bC BK127.out 3).trans rfl, (bC BK127.out 4).trans rfl⟩ (fun hHeld => ?_); refine with_tabW subst_places.tab4 subst_places.bits4 (fun HT_ HW_ => ?_)
        generalize wr.drew = w14 at HO_11 BK126 BK127 HB hHeld ⊢
        refine pv 0 18 b1_ HT_ ?_
        refine pv 2 20 b2_ HT_ ?_
        refine pv 3 21 b3_ HT_ ?_
        refine pv 5 23 b4_ HT_ ?_
        refine pt 1 19 b5_ HT_ HW_ hHeld ?_
        refine pv 4 22 b6_ HT_ ?_
        refine pt 6 24 b7_ HT_ HW_ hHeld ?_
        refine one_ (i := 7) (N := some 25) b8_ rfl rfl (one_of HT_.out (by kernel_rfl)) (by decide) (fun K hK => ?_)
        refine goes_ Try.func46 (by kernel_rfl) rfl #[.string (a0_0.extract (x12_1 : Int).toNat (a4 : Int).toNat), .string a2_2] (by rfl) rfl rfl (by (try simp only [mT, mC, mN]); first | done | rfl | (simp only [lD, lT]; rfl)) ?_
        with_reducible refine (strings_Index.calls (a0_0.extract (x12_1 : Int).toNat (a4 : Int).toNat) a2_2 t128 _ ?mx1 A12.out).mono ?_
        case mx1 => exact MaxOk.below HMX.out (by repeat (first | (with_reducible first | exact HB.out | apply ea | apply en | apply ed | refine es ?_ GE126.out | refine es ?_ GE127.out) | exact HB.out))
        rintro e w15 ⟨rfl, hb⟩
        refine ⟨_, rfl, ?_⟩
        have n0_ := aM (Kd.R_below (ry HO_11.out) hb)
        have n1_ := aM (bB (g := gb126) (qy BK126.out) hb)
        have n2_ := aM (bB (g := gb127) (qy BK127.out) hb)
        have n3_ := aM (bP (by repeat (first | (with_reducible first | exact HB.out | apply ea | apply en | apply ed | refine es ?_ GE126.out | refine es ?_ GE127.out) | exact HB.out)) hb)
        clear HO_11
        clear BK126
        clear BK127
        clear HB
        have HO_11 := n0_
        have BK126 := n1_
        have BK127 := n2_
        have HB := n3_
        clear n0_ n1_ n2_ n3_
        (try clear hb)
        (try clear hb2)
        (try clear hk)
        (try clear hi)
        refine hK.out _ _ ⟨(bC BK126.out 0).trans rfl, (bC BK126.out 1).trans rfl, (bC BK127.out 0).trans rfl, (bC BK127.out 1).trans rfl, (bC BK127.out 2).trans rfl, (bC BK127.out 3).trans rfl, (bC BK127.out 4).trans rfl⟩ (fun hHeld => ?_)
        clear hK K
        refine norm_ (a' := ?_) ?_ ?_
        rotate_left
        ·show Act.put _ (some 25) _ = _
         simp only [Act.put, sA, sZ, sS, i64_w, i32_w]
         rfl
        refine pv 8 13 b9_ HT_ ?_
        refine done_ (done_of HT_.out (by kernel_rfl)) ?_
        try go_wp2
        go_ret
        exact ⟨_, by first | rfl | (simp [errW_none, errW_some] <;> rfl) | (simp [*, errW_none, errW_some] <;> rfl), by exact ry HO_11.out, by repeat (first | (with_reducible first | exact HB.out | apply ea | apply en | apply ed | refine es ?_ GE126.out | refine es ?_ GE127.out) | exact HB.out)⟩
       ·rw [if_neg c13] at H
        have c13b0 : decide (t128 < 0) = false := decide_eq_false c13
        clear c13
        replace H := Option.bind_eq_some_iff.mp H
        obtain ⟨t129, A160, H⟩ := H
        replace H : (if t129 = true then (if x11_1.length < 17592186044416 then ((some (x11_1 ++ [wrap64 (x12_1 + t128)] : List Int)).bind fun y130 => (if a2_4 = true then (subst_places.l0 k1 a1 a4 y130 (wrap64 ((wrap64 (x12_1 + t128)) + (a2_2.size : Int))) a0_0 l0_1 a2_0 a2_1 a2_2 a2_3 a2_4) else (some y130))) else (none)) else (subst_places.l0 k1 a1 a4 x11_1 (wrap64 ((wrap64 (x12_1 + t128)) + 1)) a0_0 l0_1 a2_0 a2_1 a2_2 a2_3 a2_4)) = some r := H
        have A16 := aM A160
        clear A160
        by_cases c17 : t129 = true
        ·subst c17
         have H1 : (if x11_1.length < 17592186044416 then ((some (x11_1 ++ [wrap64 (x12_1 + t128)] : List Int)).bind fun y130 => (if a2_4 = true then (subst_places.l0 k1 a1 a4 y130 (wrap64 ((wrap64 (x12_1 + t128)) + (a2_2.size : Int))) a0_0 l0_1 a2_0 a2_1 a2_2 a2_3 a2_4) else (some y130))) else (none)) = some r := by rw [if_pos rfl] at H; exact H
         clear H
         have H := H1
         clear H1
         by_cases c18 : x11_1.length < 17592186044416
         ·rw [if_pos c18] at H
          have LMc18 := aM c18
          clear c18
          obtain ⟨y130, hy130⟩ : ∃ y_ : List Int, y_ = (x11_1 ++ [wrap64 (x12_1 + t128)]) := ⟨_, rfl⟩
          replace H : (if a2_4 = true then (subst_places.l0 k1 a1 a4 y130 (wrap64 ((wrap64 (x12_1 + t128)) + (a2_2.size : Int))) a0_0 l0_1 a2_0 a2_1 a2_2 a2_3 a2_4) else (some y130)) = some r := by first | (rw [hy130]; with_reducible exact H) | (have H2_ := (Option.bind_some _ _).symm.trans H; rw [hy130]; with_reducible exact H2_) | (have H2_ := (Option.bind_some _ _).symm.trans H; with_reducible exact H2_) | with_reducible exact H | (rw [hy130]; exact H) | exact H
          have Ny130 := aM hy130
          clear hy130
          by_cases c19 : a2_4 = true
          ·subst c19
           have H1 : (subst_places.l0 k1 a1 a4 y130 (wrap64 ((wrap64 (x12_1 + t128)) + (a2_2.size : Int))) a0_0 l0_1 a2_0 a2_1 a2_2 a2_3 true) = some r := by rw [if_pos rfl] at H; exact H
           clear H
           have H := H1
           clear H1
           have H' := aM H
           clear H
           try go_wp2
           have n0_ := aM (Kd.R_drew HO_11.out)
           have n1_ := aM (blk_drew BK126.out)
           have n2_ := aM (blk_drew BK127.out)
           have n3_ := aM (below_drew1 HB.out)
           clear HO_11
           clear BK126
           clear BK127
           clear HB
           have HO_11 := n0_
           have BK126 := n1_
           have BK127 := n2_
           have HB := n3_
           clear n0_ n1_ n2_ n3_
           refine start_ (n := 9) (S := fun w' => w'.cell? ⟨gb126, 0, none⟩ = some (.string a0_0) ∧ w'.cell? ⟨gb126, 1, none⟩ = some (.slice A0_1 l0_1.length c0_1) ∧ w'.cell? ⟨gb127, 0, none⟩ = some (.int .i64 a2_0) ∧ w'.cell? ⟨gb127, 1, none⟩ = some (.int .i64 a2_1) ∧ w'.cell? ⟨gb127, 2, none⟩ = some (.string a2_2) ∧ w'.cell? ⟨gb127, 3, none⟩ = some (.string a2_3) ∧ w'.cell? ⟨gb127, 4, none⟩ = some (.bool true)) (ds := []) b0_ (by kernel_rfl) rfl rfl ⟨(bC BK126.out 0).trans rfl, (bC BK126.out 1).trans rfl, (bC BK127.out 0).trans rfl, (bC BK127.out 1).trans rfl, (bC BK127.out 2).trans rfl, (bC BK127.out 3).trans rfl, (bC BK127.out 4).trans rfl⟩ (fun hHeld => ?_); refine with_tabW subst_places.tab4 subst_places.bits4 (fun HT_ HW_ => ?_)
           generalize wr.drew = w20 at HO_11 BK126 BK127 HB hHeld ⊢
           refine pv 0 18 b1_ HT_ ?_
           refine pv 2 20 b2_ HT_ ?_
           refine pv 3 21 b3_ HT_ ?_
           refine pv 5 23 b4_ HT_ ?_
           refine pt 1 19 b5_ HT_ HW_ hHeld ?_
           refine pv 4 22 b6_ HT_ ?_
           refine pt 6 24 b7_ HT_ HW_ hHeld ?_
           refine one_ (i := 7) (N := some 25) b8_ rfl rfl (one_of HT_.out (by kernel_rfl)) (by decide) (fun K hK => ?_)
           refine goes_ Try.func46 (by kernel_rfl) rfl #[.string (a0_0.extract (x12_1 : Int).toNat (a4 : Int).toNat), .string a2_2] (by rfl) rfl rfl (by (try simp only [mT, mC, mN]); first | done | rfl | (simp only [lD, lT]; rfl)) ?_
           with_reducible refine (strings_Index.calls (a0_0.extract (x12_1 : Int).toNat (a4 : Int).toNat) a2_2 t128 _ ?mx2 A12.out).mono ?_
           case mx2 => exact MaxOk.below HMX.out (by repeat (first | (with_reducible first | exact HB.out | apply ea | apply en | apply ed | refine es ?_ GE126.out | refine es ?_ GE127.out) | exact HB.out))
           rintro e w21 ⟨rfl, hb⟩
           refine ⟨_, rfl, ?_⟩
           have n0_ := aM (Kd.R_below (ry HO_11.out) hb)
           have n1_ := aM (bB (g := gb126) (qy BK126.out) hb)
           have n2_ := aM (bB (g := gb127) (qy BK127.out) hb)
           have n3_ := aM (bP (by repeat (first | (with_reducible first | exact HB.out | apply ea | apply en | apply ed | refine es ?_ GE126.out | refine es ?_ GE127.out) | exact HB.out)) hb)
           clear HO_11
           clear BK126
           clear BK127
           clear HB
           have HO_11 := n0_
           have BK126 := n1_
           have BK127 := n2_
           have HB := n3_
           clear n0_ n1_ n2_ n3_
           (try clear hb)
           (try clear hb2)
           (try clear hk)
           (try clear hi)
           refine hK.out _ _ ⟨(bC BK126.out 0).trans rfl, (bC BK126.out 1).trans rfl, (bC BK127.out 0).trans rfl, (bC BK127.out 1).trans rfl, (bC BK127.out 2).trans rfl, (bC BK127.out 3).trans rfl, (bC BK127.out 4).trans rfl⟩ (fun hHeld => ?_)
           clear hK K
           refine norm_ (a' := ?_) ?_ ?_
           rotate_left
           ·show Act.put _ (some 25) _ = _
            simp only [Act.put, sA, sZ, sS, i64_w, i32_w]
            rfl
           refine pv 8 13 b9_ HT_ ?_
           refine done_ (done_of HT_.out (by kernel_rfl)) ?_
           have hnb22 := NB126_127.out
           have hnc22 := NB127_126.out
           have hcz23_0 := zC BK126.out 0 (.string a0_0)
           have hcz23_1 := zC BK126.out 1 (.slice A0_1 l0_1.length c0_1)
           have hfz23_0 := bF BK126.out 0
           have hfz23_1 := bF BK126.out 1
           have hcz24_0 := zC BK127.out 0 (.int .i64 a2_0)
           have hcz24_1 := zC BK127.out 1 (.int .i64 a2_1)
           have hcz24_2 := zC BK127.out 2 (.string a2_2)
           have hcz24_3 := zC BK127.out 3 (.string a2_3)
           have hcz24_4 := zC BK127.out 4 (.bool true)
           have hfz24_0 := bF BK127.out 0
           have hfz24_1 := bF BK127.out 1
           have hfz24_2 := bF BK127.out 2
           have hfz24_3 := bF BK127.out 3
           have hfz24_4 := bF BK127.out 4
           try go_wp2_with (first | ((with_reducible refine gate_callee (f := 48) rfl ?_); refine goesL_ (some 39) rfl rfl Try.func48 (by kernel_rfl) rfl #[.agg #[.string a0_0, .slice A0_1 l0_1.length c0_1], .int .u64 a1, .int .i64 (wrap64 (x12_1 + t128)), .int .i64 (wrap64 ((wrap64 (x12_1 + t128)) + (a2_2.size : Int)))] rfl (by (try simp only [mT, mC, mN]); first | done | rfl | (simp only [lD, lT]; rfl)) ?_; (with_reducible refine (subst_seen.calls k1 a0_0 _ _ l0_1 a1 (wrap64 (x12_1 + t128)) (wrap64 ((wrap64 (x12_1 + t128)) + (a2_2.size : Int))) true _ ?side1 ?side2 A16.out).mono ?_); (case side1 => repeat (first | exact (cB_ HR0_1.out HB.out) | (with_reducible refine Kd.C_alloc ?_ _) | (with_reducible refine Kd.C_drewN ?_ _) | (with_reducible refine Kd.C_drew ?_))); (case side2 => exact HC0_1.out); rintro e w25 ⟨rfl, hb⟩; refine ⟨_, rfl, ?_⟩; have n0_ := aM (Kd.R_below (ry HO_11.out) hb); have n1_ := aM (bB (g := gb126) (qy BK126.out) hb); have n2_ := aM (bB (g := gb127) (qy BK127.out) hb); have n3_ := aM (bP (by repeat (first | (with_reducible first | exact HB.out | apply ea | apply en | apply ed | refine es ?_ GE126.out | refine es ?_ GE127.out) | exact HB.out)) hb); clear HO_11 BK126 BK127 HB; have HO_11 := n0_; have BK126 := n1_; have BK127 := n2_; have HB := n3_; clear n0_ n1_ n2_ n3_; (try clear hb); (try clear hb2); (try clear hk); (try clear hi)) | ((with_reducible refine gate_builtin (b := .append) (xs := #[.tmp 43, .tmp 45]) rfl ?_); at_builtin; refine Kd.R_append (Kd.int .i64) (w0 := w) w.heap.size rfl (.tmp 43) (.tmp 45) 56 3 (.int .i64 0) 8 rfl Try.underlying56 info3 rfl (by decide) (by omega) u11 x11_1 (wrap64 (x12_1 + t128)) [.int .i64 (wrap64 (x12_1 + t128))] (fun _ => True) (fun _ => False) rfl rfl ?aP (fun _ hk => hk.elim) ?aF ?aO ?aB ?aS ?aL ?_; (case aP => exact rfl); (case aB => exact (by repeat (first | (with_reducible first | exact HB.out | apply ea | apply en | apply ed | refine es ?_ GE126.out | refine es ?_ GE127.out) | exact HB.out))); (case aF => exact (fun _ _ => trivial)); (case aO => exact (ry HO_11.out)); (case aS => exact (bZ (by repeat (first | (with_reducible first | exact HB.out | apply ea | apply en | apply ed | refine es ?_ GE126.out | refine es ?_ GE127.out) | exact HB.out)))); (case aL => have := LMc18.out; omega); intro v131 w26 ho hb hg hat; rw [← Ny130.out] at ho; have n0_ := aM (blk_grown (g := gb126) (qy BK126.out) hg (Kd.R_ne HO_11.out BK126.out (by decide))); have n1_ := aM (blk_grown (g := gb127) (qy BK127.out) hg (Kd.R_ne HO_11.out BK127.out (by decide))); have n2_ := aM (hb); have n3_ := aM (ho); clear BK126 BK127 HB HO_11; have BK126 := n0_; have BK127 := n1_; have HB := n2_; have HO132 := n3_; clear n0_ n1_ n2_ n3_; clear ho hb hg hat; have hcz27_0 := zC BK127.out 0 (.int .i64 a2_0); have hcz27_1 := zC BK127.out 1 (.int .i64 a2_1); have hcz27_2 := zC BK127.out 2 (.string a2_2); have hcz27_3 := zC BK127.out 3 (.string a2_3); have hcz27_4 := zC BK127.out 4 (.bool true); have hfz27_0 := bF BK127.out 0; have hfz27_1 := bF BK127.out 1; have hfz27_2 := bF BK127.out 2; have hfz27_3 := bF BK127.out 3; have hfz27_4 := bF BK127.out 4))
           go_roundg k1
           case measure => have := HK1.out; omega
           case rel => exact ⟨(y130), (wrap64 ((wrap64 (x12_1 + t128)) + (a2_2.size : Int))), (by first | rfl | (simp; done) | (simp [*]; done)), H', ⟨by have := HK1.out; omega⟩, ⟨by exact ry HO132.out⟩, ⟨by exact qy BK126.out⟩, ⟨by exact qy BK127.out⟩, ⟨by repeat (first | (with_reducible first | exact HB.out | apply ea | apply en | apply ed | refine es ?_ GE126.out | refine es ?_ GE127.out) | exact HB.out)⟩⟩
          ·replace c19 := Bool.eq_false_iff.mpr c19
           subst c19
           have H1 : (some y130) = some r := by rw [if_neg (show ¬ (false = true) by decide)] at H; exact H
           clear H
           have H := H1
           clear H1
           obtain rfl := Option.some.inj H
           try go_wp2
           have n0_ := aM (Kd.R_drew HO_11.out)
           have n1_ := aM (blk_drew BK126.out)
           have n2_ := aM (blk_drew BK127.out)
           have n3_ := aM (below_drew1 HB.out)
           clear HO_11
           clear BK126
           clear BK127
           clear HB
           have HO_11 := n0_
           have BK126 := n1_
           have BK127 := n2_
           have HB := n3_
           clear n0_ n1_ n2_ n3_
           refine start_ (n := 9) (S := fun w' => w'.cell? ⟨gb126, 0, none⟩ = some (.string a0_0) ∧ w'.cell? ⟨gb126, 1, none⟩ = some (.slice A0_1 l0_1.length c0_1) ∧ w'.cell? ⟨gb127, 0, none⟩ = some (.int .i64 a2_0) ∧ w'.cell? ⟨gb127, 1, none⟩ = some (.int .i64 a2_1) ∧ w'.cell? ⟨gb127, 2, none⟩ = some (.string a2_2) ∧ w'.cell? ⟨gb127, 3, none⟩ = some (.string a2_3) ∧ w'.cell? ⟨gb127, 4, none⟩ = some (.bool false)) (ds := []) b0_ (by kernel_rfl) rfl rfl ⟨(bC BK126.out 0).trans rfl, (bC BK126.out 1).trans rfl, (bC BK127.out 0).trans rfl, (bC BK127.out 1).trans rfl, (bC BK127.out 2).trans rfl, (bC BK127.out 3).trans rfl, (bC BK127.out 4).trans rfl⟩ (fun hHeld => ?_); refine with_tabW subst_places.tab4 subst_places.bits4 (fun HT_ HW_ => ?_)
           generalize wr.drew = w28 at HO_11 BK126 BK127 HB hHeld ⊢
           refine pv 0 18 b1_ HT_ ?_
           refine pv 2 20 b2_ HT_ ?_
           refine pv 3 21 b3_ HT_ ?_
           refine pv 5 23 b4_ HT_ ?_
           refine pt 1 19 b5_ HT_ HW_ hHeld ?_
           refine pv 4 22 b6_ HT_ ?_
           refine pt 6 24 b7_ HT_ HW_ hHeld ?_
           refine one_ (i := 7) (N := some 25) b8_ rfl rfl (one_of HT_.out (by kernel_rfl)) (by decide) (fun K hK => ?_)
           refine goes_ Try.func46 (by kernel_rfl) rfl #[.string (a0_0.extract (x12_1 : Int).toNat (a4 : Int).toNat), .string a2_2] (by rfl) rfl rfl (by (try simp only [mT, mC, mN]); first | done | rfl | (simp only [lD, lT]; rfl)) ?_
           with_reducible refine (strings_Index.calls (a0_0.extract (x12_1 : Int).toNat (a4 : Int).toNat) a2_2 t128 _ ?mx3 A12.out).mono ?_
           case mx3 => exact MaxOk.below HMX.out (by repeat (first | (with_reducible first | exact HB.out | apply ea | apply en | apply ed | refine es ?_ GE126.out | refine es ?_ GE127.out) | exact HB.out))
           rintro e w29 ⟨rfl, hb⟩
           refine ⟨_, rfl, ?_⟩
           have n0_ := aM (Kd.R_below (ry HO_11.out) hb)
           have n1_ := aM (bB (g := gb126) (qy BK126.out) hb)
           have n2_ := aM (bB (g := gb127) (qy BK127.out) hb)
           have n3_ := aM (bP (by repeat (first | (with_reducible first | exact HB.out | apply ea | apply en | apply ed | refine es ?_ GE126.out | refine es ?_ GE127.out) | exact HB.out)) hb)
           clear HO_11
           clear BK126
           clear BK127
           clear HB
           have HO_11 := n0_
           have BK126 := n1_
           have BK127 := n2_
           have HB := n3_
           clear n0_ n1_ n2_ n3_
           (try clear hb)
           (try clear hb2)
           (try clear hk)
           (try clear hi)
           refine hK.out _ _ ⟨(bC BK126.out 0).trans rfl, (bC BK126.out 1).trans rfl, (bC BK127.out 0).trans rfl, (bC BK127.out 1).trans rfl, (bC BK127.out 2).trans rfl, (bC BK127.out 3).trans rfl, (bC BK127.out 4).trans rfl⟩ (fun hHeld => ?_)
           clear hK K
           refine norm_ (a' := ?_) ?_ ?_
           rotate_left
           ·show Act.put _ (some 25) _ = _
            simp only [Act.put, sA, sZ, sS, i64_w, i32_w]
            rfl
           refine pv 8 13 b9_ HT_ ?_
           refine done_ (done_of HT_.out (by kernel_rfl)) ?_
           have hnb30 := NB126_127.out
           have hnc30 := NB127_126.out
           have hcz31_0 := zC BK126.out 0 (.string a0_0)
           have hcz31_1 := zC BK126.out 1 (.slice A0_1 l0_1.length c0_1)
           have hfz31_0 := bF BK126.out 0
           have hfz31_1 := bF BK126.out 1
           have hcz32_0 := zC BK127.out 0 (.int .i64 a2_0)
           have hcz32_1 := zC BK127.out 1 (.int .i64 a2_1)
           have hcz32_2 := zC BK127.out 2 (.string a2_2)
           have hcz32_3 := zC BK127.out 3 (.string a2_3)
           have hcz32_4 := zC BK127.out 4 (.bool false)
           have hfz32_0 := bF BK127.out 0
           have hfz32_1 := bF BK127.out 1
           have hfz32_2 := bF BK127.out 2
           have hfz32_3 := bF BK127.out 3
           have hfz32_4 := bF BK127.out 4
           try go_wp2_with (first | ((with_reducible refine gate_callee (f := 48) rfl ?_); refine goesL_ (some 39) rfl rfl Try.func48 (by kernel_rfl) rfl #[.agg #[.string a0_0, .slice A0_1 l0_1.length c0_1], .int .u64 a1, .int .i64 (wrap64 (x12_1 + t128)), .int .i64 (wrap64 ((wrap64 (x12_1 + t128)) + (a2_2.size : Int)))] rfl (by (try simp only [mT, mC, mN]); first | done | rfl | (simp only [lD, lT]; rfl)) ?_; (with_reducible refine (subst_seen.calls k1 a0_0 _ _ l0_1 a1 (wrap64 (x12_1 + t128)) (wrap64 ((wrap64 (x12_1 + t128)) + (a2_2.size : Int))) true _ ?side1 ?side2 A16.out).mono ?_); (case side1 => repeat (first | exact (cB_ HR0_1.out HB.out) | (with_reducible refine Kd.C_alloc ?_ _) | (with_reducible refine Kd.C_drewN ?_ _) | (with_reducible refine Kd.C_drew ?_))); (case side2 => exact HC0_1.out); rintro e w33 ⟨rfl, hb⟩; refine ⟨_, rfl, ?_⟩; have n0_ := aM (Kd.R_below (ry HO_11.out) hb); have n1_ := aM (bB (g := gb126) (qy BK126.out) hb); have n2_ := aM (bB (g := gb127) (qy BK127.out) hb); have n3_ := aM (bP (by repeat (first | (with_reducible first | exact HB.out | apply ea | apply en | apply ed | refine es ?_ GE126.out | refine es ?_ GE127.out) | exact HB.out)) hb); clear HO_11 BK126 BK127 HB; have HO_11 := n0_; have BK126 := n1_; have BK127 := n2_; have HB := n3_; clear n0_ n1_ n2_ n3_; (try clear hb); (try clear hb2); (try clear hk); (try clear hi)) | ((with_reducible refine gate_builtin (b := .append) (xs := #[.tmp 43, .tmp 45]) rfl ?_); at_builtin; refine Kd.R_append (Kd.int .i64) (w0 := w) w.heap.size rfl (.tmp 43) (.tmp 45) 56 3 (.int .i64 0) 8 rfl Try.underlying56 info3 rfl (by decide) (by omega) u11 x11_1 (wrap64 (x12_1 + t128)) [.int .i64 (wrap64 (x12_1 + t128))] (fun _ => True) (fun _ => False) rfl rfl ?aP (fun _ hk => hk.elim) ?aF ?aO ?aB ?aS ?aL ?_; (case aP => exact rfl); (case aB => exact (by repeat (first | (with_reducible first | exact HB.out | apply ea | apply en | apply ed | refine es ?_ GE126.out | refine es ?_ GE127.out) | exact HB.out))); (case aF => exact (fun _ _ => trivial)); (case aO => exact (ry HO_11.out)); (case aS => exact (bZ (by repeat (first | (with_reducible first | exact HB.out | apply ea | apply en | apply ed | refine es ?_ GE126.out | refine es ?_ GE127.out) | exact HB.out)))); (case aL => have := LMc18.out; omega); intro v131 w34 ho hb hg hat; rw [← Ny130.out] at ho; have n0_ := aM (blk_grown (g := gb126) (qy BK126.out) hg (Kd.R_ne HO_11.out BK126.out (by decide))); have n1_ := aM (blk_grown (g := gb127) (qy BK127.out) hg (Kd.R_ne HO_11.out BK127.out (by decide))); have n2_ := aM (hb); have n3_ := aM (ho); clear BK126 BK127 HB HO_11; have BK126 := n0_; have BK127 := n1_; have HB := n2_; have HO132 := n3_; clear n0_ n1_ n2_ n3_; clear ho hb hg hat; have hcz35_0 := zC BK127.out 0 (.int .i64 a2_0); have hcz35_1 := zC BK127.out 1 (.int .i64 a2_1); have hcz35_2 := zC BK127.out 2 (.string a2_2); have hcz35_3 := zC BK127.out 3 (.string a2_3); have hcz35_4 := zC BK127.out 4 (.bool false); have hfz35_0 := bF BK127.out 0; have hfz35_1 := bF BK127.out 1; have hfz35_2 := bF BK127.out 2; have hfz35_3 := bF BK127.out 3; have hfz35_4 := bF BK127.out 4))
           go_ret
           exact ⟨_, by first | rfl | (simp [errW_none, errW_some] <;> rfl) | (simp [*, errW_none, errW_some] <;> rfl), by exact ry HO132.out, by repeat (first | (with_reducible first | exact HB.out | apply ea | apply en | apply ed | refine es ?_ GE126.out | refine es ?_ GE127.out) | exact HB.out)⟩
         ·rw [if_neg c18] at H
          exact absurd H (by simp)
        ·replace c17 := Bool.eq_false_iff.mpr c17
         subst c17
         have H1 : (subst_places.l0 k1 a1 a4 x11_1 (wrap64 ((wrap64 (x12_1 + t128)) + 1)) a0_0 l0_1 a2_0 a2_1 a2_2 a2_3 a2_4) = some r := by rw [if_neg (show ¬ (false = true) by decide)] at H; exact H
         clear H
         have H := H1
         clear H1
         have H' := aM H
         clear H
         try go_wp2
         have n0_ := aM (Kd.R_drew HO_11.out)
         have n1_ := aM (blk_drew BK126.out)
         have n2_ := aM (blk_drew BK127.out)
         have n3_ := aM (below_drew1 HB.out)
         clear HO_11
         clear BK126
         clear BK127
         clear HB
         have HO_11 := n0_
         have BK126 := n1_
         have BK127 := n2_
         have HB := n3_
         clear n0_ n1_ n2_ n3_
         refine start_ (n := 9) (S := fun w' => w'.cell? ⟨gb126, 0, none⟩ = some (.string a0_0) ∧ w'.cell? ⟨gb126, 1, none⟩ = some (.slice A0_1 l0_1.length c0_1) ∧ w'.cell? ⟨gb127, 0, none⟩ = some (.int .i64 a2_0) ∧ w'.cell? ⟨gb127, 1, none⟩ = some (.int .i64 a2_1) ∧ w'.cell? ⟨gb127, 2, none⟩ = some (.string a2_2) ∧ w'.cell? ⟨gb127, 3, none⟩ = some (.string a2_3) ∧ w'.cell? ⟨gb127, 4, none⟩ = some (.bool a2_4)) (ds := []) b0_ (by kernel_rfl) rfl rfl ⟨(bC BK126.out 0).trans rfl, (bC BK126.out 1).trans rfl, (bC BK127.out 0).trans rfl, (bC BK127.out 1).trans rfl, (bC BK127.out 2).trans rfl, (bC BK127.out 3).trans rfl, (bC BK127.out 4).trans rfl⟩ (fun hHeld => ?_); refine with_tabW subst_places.tab4 subst_places.bits4 (fun HT_ HW_ => ?_)
         generalize wr.drew = w36 at HO_11 BK126 BK127 HB hHeld ⊢
         refine pv 0 18 b1_ HT_ ?_
         refine pv 2 20 b2_ HT_ ?_
         refine pv 3 21 b3_ HT_ ?_
         refine pv 5 23 b4_ HT_ ?_
         refine pt 1 19 b5_ HT_ HW_ hHeld ?_
         refine pv 4 22 b6_ HT_ ?_
         refine pt 6 24 b7_ HT_ HW_ hHeld ?_
         refine one_ (i := 7) (N := some 25) b8_ rfl rfl (one_of HT_.out (by kernel_rfl)) (by decide) (fun K hK => ?_)
         refine goes_ Try.func46 (by kernel_rfl) rfl #[.string (a0_0.extract (x12_1 : Int).toNat (a4 : Int).toNat), .string a2_2] (by rfl) rfl rfl (by (try simp only [mT, mC, mN]); first | done | rfl | (simp only [lD, lT]; rfl)) ?_
         with_reducible refine (strings_Index.calls (a0_0.extract (x12_1 : Int).toNat (a4 : Int).toNat) a2_2 t128 _ ?mx4 A12.out).mono ?_
         case mx4 => exact MaxOk.below HMX.out (by repeat (first | (with_reducible first | exact HB.out | apply ea | apply en | apply ed | refine es ?_ GE126.out | refine es ?_ GE127.out) | exact HB.out))
         rintro e w37 ⟨rfl, hb⟩
         refine ⟨_, rfl, ?_⟩
         have n0_ := aM (Kd.R_below (ry HO_11.out) hb)
         have n1_ := aM (bB (g := gb126) (qy BK126.out) hb)
         have n2_ := aM (bB (g := gb127) (qy BK127.out) hb)
         have n3_ := aM (bP (by repeat (first | (with_reducible first | exact HB.out | apply ea | apply en | apply ed | refine es ?_ GE126.out | refine es ?_ GE127.out) | exact HB.out)) hb)
         clear HO_11
         clear BK126
         clear BK127
         clear HB
         have HO_11 := n0_
         have BK126 := n1_
         have BK127 := n2_
         have HB := n3_
         clear n0_ n1_ n2_ n3_
         (try clear hb)
         (try clear hb2)
         (try clear hk)
         (try clear hi)
         refine hK.out _ _ ⟨(bC BK126.out 0).trans rfl, (bC BK126.out 1).trans rfl, (bC BK127.out 0).trans rfl, (bC BK127.out 1).trans rfl, (bC BK127.out 2).trans rfl, (bC BK127.out 3).trans rfl, (bC BK127.out 4).trans rfl⟩ (fun hHeld => ?_)
         clear hK K
         refine norm_ (a' := ?_) ?_ ?_
         rotate_left
         ·show Act.put _ (some 25) _ = _
          simp only [Act.put, sA, sZ, sS, i64_w, i32_w]
          rfl
         refine pv 8 13 b9_ HT_ ?_
         refine done_ (done_of HT_.out (by kernel_rfl)) ?_
         have hnb38 := NB126_127.out
         have hnc38 := NB127_126.out
         have hcz39_0 := zC BK126.out 0 (.string a0_0)
         have hcz39_1 := zC BK126.out 1 (.slice A0_1 l0_1.length c0_1)
         have hfz39_0 := bF BK126.out 0
         have hfz39_1 := bF BK126.out 1
         have hcz40_0 := zC BK127.out 0 (.int .i64 a2_0)
         have hcz40_1 := zC BK127.out 1 (.int .i64 a2_1)
         have hcz40_2 := zC BK127.out 2 (.string a2_2)
         have hcz40_3 := zC BK127.out 3 (.string a2_3)
         have hcz40_4 := zC BK127.out 4 (.bool a2_4)
         have hfz40_0 := bF BK127.out 0
         have hfz40_1 := bF BK127.out 1
         have hfz40_2 := bF BK127.out 2
         have hfz40_3 := bF BK127.out 3
         have hfz40_4 := bF BK127.out 4
         try go_wp2_with (first | ((with_reducible refine gate_callee (f := 48) rfl ?_); refine goesL_ (some 39) rfl rfl Try.func48 (by kernel_rfl) rfl #[.agg #[.string a0_0, .slice A0_1 l0_1.length c0_1], .int .u64 a1, .int .i64 (wrap64 (x12_1 + t128)), .int .i64 (wrap64 ((wrap64 (x12_1 + t128)) + (a2_2.size : Int)))] rfl (by (try simp only [mT, mC, mN]); first | done | rfl | (simp only [lD, lT]; rfl)) ?_; (with_reducible refine (subst_seen.calls k1 a0_0 _ _ l0_1 a1 (wrap64 (x12_1 + t128)) (wrap64 ((wrap64 (x12_1 + t128)) + (a2_2.size : Int))) false _ ?side1 ?side2 A16.out).mono ?_); (case side1 => repeat (first | exact (cB_ HR0_1.out HB.out) | (with_reducible refine Kd.C_alloc ?_ _) | (with_reducible refine Kd.C_drewN ?_ _) | (with_reducible refine Kd.C_drew ?_))); (case side2 => exact HC0_1.out); rintro e w41 ⟨rfl, hb⟩; refine ⟨_, rfl, ?_⟩; have n0_ := aM (Kd.R_below (ry HO_11.out) hb); have n1_ := aM (bB (g := gb126) (qy BK126.out) hb); have n2_ := aM (bB (g := gb127) (qy BK127.out) hb); have n3_ := aM (bP (by repeat (first | (with_reducible first | exact HB.out | apply ea | apply en | apply ed | refine es ?_ GE126.out | refine es ?_ GE127.out) | exact HB.out)) hb); clear HO_11 BK126 BK127 HB; have HO_11 := n0_; have BK126 := n1_; have BK127 := n2_; have HB := n3_; clear n0_ n1_ n2_ n3_; (try clear hb); (try clear hb2); (try clear hk); (try clear hi)))
         go_roundg k1
         case measure => have := HK1.out; omega
         case rel => exact ⟨(x11_1), (wrap64 ((wrap64 (x12_1 + t128)) + 1)), (by first | rfl | (simp; done) | (simp [*]; done)), H', ⟨by have := HK1.out; omega⟩, ⟨by exact ry HO_11.out⟩, ⟨by exact qy BK126.out⟩, ⟨by exact qy BK127.out⟩, ⟨by repeat (first | (with_reducible first | exact HB.out | apply ea | apply en | apply ed | refine es ?_ GE126.out | refine es ?_ GE127.out) | exact HB.out)⟩⟩
      ·rw [if_neg c11] at H
       exact absurd H (by simp)
     ·rw [if_neg c10] at H
      exact absurd H (by simp)
    ·rw [if_neg c9] at H
     exact absurd H (by simp)
   ·rw [if_neg c8] at H
    have c8b0 : decide (x12_1 < a4) = false := decide_eq_false c8
    clear c8
    obtain rfl := Option.some.inj H
    go_wp2
    go_ret
    exact ⟨_, by first | rfl | (simp [errW_none, errW_some] <;> rfl) | (simp [*, errW_none, errW_some] <;> rfl), by exact ry HO_11.out, by repeat (first | (with_reducible first | exact HB.out | apply ea | apply en | apply ed | refine es ?_ GE126.out | refine es ?_ GE127.out) | exact HB.out)⟩
end Go.Proofs.Ytnbdldpjiofafaa.PB
end

section
namespace Go.Proofs.Ytnbdldpjiofafaa.PB
open Go.RowKit Go.Proofs.YtnbdldpjiofafaaW.PrintWords Go.Proofs.YtnbdldpjiofafaaW.PrintLast Go.Proofs.YtnbdldpjiofafaaW.PrintMore
attribute [local go_sem] max2_int min2_int max_two min_two max_three min_three max_four min_four   
set_option linter.unusedVariables false
set_option linter.unusedSimpArgs false
def strip_Make.f (k : Nat) (a0 : ByteArray) (a1 : Int) : Option (ByteArray × (List (S51)) × Int) := (runs_Normal.f k (([(⟨a1, (a0.size : Int)⟩ : S51)] : List (S51)))).bind fun bt137 => (if bt137.2 = 0 then (some (a0, bt137.1, 0)) else (some ((⟨#[]⟩ : ByteArray), ([] : List (S51)), bt137.2)))
theorem strip_Make.mono : ∀ a0 a1 k, LeO (strip_Make.f k a0 a1) (strip_Make.f (k + 1) a0 a1) := by
 intro a0 a1 k
 unfold strip_Make.f
 repeat' first
   | (with_reducible exact runs_Normal.mono _ _)
   | (with_reducible exact LeO.refl _)
   | (with_reducible exact LeO.none _)
   | (with_reducible refine LeO.ite ?_ ?_)
   | (with_reducible refine LeO.bind ?_ (fun _ => ?_))
   | exact runs_Normal.mono _ _
   | exact LeO.none _
   | refine LeO.ite ?_ ?_
   | refine LeO.bind ?_ (fun _ => ?_)
set_option maxHeartbeats 8000000 in
set_option maxRecDepth 100000 in
theorem strip_Make.calls (k : Nat) (a0 : ByteArray) (a1 : Int) (r1 : ByteArray) (r2 : List (S51)) (r3 : Int) (w : World) (h : strip_Make.f k a0 a1 = some (r1, r2, r3)) :
  Calls Try.prog 24 #[.string a0, .int .u64 a1] w fun e w' => ∃ v1_ : Value, e = .returned (.tuple #[.agg #[.string r1, v1_], .int .i64 r3]) ∧ Kd.R k51 51 w' w.heap.size (fun _ => True) v1_ r2 ∧ Below w.heap.size w w' := by
 have hu24 := Try.underlying24
 have hu51 := Try.underlying51
 have HB := aM (Below.refl w.heap.size w)
 have H : ((runs_Normal.f k (([(⟨a1, (a0.size : Int)⟩ : S51)] : List (S51)))).bind fun bt137 => (if bt137.2 = 0 then (some (a0, bt137.1, 0)) else (some ((⟨#[]⟩ : ByteArray), ([] : List (S51)), bt137.2)))) = some (r1, r2, r3) := h
 clear h
 obtain ⟨y134, hy134⟩ : ∃ y_ : List (S51), y_ = (([(⟨a1, (a0.size : Int)⟩ : S51)] : List (S51))) := ⟨_, rfl⟩
 replace H : ((runs_Normal.f k y134).bind fun bt137 => (if bt137.2 = 0 then (some (a0, bt137.1, 0)) else (some ((⟨#[]⟩ : ByteArray), ([] : List (S51)), bt137.2)))) = some (r1, r2, r3) := by first | (rw [hy134]; with_reducible exact H) | (have H2_ := (Option.bind_some _ _).symm.trans H; rw [hy134]; with_reducible exact H2_) | (have H2_ := (Option.bind_some _ _).symm.trans H; with_reducible exact H2_) | with_reducible exact H | (rw [hy134]; exact H) | exact H
 have Ny134 := aM hy134
 clear hy134
 replace H := Option.bind_eq_some_iff.mp H
 obtain ⟨⟨t137, t138⟩, A30, H⟩ := H
 replace H : (if t138 = 0 then (some (a0, t137, 0)) else (some ((⟨#[]⟩ : ByteArray), ([] : List (S51)), t138))) = some (r1, r2, r3) := H
 have A3 := aM A30
 clear A30
 by_cases c4 : t138 = 0
 ·rw [if_pos c4] at H
  have c4b0 : (t138 == 0) = true := beq_iff_eq.mpr c4
  have c4b1 : (t138 != 0) = false := bne_eq_false_iff_eq.mpr c4
  clear c4
  simp only [Option.some.injEq, Prod.mk.injEq] at H
  obtain ⟨rfl, rfl, rfl⟩ := H
  go_enter Try.func24, Try.ntmps24
  go_wp2_with (first | ((with_reducible refine gate_dst (N := 4) rfl ?_); refine box_event ?hg (N := 4) ?hd (cs := #[.string (⟨#[]⟩ : ByteArray), .slice none 0 0]) (t := 24) ?hr ?_; (case hd | hg => rfl); (case hr => first | (go_simp; done) | (go_simp; rfl)); intro gb133 hg w5 hbox hb; have n0_ := aM (bP (ey HB.out) hb); have n1_ := aM (hbox); have n2_ := aM ((by rw [hg]; exact (bZ (ey HB.out)) : w.heap.size ≤ gb133)); have n3_ := n2_; clear HB; have HB := n0_; have BK133 := n1_; have GW133 := n2_; have GE133 := n3_; clear n0_ n1_ n2_ n3_; clear hb hbox hg) | ((with_reducible refine gate_dst (N := 13) rfl ?_); refine Kd.R_lit k51 _ 51 ?hg (N := 13) ?hd (xs := ([(⟨a1, (a0.size : Int)⟩ : S51)] : List (S51))) (inner := [.int .u64 a1, .int .i64 (a0.size : Int)]) (ok := fun _ => True) (okp := fun _ => True) ?hr ?hp (fun _ hk => hk) trivial (Below.refl _ _) (Nat.le_refl _) (by simp) ?_; (case hd | hg => rfl); (case hr => first | (go_simp; done) | (go_simp; rfl)); (case hp => exact (Reps.c2 (show Kd.M k51 _ _ _ (⟨a1, (a0.size : Int)⟩ : S51) [.int .u64 a1, .int .i64 (a0.size : Int)] from (k51_mkM _ _ _ (⟨a1, (a0.size : Int)⟩ : S51) )) (Reps.none _ _))); intro v135 w6 ho7 hb hg_ hnew_; clear hg_ hnew_; (first | rw [← Ny134.out] at ho7 | (simp only [Int.reduceToNat] at ho7; rw [← Ny134.out] at ho7)); have n0_ := aM (rL ho7 (bZ (by repeat (first | (with_reducible first | exact HB.out | apply ea | apply en | apply ed | refine es ?_ GE133.out) | exact HB.out)))); have n1_ := aM (bB (g := gb133) (qy BK133.out) hb); have n2_ := aM (bP (by repeat (first | (with_reducible first | exact HB.out | apply ea | apply en | apply ed | refine es ?_ GE133.out) | exact HB.out)) hb); clear BK133 HB; have HO136 := n0_; have BK133 := n1_; have HB := n2_; clear n0_ n1_ n2_; clear hb ho7; obtain ⟨Ao8, co8, eo8⟩ := Kd.R_slice HO136.out; subst eo8) | ((with_reducible refine gate_callee (f := 49) rfl ?_); refine goesL_ (some 14) rfl rfl Try.func49 (by kernel_rfl) rfl #[.slice Ao8 y134.length co8] rfl (by (try simp only [mT, mC, mN]); first | done | rfl | (simp only [lD, lT]; rfl)) ?_; (with_reducible refine (runs_Normal.calls k _ _ y134 t137 t138 _ ?side1 ?side2 A3.out).mono ?_); (case side1 => repeat (first | exact (rR HO136.out).2.2 | (with_reducible refine Kd.C_alloc ?_ _) | (with_reducible refine Kd.C_drewN ?_ _) | (with_reducible refine Kd.C_drew ?_))); (case side2 => exact (rR HO136.out).2.1); rintro e w9 ⟨v139, rfl, ho0, hb⟩; refine ⟨_, rfl, ?_⟩; have n0_ := aM (rE (ry HO136.out) (Kd.R_base ho0) hb); have n1_ := aM (rL (Kd.R_new' ho0 (Kd.R_lt (ry HO136.out))) (bZ (by repeat (first | (with_reducible first | exact HB.out | apply ea | apply en | apply ed | refine es ?_ GE133.out) | exact HB.out)))); have n2_ := aM (bB (g := gb133) (qy BK133.out) hb); have n3_ := aM (bP (by repeat (first | (with_reducible first | exact HB.out | apply ea | apply en | apply ed | refine es ?_ GE133.out) | exact HB.out)) hb); clear HO136 BK133 HB; have HO136 := n0_; have HO140 := n1_; have BK133 := n2_; have HB := n3_; clear n0_ n1_ n2_ n3_; (try clear hb); (try clear hb2); (try clear hk); (try clear hi); (try clear ho0); obtain ⟨Ao10, co10, eo10⟩ := Kd.R_slice HO140.out; subst eo10; have hcz11_0 := zC BK133.out 0 (.string (⟨#[]⟩ : ByteArray)); have hcz11_1 := zC BK133.out 1 (.slice none 0 0); have hfz11_0 := bF BK133.out 0; have hfz11_1 := bF BK133.out 1))
  refine bodyPost_ret (results_ct rfl _ _ gb133 24 #[.string a0, .slice Ao10 t137.length co10] (0, 0) _ rfl (by (with_reducible repeat (first | apply qn | apply qd | apply qa)); refine bU (cs := #[.string a0, .slice none 0 0]) ?_ 1 _ rfl; (with_reducible repeat (first | apply qn | apply qd | apply qa)); refine bU (cs := #[.string (⟨#[]⟩ : ByteArray), .slice none 0 0]) ?_ 0 _ rfl; exact qy BK133.out) Try.underlying24 rfl (by kernel_rfl)) rfl ?_
  exact ⟨_, by first | rfl | (simp [errW_none, errW_some] <;> rfl) | (simp [*, errW_none, errW_some] <;> rfl), by (with_reducible repeat (first | apply ra | apply rn | apply rd_)); exact rM (rF (p := ⟨gb133, 1, none⟩) (rF (p := ⟨gb133, 0, none⟩) (rT HO140.out BK133.out (by decide)) (fun _ hk => hk.2) (.string a0)) (fun _ hk => hk.2) (.slice Ao10 t137.length co10)) (fun _ hk => trivial), by repeat (first | (with_reducible first | exact HB.out | apply ea | apply en | apply ed | refine es ?_ GE133.out) | exact HB.out)⟩
 ·rw [if_neg c4] at H
  have c4b0 : (t138 == 0) = false := beq_eq_false_iff_ne.mpr c4
  have c4b1 : (t138 != 0) = true := bne_iff_ne.mpr c4
  simp only [Option.some.injEq, Prod.mk.injEq] at H
  obtain ⟨rfl, rfl, rfl⟩ := H
  go_enter Try.func24, Try.ntmps24
  go_wp2_with (first | ((with_reducible refine gate_dst (N := 4) rfl ?_); refine box_event ?hg (N := 4) ?hd (cs := #[.string (⟨#[]⟩ : ByteArray), .slice none 0 0]) (t := 24) ?hr ?_; (case hd | hg => rfl); (case hr => first | (go_simp; done) | (go_simp; rfl)); intro gb133 hg w12 hbox hb; have n0_ := aM (bP (ey HB.out) hb); have n1_ := aM (hbox); have n2_ := aM ((by rw [hg]; exact (bZ (ey HB.out)) : w.heap.size ≤ gb133)); have n3_ := n2_; clear HB; have HB := n0_; have BK133 := n1_; have GW133 := n2_; have GE133 := n3_; clear n0_ n1_ n2_ n3_; clear hb hbox hg) | ((with_reducible refine gate_dst (N := 13) rfl ?_); refine Kd.R_lit k51 _ 51 ?hg (N := 13) ?hd (xs := ([(⟨a1, (a0.size : Int)⟩ : S51)] : List (S51))) (inner := [.int .u64 a1, .int .i64 (a0.size : Int)]) (ok := fun _ => True) (okp := fun _ => True) ?hr ?hp (fun _ hk => hk) trivial (Below.refl _ _) (Nat.le_refl _) (by simp) ?_; (case hd | hg => rfl); (case hr => first | (go_simp; done) | (go_simp; rfl)); (case hp => exact (Reps.c2 (show Kd.M k51 _ _ _ (⟨a1, (a0.size : Int)⟩ : S51) [.int .u64 a1, .int .i64 (a0.size : Int)] from (k51_mkM _ _ _ (⟨a1, (a0.size : Int)⟩ : S51) )) (Reps.none _ _))); intro v135 w13 ho14 hb hg_ hnew_; clear hg_ hnew_; (first | rw [← Ny134.out] at ho14 | (simp only [Int.reduceToNat] at ho14; rw [← Ny134.out] at ho14)); have n0_ := aM (rL ho14 (bZ (by repeat (first | (with_reducible first | exact HB.out | apply ea | apply en | apply ed | refine es ?_ GE133.out) | exact HB.out)))); have n1_ := aM (bB (g := gb133) (qy BK133.out) hb); have n2_ := aM (bP (by repeat (first | (with_reducible first | exact HB.out | apply ea | apply en | apply ed | refine es ?_ GE133.out) | exact HB.out)) hb); clear BK133 HB; have HO136 := n0_; have BK133 := n1_; have HB := n2_; clear n0_ n1_ n2_; clear hb ho14; obtain ⟨Ao15, co15, eo15⟩ := Kd.R_slice HO136.out; subst eo15) | ((with_reducible refine gate_callee (f := 49) rfl ?_); refine goesL_ (some 14) rfl rfl Try.func49 (by kernel_rfl) rfl #[.slice Ao15 y134.length co15] rfl (by (try simp only [mT, mC, mN]); first | done | rfl | (simp only [lD, lT]; rfl)) ?_; (with_reducible refine (runs_Normal.calls k _ _ y134 t137 t138 _ ?side1 ?side2 A3.out).mono ?_); (case side1 => repeat (first | exact (rR HO136.out).2.2 | (with_reducible refine Kd.C_alloc ?_ _) | (with_reducible refine Kd.C_drewN ?_ _) | (with_reducible refine Kd.C_drew ?_))); (case side2 => exact (rR HO136.out).2.1); rintro e w16 ⟨v139, rfl, ho0, hb⟩; refine ⟨_, rfl, ?_⟩; have n0_ := aM (rE (ry HO136.out) (Kd.R_base ho0) hb); have n1_ := aM (rL (Kd.R_new' ho0 (Kd.R_lt (ry HO136.out))) (bZ (by repeat (first | (with_reducible first | exact HB.out | apply ea | apply en | apply ed | refine es ?_ GE133.out) | exact HB.out)))); have n2_ := aM (bB (g := gb133) (qy BK133.out) hb); have n3_ := aM (bP (by repeat (first | (with_reducible first | exact HB.out | apply ea | apply en | apply ed | refine es ?_ GE133.out) | exact HB.out)) hb); clear HO136 BK133 HB; have HO136 := n0_; have HO140 := n1_; have BK133 := n2_; have HB := n3_; clear n0_ n1_ n2_ n3_; (try clear hb); (try clear hb2); (try clear hk); (try clear hi); (try clear ho0); have hcz17_0 := zC BK133.out 0 (.string (⟨#[]⟩ : ByteArray)); have hcz17_1 := zC BK133.out 1 (.slice none 0 0); have hfz17_0 := bF BK133.out 0; have hfz17_1 := bF BK133.out 1))
  refine bodyPost_ret (results_ct rfl _ _ gb133 24 #[.string (⟨#[]⟩ : ByteArray), .slice none 0 0] (0, 0) _ rfl (by (with_reducible repeat (first | apply qn | apply qd | apply qa)); refine bU (cs := #[.string (⟨#[]⟩ : ByteArray), .slice none 0 0]) ?_ 1 _ rfl; (with_reducible repeat (first | apply qn | apply qd | apply qa)); refine bU (cs := #[.string (⟨#[]⟩ : ByteArray), .slice none 0 0]) ?_ 0 _ rfl; exact qy BK133.out) Try.underlying24 rfl (by kernel_rfl)) rfl ?_
  exact ⟨_, by first | rfl | (simp [errW_none, errW_some] <;> rfl) | (simp [*, errW_none, errW_some] <;> rfl), by first | exact Kd.R_nil _ _ _ _ _ | exact Kd.N_nil _ _ _ _ _ | exact Kd.V_nil _ _ _ _ _ | exact Kd.Q_nil _ _ _ _ _ | exact Kd.S_nil _ _ _ _ _, by repeat (first | (with_reducible first | exact HB.out | apply ea | apply en | apply ed | refine es ?_ GE133.out) | exact HB.out)⟩
end Go.Proofs.Ytnbdldpjiofafaa.PB
end

section
namespace Go.Proofs.Ytnbdldpjiofafaa.PB
open Go.RowKit Go.Proofs.YtnbdldpjiofafaaW.PrintWords Go.Proofs.YtnbdldpjiofafaaW.PrintLast Go.Proofs.YtnbdldpjiofafaaW.PrintMore
attribute [local go_sem] max2_int min2_int max_two min_two max_three min_three max_four min_four   
set_option linter.unusedVariables false
set_option linter.unusedSimpArgs false
def strip_Good.f (k : Nat) (a0_0 : ByteArray) (l0_1 : List (S51)) : Option (Bool) := (runs_Good.f k l0_1).bind fun t108 => (if t108 = true then ((runs_Total.f k l0_1).bind fun t109 => (some (t109 == (a0_0.size : Int)))) else (some false))
theorem strip_Good.mono : ∀ a0 a1 k, LeO (strip_Good.f k a0 a1) (strip_Good.f (k + 1) a0 a1) := by
 intro a0 a1 k
 unfold strip_Good.f
 repeat' first
   | (with_reducible exact runs_Good.mono _ _)
   | (with_reducible exact runs_Total.mono _ _)
   | (with_reducible exact LeO.refl _)
   | (with_reducible exact LeO.none _)
   | (with_reducible refine LeO.ite ?_ ?_)
   | (with_reducible refine LeO.bind ?_ (fun _ => ?_))
   | exact runs_Good.mono _ _
   | exact runs_Total.mono _ _
   | exact LeO.none _
   | refine LeO.ite ?_ ?_
   | refine LeO.bind ?_ (fun _ => ?_)
def strip_Good.T1 : Bool × List (List Nat × List Nat) := (true, [([], []), ([0], [0]), ([1], [1]), ([2, 2], [2]), ([3], [3]), ([4, 3], [3, 4]), ([5, 3, 3], [3, 5]), ([3], [3]), ([7, 3], [3, 7]), ([8, 3], [3, 8]), ([6, 9, 3], [3, 6, 9]), ([3, 10], [3, 10]), ([11, 6, 0, 1, 2, 3, 4, 5, 6, 7, 8, 9, 10, 11], [11])])
def strip_Good.B1 : List Nat := [0, 1, 3, 7, 15, 31, 63, 15, 143, 399, 1023, 2047, 4095]
theorem strip_Good.tab1 : rtab .any (opsOf Try.f43 1) = strip_Good.T1 := by kernel_rfl
theorem strip_Good.bits1 : waitsOk strip_Good.T1.2 strip_Good.B1 = true := by kernel_rfl
set_option maxHeartbeats 8000000 in
set_option maxRecDepth 100000 in
theorem strip_Good.calls (k : Nat) (a0_0 : ByteArray) (A0_1 : Option Addr) (c0_1 : Nat) (l0_1 : List (S51)) (r : Bool) (w : World) (hr0_1 : Kd.C k51 w A0_1 l0_1.length l0_1) (hc0_1 : l0_1.length ≤ c0_1) (h : strip_Good.f k a0_0 l0_1 = some r) :
  Calls Try.prog 43 #[.agg #[.string a0_0, .slice A0_1 l0_1.length c0_1]] w fun e w' => e = .returned (.bool r) ∧ Below w.heap.size w w' := by
 have hu24 := Try.underlying24
 have HR0_1 := aM hr0_1
 have HC0_1 := aM hc0_1
 clear hr0_1 hc0_1
 have HB := aM (Below.refl w.heap.size w)
 have H : ((runs_Good.f k l0_1).bind fun t108 => (if t108 = true then ((runs_Total.f k l0_1).bind fun t109 => (some (t109 == (a0_0.size : Int)))) else (some false))) = some r := h
 clear h
 replace H := Option.bind_eq_some_iff.mp H
 obtain ⟨t108, A20, H⟩ := H
 replace H : (if t108 = true then ((runs_Total.f k l0_1).bind fun t109 => (some (t109 == (a0_0.size : Int)))) else (some false)) = some r := H
 have A2 := aM A20
 clear A20
 by_cases c3 : t108 = true
 ·subst c3
  have H1 : ((runs_Total.f k l0_1).bind fun t109 => (some (t109 == (a0_0.size : Int)))) = some r := by rw [if_pos rfl] at H; exact H
  clear H
  have H := H1
  clear H1
  replace H := Option.bind_eq_some_iff.mp H
  obtain ⟨t109, A40, H⟩ := H
  replace H : (some (t109 == (a0_0.size : Int))) = some r := H
  have A4 := aM A40
  clear A40
  obtain rfl := Option.some.inj H
  go_enter Try.func43, Try.ntmps43
  try go_wp2_with (first | ((with_reducible refine gate_dst (N := 1) rfl ?_); (try (refine gate_guard (by rfl) ?_; dsimp only)); refine box_event ?hg (N := 1) ?hd (cs := #[.string a0_0, .slice A0_1 l0_1.length c0_1]) (t := 24) ?hr ?_; (case hd | hg => rfl); (case hr => first | (go_simp; done) | (go_simp; rfl)); intro gb107 hg w5 hbox hb; have n0_ := aM (bP (ey HB.out) hb); have n1_ := aM (hbox); have n2_ := aM ((by rw [hg]; exact (bZ (ey HB.out)) : w.heap.size ≤ gb107)); have n3_ := n2_; clear HB; have HB := n0_; have BK107 := n1_; have GW107 := n2_; have GE107 := n3_; clear n0_ n1_ n2_ n3_; clear hb hbox hg))
  have n0_ := aM (blk_drew BK107.out)
  have n1_ := aM (below_drew1 HB.out)
  clear BK107
  clear HB
  have BK107 := n0_
  have HB := n1_
  clear n0_ n1_
  refine start_ (n := 13) (S := fun w' => w'.cell? ⟨gb107, 0, none⟩ = some (.string a0_0) ∧ w'.cell? ⟨gb107, 1, none⟩ = some (.slice A0_1 l0_1.length c0_1)) (ds := []) b10_ (by kernel_rfl) rfl rfl ⟨(bC BK107.out 0).trans rfl, (bC BK107.out 1).trans rfl⟩ (fun hHeld => ?_); refine with_tabW strip_Good.tab1 strip_Good.bits1 (fun HT_ HW_ => ?_)
  generalize w5.drew = w6 at BK107 HB hHeld ⊢
  refine pv 0 3 b11_ HT_ ?_
  refine pt 1 4 b12_ HT_ HW_ hHeld ?_
  refine one_ (i := 2) (N := some 5) b13_ rfl rfl (one_of HT_.out (by kernel_rfl)) (by decide) (fun K hK => ?_)
  refine goes_ Try.func63 (by kernel_rfl) rfl #[.slice A0_1 l0_1.length c0_1] (by rfl) rfl rfl (by (try simp only [mT, mC, mN]); first | done | rfl | (simp only [lD, lT]; rfl)) ?_
  with_reducible refine (runs_Good.calls k _ _ l0_1 true _ ?side1 ?side2 A2.out).mono ?_
  (case side1 => repeat (first | exact (cB_ HR0_1.out HB.out) | (with_reducible refine Kd.C_alloc ?_ _) | (with_reducible refine Kd.C_drewN ?_ _) | (with_reducible refine Kd.C_drew ?_)))
  (case side2 => exact HC0_1.out)
  rintro e w7 ⟨rfl, hb⟩
  refine ⟨_, rfl, ?_⟩
  have n0_ := aM (bB (g := gb107) (qy BK107.out) hb)
  have n1_ := aM (bP (by repeat (first | (with_reducible first | exact HB.out | apply ea | apply en | apply ed | refine es ?_ GE107.out) | exact HB.out)) hb)
  clear BK107
  clear HB
  have BK107 := n0_
  have HB := n1_
  clear n0_ n1_
  (try clear hb)
  (try clear hb2)
  (try clear hk)
  (try clear hi)
  refine hK.out _ _ ⟨(bC BK107.out 0).trans rfl, (bC BK107.out 1).trans rfl⟩ (fun hHeld => ?_)
  clear hK K
  refine norm_ (a' := ?_) ?_ ?_
  rotate_left
  ·show Act.put _ (some 5) _ = _
   simp only [Act.put, sA, sZ, sS, i64_w, i32_w]
   rfl
  refine pv 3 6 b14_ HT_ ?_
  refine pv 4 7 b15_ HT_ ?_
  refine pv 7 10 b16_ HT_ ?_
  refine pt 5 8 b17_ HT_ HW_ hHeld ?_
  refine pt 8 11 b18_ HT_ HW_ hHeld ?_
  refine pv 9 12 b19_ HT_ ?_
  refine one_ (i := 6) (N := some 9) b20_ rfl rfl (one_of HT_.out (by kernel_rfl)) (by decide) (fun K hK => ?_)
  refine goes_ Try.func64 (by kernel_rfl) rfl #[.slice A0_1 l0_1.length c0_1] (by rfl) rfl rfl (by (try simp only [mT, mC, mN]); first | done | rfl | (simp only [lD, lT]; rfl)) ?_
  with_reducible refine (runs_Total.calls k _ _ l0_1 t109 _ ?side1 ?side2 A4.out).mono ?_
  (case side1 => repeat (first | exact (cB_ HR0_1.out HB.out) | (with_reducible refine Kd.C_alloc ?_ _) | (with_reducible refine Kd.C_drewN ?_ _) | (with_reducible refine Kd.C_drew ?_)))
  (case side2 => exact HC0_1.out)
  rintro e w8 ⟨rfl, hb⟩
  refine ⟨_, rfl, ?_⟩
  have n0_ := aM (bB (g := gb107) (qy BK107.out) hb)
  have n1_ := aM (bP (by repeat (first | (with_reducible first | exact HB.out | apply ea | apply en | apply ed | refine es ?_ GE107.out) | exact HB.out)) hb)
  clear BK107
  clear HB
  have BK107 := n0_
  have HB := n1_
  clear n0_ n1_
  (try clear hb)
  (try clear hb2)
  (try clear hk)
  (try clear hi)
  refine hK.out _ _ ⟨(bC BK107.out 0).trans rfl, (bC BK107.out 1).trans rfl⟩ (fun hHeld => ?_)
  clear hK K
  refine norm_ (a' := ?_) ?_ ?_
  rotate_left
  ·show Act.put _ (some 9) _ = _
   simp only [Act.put, sA, sZ, sS, i64_w, i32_w]
   rfl
  refine pv 10 13 b21_ HT_ ?_
  refine pv 11 14 b22_ HT_ ?_
  refine pv 12 2 b23_ HT_ ?_
  refine done_ (done_of HT_.out (by kernel_rfl)) ?_
  try go_wp2
  go_ret
  exact ⟨by first | rfl | (simp [errW_none, errW_some] <;> rfl) | (simp [*, errW_none, errW_some] <;> rfl), by repeat (first | (with_reducible first | exact HB.out | apply ea | apply en | apply ed | refine es ?_ GE107.out) | exact HB.out)⟩
 ·replace c3 := Bool.eq_false_iff.mpr c3
  subst c3
  have H1 : (some false) = some r := by rw [if_neg (show ¬ (false = true) by decide)] at H; exact H
  clear H
  have H := H1
  clear H1
  obtain rfl := Option.some.inj H
  go_enter Try.func43, Try.ntmps43
  try go_wp2_with (first | ((with_reducible refine gate_dst (N := 1) rfl ?_); (try (refine gate_guard (by rfl) ?_; dsimp only)); refine box_event ?hg (N := 1) ?hd (cs := #[.string a0_0, .slice A0_1 l0_1.length c0_1]) (t := 24) ?hr ?_; (case hd | hg => rfl); (case hr => first | (go_simp; done) | (go_simp; rfl)); intro gb107 hg w9 hbox hb; have n0_ := aM (bP (ey HB.out) hb); have n1_ := aM (hbox); have n2_ := aM ((by rw [hg]; exact (bZ (ey HB.out)) : w.heap.size ≤ gb107)); have n3_ := n2_; clear HB; have HB := n0_; have BK107 := n1_; have GW107 := n2_; have GE107 := n3_; clear n0_ n1_ n2_ n3_; clear hb hbox hg))
  have n0_ := aM (blk_drew BK107.out)
  have n1_ := aM (below_drew1 HB.out)
  clear BK107
  clear HB
  have BK107 := n0_
  have HB := n1_
  clear n0_ n1_
  refine start_ (n := 13) (S := fun w' => w'.cell? ⟨gb107, 0, none⟩ = some (.string a0_0) ∧ w'.cell? ⟨gb107, 1, none⟩ = some (.slice A0_1 l0_1.length c0_1)) (ds := []) b10_ (by kernel_rfl) rfl rfl ⟨(bC BK107.out 0).trans rfl, (bC BK107.out 1).trans rfl⟩ (fun hHeld => ?_); refine with_tabW strip_Good.tab1 strip_Good.bits1 (fun HT_ HW_ => ?_)
  generalize w9.drew = w10 at BK107 HB hHeld ⊢
  refine pv 0 3 b11_ HT_ ?_
  refine pt 1 4 b12_ HT_ HW_ hHeld ?_
  refine one_ (i := 2) (N := some 5) b13_ rfl rfl (one_of HT_.out (by kernel_rfl)) (by decide) (fun K hK => ?_)
  refine goes_ Try.func63 (by kernel_rfl) rfl #[.slice A0_1 l0_1.length c0_1] (by rfl) rfl rfl (by (try simp only [mT, mC, mN]); first | done | rfl | (simp only [lD, lT]; rfl)) ?_
  with_reducible refine (runs_Good.calls k _ _ l0_1 false _ ?side1 ?side2 A2.out).mono ?_
  (case side1 => repeat (first | exact (cB_ HR0_1.out HB.out) | (with_reducible refine Kd.C_alloc ?_ _) | (with_reducible refine Kd.C_drewN ?_ _) | (with_reducible refine Kd.C_drew ?_)))
  (case side2 => exact HC0_1.out)
  rintro e w11 ⟨rfl, hb⟩
  refine ⟨_, rfl, ?_⟩
  have n0_ := aM (bB (g := gb107) (qy BK107.out) hb)
  have n1_ := aM (bP (by repeat (first | (with_reducible first | exact HB.out | apply ea | apply en | apply ed | refine es ?_ GE107.out) | exact HB.out)) hb)
  clear BK107
  clear HB
  have BK107 := n0_
  have HB := n1_
  clear n0_ n1_
  (try clear hb)
  (try clear hb2)
  (try clear hk)
  (try clear hi)
  refine hK.out _ _ ⟨(bC BK107.out 0).trans rfl, (bC BK107.out 1).trans rfl⟩ (fun hHeld => ?_)
  clear hK K
  refine norm_ (a' := ?_) ?_ ?_
  rotate_left
  ·show Act.put _ (some 5) _ = _
   simp only [Act.put, sA, sZ, sS, i64_w, i32_w]
   rfl
  refine pv 3 6 b14_ HT_ ?_
  refine pu 4 7 b15_ HT_ ?_
  refine pu 5 8 b24_ HT_ ?_
  refine pu 6 9 b25_ HT_ ?_
  refine pu 7 10 b26_ HT_ ?_
  refine pu 8 11 b27_ HT_ ?_
  refine pu 9 12 b20_ HT_ ?_
  refine pu 10 13 b21_ HT_ ?_
  refine pv 11 14 b22_ HT_ ?_
  refine pv 12 2 b23_ HT_ ?_
  refine done_ (done_of HT_.out (by kernel_rfl)) ?_
  try go_wp2
  go_ret
  exact ⟨by first | rfl | (simp [errW_none, errW_some] <;> rfl) | (simp [*, errW_none, errW_some] <;> rfl), by repeat (first | (with_reducible first | exact HB.out | apply ea | apply en | apply ed | refine es ?_ GE107.out) | exact HB.out)⟩
end Go.Proofs.Ytnbdldpjiofafaa.PB
end
