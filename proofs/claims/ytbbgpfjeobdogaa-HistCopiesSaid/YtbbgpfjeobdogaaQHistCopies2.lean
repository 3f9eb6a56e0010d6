/- What the row hangs on, part 2. -/
import Derived.Test.YtbbgpfjeobdogaaProg
import Derived.Maps.OwnSet
import Derived.Maps.RangeWalk
import Derived.StillTailTactics
import Derived.Shelf.Sort.Plain
import Derived.Test.YtbbgpfjeobdogaaProg
import Derived.Sort.OwnSortedInts
import Derived.OpenShut
import Derived.ChangeArms
import Derived.Deep.Slices
import Derived.SizedLaws
import Derived.Test.YtbbgpfjeobdogaaQHistCopies1
section
namespace Go.Proofs.Ytbbgpfjeobdogaa.PB
open Go.RowKit Go.Proofs.YtbbgpfjeobdogaaW.PrintWords Go.Proofs.YtbbgpfjeobdogaaW.PrintLast Go.Proofs.YtbbgpfjeobdogaaW.PrintMore
theorem qn : type_of% @blk_drewN := @blk_drewN
theorem qd : type_of% @blk_drew := @blk_drew
theorem qa : type_of% @blk_alloc := @blk_alloc
theorem ra : type_of% @Kd.R_alloc := @Kd.R_alloc
theorem rn : type_of% @Kd.R_drewN := @Kd.R_drewN
theorem rd_ : type_of% @Kd.R_drew := @Kd.R_drew
theorem va : type_of% @Kd.V_alloc := @Kd.V_alloc
theorem vn : type_of% @Kd.V_drewN := @Kd.V_drewN
theorem vd : type_of% @Kd.V_drew := @Kd.V_drew
theorem ea : type_of% @below_alloc := @below_alloc
theorem en : type_of% @pw_below_drewN := @pw_below_drewN
theorem ed : type_of% @below_drew1 := @below_drew1
theorem es : type_of% @below_set := @below_set
theorem aM : type_of% @Aside0.mk := @Aside0.mk
theorem bC : type_of% @blk_cell := @blk_cell
theorem bF : type_of% @blk_frozen := @blk_frozen
theorem rF : type_of% @Kd.R_far := @Kd.R_far
theorem bZ : type_of% @below_size := @below_size
theorem bB : type_of% @blk_below := @blk_below
theorem bP : type_of% @below_step := @below_step
theorem rT : type_of% @Kd.R_types := @Kd.R_types
theorem rM : type_of% @Kd.R_mono := @Kd.R_mono
theorem rR : type_of% @Kd.R_reads' := @Kd.R_reads'
theorem cB_ : type_of% @Kd.C_below := @Kd.C_below
theorem rL : type_of% @Kd.R_lower := @Kd.R_lower
theorem rE : type_of% @Kd.R_elder' := @Kd.R_elder'
theorem bR : type_of% @blk_far := @blk_far
theorem bU : type_of% @blk_put := @blk_put
theorem sA : type_of% @List.setIfInBounds_toArray := @List.setIfInBounds_toArray
theorem sZ : type_of% @List.set_cons_zero := @List.set_cons_zero
theorem sS : type_of% @List.set_cons_succ := @List.set_cons_succ
theorem mT : type_of% @List.map_toArray := @List.map_toArray
theorem mC : type_of% @List.map_cons := @List.map_cons
theorem mN : type_of% @List.map_nil := @List.map_nil
theorem lD : type_of% @List.length_drop := @List.length_drop
theorem lT : type_of% @List.length_take := @List.length_take
class Up (W w : World) : Prop where
  b : Below w.heap.size w W
instance (w : World) : Up w w := ⟨Below.refl _ _⟩
instance {W w : World} (o : Obj) [u : Up W w] : Up (W.alloc o) w := ⟨below_alloc u.b o⟩
instance {W w : World} [u : Up W w] : Up W.drew w := ⟨below_drew1 u.b⟩
instance {W w : World} (n : Nat) [u : Up W w] : Up (W.drewN n) w := ⟨pw_below_drewN u.b n⟩
theorem qy {W w : World} {g : Nat} {o : Obj} [u : Up W w] (h : w.heap[g]? = some o) : W.heap[g]? = some o := blk_below h u.b
theorem ry {α : Type} {d : Kd α} {e : TypeId} {W w : World} {base : Nat} {ok : Nat → Prop} {v : Value} {xs : List α} [u : Up W w] (h : d.R e w base ok v xs) : d.R e W base ok v xs := Kd.R_below h u.b
theorem ey {W w v : World} [u : Up W w] (h : Below v.heap.size v w) : Below v.heap.size v W := below_then h h.size u.b
section
variable {P : Program} {ops : Array Oper} {Q : Exit → Act → World → Prop} {md : Region.Mode} {S : World → Prop} {ds : List Nat} {oi : Oper} {v : Value} {fuel : Nat} {l : Array Bool} {a : Act} {w : World} {T : Bool × List (List Nat × List Nat)} {B : List Nat} {a' : Act}
theorem pv (i n : Nat) (l' : Array Bool) (HT : Aside0 (rtab md ops = T)) (h : wpAnyLast P md ops Q S ds fuel l' a' w) (hi : ops[i]? = some oi := by rfl) (hN : oi.dst = some n := by rfl) (hc : anyT T l.toList l'.toList i = true := by kernel_rfl) (hQ : ∀ (c : List PanicEntry) (a : Act) (w : World), Q (.panic c) (a.put oi.dst v) w → Q (.panic c) a w := by exact fun _ _ _ h => h) (hy : Yields P ops oi v a := by exact Or.inl ⟨by rfl, fun w' => by go_simp; with_reducible rfl⟩) (ha : a.put (some n) v = a' := by simp only [Act.put, sA, sZ, sS, i64_w, i32_w]; rfl) : wpAnyLast P md ops Q S ds (fuel + 1) l a w := pure_ l' hi hN (any_of HT.out hc) hQ hy ha h
theorem pu (i n : Nat) (l' : Array Bool) (HT : Aside0 (rtab md ops = T)) (h : wpAnyLast P md ops Q S ds fuel l' a' w) (hi : ops[i]? = some oi := by rfl) (hN : oi.dst = some n := by rfl) (hc : anyT T l.toList l'.toList i = true := by kernel_rfl) (hQ : ∀ (c : List PanicEntry) (a : Act) (w : World), Q (.panic c) (a.put oi.dst undef) w → Q (.panic c) a w := by exact fun _ _ _ h => h) (hy : Yields P ops oi undef a := by exact Or.inr ⟨by rfl, rfl⟩) (ha : a.put (some n) undef = a' := by simp only [Act.put, sA, sZ, sS, i64_w, i32_w]; rfl) : wpAnyLast P md ops Q S ds (fuel + 1) l a w := pure_ l' hi hN (any_of HT.out hc) hQ hy ha h
theorem pt (i n : Nat) (l' : Array Bool) (HT : Aside0 (rtab md ops = T)) (HW : Aside0 (waitsOk T.2 B = true)) (hS : S w) (h : wpAnyLast P md ops Q S ds fuel l' a' w) (hi : ops[i]? = some oi := by rfl) (hN : oi.dst = some n := by rfl) (hc : takeW T B ds l.toList l'.toList i = true := by kernel_rfl) (hQ : ∀ (c : List PanicEntry) (a : Act) (w : World), Q (.panic c) (a.put oi.dst v) w → Q (.panic c) a w := by exact fun _ _ _ h => h) (hy : YieldsIf P ops S oi v a := by exact Or.inl ⟨by rfl, fun w' hs => by (repeat obtain ⟨_, hs⟩ := hs); go_simp; with_reducible rfl⟩) (ha : a.put (some n) v = a' := by simp only [Act.put, sA, sZ, sS, i64_w, i32_w]; rfl) : wpAnyLast P md ops Q S ds (fuel + 1) l a w := take_ l' hi hN (take_ofW HT.out HW.out hc) hQ hy hS ha h
theorem p1 (i : Nat) (N : Option Tmp) (l' : Array Bool) (HT : Aside0 (rtab md ops = T)) (h : ∀ (K : Act → World → Prop), Shut (∀ (a' : Act) (w' : World), S w' → (S w' → wpAnyLast P md ops Q S ds fuel l' a' w') → K a' w') → if Region.wanted oi (yielded ops a.tmps) = true then Oper.wp P oi a w K Q else K (a.put N undef) w) (hi : ops[i]? = some oi := by rfl) (hN : oi.dst = N := by rfl) (hc : (readyT T.snd l.toList == [i] && l.toList.set i true == l'.toList) = true := by kernel_rfl) (hd : i ∉ ds := by decide) : wpAnyLast P md ops Q S ds (fuel + 1) l a w := one_ l' hi hN (one_of HT.out hc) hd h
end
theorem zC {w : World} {g : Nat} {t : TypeId} {cs : Array Value} (h : w.heap[g]? = some (.cells cs t (0, 0))) (i : Nat) (v : Value) (e : cs[i]? = some v := by rfl) : w.cell? ⟨g, i, none⟩ = some v := (bC h i).trans e
abbrev I := true
abbrev O := false
abbrev b0_ : Array Bool := #[O,O,O,O,O,O,O,O,O,O,O,O,O,O,O,O]
abbrev b1_ : Array Bool := #[I,O,O,O,O,O,O,O,O,O,O,O,O,O,O,O]
abbrev b2_ : Array Bool := #[I,I,O,O,O,O,O,O,O,O,O,O,O,O,O,O]
abbrev b3_ : Array Bool := #[I,I,I,O,O,O,O,O,O,O,O,O,O,O,O,O]
abbrev b4_ : Array Bool := #[I,I,I,I,O,O,O,O,O,O,O,O,O,O,O,O]
abbrev b5_ : Array Bool := #[I,I,I,I,I,O,O,O,O,O,O,O,O,O,O,O]
abbrev b6_ : Array Bool := #[I,I,I,I,I,I,O,O,O,O,O,O,O,O,O,O]
abbrev b7_ : Array Bool := #[I,I,I,I,I,I,I,O,O,O,O,O,O,O,O,O]
abbrev b8_ : Array Bool := #[I,I,I,I,I,I,I,O,I,O,O,O,O,O,O,O]
abbrev b9_ : Array Bool := #[I,I,I,I,I,I,I,O,I,I,O,O,O,O,O,O]
abbrev b10_ : Array Bool := #[I,I,I,I,I,I,I,O,I,I,I,O,O,O,O,O]
abbrev b11_ : Array Bool := #[I,I,I,I,I,I,I,I,I,I,I,O,O,O,O,O]
abbrev b12_ : Array Bool := #[I,I,I,I,I,I,I,I,I,I,I,I,O,O,O,O]
abbrev b13_ : Array Bool := #[I,I,I,I,I,I,I,I,I,I,I,I,I,O,O,O]
abbrev b14_ : Array Bool := #[I,I,I,I,I,I,I,I,I,I,I,I,I,I,O,O]
abbrev b15_ : Array Bool := #[I,I,I,I,I,I,I,I,I,I,I,I,I,I,I,O]
abbrev b16_ : Array Bool := #[I,I,I,I,I,I,I,I,I,I,I,I,I,I,I,I]
abbrev b17_ : Array Bool := #[O,O,O,O,O,O,O,O,O,O]
abbrev b18_ : Array Bool := #[I,O,O,O,O,O,O,O,O,O]
abbrev b19_ : Array Bool := #[I,O,I,O,O,O,O,O,O,O]
abbrev b20_ : Array Bool := #[I,O,I,O,O,I,O,O,O,O]
abbrev b21_ : Array Bool := #[I,I,I,O,O,I,O,O,O,O]
abbrev b22_ : Array Bool := #[I,I,I,I,O,I,O,O,O,O]
abbrev b23_ : Array Bool := #[I,I,I,I,O,I,I,O,O,O]
abbrev b24_ : Array Bool := #[I,I,I,I,I,I,I,O,O,O]
abbrev b25_ : Array Bool := #[I,I,I,I,I,I,I,I,O,O]
abbrev b26_ : Array Bool := #[I,I,I,I,I,I,I,I,I,O]
abbrev b27_ : Array Bool := #[I,I,I,I,I,I,I,I,I,I]
abbrev b28_ : Array Bool := #[O,O,O,O,O,O,O,O,O,O,O,O,O]
abbrev b29_ : Array Bool := #[I,O,O,O,O,O,O,O,O,O,O,O,O]
abbrev b30_ : Array Bool := #[I,I,O,O,O,O,O,O,O,O,O,O,O]
abbrev b31_ : Array Bool := #[I,I,I,O,O,O,O,O,O,O,O,O,O]
abbrev b32_ : Array Bool := #[I,I,I,I,O,O,O,O,O,O,O,O,O]
abbrev b33_ : Array Bool := #[I,I,I,I,I,O,O,O,O,O,O,O,O]
abbrev b34_ : Array Bool := #[I,I,I,I,I,O,O,I,O,O,O,O,O]
abbrev b35_ : Array Bool := #[I,I,I,I,I,I,O,I,O,O,O,O,O]
abbrev b36_ : Array Bool := #[I,I,I,I,I,I,O,I,I,O,O,O,O]
abbrev b37_ : Array Bool := #[I,I,I,I,I,I,O,I,I,I,O,O,O]
abbrev b38_ : Array Bool := #[I,I,I,I,I,I,I,I,I,I,O,O,O]
abbrev b39_ : Array Bool := #[I,I,I,I,I,I,I,I,I,I,I,O,O]
abbrev b40_ : Array Bool := #[I,I,I,I,I,I,I,I,I,I,I,I,O]
abbrev b41_ : Array Bool := #[I,I,I,I,I,I,I,I,I,I,I,I,I]
abbrev b42_ : Array Bool := #[I,I,I,I,I,I,O,O,O,O,O,O,O]
abbrev b43_ : Array Bool := #[I,I,I,I,I,I,I,O,O,O,O,O,O]
abbrev b44_ : Array Bool := #[I,I,I,I,I,I,I,I,O,O,O,O,O]
abbrev b45_ : Array Bool := #[I,I,I,I,I,I,I,I,I,O,O,O,O]
abbrev b46_ : Array Bool := #[I,O,I,O,O,O,O,O,O,O,O,O,O,O,O,O]
abbrev b47_ : Array Bool := #[I,O,I,O,I,O,O,O,O,O,O,O,O,O,O,O]
abbrev b48_ : Array Bool := #[I,O,I,O,I,O,O,I,O,O,O,O,O,O,O,O]
abbrev b49_ : Array Bool := #[I,O,I,O,I,O,O,I,O,I,O,O,O,O,O,O]
abbrev b50_ : Array Bool := #[I,O,I,O,I,O,O,I,O,I,O,O,I,O,O,O]
abbrev b51_ : Array Bool := #[I,I,I,O,I,O,O,I,O,I,O,O,I,O,O,O]
abbrev b52_ : Array Bool := #[I,I,I,I,I,O,O,I,O,I,O,O,I,O,O,O]
abbrev b53_ : Array Bool := #[I,I,I,I,I,I,O,I,O,I,O,O,I,O,O,O]
abbrev b54_ : Array Bool := #[I,I,I,I,I,I,I,I,O,I,O,O,I,O,O,O]
abbrev b55_ : Array Bool := #[I,I,I,I,I,I,I,I,I,I,O,O,I,O,O,O]
abbrev b56_ : Array Bool := #[I,I,I,I,I,I,I,I,I,I,I,O,I,O,O,O]
attribute [local go_sem] max2_int min2_int max_two min_two max_three min_three max_four min_four   
set_option linter.unusedVariables false
set_option linter.unusedSimpArgs false
def errW : Option Int → Value
 | none => .nilIface
 | some c => .iface 0 (.int .i64 c)
theorem errW_none : errW none = .nilIface := rfl
theorem errW_some (c : Int) : errW (some c) = .iface 0 (.int .i64 c) := rfl
theorem info3 : (Try.prog.info? 3).map (fun i => (i.zero, i.size, i.bytes)) = some (some (.int .i64 0), 1, 8) := by kernel_rfl
theorem info71 : (Try.prog.info? 71).map (fun i => (i.zero, i.size, i.bytes)) = some (some (.agg #[(.int .u64 0), (.int .i64 0)]), 2, 16) := by kernel_rfl
structure S71 where
 f0 : Int
 f1 : Int
def z71 : S71 := ⟨(0 : Int), (0 : Int)⟩
def k71 : Kd S71 := Kd.iso (Kd.pair (Kd.int .u64) (Kd.int .i64)) (fun x : S71 => (x.f0, x.f1))
theorem k71_heap : Kd.Heap k71 := Kd.heap_iso _ (Kd.heap_pair (Kd.heap_int .u64) (Kd.heap_int .i64))
theorem k71_open {w : World} {x : S71} {cs : List Value} (h : k71.K w x cs) : cs = [.int .u64 x.f0, .int .i64 x.f1] := by
 obtain ⟨_, _, rfl, rfl, rfl⟩ := h
 exact rfl
theorem k71_openM {w : World} {base : Nat} {ok : Nat → Prop} {x : S71} {cs : List Value} (h : k71.M w base ok x cs) : cs = [.int .u64 x.f0, .int .i64 x.f1] := by
 obtain ⟨_, _, rfl, rfl, rfl⟩ := h
 exact rfl
theorem k71_mkM (w : World) (base : Nat) (ok : Nat → Prop) (x : S71)  : k71.M w base ok x [.int .u64 x.f0, .int .i64 x.f1] := ⟨[.int .u64 x.f0], [.int .i64 x.f1], rfl, rfl, rfl⟩
def rd_T71 (xs : List S71) (i : Int) : S71 := xs.getD i.toNat z71
theorem at_T71 {w : World} {A : Option Addr} {n : Nat} {xs : List S71} (h : Kd.C k71 w A n xs) (i : Int) (h0 : 0 ≤ i) (h1 : i < n) : ∃ ad , A = some ad ∧ w.cell? (ad.add (i.toNat * 2)) = some (.int .u64 (rd_T71 xs i).f0) ∧ w.cell? ⟨(ad.add (i.toNat * 2)).block, (ad.add (i.toNat * 2)).off + 1, none⟩ = some (.int .i64 (rd_T71 xs i).f1) := by
 obtain ⟨ad, c, e, _, hK, hc0⟩ := Kd.C_get h z71 i h0 h1
 have hc : ∀ j u, c[j]? = some u → w.cell? (ad.add (i.toNat * 2 + j)) = some u := hc0
 obtain rfl := k71_open hK
 exact ⟨ad, e, hc 0 _ rfl, by rw [← add_field _ _ 1 (by omega)]; exact hc 1 _ rfl⟩
structure S32 where
 f0 : ByteArray
 f1 : (List S71)
def z32 : S32 := ⟨(⟨#[]⟩ : ByteArray), ([] : List S71)⟩
def k32 : Kd S32 := Kd.iso (Kd.pair Kd.string (Kd.slice 71 k71)) (fun x : S32 => (x.f0, x.f1))
theorem k32_open {w : World} {x : S32} {cs : List Value} (h : k32.K w x cs) : ∃ A1 c1, cs = [.string x.f0, .slice A1 x.f1.length c1] ∧ x.f1.length ≤ c1 ∧ k71.C w A1 x.f1.length x.f1 := by
 obtain ⟨_, _, rfl, rfl, ⟨A1, c1, rfl, l1, g1⟩⟩ := h
 exact ⟨A1, c1, rfl, l1, g1⟩
theorem k32_mk (w : World) (x : S32) {A1 : Option Addr} {c1 : Nat} (l1 : x.f1.length ≤ c1) (g1 : k71.C w A1 x.f1.length x.f1) : k32.K w x [.string x.f0, .slice A1 x.f1.length c1] := ⟨[.string x.f0], [.slice A1 x.f1.length c1], rfl, rfl, ⟨A1, c1, rfl, l1, g1⟩⟩
theorem k32_mkM (w : World) (base : Nat) (ok : Nat → Prop) (x : S32) {v1 : Value} (g1 : k71.R 71 w base ok v1 x.f1) : k32.M w base ok x [.string x.f0, v1] := ⟨[.string x.f0], [v1], rfl, rfl, ⟨v1, rfl, g1⟩⟩
structure S34 where
 f0 : Int
 f1 : S32
 f2 : S32
def z34 : S34 := ⟨(0 : Int), z32, z32⟩
def k34 : Kd S34 := Kd.iso (Kd.pair (Kd.int .i64) (Kd.pair k32 k32)) (fun x : S34 => (x.f0, x.f1, x.f2))
theorem k34_open {w : World} {x : S34} {cs : List Value} (h : k34.K w x cs) : ∃ A2 c2 A4 c4, cs = [.int .i64 x.f0, .string x.f1.f0, .slice A2 x.f1.f1.length c2, .string x.f2.f0, .slice A4 x.f2.f1.length c4] ∧ x.f1.f1.length ≤ c2 ∧ k71.C w A2 x.f1.f1.length x.f1.f1 ∧ x.f2.f1.length ≤ c4 ∧ k71.C w A4 x.f2.f1.length x.f2.f1 := by
 obtain ⟨_, _, rfl, rfl, ⟨_, _, rfl, s1, s3⟩⟩ := h
 obtain ⟨A2, c2, rfl, l2, g2⟩ := k32_open s1
 obtain ⟨A4, c4, rfl, l4, g4⟩ := k32_open s3
 exact ⟨A2, c2, A4, c4, rfl, l2, g2, l4, g4⟩
theorem k34_mk (w : World) (x : S34) {A2 : Option Addr} {c2 : Nat} (l2 : x.f1.f1.length ≤ c2) (g2 : k71.C w A2 x.f1.f1.length x.f1.f1) {A4 : Option Addr} {c4 : Nat} (l4 : x.f2.f1.length ≤ c4) (g4 : k71.C w A4 x.f2.f1.length x.f2.f1) : k34.K w x [.int .i64 x.f0, .string x.f1.f0, .slice A2 x.f1.f1.length c2, .string x.f2.f0, .slice A4 x.f2.f1.length c4] := ⟨[.int .i64 x.f0], [.string x.f1.f0, .slice A2 x.f1.f1.length c2, .string x.f2.f0, .slice A4 x.f2.f1.length c4], rfl, rfl, ⟨[.string x.f1.f0, .slice A2 x.f1.f1.length c2], [.string x.f2.f0, .slice A4 x.f2.f1.length c4], rfl, (k32_mk w x.f1 l2 g2), (k32_mk w x.f2 l4 g4)⟩⟩
theorem k34_mkM (w : World) (base : Nat) (ok : Nat → Prop) (x : S34) {v2 : Value} (g2 : k71.R 71 w base ok v2 x.f1.f1) {v4 : Value} (g4 : k71.R 71 w base ok v4 x.f2.f1) : k34.M w base ok x [.int .i64 x.f0, .string x.f1.f0, v2, .string x.f2.f0, v4] := ⟨[.int .i64 x.f0], [.string x.f1.f0, v2, .string x.f2.f0, v4], rfl, rfl, ⟨[.string x.f1.f0, v2], [.string x.f2.f0, v4], rfl, (k32_mkM w base ok x.f1 g2), (k32_mkM w base ok x.f2 g4)⟩⟩
theorem k34_openF {W : World} {ok : Nat → Prop} {x : S34} {cs : List Value} (h : Kd.FK k34 W ok x cs) : ∃ A2 c2 A4 c4, cs = [.int .i64 x.f0, .string x.f1.f0, .slice A2 x.f1.f1.length c2, .string x.f2.f0, .slice A4 x.f2.f1.length c4] ∧ x.f1.f1.length ≤ c2 ∧ Kd.F k71 W ok A2 x.f1.f1.length x.f1.f1 ∧ x.f2.f1.length ≤ c4 ∧ Kd.F k71 W ok A4 x.f2.f1.length x.f2.f1 := by
 obtain ⟨A2, c2, A4, c4, rfl, l2, _, l4, _⟩ := k34_open (Kd.FK_now h)
 exact ⟨A2, c2, A4, c4, rfl, l2, (fun W' hW => by obtain ⟨A2_, c2_, A4_, c4_, he, l2_, g2_, l4_, g4_⟩ := k34_open (h W' hW); injection (Option.some.inj (show some (Value.slice A2 x.f1.f1.length c2) = some (Value.slice A2_ x.f1.f1.length c2_) from congrArg (fun l => l[2]?) he)) with ha_ _ _; rw [ha_]; exact g2_), l4, (fun W' hW => by obtain ⟨A2_, c2_, A4_, c4_, he, l2_, g2_, l4_, g4_⟩ := k34_open (h W' hW); injection (Option.some.inj (show some (Value.slice A4 x.f2.f1.length c4) = some (Value.slice A4_ x.f2.f1.length c4_) from congrArg (fun l => l[4]?) he)) with ha_ _ _; rw [ha_]; exact g4_)⟩
structure S36 where
 f0 : Int
 f1 : S34
 f2 : Bool
def z36 : S36 := ⟨(0 : Int), z34, false⟩
def k36 : Kd S36 := Kd.iso (Kd.pair (Kd.int .u8) (Kd.pair k34 Kd.bool)) (fun x : S36 => (x.f0, x.f1, x.f2))
theorem k36_open {w : World} {x : S36} {cs : List Value} (h : k36.K w x cs) : ∃ A3 c3 A5 c5, cs = [.int .u8 x.f0, .int .i64 x.f1.f0, .string x.f1.f1.f0, .slice A3 x.f1.f1.f1.length c3, .string x.f1.f2.f0, .slice A5 x.f1.f2.f1.length c5, .bool x.f2] ∧ x.f1.f1.f1.length ≤ c3 ∧ k71.C w A3 x.f1.f1.f1.length x.f1.f1.f1 ∧ x.f1.f2.f1.length ≤ c5 ∧ k71.C w A5 x.f1.f2.f1.length x.f1.f2.f1 := by
 obtain ⟨_, _, rfl, rfl, ⟨_, _, rfl, s1, rfl⟩⟩ := h
 obtain ⟨A3, c3, A5, c5, rfl, l3, g3, l5, g5⟩ := k34_open s1
 exact ⟨A3, c3, A5, c5, rfl, l3, g3, l5, g5⟩
def rd_T36 (xs : List S36) (i : Int) : S36 := xs.getD i.toNat z36
theorem at_T36 {w : World} {A : Option Addr} {n : Nat} {xs : List S36} (h : Kd.C k36 w A n xs) (i : Int) (h0 : 0 ≤ i) (h1 : i < n) : ∃ ad A3 c3 A5 c5, A = some ad ∧ w.cell? (ad.add (i.toNat * 7)) = some (.int .u8 (rd_T36 xs i).f0) ∧ w.cell? ⟨(ad.add (i.toNat * 7)).block, (ad.add (i.toNat * 7)).off + 1, none⟩ = some (.int .i64 (rd_T36 xs i).f1.f0) ∧ w.cell? ⟨(ad.add (i.toNat * 7)).block, (ad.add (i.toNat * 7)).off + 2, none⟩ = some (.string (rd_T36 xs i).f1.f1.f0) ∧ w.cell? ⟨(ad.add (i.toNat * 7)).block, (ad.add (i.toNat * 7)).off + 3, none⟩ = some (.slice A3 (rd_T36 xs i).f1.f1.f1.length c3) ∧ w.cell? ⟨(ad.add (i.toNat * 7)).block, (ad.add (i.toNat * 7)).off + 4, none⟩ = some (.string (rd_T36 xs i).f1.f2.f0) ∧ w.cell? ⟨(ad.add (i.toNat * 7)).block, (ad.add (i.toNat * 7)).off + 5, none⟩ = some (.slice A5 (rd_T36 xs i).f1.f2.f1.length c5) ∧ w.cell? ⟨(ad.add (i.toNat * 7)).block, (ad.add (i.toNat * 7)).off + 6, none⟩ = some (.bool (rd_T36 xs i).f2) ∧ (rd_T36 xs i).f1.f1.f1.length ≤ c3 ∧ k71.C w A3 (rd_T36 xs i).f1.f1.f1.length (rd_T36 xs i).f1.f1.f1 ∧ (rd_T36 xs i).f1.f2.f1.length ≤ c5 ∧ k71.C w A5 (rd_T36 xs i).f1.f2.f1.length (rd_T36 xs i).f1.f2.f1 := by
 obtain ⟨ad, c, e, _, hK, hc0⟩ := Kd.C_get h z36 i h0 h1
 have hc : ∀ j u, c[j]? = some u → w.cell? (ad.add (i.toNat * 7 + j)) = some u := hc0
 obtain ⟨A3, c3, A5, c5, rfl, l3, g3, l5, g5⟩ := k36_open hK
 exact ⟨ad, A3, c3, A5, c5, e, hc 0 _ rfl, by rw [← add_field _ _ 1 (by omega)]; exact hc 1 _ rfl, by rw [← add_field _ _ 2 (by omega)]; exact hc 2 _ rfl, by rw [← add_field _ _ 3 (by omega)]; exact hc 3 _ rfl, by rw [← add_field _ _ 4 (by omega)]; exact hc 4 _ rfl, by rw [← add_field _ _ 5 (by omega)]; exact hc 5 _ rfl, by rw [← add_field _ _ 6 (by omega)]; exact hc 6 _ rfl, l3, g3, l5, g5⟩
structure S74 where
 f0 : Int
 f1 : S34
def k74 : Kd S74 := Kd.iso (Kd.pair (Kd.int .i64) k34) (fun x : S74 => (x.f0, x.f1))
theorem k74_open {w : World} {x : S74} {cs : List Value} (h : k74.K w x cs) : ∃ A3 c3 A5 c5, cs = [.int .i64 x.f0, .int .i64 x.f1.f0, .string x.f1.f1.f0, .slice A3 x.f1.f1.f1.length c3, .string x.f1.f2.f0, .slice A5 x.f1.f2.f1.length c5] ∧ x.f1.f1.f1.length ≤ c3 ∧ k71.C w A3 x.f1.f1.f1.length x.f1.f1.f1 ∧ x.f1.f2.f1.length ≤ c5 ∧ k71.C w A5 x.f1.f2.f1.length x.f1.f2.f1 := by
 obtain ⟨_, _, rfl, rfl, s1⟩ := h
 obtain ⟨A3, c3, A5, c5, rfl, l3, g3, l5, g5⟩ := k34_open s1
 exact ⟨A3, c3, A5, c5, rfl, l3, g3, l5, g5⟩
theorem k74_openF {W : World} {ok : Nat → Prop} {x : S74} {cs : List Value} (h : Kd.FK k74 W ok x cs) : ∃ A3 c3 A5 c5, cs = [.int .i64 x.f0, .int .i64 x.f1.f0, .string x.f1.f1.f0, .slice A3 x.f1.f1.f1.length c3, .string x.f1.f2.f0, .slice A5 x.f1.f2.f1.length c5] ∧ x.f1.f1.f1.length ≤ c3 ∧ Kd.F k71 W ok A3 x.f1.f1.f1.length x.f1.f1.f1 ∧ x.f1.f2.f1.length ≤ c5 ∧ Kd.F k71 W ok A5 x.f1.f2.f1.length x.f1.f2.f1 := by
 obtain ⟨A3, c3, A5, c5, rfl, l3, _, l5, _⟩ := k74_open (Kd.FK_now h)
 exact ⟨A3, c3, A5, c5, rfl, l3, (fun W' hW => by obtain ⟨A3_, c3_, A5_, c5_, he, l3_, g3_, l5_, g5_⟩ := k74_open (h W' hW); injection (Option.some.inj (show some (Value.slice A3 x.f1.f1.f1.length c3) = some (Value.slice A3_ x.f1.f1.f1.length c3_) from congrArg (fun l => l[3]?) he)) with ha_ _ _; rw [ha_]; exact g3_), l5, (fun W' hW => by obtain ⟨A3_, c3_, A5_, c5_, he, l3_, g3_, l5_, g5_⟩ := k74_open (h W' hW); injection (Option.some.inj (show some (Value.slice A5 x.f1.f2.f1.length c5) = some (Value.slice A5_ x.f1.f2.f1.length c5_) from congrArg (fun l => l[5]?) he)) with ha_ _ _; rw [ha_]; exact g5_)⟩
structure S76 where
 f0 : Int
 f1 : Int
 f2 : S34
def k76 : Kd S76 := Kd.iso (Kd.pair (Kd.int .i64) (Kd.pair (Kd.int .i64) k34)) (fun x : S76 => (x.f0, x.f1, x.f2))
end Go.Proofs.Ytbbgpfjeobdogaa.PB
end

section
namespace Go.Proofs.Ytbbgpfjeobdogaa.PB
open Go.RowKit Go.Maps Go.Proofs.YtbbgpfjeobdogaaW.PrintWords Go.Proofs.YtbbgpfjeobdogaaW.PrintLast Go.Proofs.YtbbgpfjeobdogaaW.PrintMore
set_option maxRecDepth 100000
set_option linter.unusedVariables false
set_option linter.unusedSimpArgs false
section
variable {P : Program} {ops : Array Oper} {Q : Exit → Act → World → Prop} {md : Region.Mode} {S : World → Prop} {ds : List Nat} {oi : Oper} {v : Value} {fuel : Nat} {l : Array Bool} {a : Act} {w : World} {a' : Act}
theorem sv (i n : Nat) (l' : Array Bool) (h : wpAnyLast P md ops Q S ds fuel l' a' w) (hi : ops[i]? = some oi := by rfl) (hN : oi.dst = some n := by rfl) (hc : anyB md ops l l' i = true := by kernel_rfl) (hQ : ∀ (c : List PanicEntry) (a : Act) (w : World), Q (.panic c) (a.put oi.dst v) w → Q (.panic c) a w := by exact fun _ _ _ h => h) (hy : Yields P ops oi v a := by exact Or.inl ⟨by rfl, fun w' => by go_simp; with_reducible rfl⟩) (ha : a.put (some n) v = a' := by simp only [Act.put, List.setIfInBounds_toArray, List.set_cons_zero, List.set_cons_succ, i64_w, i32_w]; rfl) : wpAnyLast P md ops Q S ds (fuel + 1) l a w := pure_ l' hi hN hc hQ hy ha h
theorem st (i n : Nat) (l' : Array Bool) (hS : S w) (h : wpAnyLast P md ops Q S ds fuel l' a' w) (hi : ops[i]? = some oi := by rfl) (hN : oi.dst = some n := by rfl) (hc : takeB md ops ds l l' i = true := by kernel_rfl) (hQ : ∀ (c : List PanicEntry) (a : Act) (w : World), Q (.panic c) (a.put oi.dst v) w → Q (.panic c) a w := by exact fun _ _ _ h => h) (hy : YieldsIf P ops S oi v a := by exact Or.inl ⟨by rfl, fun w' hs => by (repeat obtain ⟨_, hs⟩ := hs); go_simp; with_reducible rfl⟩) (ha : a.put (some n) v = a' := by simp only [Act.put, List.setIfInBounds_toArray, List.set_cons_zero, List.set_cons_succ, i64_w, i32_w]; rfl) : wpAnyLast P md ops Q S ds (fuel + 1) l a w := take_ l' hi hN hc hQ hy hS ha h
end
abbrev tT := true
abbrev tF := false
structure Turn (B : Nat) (S : Nat → Prop) (w W : World) : Prop where
  bel : Below B w W
  kept : Kept w W S
namespace Turn
variable {B : Nat} {S S' : Nat → Prop} {w W W2 : World}
theorem refl (B : Nat) (S : Nat → Prop) (w : World) : Turn B S w w := ⟨Below.refl _ _, Kept.refl _ _⟩
theorem trans (h : Turn B S w W) (k : Turn B S W W2) : Turn B S w W2 := ⟨h.bel.trans k.bel, h.kept.then_ k.kept (fun _ hk => .inl hk)⟩
theorem size (h : Turn B S w W) : w.heap.size ≤ W.heap.size := h.kept.1
theorem mono (h : Turn B S w W) (hs : ∀ k, S k → S' k) : Turn B S' w W := ⟨h.bel, h.kept.mono hs⟩
theorem below (h : Turn B S w W) (hb : Below W.heap.size W W2) (hB : B ≤ W.heap.size) : Turn B S w W2 := ⟨h.bel.trans (hb.mono hB), h.kept.below hb⟩
theorem of_below (hb : Below w.heap.size w W) (hB : B ≤ w.heap.size) : Turn B S w W := ⟨hb.mono hB, Kept.of_below hb _⟩
theorem set (h : Turn B S w W) {p : Addr} (hp : S p.block ∨ w.heap.size ≤ p.block) (hB : B ≤ p.block) (u : Value) : Turn B S w (W.setCell p u) := ⟨h.bel.setCell hB u, h.kept.setCell hp u⟩
theorem grown (h : Turn B S w W) {row : Option Nat} (hg : W.grownBy W2 row) (hr : ∀ k, row = some k → (S k ∨ w.heap.size ≤ k) ∧ B ≤ k) (hB : B ≤ W.heap.size) : Turn B S w W2 :=
  ⟨h.bel.grown hg hB (fun k hk => (hr k hk).2), Kept.of_grown hg h.kept (fun k hk => (hr k hk).1)⟩
theorem blk {g : Nat} {o : Obj} (h : Turn B S w W) (hb : w.heap[g]? = some o) (hn : ¬ S g) : W.heap[g]? = some o := blk_kept hb h.kept hn
theorem fk {α : Type} {d : Kd α} {ok : Nat → Prop} {x : α} {c : List Value} (h : Turn B S w W) (hf : Kd.FK d w ok x c) (hn : ∀ k, ok k → ¬ S k) : Kd.FK d W ok x c := Kd.FK_step hf (fun k hk hlt => h.kept.2 k hlt (hn k hk))
theorem f {α : Type} {d : Kd α} {ok : Nat → Prop} {A : Option Addr} {n : Nat} {xs : List α} (h : Turn B S w W) (hf : Kd.F d w ok A n xs) (hn : ∀ k, ok k → ¬ S k) : Kd.F d W ok A n xs := Kd.F_step hf (fun k hk hlt => h.kept.2 k hlt (hn k hk))
end Turn
abbrev kN (n : Int) : Lit := .int .i64 n
theorem lawK : Keyed Try.prog 3 := int_keyed Try.underlying3
def heldE (v : Value) : Option (DataW Value × List MemPlace) := some (.held v, [])
abbrev zSt : Value := .agg #[.int .i64 0, .int .i64 0, .string ⟨#[]⟩, .slice none 0 0, .string ⟨#[]⟩, .slice none 0 0]
theorem zeroE (w : World) : (zeroValue 74).run Try.prog w = .ok zSt w := by kernel_rfl
theorem mapne (b : Nat) (w : World) : (binOp BinOp.neq 65 (.map (some b)) (.map none)).run Try.prog w = .ok (.bool true) w := by kernel_rfl
theorem kN_wf {n : Int} (h0 : -1 ≤ n) (h1 : n ≤ 1000000) : (kN n).wf = true := WalkArith.wf_i64 (by omega)
abbrev St := S76
abbrev kS := k74
structure MapAt (ok : Nat → Prop) (bm : Nat) (w : World) (D : DataW Value) (L : List St) : Prop where
  own : ∃ n, n ≤ 1000 ∧ w.ownsMap Try.prog 3 heldE bm n D
  has : ∀ n : Int, Maps.has D (kN n) = L.any (fun x => x.f0 == n)
  size : Maps.size D = L.length
  val : ∀ x ∈ L, ∃ cs : List Value, (∀ z, D.atKey (kN x.f0) z = .held (.agg cs.toArray)) ∧ Kd.FK kS w ok ⟨x.f1, x.f2⟩ cs
structure HistAt (B : Nat) (S : Nat → Prop) (g bm : Nat) (w : World) (L : List St) (now next depth : Int) : Prop where
  hg : ∃ first : Int, w.heap[g]? = some (.cells #[.map (some bm), .int .i64 first, .int .i64 now, .int .i64 next, .int .i64 depth] 67 (0, 0))
  hm : ∃ D, MapAt (fun k => ¬ S k) bm w D L
  sg : S g
  sm : S bm
  bg : B ≤ g
  bb : B ≤ bm
abbrev hb (g bm : Nat) : Nat → Prop := fun k => k = g ∨ k = bm
theorem MapAt.turn {B : Nat} {S ok : Nat → Prop} {bm : Nat} {w W : World} {D : DataW Value} {L : List St} (h : MapAt ok bm w D L) (ht : Turn B S w W) (hbm : ¬ S bm) (hok : ∀ k, ok k → ¬ S k) : MapAt ok bm W D L := by
  obtain ⟨⟨n, hn, es, clock, hb, F, hs, hD⟩, h2, h3, h4⟩ := h
  refine ⟨⟨n, hn, es, clock, ht.blk hb hbm, F, hs, hD⟩, h2, h3, fun x hx => ?_⟩
  obtain ⟨cs, h5, h6⟩ := h4 x hx
  exact ⟨cs, h5, ht.fk h6 hok⟩
theorem MapAt.ok' {ok ok' : Nat → Prop} {bm : Nat} {w : World} {D : DataW Value} {L : List St} (h : MapAt ok bm w D L) (hk : ∀ k, ok k → k < w.heap.size → ok' k) : MapAt ok' bm w D L := by
  obtain ⟨h1, h2, h3, h4⟩ := h
  refine ⟨h1, h2, h3, fun x hx => ?_⟩
  obtain ⟨cs, h5, h6⟩ := h4 x hx
  exact ⟨cs, h5, Kd.FK_mono (Kd.FK_bound h6) (fun k hk2 => hk k hk2.1 hk2.2)⟩
theorem HistAt.below {B : Nat} {S : Nat → Prop} {g bm : Nat} {w W : World} {L : List St} {now next depth : Int} (h : HistAt B S g bm w L now next depth) (hb : Below w.heap.size w W) : HistAt B S g bm W L now next depth := by
  obtain ⟨⟨f, h1⟩, ⟨D, h2⟩, h3, h4, h5, h6⟩ := h
  refine ⟨⟨f, bB h1 hb⟩, ⟨D, ?_⟩, h3, h4, h5, h6⟩
  exact h2.turn (Turn.of_below (B := 0) (S := fun _ => False) hb (Nat.zero_le _)) (fun h => h) (fun _ _ h => h)
theorem HistAt.lt {B : Nat} {S : Nat → Prop} {g bm : Nat} {w : World} {L : List St} {now next depth : Int} (h : HistAt B S g bm w L now next depth) : B ≤ w.heap.size ∧ g < w.heap.size ∧ bm < w.heap.size ∧ g ≠ bm := by
  obtain ⟨⟨f, h1⟩, ⟨D, ⟨⟨n, hn, es, clock, h2, _⟩, _⟩⟩, _, _, h5, _⟩ := h
  have := blk_lt h1
  refine ⟨by omega, blk_lt h1, blk_lt h2, ?_⟩
  rintro rfl
  rw [h1] at h2
  cases h2
theorem good_ok {B : Nat} {S : Nat → Prop} {g bm : Nat} {w : World} {L : List St} {now next depth : Int} (h : HistAt B S g bm w L now next depth) :
    Calls Try.prog 31 #[.pointer (some ⟨g, 0, none⟩)] w fun e w' => e = .returned (.bool true) ∧ w' = w := by
  obtain ⟨f, hg⟩ := h.hg
  have c0 : w.cell? ⟨g, 0, none⟩ = some (.map (some bm)) := (bC hg 0).trans rfl
  have hne := mapne bm
  go_enter Try.func31, Try.ntmps31
  go_wp2
  go_ret
  exact ⟨rfl, rfl⟩
theorem now_ok {B : Nat} {S : Nat → Prop} {g bm : Nat} {w : World} {L : List St} {now next depth : Int} (h : HistAt B S g bm w L now next depth) :
    Calls Try.prog 19 #[.pointer (some ⟨g, 0, none⟩)] w fun e w' => e = .returned (.int .i64 now) ∧ w' = w := by
  have HH := aM h
  obtain ⟨f, hg⟩ := h.hg
  have c2 : w.cell? ⟨g, 2, none⟩ = some (.int .i64 now) := (bC hg 2).trans rfl
  clear h hg
  go_enter Try.func19, Try.ntmps19
  go_wp2_with (first
    | ((with_reducible refine gate_callee (f := 31) rfl ?_); refine goesL_ (some 4) rfl rfl Try.func31 (by kernel_rfl) rfl #[.pointer (some ⟨g, 0, none⟩)] rfl (by (try simp only [List.map_toArray, List.map_cons, List.map_nil]); first | done | rfl) ?_; (with_reducible refine (good_ok HH.out).mono ?_); rintro e w3 ⟨rfl, hw⟩; subst w3; refine ⟨_, rfl, ?_⟩)
    )
  go_ret
  exact ⟨rfl, rfl⟩
end Go.Proofs.Ytbbgpfjeobdogaa.PB
end

section
namespace Go.Proofs.Ytbbgpfjeobdogaa.PB
open Go.RowKit Go.Maps Go.Proofs.YtbbgpfjeobdogaaW.PrintWords Go.Proofs.YtbbgpfjeobdogaaW.PrintLast Go.Proofs.YtbbgpfjeobdogaaW.PrintMore
set_option maxRecDepth 100000
set_option linter.unusedVariables false
set_option linter.unusedSimpArgs false
section
variable {H : Type} {P : Program} (w : World) {ops : Array Oper} {rest : List Oper} {o : Oper} {a : Act} {Q : Exit → Act → World → Prop}
theorem wpList_insert_in (hg : o.guard = none) (m x v : Operand) (t : TypeId) (hop : o.op = Op.insert t m x v)
    (k e : TypeId) (K : Keyed P k) (ht : P.underlying t = some (.map k e)) (R : Value → Option (DataW H × List MemPlace)) (b n : Nat) (D : DataW H)
    (hm : a.eval m = .map (some b)) (hown : w.ownsMap P k R b n D) (hn : n < maxLen) (key val : Value) (kl : Lit) (hx : a.eval x = key) (hv : a.eval v = val) (hkey : keyOf P k key = some kl)
    (d : DataW H) (ps : List MemPlace) (hval : R val = some (d, ps))
    (hK : ∀ w', w'.ownsMap P k R b (n + 1) (D.put kl d) → w.mapTurned w' b → wpList P ops Q rest (a.put o.dst undef) w') :
    wpList P ops Q (o :: rest) a w := by
  refine wpList_plain hg fun K' hK' => ?_
  obtain ⟨w', hrun, r1, r2⟩ := hown.store K ht hn hkey hval
  unfold Oper.wp
  simp [execOp, hop, hm, hx, hv, hrun, Result.andThen]
  exact hK' _ _ (hK w' r1 r2)
end
theorem hkN {n : Int} (h0 : -1 ≤ n) (h1 : n ≤ 1000000) : keyOf Try.prog 3 (.int .i64 n) = some (kN n) := keyOf_int_mk Try.underlying3 (kN_wf h0 h1)
theorem kN_key (n : Int) : WideAt.IsKeyLit (kN n) := by trivial
theorem kN_ne {a b : Int} (h : a ≠ b) : kN a ≠ kN b := fun e => h (by injection e)
abbrev st0 : St := ⟨0, -1, z34⟩
abbrev cs0 : List Value := [.int .i64 (-1), .int .i64 0, .string ⟨#[]⟩, .slice none 0 0, .string ⟨#[]⟩, .slice none 0 0]
theorem fk0 (w : World) (ok : Nat → Prop) : Kd.FK kS w ok ⟨-1, z34⟩ cs0 := fun W _ =>
  ⟨[.int .i64 (-1)], [.int .i64 0, .string ⟨#[]⟩, .slice none 0 0, .string ⟨#[]⟩, .slice none 0 0], rfl, rfl, k34_mk W z34 (Nat.le_refl _) (Kd.C_nil _ W) (Nat.le_refl _) (Kd.C_nil _ W)⟩
theorem map0 (w : World) (ok : Nat → Prop) (bm : Nat) (h : w.ownsMap Try.prog 3 heldE bm 1 ((DataW.map []).put (kN 0) (.held (.agg cs0.toArray)))) : MapAt ok bm w ((DataW.map []).put (kN 0) (.held (.agg cs0.toArray))) [st0] := by
  refine ⟨⟨1, by omega, h⟩, fun n => ?_, ?_, fun x hx => ?_⟩
  · by_cases hn : n = 0
    · subst hn; rw [has_put_same isMap_empty (kN_key 0)]; rfl
    · rw [has_put_other (kN_ne hn)]
      simp [Maps.has, List.any_cons]
      omega
  · rw [size_put tidy_empty]; rfl
  · obtain rfl := List.mem_singleton.1 hx
    exact ⟨cs0, fun z => atKey_put_same isMap_empty (kN_key 0) _ z, fk0 w ok⟩
set_option maxHeartbeats 8000000 in
theorem new_ok (depth : Int) (h1 : 1 ≤ depth) (h2 : depth ≤ 64) (w : World) :
    Calls Try.prog 9 #[.int .i64 depth] w fun e w' => ∃ g bm, e = .returned (.pointer (some ⟨g, 0, none⟩)) ∧ HistAt w.heap.size (hb g bm) g bm w' [st0] 0 1 depth ∧ Below w.heap.size w w' := by
  have d1 : decide (depth < 1) = false := decide_eq_false (by omega)
  have d2 : decide (depth > 64) = false := decide_eq_false (by omega)
  have d3 : decide (64 < depth) = false := decide_eq_false (by omega)
  have hmm := @run_makeMap Try.prog
  have HM0 := aM (World.ownsMap_made w Try.prog 3 heldE)
  have HB0 := aM ((Below.refl w.heap.size w).alloc (Nat.le_refl _) (.map #[] 0))
  go_enter Try.func9, Try.ntmps9
  go_wp2_with (first
    | (refine wpList_insert_in _ rfl _ _ _ 65 rfl 3 74 lawK Try.underlying65 heldE w.heap.size 0 (.map []) rfl HM0.out (by decide) (.int .i64 0) (.agg cs0.toArray) (kN 0) rfl rfl (hkN (by omega) (by omega)) (.held (.agg cs0.toArray)) [] rfl ?_; intro w1 hown1 hturn1; have HM1 := aM hown1; have HB1 := aM (HB0.out.grown hturn1.grown (by simp) (fun k hk => by cases hk; exact Nat.le_refl _)); clear hown1 hturn1)
    | ((with_reducible refine gate_dst (N := 14) rfl ?_); refine box_event ?hg (N := 14) ?hd (cs := #[.map (some w.heap.size), .int .i64 0, .int .i64 0, .int .i64 1, .int .i64 depth]) (t := 67) ?hr ?_; (case hd => rfl); (case hg => rfl); (case hr => first | (go_simp; done) | (go_simp; rfl)); intro g hg w2 hbox hb; have HB2 := aM (bP HB1.out hb); have HX2 := aM hbox; have HM2 := aM (show w2.ownsMap Try.prog 3 heldE w.heap.size 1 _ from HM1.out.kept (grown_of_below hb none) (by simp)); have HG := aM (show w.heap.size ≤ g from by have := HB1.out.size; omega); clear hb hbox hg)
    )
  go_ret
  exact ⟨g, w.heap.size, rfl, ⟨⟨0, HX2.out⟩, ⟨_, map0 _ _ _ HM2.out⟩, .inl rfl, .inr rfl, HG.out, Nat.le_refl _⟩, HB2.out⟩
end Go.Proofs.Ytbbgpfjeobdogaa.PB
end

section
namespace Go.Proofs.Ytbbgpfjeobdogaa.PB
open Go.RowKit Go.Proofs.YtbbgpfjeobdogaaW.PrintWords Go.Proofs.YtbbgpfjeobdogaaW.PrintLast Go.Proofs.YtbbgpfjeobdogaaW.PrintMore
attribute [local go_sem] max2_int min2_int max_two min_two max_three min_three max_four min_four   
set_option linter.unusedVariables false
set_option linter.unusedSimpArgs false
def slices_Reverse_int_int.l0 : Nat → List Int → Int → Int → Option (List Int)
 | 0, _, _, _ => none
 | k + 1, x0, x2, x3 => if x2 < x3 then (if 0 ≤ x3 then (if x3 < (x0.length : Int) then (if 0 ≤ x2 then (if x2 < (x0.length : Int) then (slices_Reverse_int_int.l0 k ((x0.set (x2 : Int).toNat (rd x0 x3)).set (x3 : Int).toNat (rd x0 x2)) (wrap64 (x2 + 1)) (wrap64 (x3 - 1))) else (none)) else (none)) else (none)) else (none)) else (some x0)
def slices_Reverse_int_int.f (k : Nat) (l0 : List Int) : Option (List Int) := slices_Reverse_int_int.l0 k l0 0 (wrap64 ((l0.length : Int) - 1))
def slices_Reverse_int_int.T3 : Bool × List (List Nat × List Nat) := (true, [([], []), ([], []), ([], []), ([], []), ([], []), ([], []), ([4, 5], [4, 5]), ([6], [6]), ([], []), ([], []), ([8, 9], [8, 9]), ([10], [10]), ([0, 1, 0, 1, 4, 5, 6, 7, 11], [0, 1]), ([12, 7, 0, 1, 4, 5, 6, 7, 11], [7, 12]), ([2, 3, 0, 1, 2, 3, 4, 5, 6, 7, 8, 9, 10, 11, 12, 13], [2, 3]), ([14, 11, 13, 0, 1, 2, 3, 4, 5, 6, 7, 8, 9, 10, 11, 12, 13], [11, 14])])
def slices_Reverse_int_int.B3 : List Nat := [0, 0, 0, 0, 0, 0, 48, 112, 0, 0, 768, 1792, 4083, 8179, 16383, 32767]
theorem slices_Reverse_int_int.tab3 : rtab .any (opsOf Try.f41 3) = slices_Reverse_int_int.T3 := by kernel_rfl
theorem slices_Reverse_int_int.bits3 : waitsOk slices_Reverse_int_int.T3.2 slices_Reverse_int_int.B3 = true := by kernel_rfl
set_option maxHeartbeats 8000000 in
set_option maxRecDepth 100000 in
theorem slices_Reverse_int_int.calls (k : Nat) (P0_ : Nat → Prop) (u9000_ : Value) (l0 : List Int) (r : List Int) (w0 w : World) (hB : Below w0.heap.size w0 w) (ho0 : Kd.R (Kd.int .i64) 3 w w0.heap.size P0_ u9000_ l0) (h : slices_Reverse_int_int.f k l0 = some r) :
  Calls Try.prog 41 #[u9000_] w fun e w' => e = .returned (.tuple #[]) ∧ Kd.R (Kd.int .i64) 3 w' w0.heap.size (fun k_ => (P0_ k_ ∨ w.heap.size ≤ k_)) u9000_ r ∧ Below w0.heap.size w0 w' ∧ Kept w w' (fun k_ => P0_ k_) := by
 have HO0 := aM (show Kd.R (Kd.int .i64) 3 w w0.heap.size (fun k_ => (P0_ k_ ∨ w.heap.size ≤ k_)) u9000_ l0 from rM ho0 (fun k_ hk => (.inl hk)))
 have HK := aM (Kept.refl w (fun k_ => P0_ k_))
 have HW0 := aM hB.size
 have HB := aM hB
 clear hB
 have H : (slices_Reverse_int_int.l0 k l0 0 (wrap64 ((l0.length : Int) - 1))) = some r := h
 clear h
 have H' := aM H
 clear H
 obtain ⟨Ao2, co2, eo2⟩ := Kd.R_slice HO0.out
 subst eo2
 go_enter Try.func41, Try.ntmps41
 go_wp2
 go_loopg [2, 3] k (fun kq v2 v3 w' => ∃ (x0_1 : List Int) (x2_1 : Int) (x3_1 : Int), v2 = .int .i64 x2_1 ∧ v3 = .int .i64 x3_1 ∧ Aside0 (slices_Reverse_int_int.l0 kq x0_1 x2_1 x3_1 = some r) ∧ Aside0 (kq ≤ k) ∧ Aside0 (Kd.R (Kd.int .i64) 3 w' w0.heap.size (fun k_ => (P0_ k_ ∨ w.heap.size ≤ k_)) (.slice Ao2 l0.length co2) x0_1) ∧ Aside0 (Kept w w' (fun k_ => P0_ k_)) ∧ Aside0 (Below w0.heap.size w0 w'))
 case atStart => exact ⟨(l0), (0), (wrap64 ((l0.length : Int) - 1)), (by first | rfl | (simp; done) | (simp [*]; done)), (by first | rfl | (simp; done) | (simp [*]; done)), H', ⟨Nat.le_refl _⟩, ⟨by exact ry HO0.out⟩, ⟨by repeat (first | (with_reducible first | exact HK.out | apply Kept.alloc | apply Kept.drewN | apply Kept.drew) | exact HK.out)⟩, ⟨by exact ey HB.out⟩⟩
 case round =>
  clear H'
  try clear p2
  obtain ⟨x0_1, x2_1, x3_1, rfl, rfl, HA, HK1, HO_0, HK, HB⟩ := hrel
  have hl0_1 := (rR HO_0.out).1
  rw [hl0_1] at HO_0
  (try simp only [hl0_1])
  cases gk with
  | zero => exact absurd HA.out (by simp [slices_Reverse_int_int.l0])
  | succ k1 =>
   have H := HA.out
   clear HA
   simp only [slices_Reverse_int_int.l0] at H
   by_cases c3 : x2_1 < x3_1
   ·rw [if_pos c3] at H
    have c3b0 : decide (x2_1 < x3_1) = true := decide_eq_true c3
    clear c3
    by_cases c4 : 0 ≤ x3_1
    ·rw [if_pos c4] at H
     have c4b0 : decide (0 ≤ x3_1) = true := decide_eq_true c4
     clear c4
     by_cases c5 : x3_1 < (x0_1.length : Int)
     ·rw [if_pos c5] at H
      have c5b0 : decide (x3_1 < (x0_1.length : Int)) = true := decide_eq_true c5
      clear c5
      by_cases c6 : 0 ≤ x2_1
      ·rw [if_pos c6] at H
       have c6b0 : decide (0 ≤ x2_1) = true := decide_eq_true c6
       clear c6
       by_cases c7 : x2_1 < (x0_1.length : Int)
       ·rw [if_pos c7] at H
        have c7b0 : decide (x2_1 < (x0_1.length : Int)) = true := decide_eq_true c7
        clear c7
        obtain ⟨y113, hy113⟩ : ∃ y_ : List Int, y_ = (x0_1.set (x2_1 : Int).toNat (rd x0_1 x3_1)) := ⟨_, rfl⟩
        replace H : (slices_Reverse_int_int.l0 k1 (y113.set (x3_1 : Int).toNat (rd x0_1 x2_1)) (wrap64 (x2_1 + 1)) (wrap64 (x3_1 - 1))) = some r := by first | (rw [hy113]; with_reducible exact H) | (have H2_ := (Option.bind_some _ _).symm.trans H; rw [hy113]; with_reducible exact H2_) | (have H2_ := (Option.bind_some _ _).symm.trans H; with_reducible exact H2_) | with_reducible exact H | (rw [hy113]; exact H) | exact H
        have Ny113 := aM hy113
        clear hy113
        obtain ⟨y114, hy114⟩ : ∃ y_ : List Int, y_ = (y113.set (x3_1 : Int).toNat (rd x0_1 x2_1)) := ⟨_, rfl⟩
        replace H : (slices_Reverse_int_int.l0 k1 y114 (wrap64 (x2_1 + 1)) (wrap64 (x3_1 - 1))) = some r := by first | (rw [hy114]; with_reducible exact H) | (have H2_ := (Option.bind_some _ _).symm.trans H; rw [hy114]; with_reducible exact H2_) | (have H2_ := (Option.bind_some _ _).symm.trans H; with_reducible exact H2_) | with_reducible exact H | (rw [hy114]; exact H) | exact H
        have Ny114 := aM hy114
        clear hy114
        have H' := aM H
        clear H
        try go_wp2
        have n0_ := aM (Kd.R_drew HO_0.out)
        have n1_ := aM (Kept.drew HK.out)
        have n2_ := aM (below_drew1 HB.out)
        clear HO_0
        clear HK
        clear HB
        have HO_0 := n0_
        have HK := n1_
        have HB := n2_
        clear n0_ n1_ n2_
        have p111 : 0 ≤ (x3_1 : Int) := of_decide_eq_true (by first | (with_reducible assumption) | assumption)
        have q111 : x3_1 < (x0_1.length : Int) := of_decide_eq_true (by first | (with_reducible assumption) | assumption)
        obtain ⟨ad111, e111, hx111_0⟩ := Kd.at_int (rR HO_0.out).2.2 x3_1 p111 q111
        cases e111
        replace p111 := eq_true p111
        replace q111 := eq_true q111
        have p112 : 0 ≤ (x2_1 : Int) := of_decide_eq_true (by first | (with_reducible assumption) | assumption)
        have q112 : x2_1 < (x0_1.length : Int) := of_decide_eq_true (by first | (with_reducible assumption) | assumption)
        obtain ⟨ad112, e112, hx112_0⟩ := Kd.at_int (rR HO_0.out).2.2 x2_1 p112 q112
        obtain rfl : ad111 = ad112 := (by injection e112)
        replace p112 := eq_true p112
        replace q112 := eq_true q112
        have p8 : 0 ≤ (x2_1 : Int) := of_decide_eq_true (by first | (with_reducible assumption) | assumption)
        have q8 : (x2_1 : Int) < ((x0_1.length : Int) : Int) := of_decide_eq_true (by first | (with_reducible assumption) | assumption)
        obtain ⟨go8, co8, eo8, gb8, gl8, cl8, HG8⟩ := Kd.R_form HO_0.out (by omega)
        (first | cases eo8 | (injection eo8 with ea_ en_ ec_; (first | subst ea_ | (injection ea_ with ea_; subst ea_)); subst ec_; clear en_))
        have GB8 := aM gb8
        have GG8 := aM HG8
        clear gb8 gl8 HG8
        have HMgo8 := aM (show (P0_ go8 ∨ w.heap.size ≤ go8) from (HO_0.out.1 _ rfl))
        (first | simp only [add_plain] at hx111_0 | skip)
        (first | simp only [add_plain] at hx112_0 | skip)
        obtain ⟨hx8_0, hf8_0⟩ := Kd.R_celln 0 HO_0.out (x2_1 : Int) p8 q8
        replace p8 := eq_true p8
        replace q8 := eq_true q8
        have HP11 := Kd.R_putn HO_0.out (x2_1 : Int) (rd x0_1 x3_1)
        rw [← Ny113.out] at HP11
        have HQ11 := aM HP11
        clear HP11
        have p9 : 0 ≤ (x3_1 : Int) := of_decide_eq_true (by first | (with_reducible assumption) | assumption)
        have q9 : (x3_1 : Int) < ((x0_1.length : Int) : Int) := of_decide_eq_true (by first | (with_reducible assumption) | assumption)
        obtain ⟨hx9_0, hf9_0⟩ := Kd.R_celln 0 HQ11.out (x3_1 : Int) p9 q9
        replace p9 := eq_true p9
        replace q9 := eq_true q9
        have HP12 := Kd.R_putn HQ11.out (x3_1 : Int) (rd x0_1 x2_1)
        rw [← Ny114.out] at HP12
        have HQ12 := aM HP12
        clear HP12
        refine start_ (n := 16) (S := fun w' => w'.cell? ⟨go8, (x3_1).toNat, none⟩ = some (.int .i64 (rd x0_1 x3_1)) ∧ w'.cell? ⟨go8, (x2_1).toNat, none⟩ = some (.int .i64 (rd x0_1 x2_1))) (ds := [13, 15]) b0_ (by kernel_rfl) rfl rfl ⟨hx111_0, hx112_0⟩ (fun hHeld => ?_); refine with_tabW slices_Reverse_int_int.tab3 slices_Reverse_int_int.bits3 (fun HT_ HW_ => ?_)
        generalize wr.drew = w10 at HO_0 HK HB GG8 HQ11 HQ12 hf8_0 hf9_0 hx111_0 hx112_0 hx8_0 hx9_0 hHeld ⊢
        refine pure_ (i := 0) (N := some 14) (v := ?_) (a' := ?_) b1_ rfl rfl (any_of HT_.out (by kernel_rfl)) (fun _ _ _ h => h) (Or.inl ⟨by rfl, ?_⟩) ?_ ?_
        rotate_left
        ·intro w'
         go_simp
         with_reducible rfl
        rotate_left
        ·simp only [Act.put, sA, sZ, sS, i64_w, i32_w]
         rfl
        refine pure_ (i := 1) (N := some 15) (v := ?_) (a' := ?_) b2_ rfl rfl (any_of HT_.out (by kernel_rfl)) (fun _ _ _ h => h) (Or.inl ⟨by rfl, ?_⟩) ?_ ?_
        rotate_left
        ·intro w'
         go_simp
         with_reducible rfl
        rotate_left
        ·simp only [Act.put, sA, sZ, sS, i64_w, i32_w]
         rfl
        refine pure_ (i := 2) (N := some 16) (v := ?_) (a' := ?_) b3_ rfl rfl (any_of HT_.out (by kernel_rfl)) (fun _ _ _ h => h) (Or.inl ⟨by rfl, ?_⟩) ?_ ?_
        rotate_left
        ·intro w'
         go_simp
         with_reducible rfl
        rotate_left
        ·simp only [Act.put, sA, sZ, sS, i64_w, i32_w]
         rfl
        refine pure_ (i := 3) (N := some 17) (v := ?_) (a' := ?_) b4_ rfl rfl (any_of HT_.out (by kernel_rfl)) (fun _ _ _ h => h) (Or.inl ⟨by rfl, ?_⟩) ?_ ?_
        rotate_left
        ·intro w'
         go_simp
         with_reducible rfl
        rotate_left
        ·simp only [Act.put, sA, sZ, sS, i64_w, i32_w]
         rfl
        refine pure_ (i := 4) (N := some 18) (v := ?_) (a' := ?_) b5_ rfl rfl (any_of HT_.out (by kernel_rfl)) (fun _ _ _ h => h) (Or.inl ⟨by rfl, ?_⟩) ?_ ?_
        rotate_left
        ·intro w'
         go_simp
         with_reducible rfl
        rotate_left
        ·simp only [Act.put, sA, sZ, sS, i64_w, i32_w]
         rfl
        refine pure_ (i := 5) (N := some 19) (v := ?_) (a' := ?_) b6_ rfl rfl (any_of HT_.out (by kernel_rfl)) (fun _ _ _ h => h) (Or.inl ⟨by rfl, ?_⟩) ?_ ?_
        rotate_left
        ·intro w'
         go_simp
         with_reducible rfl
        rotate_left
        ·simp only [Act.put, sA, sZ, sS, i64_w, i32_w]
         rfl
        refine pure_ (i := 6) (N := some 20) (v := ?_) (a' := ?_) b7_ rfl rfl (any_of HT_.out (by kernel_rfl)) (fun _ _ _ h => h) (Or.inl ⟨by rfl, ?_⟩) ?_ ?_
        rotate_left
        ·intro w'
         go_simp
         with_reducible rfl
        rotate_left
        ·simp only [Act.put, sA, sZ, sS, i64_w, i32_w]
         rfl
        refine pure_ (i := 8) (N := some 22) (v := ?_) (a' := ?_) b8_ rfl rfl (any_of HT_.out (by kernel_rfl)) (fun _ _ _ h => h) (Or.inl ⟨by rfl, ?_⟩) ?_ ?_
        rotate_left
        ·intro w'
         go_simp
         with_reducible rfl
        rotate_left
        ·simp only [Act.put, sA, sZ, sS, i64_w, i32_w]
         rfl
        refine pure_ (i := 9) (N := some 23) (v := ?_) (a' := ?_) b9_ rfl rfl (any_of HT_.out (by kernel_rfl)) (fun _ _ _ h => h) (Or.inl ⟨by rfl, ?_⟩) ?_ ?_
        rotate_left
        ·intro w'
         go_simp
         with_reducible rfl
        rotate_left
        ·simp only [Act.put, sA, sZ, sS, i64_w, i32_w]
         rfl
        refine pure_ (i := 10) (N := some 24) (v := ?_) (a' := ?_) b10_ rfl rfl (any_of HT_.out (by kernel_rfl)) (fun _ _ _ h => h) (Or.inl ⟨by rfl, ?_⟩) ?_ ?_
        rotate_left
        ·intro w'
         go_simp
         with_reducible rfl
        rotate_left
        ·simp only [Act.put, sA, sZ, sS, i64_w, i32_w]
         rfl
        refine take_ (i := 7) (N := some 21) (v := ?_) (a' := ?_) b11_ rfl rfl (take_ofW HT_.out HW_.out (by kernel_rfl)) (fun _ _ _ h => h) (Or.inl ⟨by rfl, ?_⟩) hHeld ?_ ?_
        rotate_left
        ·rintro w' ⟨s0, s1⟩
         go_simp
         with_reducible rfl
        rotate_left
        ·simp only [Act.put, sA, sZ, sS, i64_w, i32_w]
         rfl
        refine take_ (i := 11) (N := some 25) (v := ?_) (a' := ?_) b12_ rfl rfl (take_ofW HT_.out HW_.out (by kernel_rfl)) (fun _ _ _ h => h) (Or.inl ⟨by rfl, ?_⟩) hHeld ?_ ?_
        rotate_left
        ·rintro w' ⟨s0, s1⟩
         go_simp
         with_reducible rfl
        rotate_left
        ·simp only [Act.put, sA, sZ, sS, i64_w, i32_w]
         rfl
        refine pure_ (i := 12) (N := some 26) (v := ?_) (a' := ?_) b13_ rfl rfl (any_of HT_.out (by kernel_rfl)) (fun _ _ _ h => h) (Or.inl ⟨by rfl, ?_⟩) ?_ ?_
        rotate_left
        ·intro w'
         go_simp
         with_reducible rfl
        rotate_left
        ·simp only [Act.put, sA, sZ, sS, i64_w, i32_w]
         rfl
        refine last_ (i := 13) (N := none) b14_ rfl rfl (one_of HT_.out (by kernel_rfl)) (by decide) (fun K hK => ?_)
        refine skip_ (w1 := ?_) (by rfl) rfl ?_ ?_
        rotate_left
        ·go_simp
         rfl
        refine hK.out _ _ ?_
        clear hK K
        refine pure_ (i := 14) (N := some 27) (v := ?_) (a' := ?_) b15_ rfl rfl (any_of HT_.out (by kernel_rfl)) (fun _ _ _ h => h) (Or.inl ⟨by rfl, ?_⟩) ?_ ?_
        rotate_left
        ·intro w'
         go_simp
         with_reducible rfl
        rotate_left
        ·simp only [Act.put, sA, sZ, sS, i64_w, i32_w]
         rfl
        refine last_ (i := 15) (N := none) b16_ rfl rfl (one_of HT_.out (by kernel_rfl)) (by decide) (fun K hK => ?_)
        refine skip_ (w1 := ?_) (by rfl) rfl ?_ ?_
        rotate_left
        ·go_simp
         rfl
        refine hK.out _ _ ?_
        clear hK K
        refine done_ (done_of HT_.out (by kernel_rfl)) ?_
        try go_wp2
        (try simp only [← hl0_1])
        go_roundg k1
        case measure => have := HK1.out; omega
        case rel => exact ⟨(y114), (wrap64 (x2_1 + 1)), (wrap64 (x3_1 - 1)), (by first | rfl | (simp; done) | (simp [*]; done)), (by first | rfl | (simp; done) | (simp [*]; done)), H', ⟨by have := HK1.out; omega⟩, ⟨by (try simp only [hl0_1]); exact ry HQ12.out⟩, ⟨by repeat (first | (with_reducible first | exact HK.out | apply Kept.alloc | apply Kept.drewN | apply Kept.drew | refine Kept.setCell ?_ HMgo8.out _ | refine Kept.setCell ?_ HMgo8.out _) | exact HK.out)⟩, ⟨by repeat (first | (with_reducible first | exact HB.out | apply ea | apply en | apply ed | refine es ?_ GB8.out | refine es ?_ GB8.out) | exact HB.out)⟩⟩
       ·rw [if_neg c7] at H
        exact absurd H (by simp)
      ·rw [if_neg c6] at H
       exact absurd H (by simp)
     ·rw [if_neg c5] at H
      exact absurd H (by simp)
    ·rw [if_neg c4] at H
     exact absurd H (by simp)
   ·rw [if_neg c3] at H
    have c3b0 : decide (x2_1 < x3_1) = false := decide_eq_false c3
    clear c3
    obtain rfl := Option.some.inj H
    go_wp2
    first | go_end0 | ((try simp only [Exit.inBlock, Exit.then]); refine bodyPost_ret (results_none rfl _ _ _) rfl ?_)
    exact ⟨by first | rfl | (simp [errW_none, errW_some] <;> rfl) | (simp [*, errW_none, errW_some] <;> rfl), (by first | exact (ry HO_0.out) | (simp only [hl0_1]; exact (ry HO_0.out))), by exact ey HB.out, by repeat (first | (with_reducible first | exact HK.out | apply Kept.alloc | apply Kept.drewN | apply Kept.drew) | exact HK.out)⟩
end Go.Proofs.Ytbbgpfjeobdogaa.PB
end

section
namespace Go.Proofs
open Go.Shelf
def Try.lays189_ren : Go.Shelf.Ren := ⟨fun | 189 => 40 | 125 => 53 | 257 => 52 | 128 => 72 | 129 => 73 | 294 => 63 | 295 => 64 | 296 => 65 | 297 => 66 | 298 => 67 | 299 => 68 | 216 => 69 | 300 => 70 | 301 => 71 | 328 => 81 | 329 => 82 | 330 => 83 | 331 => 84 | 332 => 85 | 215 => 86 | 343 => 88 | n => n, fun | 28 => 50 | 3 => 3 | 46 => 96 | 0 => 0 | 51 => 115 | 53 => 68 | 4 => 4 | 183 => 107 | 182 => 106 | 131 => 112 | 5 => 5 | 9 => 9 | 218 => 122 | 222 => 126 | 228 => 129 | 229 => 130 | n => n, fun | n => n⟩
theorem Try.lays189 : Go.Proofs.Lays.n189 Try.prog Try.lays189_ren := {
  mixed := by kernel_rfl
  f125 := Try.func53.trans (congrArg some (by kernel_rfl))
  f128 := Try.func72.trans (congrArg some (by kernel_rfl))
  f129 := Try.func73.trans (congrArg some (by kernel_rfl))
  f189 := Try.func40.trans (congrArg some (by kernel_rfl))
  f215 := Try.func86.trans (congrArg some (by kernel_rfl))
  f216 := Try.func69.trans (congrArg some (by kernel_rfl))
  f257 := Try.func52.trans (congrArg some (by kernel_rfl))
  f294 := Try.func63.trans (congrArg some (by kernel_rfl))
  f295 := Try.func64.trans (congrArg some (by kernel_rfl))
  f296 := Try.func65.trans (congrArg some (by kernel_rfl))
  f297 := Try.func66.trans (congrArg some (by kernel_rfl))
  f298 := Try.func67.trans (congrArg some (by kernel_rfl))
  f299 := Try.func68.trans (congrArg some (by kernel_rfl))
  f300 := Try.func70.trans (congrArg some (by kernel_rfl))
  f301 := Try.func71.trans (congrArg some (by kernel_rfl))
  f328 := Try.func81.trans (congrArg some (by kernel_rfl))
  f329 := Try.func82.trans (congrArg some (by kernel_rfl))
  f330 := Try.func83.trans (congrArg some (by kernel_rfl))
  f331 := Try.func84.trans (congrArg some (by kernel_rfl))
  f332 := Try.func85.trans (congrArg some (by kernel_rfl))
  f343 := Try.func88.trans (congrArg some (by kernel_rfl))
  t0 := Try.underlying0
  a0 := Try.isAgg0
  z0 := Try.sizeOf0
  v0 := Try.zeroValue0
  t3 := Try.underlying3
  a3 := Try.isAgg3
  z3 := Try.sizeOf3
  v3 := Try.zeroValue3
  t4 := Try.underlying4
  a4 := Try.isAgg4
  z4 := Try.sizeOf4
  v4 := Try.zeroValue4
  t5 := Try.underlying5
  a5 := Try.isAgg5
  z5 := Try.sizeOf5
  v5 := Try.zeroValue5
  t9 := Try.underlying9
  a9 := Try.isAgg9
  z9 := Try.sizeOf9
  v9 := Try.zeroValue9
  t28 := Try.underlying50
  a28 := Try.isAgg50
  z28 := Try.sizeOf50
  v28 := Try.zeroValue50
  t46 := Try.underlying96
  a46 := Try.isAgg96
  z46 := Try.sizeOf96
  v46 := Try.zeroValue96
  t51 := Try.underlying115
  a51 := Try.isAgg115
  z51 := Try.sizeOf115
  v51 := Try.zeroValue115
  t53 := Try.underlying68
  a53 := Try.isAgg68
  z53 := Try.sizeOf68
  v53 := Try.zeroValue68
  t131 := Try.underlying112
  a131 := Try.isAgg112
  z131 := Try.sizeOf112
  v131 := Try.zeroValue112
  t182 := Try.underlying106
  a182 := Try.isAgg106
  z182 := Try.sizeOf106
  v182 := Try.zeroValue106
  t183 := Try.underlying107
  a183 := Try.isAgg107
  z183 := Try.sizeOf107
  v183 := Try.zeroValue107
  t218 := Try.underlying122
  a218 := Try.isAgg122
  z218 := Try.sizeOf122
  v218 := Try.zeroValue122
  t222 := Try.underlying126
  a222 := Try.isAgg126
  z222 := Try.sizeOf126
  v222 := Try.zeroValue126
  t228 := Try.underlying129
  a228 := Try.isAgg129
  z228 := Try.sizeOf129
  v228 := Try.zeroValue129
  t229 := Try.underlying130
  a229 := Try.isAgg130
  z229 := Try.sizeOf130
  v229 := Try.zeroValue130 }
open Go.Sort Go.RowKit in
theorem Try.slices_Sort_int (blk off cap : Nat) (zs : List Int) (w : World) (hH : Holds (Value.int .i64) w blk off zs.toArray) (hblk : blk < w.heap.size) (hsz : zs.length < 4611686018427387904) :
    Calls Try.prog 40 #[.slice (some ⟨blk, off, none⟩) zs.length cap] w fun e w' =>
      e = .returned (.tuple #[]) ∧ ∃ n os, w' = grow (putRow (Value.int .i64) (Sort.ahead w n) blk off (zs.mergeSort fun x y => decide (x ≤ y)).toArray) os := Any.slices_Sort_int Try.lays189 blk off cap zs w hH hblk hsz
end Go.Proofs
end

section
namespace Go.Proofs.Ytbbgpfjeobdogaa.PB
open Go.RowKit Go.Maps Go.Proofs.YtbbgpfjeobdogaaW.PrintWords Go.Proofs.YtbbgpfjeobdogaaW.PrintLast Go.Proofs.YtbbgpfjeobdogaaW.PrintMore
set_option maxRecDepth 100000
set_option linter.unusedVariables false
set_option linter.unusedSimpArgs false
section
variable {P : Program} (w : World) {ops : Array Oper} {rest : List Oper} {o : Oper} {a : Act} {Q : Exit → Act → World → Prop}
theorem wpList_lookup_eq (hg : o.guard = none) (m x : Operand) (t : TypeId) (c : Bool) (hop : o.op = Op.lookup t m x c) (mv key v : Value) (hm : a.eval m = mv) (hx : a.eval x = key)
    (hrun : (Instr.lookup t mv key c).run P w = .ok v w) (hK : wpList P ops Q rest (a.put o.dst v) w) : wpList P ops Q (o :: rest) a w := by
  refine wpList_plain hg fun K' hK' => ?_
  unfold Oper.wp
  simp [execOp, hop, hm, hx, hrun, Result.andThen]
  exact hK' _ _ hK
end
theorem look_run (c : Bool) {bm n : Nat} {w : World} {D : DataW Value} (h : w.ownsMap Try.prog 3 heldE bm n D) {k : Int} (h0 : -1 ≤ k) (h1 : k ≤ 1000000) {v : Value} (hv : D.atKey (kN k) (.held zSt) = .held v) :
    (Instr.lookup 65 (.map (some bm)) (.int .i64 k) c).run Try.prog w = .ok (if c then .tuple #[v, .bool (Maps.has D (kN k))] else v) w := by
  obtain ⟨es, clock, hb, F, _, rfl⟩ := h
  rcases Maps.fit_look c lawK Try.underlying65 (zeroE w) hb F (hkN h0 h1) with ⟨hrun, _, hat⟩ | ⟨e0, y, _, _, hrun, hRv, hat, _⟩
  · rw [hat] at hv
    injection hv with hv
    subst hv
    rw [Maps.has_false_of_atKey hat]
    exact hrun
  · rw [hat] at hv
    have : e0.val = v := by
      unfold heldE at hRv
      injection hRv with hRv
      rw [← hRv] at hv
      injection hv
    subst this
    rw [Maps.has_true_of_atKey hat]
    exact hrun
def Cells (ok : Nat → Prop) (w : World) (D : DataW Value) (x : St) (cs : List Value) : Prop := (∀ z, D.atKey (kN x.f0) z = .held (.agg cs.toArray)) ∧ Kd.FK kS w ok ⟨x.f1, x.f2⟩ cs
theorem cells_open {ok : Nat → Prop} {w : World} {x : S74} {cs : List Value} (h : Kd.FK kS w ok x cs) : ∃ A3 c3 A5 c5, cs = [.int .i64 x.f0, .int .i64 x.f1.f0, .string x.f1.f1.f0, .slice A3 x.f1.f1.f1.length c3, .string x.f1.f2.f0, .slice A5 x.f1.f2.f1.length c5] ∧ x.f1.f1.f1.length ≤ c3 ∧ Kd.F k71 w ok A3 x.f1.f1.f1.length x.f1.f1.f1 ∧ x.f1.f2.f1.length ≤ c5 ∧ Kd.F k71 w ok A5 x.f1.f2.f1.length x.f1.f2.f1 := k74_openF h
theorem look_in {c : Bool} {ok : Nat → Prop} {bm : Nat} {w : World} {D : DataW Value} {L : List St} (h : MapAt ok bm w D L) {x : St} (hx : x ∈ L) (h0 : -1 ≤ x.f0) (h1 : x.f0 ≤ 1000000) {cs : List Value} (hcs : Cells ok w D x cs) :
    (Instr.lookup 65 (.map (some bm)) (.int .i64 x.f0) c).run Try.prog w = .ok (if c then .tuple #[.agg cs.toArray, .bool true] else .agg cs.toArray) w := by
  obtain ⟨n, _, ho⟩ := h.own
  have := look_run c ho h0 h1 (hcs.1 _)
  rw [h.has, List.any_eq_true.2 ⟨x, hx, by simp⟩] at this
  exact this
theorem look_out {c : Bool} {ok : Nat → Prop} {bm : Nat} {w : World} {D : DataW Value} {L : List St} (h : MapAt ok bm w D L) {k : Int} (hk : ∀ x ∈ L, x.f0 ≠ k) (h0 : -1 ≤ k) (h1 : k ≤ 1000000) :
    (Instr.lookup 65 (.map (some bm)) (.int .i64 k) c).run Try.prog w = .ok (if c then .tuple #[zSt, .bool false] else zSt) w := by
  obtain ⟨n, _, ho⟩ := h.own
  have hf : Maps.has D (kN k) = false := by
    rw [h.has, List.any_eq_false]
    intro x hx
    simpa using hk x hx
  have := look_run c ho h0 h1 (v := zSt) (atKey_of_not_has hf _)
  rw [hf] at this
  exact this
theorem field_up (a b c d e f : Value) (w : World) : (Instr.field 74 (.agg #[a, b, c, d, e, f]) 0).run Try.prog w = .ok a w := by kernel_rfl
def upL (L : List St) : Nat → Int → List Int
  | 0, _ => []
  | k + 1, n => if n < 0 then [] else n :: upL L k (((L.find? (fun x => x.f0 == n)).map (fun x => x.f1)).getD (-1))
structure Wf (L : List St) (now next : Int) : Prop where
  inc : L.Pairwise (fun x y => x.f0 < y.f0)
  low : ∀ x ∈ L, 0 ≤ x.f0 ∧ x.f0 < next ∧ -1 ≤ x.f1 ∧ x.f1 < x.f0
  up : ∀ x ∈ L, x.f1 < 0 ∨ ∃ y ∈ L, y.f0 = x.f1
  now : ∃ x ∈ L, x.f0 = now
  top : next ≤ 1000
  len : L.length ≤ 100
  fit : ∀ x ∈ L, x.f2.f1.f1.length ≤ 100000 ∧ x.f2.f2.f1.length ≤ 100000
theorem find_mem {L : List St} (hs : L.Pairwise (fun x y => x.f0 < y.f0)) {x : St} (hx : x ∈ L) : L.find? (fun y => y.f0 == x.f0) = some x := by
  induction L with
  | nil => cases hx
  | cons y L ih =>
    rw [List.find?_cons]
    rcases List.mem_cons.1 hx with rfl | hx
    · simp
    · have := List.rel_of_pairwise_cons hs hx
      have hne : (y.f0 == x.f0) = false := by simp; omega
      rw [hne]
      exact ih (List.Pairwise.of_cons hs) hx
end Go.Proofs.Ytbbgpfjeobdogaa.PB
end

section
namespace Go.Proofs.Ytbbgpfjeobdogaa.PB
open Go.RowKit Go.Maps Go.Proofs.YtbbgpfjeobdogaaW.PrintWords
set_option linter.unusedVariables false
set_option linter.unusedSimpArgs false
def stays (n : Int) (out : List St) (x : St) : Bool := x.f0 == n || out.any (fun y => y.f0 == x.f1)
def keepL (n : Int) (L : List St) : List St := L.foldl (fun out x => if stays n out x then out ++ [x] else out) []
def rootL (n : Int) (L : List St) : List St := L.map (fun x => if x.f0 == n then ⟨x.f0, -1, x.f2⟩ else x)
def belowL (n : Int) (L : List St) : List St := rootL n (keepL n L)
theorem keepL_snoc (n : Int) (L : List St) (x : St) : keepL n (L ++ [x]) = if stays n (keepL n L) x then keepL n L ++ [x] else keepL n L := by
  unfold keepL
  rw [List.foldl_append]
  rfl
theorem keepL_sub (n : Int) (L : List St) : (keepL n L).Sublist L := by
  suffices h : ∀ (R P : List St), (keepL n P).Sublist P → (keepL n (P ++ R)).Sublist (P ++ R) from by
    have := h L [] (by simp [keepL])
    simpa using this
  intro R
  induction R with
  | nil => intro P h; simpa using h
  | cons x R ih =>
    intro P h
    have := ih (P ++ [x]) (by
      rw [keepL_snoc]
      split
      · exact h.append_right [x] |>.trans (List.Sublist.refl _)
      · exact h.trans (List.sublist_append_left _ _))
    simpa [List.append_assoc] using this
end Go.Proofs.Ytbbgpfjeobdogaa.PB
end

section
namespace Go.Proofs.Ytbbgpfjeobdogaa.PB
open Go.Proofs.YtbbgpfjeobdogaaW.PrintWords
theorem Ev.pos {α : Type} {c : Prop} [Decidable c] {A B : Nat → Option α} {r : α} (h : c) (k : Ev A r) : Ev (fun n => if c then A n else B n) r := by
  obtain ⟨K, hK⟩ := k
  exact ⟨K, fun n hn => by show (if c then A n else B n) = _; rw [if_pos h]; exact hK n hn⟩
theorem Ev.neg {α : Type} {c : Prop} [Decidable c] {A B : Nat → Option α} {r : α} (h : ¬ c) (k : Ev B r) : Ev (fun n => if c then A n else B n) r := by
  obtain ⟨K, hK⟩ := k
  exact ⟨K, fun n hn => by show (if c then A n else B n) = _; rw [if_neg h]; exact hK n hn⟩
theorem Ev.ite {α : Type} {c : Prop} [Decidable c] {A B : Nat → Option α} {r s : α} (h1 : c → Ev A r) (h2 : ¬ c → Ev B s) : Ev (fun n => if c then A n else B n) (if c then r else s) := by
  by_cases h : c
  · rw [if_pos h]; exact Ev.pos h (h1 h)
  · rw [if_neg h]; exact Ev.neg h (h2 h)
theorem ev_val {α : Type} {g : Nat → Option α} {a b : α} (h : Ev g a) (e : a = b) : Ev g b := e ▸ h
end Go.Proofs.Ytbbgpfjeobdogaa.PB
end

section
namespace Go.Proofs.Ytbbgpfjeobdogaa.PB
open Go.RowKit Go.Proofs.YtbbgpfjeobdogaaW.PrintWords
set_option linter.unusedVariables false
set_option linter.unusedSimpArgs false
theorem getD_set (l : List Int) (i : Nat) (x : Int) (p : Nat) (hi : i < l.length) : (l.set i x).getD p 0 = if p = i then x else l.getD p 0 := by
  rw [List.getD_eq_getElem?_getD, List.getD_eq_getElem?_getD, List.getElem?_set]
  by_cases h : i = p
  · subst h; simp [hi]
  · rw [if_neg h, if_neg (fun e => h e.symm)]
theorem rev_loop (l : List Int) (hl : l.length ≤ 1000000) : ∀ (d i : Nat) (cur : List Int), i + d = l.length + 1 → cur.length = l.length → (∀ p, p < l.length → cur.getD p 0 = if p < i ∨ l.length ≤ p + i then l.getD (l.length - 1 - p) 0 else l.getD p 0) → Ev (fun k => slices_Reverse_int_int.l0 k cur (i : Int) ((l.length : Int) - 1 - i)) l.reverse := by
  have fin : ∀ (i : Nat) (cur : List Int), cur.length = l.length → (∀ p, p < l.length → cur.getD p 0 = if p < i ∨ l.length ≤ p + i then l.getD (l.length - 1 - p) 0 else l.getD p 0) → l.length ≤ 2 * i + 1 → cur = l.reverse := by
    intro i cur hc hp hi
    apply List.ext_getElem (by rw [hc, List.length_reverse])
    intro p h1 h2
    have := hp p (by omega)
    rw [List.getD_eq_getElem?_getD, List.getElem?_eq_getElem h1, Option.getD_some] at this
    rw [this, List.getElem_reverse]
    by_cases hh : p < i ∨ l.length ≤ p + i
    · rw [if_pos hh, List.getD_eq_getElem?_getD, List.getElem?_eq_getElem (by omega), Option.getD_some]
    · rw [if_neg hh, List.getD_eq_getElem?_getD, List.getElem?_eq_getElem (by omega), Option.getD_some]
      congr 1
      omega
  intro d
  induction d with
  | zero =>
    intro i cur hi hc hp
    refine Ev.step (fun k => by simp only [slices_Reverse_int_int.l0]; rfl) ?_
    exact Ev.neg (by omega) (ev_val (Ev.now _) (fin i cur hc hp (by omega)))
  | succ d ih =>
    intro i cur hi hc hp
    refine Ev.step (fun k => by simp only [slices_Reverse_int_int.l0]; rfl) ?_
    by_cases h : (i : Int) < (l.length : Int) - 1 - i
    · refine Ev.pos h (Ev.pos (by omega) (Ev.pos (by omega) (Ev.pos (by omega) (Ev.pos (by omega) ?_))))
      have e1 : wrap64 ((i : Int) + 1) = ((i + 1 : Nat) : Int) := by unfold wrap64; omega
      have e2 : wrap64 ((l.length : Int) - 1 - i - 1) = (l.length : Int) - 1 - ((i + 1 : Nat) : Int) := by unfold wrap64; omega
      have e3 : (((l.length : Int) - 1 - i).toNat) = l.length - 1 - i := by omega
      rw [e1, e2, Int.toNat_natCast, e3]
      refine ih (i + 1) _ (by omega) (by rw [List.length_set, List.length_set, hc]) (fun p hpl => ?_)
      have r1 : rd cur (i : Int) = cur.getD i 0 := by unfold rd; rw [Int.toNat_natCast]
      have r2 : rd cur ((l.length : Int) - 1 - i) = cur.getD (l.length - 1 - i) 0 := by unfold rd; rw [e3]
      rw [getD_set _ _ _ _ (by rw [List.length_set]; omega), getD_set _ _ _ _ (by omega), r1, r2, hp i (by omega), hp (l.length - 1 - i) (by omega), hp p hpl]
      by_cases p1 : p = l.length - 1 - i
      · subst p1
        rw [if_pos rfl, if_neg (by omega), if_pos (by omega)]
        congr 1
        omega
      · rw [if_neg p1]
        by_cases p2 : p = i
        · subst p2
          rw [if_pos rfl, if_neg (by omega), if_pos (by omega)]
        · rw [if_neg p2]
          by_cases p3 : p < i ∨ l.length ≤ p + i
          · rw [if_pos p3, if_pos (by omega)]
          · rw [if_neg p3, if_neg (by omega)]
    · exact Ev.neg h (ev_val (Ev.now _) (fin i cur hc hp (by omega)))
theorem rev_ev (l : List Int) (hl : l.length ≤ 1000000) : Ev (fun k => slices_Reverse_int_int.f k l) l.reverse := by
  unfold slices_Reverse_int_int.f
  rw [show wrap64 ((l.length : Int) - 1) = (l.length : Int) - 1 - ((0 : Nat) : Int) by unfold wrap64; omega]
  exact rev_loop l hl (l.length + 1) 0 l (by omega) rfl (fun p hp => by rw [if_neg (by omega)])
end Go.Proofs.Ytbbgpfjeobdogaa.PB
end

section
namespace Go.Proofs.Ytbbgpfjeobdogaa.PB
open Go.RowKit Go.Maps Go.Proofs.YtbbgpfjeobdogaaW.PrintWords Go.Proofs.YtbbgpfjeobdogaaW.PrintLast Go.Proofs.YtbbgpfjeobdogaaW.PrintMore
set_option maxRecDepth 100000
set_option linter.unusedVariables false
set_option linter.unusedSimpArgs false
theorem upL_len (L : List St) : ∀ (k : Nat) (n : Int), (upL L k n).length ≤ k
  | 0, _ => by simp [upL]
  | k + 1, n => by
    unfold upL
    split
    · simp
    · have := upL_len L k (((L.find? (fun x => x.f0 == n)).map (fun x => x.f1)).getD (-1))
      simp; omega
theorem up_step {L : List St} {now next : Int} (hw : Wf L now next) {x : St} (hx : x ∈ L) (k : Nat) : upL L (k + 1) x.f0 = x.f0 :: upL L k x.f1 := by
  have := (hw.low x hx).1
  rw [upL, if_neg (by omega), find_mem hw.inc hx]
  rfl
def pathL (L : List St) (now : Int) : List Int := (upL L 1000 now).reverse
theorem up_none (L : List St) (k : Nat) {n : Int} (h : n < 0) : upL L k n = [] := by
  cases k with
  | zero => rfl
  | succ k => rw [upL, if_pos h]
set_option maxHeartbeats 8000000 in
theorem path_ok {B : Nat} {S : Nat → Prop} {g bm : Nat} {w : World} {L : List St} {now next depth : Int} (h : HistAt B S g bm w L now next depth) (hw : Wf L now next) :
    Calls Try.prog 23 #[.pointer (some ⟨g, 0, none⟩)] w fun e w' => ∃ v, e = .returned v ∧ Kd.R (Kd.int .i64) 3 w' w.heap.size (fun _ => True) v (pathL L now) ∧ Below w.heap.size w w' := by
  have HH := aM h
  have HW := aM hw
  have HREV := aM (rev_ev (upL L 1000 now) (by have := upL_len L 1000 now; omega))
  obtain ⟨f, hg⟩ := h.hg
  have c2 : w.cell? ⟨g, 2, none⟩ = some (.int .i64 now) := (bC hg 2).trans rfl
  clear h hg hw
  go_enter Try.func23, Try.ntmps23
  go_wp2_with (first
    | ((with_reducible refine gate_callee (f := 31) rfl ?_); refine goesL_ (some 6) rfl rfl Try.func31 (by kernel_rfl) rfl #[.pointer (some ⟨g, 0, none⟩)] rfl (by (try simp only [List.map_toArray, List.map_cons, List.map_nil]); first | done | rfl) ?_; (with_reducible refine (good_ok HH.out).mono ?_); rintro e w3 ⟨rfl, hw⟩; subst w3; refine ⟨_, rfl, ?_⟩)
    )
  go_loopg [3, 4] 1000 (fun kq v3 v4 w' => ∃ (n : Int) (out : List Int), v4 = .int .i64 n ∧ Aside0 (n < (kq : Int)) ∧ Aside0 (-1 ≤ n) ∧ Aside0 (0 ≤ n → ∃ x ∈ L, x.f0 = n) ∧ Aside0 (out.length + kq = 1000) ∧ Aside0 (out ++ upL L kq n = upL L 1000 now) ∧ Aside0 (Kd.R (Kd.int .i64) 3 w' w.heap.size (fun _ => True) v3 out) ∧ Aside0 (Below w.heap.size w w'))
  case atStart =>
    obtain ⟨x, hx, hxn⟩ := HW.out.now
    have := HW.out.low x hx
    have := HW.out.top
    exact ⟨now, [], rfl, ⟨by omega⟩, ⟨by omega⟩, ⟨fun _ => ⟨x, hx, hxn⟩⟩, ⟨rfl⟩, ⟨rfl⟩, ⟨Kd.R_nil _ _ _ _ _⟩, ⟨Below.refl _ _⟩⟩
  case round =>
    clear c2
    obtain ⟨n, out, rfl, HN, HN0, HX, HL, HU, HO, HB⟩ := hrel
    by_cases c1 : 0 ≤ n
    · cases gk with
      | zero => exact absurd HN.out (by omega)
      | succ k1 =>
        have c1b : decide (n ≥ 0) = true := decide_eq_true c1
        obtain ⟨x, hx, hxn⟩ := HX.out c1
        subst hxn
        have HXL := aM hx
        have HHr := aM (HH.out.below HB.out)
        obtain ⟨D, hD⟩ := HHr.out.hm
        obtain ⟨cs, hcs⟩ := hD.val x hx
        obtain ⟨A3, c3, A5, c5, rfl, -⟩ := cells_open hcs.2
        have hlow := HW.out.low x hx
        have htop := HW.out.top
        have hup := up_step HW.out hx k1
        have HUP := aM hup
        have HLOW := aM hlow
        have HTOP := aM htop
        have HD := aM hD
        have HCS := aM hcs
        clear hx hD hcs hup hlow htop
        have hfl := field_up
        go_wp2_with (first
          | ((with_reducible refine gate_builtin (b := .append) (xs := #[.tmp 21, .tmp 23]) rfl ?_); at_builtin; refine Kd.R_append (Kd.int .i64) (w0 := w) w.heap.size rfl (.tmp 21) (.tmp 23) 50 3 (.int .i64 0) 8 rfl Try.underlying50 info3 rfl (by decide) (by omega) u3 out x.f0 [.int .i64 x.f0] (fun _ => True) (fun _ => False) rfl rfl rfl (fun _ hk => hk.elim) (fun _ _ => trivial) HO.out HB.out HB.out.size (by have := HL.out; omega) ?_; intro v1 w7 ho hb hg hat; have HO1 := aM ho; have HB1 := aM hb; have HH1 := aM (HH.out.below hb); clear ho hb hg hat; obtain ⟨f1, hg1⟩ := HH1.out.hg; have c0 : w7.cell? ⟨g, 0, none⟩ = some (.map (some bm)) := (bC hg1 0).trans rfl; clear hg1)
          | (at_lookup; obtain ⟨D1, hD1⟩ := HH1.out.hm; obtain ⟨cs1, hcs1⟩ := hD1.val x HXL.out; obtain ⟨A31, c31, A51, c51, rfl, -⟩ := cells_open hcs1.2; refine wpList_lookup_eq _ rfl _ _ _ false rfl _ _ _ rfl rfl (look_in hD1 HXL.out (by have := HLOW.out; omega) (by have := HLOW.out; have := HTOP.out; omega) hcs1) ?_)
          )
        go_roundg k1
        case measure => have := HN.out; omega
        case rel =>
          refine ⟨x.f1, out ++ [x.f0], rfl, ⟨by have := HN.out; have := HLOW.out; omega⟩, ⟨HLOW.out.2.2.1⟩, ⟨fun h0 => ?_⟩, ⟨by have := HL.out; simp; omega⟩, ⟨?_⟩, HO1, HB1⟩
          · rcases HW.out.up x HXL.out with h | ⟨y, hy, he⟩
            · omega
            · exact ⟨y, hy, he⟩
          · have := HU.out
            rw [HUP.out] at this
            rw [List.append_assoc]
            exact this
    · have c1b : decide (n ≥ 0) = false := decide_eq_false c1
      have hu := HU.out
      rw [up_none L _ (by omega), List.append_nil] at hu
      have HO1 := aM (show Kd.R (Kd.int .i64) 3 wr w.heap.size (fun _ => True) u3 (upL L 1000 now) from hu ▸ HO.out)
      obtain ⟨k, hk⟩ := HREV.out.rounds
      have HK := aM hk
      clear hk hu
      go_wp2_with (first
        | ((with_reducible refine gate_callee (f := 41) rfl ?_); refine goesL_ (some 26) rfl rfl Try.func41 (by kernel_rfl) rfl #[u3] rfl (by (try simp only [List.map_toArray, List.map_cons, List.map_nil]); first | done | rfl) ?_; (with_reducible refine (slices_Reverse_int_int.calls k (fun _ => True) u3 (upL L 1000 now) _ w _ HB.out HO1.out HK.out).mono ?_); rintro e w9 ⟨rfl, ho, hb, -⟩; refine ⟨_, rfl, ?_⟩; have HO2 := aM ho; have HB2 := aM hb; clear ho hb)
        )
      go_ret
      exact ⟨_, rfl, rM HO2.out (fun _ _ => trivial), HB2.out⟩
end Go.Proofs.Ytbbgpfjeobdogaa.PB
end

section
namespace Go.Proofs.Ytbbgpfjeobdogaa.PB
open Go.RowKit Go.Maps Go.Proofs.YtbbgpfjeobdogaaW.PrintWords Go.Proofs.YtbbgpfjeobdogaaW.PrintLast Go.Proofs.YtbbgpfjeobdogaaW.PrintMore
set_option maxRecDepth 100000
set_option linter.unusedVariables false
set_option linter.unusedSimpArgs false
theorem len_of_sub : ∀ (l m : List Int), l.Nodup → l ⊆ m → l.length ≤ m.length
  | [], m, _, _ => Nat.zero_le _
  | a :: l, m, hn, hs => by
    have ha : a ∈ m := hs List.mem_cons_self
    have h1 := (List.nodup_cons.1 hn)
    have := len_of_sub l (m.erase a) h1.2 (fun b hb => (List.mem_erase_of_ne (fun e => h1.1 (by rw [← e]; exact hb))).2 (hs (List.mem_cons_of_mem _ hb)))
    rw [List.length_erase_of_mem ha] at this
    have := List.length_pos_of_mem ha
    simp only [List.length_cons]
    omega
theorem sameKey_refl' (z : Int) : (kN z).sameKey (kN z) = true := by simp [Lit.sameKey]
abbrev srt (l : List Int) : List Int := l.mergeSort fun x y => decide (x ≤ y)
theorem sort_ok {B : Nat} {v : Value} {l : List Int} {w : World} (ho : Kd.R (Kd.int .i64) 3 w B (fun _ => True) v l) (hne : 0 < l.length) (hl : l.length ≤ 1000000) :
    Calls Try.prog 40 #[v] w fun e w' => e = .returned (.tuple #[]) ∧ Kd.R (Kd.int .i64) 3 w' B (fun _ => True) v (srt l) ∧ w.grownBy w' v.ownBlock := by
  have h := Kd.own_of_R ho
  rcases h.2 with ⟨_, h0⟩ | ⟨g, cap, cur, rfl, hbase, hb, h1, h2, h3, h4⟩
  · omega
  · rw [Nat.mul_one] at h4
    have hh := holds_of_blockI hb h4
    refine (Try.slices_Sort_int g 0 cap l w hh (blk_lt hb) (by omega)).mono ?_
    rintro e w' ⟨rfl, n, os, rfl⟩
    have hlen : (srt l).length = l.length := List.length_mergeSort l
    refine ⟨rfl, Kd.R_of_own ?_ (fun _ _ => trivial), ?_⟩
    · rw [hlen]
      exact ownsRow_sortedI hlen hbase hb h1 h2 h3
    · exact grownBy_sortedI _
theorem srt_of {l m : List Int} (hm : m.Pairwise (fun x y => x < y)) (hp : l.Perm m) : srt l = m := by
  refine List.Perm.eq_of_pairwise (le := fun x y => x ≤ y) (fun a b _ _ h1 h2 => Int.le_antisymm h1 h2) ?_ (hm.imp (fun h => Int.le_of_lt h)) ((List.mergeSort_perm l _).trans hp)
  have := List.pairwise_mergeSort (le := fun x y : Int => decide (x ≤ y)) (fun a b c h1 h2 => by simp at *; omega) (fun a b => by simp; omega) l
  exact this.imp (fun h => by simpa using h)
theorem perm_of {l m : List Int} (hl : l.Nodup) (hm : m.Nodup) (h : ∀ x, x ∈ l ↔ x ∈ m) : l.Perm m := (List.perm_ext_iff_of_nodup hl hm).2 h
def statesL (L : List St) : List Int := L.map (fun x => x.f0)
theorem states_nodup {L : List St} (h : L.Pairwise (fun x y => x.f0 < y.f0)) : (statesL L).Pairwise (fun x y => x < y) := List.pairwise_map.2 h
set_option maxHeartbeats 8000000 in
theorem states_ok {B : Nat} {S : Nat → Prop} {g bm : Nat} {w : World} {L : List St} {now next depth : Int} (h : HistAt B S g bm w L now next depth) (hw : Wf L now next) :
    Calls Try.prog 21 #[.pointer (some ⟨g, 0, none⟩)] w fun e w' => ∃ v, e = .returned v ∧ Kd.R (Kd.int .i64) 3 w' w.heap.size (fun _ => True) v (statesL L) ∧ Below w.heap.size w w' := by
  have HH := aM h
  have HW := aM hw
  obtain ⟨f, hg⟩ := h.hg
  have c0 : w.cell? ⟨g, 0, none⟩ = some (.map (some bm)) := (bC hg 0).trans rfl
  obtain ⟨D, hD⟩ := h.hm
  obtain ⟨n, hn, ho⟩ := hD.own
  have HD := aM hD
  have HO := aM ho
  clear h hg hw hD ho
  go_enter Try.func21, Try.ntmps21
  go_wp2_with (first
    | ((with_reducible refine gate_callee (f := 31) rfl ?_); refine goesL_ (some 6) rfl rfl Try.func31 (by kernel_rfl) rfl #[.pointer (some ⟨g, 0, none⟩)] rfl (by (try simp only [List.map_toArray, List.map_cons, List.map_nil]); first | done | rfl) ?_; (with_reducible refine (good_ok HH.out).mono ?_); rintro e w3 ⟨rfl, hw⟩; subst w3; refine ⟨_, rfl, ?_⟩)
    | (at_range; refine wpList_range_own _ rfl _ 65 rfl 3 74 lawK Try.underlying65 heldE bm n D rfl HO.out ?_; intro w4 hrg4 hg4 hs4; have HRG := aM hrg4; have HB4 := aM ((Below.refl w.heap.size w).grown hg4 (Nat.le_refl _) (fun k hk => by cases hk)); clear hrg4 hg4 hs4)
    )
  go_frame
  go_loopg [3] L.length (fun kq v3 w' => ∃ (left : Lit → Bool) (ks : List Int), Aside0 (w'.ranges Try.prog 3 heldE bm w.heap.size n D left kq) ∧ Aside0 (Kd.R (Kd.int .i64) 3 w' w.heap.size (fun _ => True) v3 ks) ∧ Aside0 ks.Nodup ∧ Aside0 (∀ z : Int, z ∈ ks ↔ Maps.has D (kN z) = true ∧ left (kN z) = false) ∧ Aside0 (Below w.heap.size w w'))
  case atStart => exact ⟨Maps.has D, [], ⟨by rw [← HD.out.size]; exact HRG.out⟩, ⟨Kd.R_nil _ _ _ _ _⟩, ⟨List.nodup_nil⟩, ⟨fun z => by cases h : Maps.has D (kN z) <;> simp [h]⟩, HB4⟩
  case round =>
    clear HRG HB4 c0
    obtain ⟨left, ks, HRG, HR, HND, HM, HB⟩ := hrel
    have HL := aM (show ks.length ≤ L.length from by
      have hsub : ks ⊆ statesL L := fun z hz => by
        have := ((HM.out z).1 hz).1
        rw [HD.out.has, List.any_eq_true] at this
        obtain ⟨y, hy, he⟩ := this
        exact List.mem_map.2 ⟨y, hy, by simpa using he⟩
      have := len_of_sub _ _ HND.out hsub
      simpa [statesL] using this)
    go_wp2_with (first
      | (at_next; refine wpList_next_ranges _ rfl _ rfl 3 lawK heldE (Value.int .i64) id (fun key kl hk => by obtain ⟨x, rfl, _⟩ := Maps.keyOf_int_inv Try.underlying3 hk; exact ⟨x, rfl⟩) (fun v y _ => ⟨v, rfl⟩) bm w.heap.size n D left gk rfl HRG.out ?_ ?_)
      )
    · intro h0 hl0
      have HM0 := HM.out
      have hst : srt ks = statesL L := by
        refine srt_of (states_nodup HW.out.inc) (perm_of HND.out ((states_nodup HW.out.inc).imp (fun h => Int.ne_of_lt h)) (fun z => ?_))
        rw [HM0 z, hl0, HD.out.has]
        unfold statesL
        simp
      have hlen : 0 < ks.length := by
        obtain ⟨x, hx, _⟩ := HW.out.now
        have h1 := List.length_pos_of_mem hx
        have h2 := congrArg List.length hst
        rw [List.length_mergeSort] at h2
        unfold statesL at h2
        rw [List.length_map] at h2
        omega
      have HST := aM hst
      have HLEN := aM hlen
      clear HM0 hst hlen
      go_wp2_with (first
        | ((with_reducible refine gate_callee (f := 40) rfl ?_); refine goesL_ (some 22) rfl rfl Try.func40 (by kernel_rfl) rfl #[u3] rfl (by (try simp only [List.map_toArray, List.map_cons, List.map_nil]); first | done | rfl) ?_; (with_reducible refine (sort_ok HR.out HLEN.out (by have := HL.out; have := HW.out.len; omega)).mono ?_); rintro e w9 ⟨rfl, ho, hgr⟩; refine ⟨_, rfl, ?_⟩; have HO2 := aM ho; have HB2 := aM (HB.out.grown hgr HB.out.size (fun k hk => Kd.R_base HR.out k hk)); clear ho hgr)
        )
      go_ret
      exact ⟨_, rfl, by rw [← HST.out]; exact HO2.out, HB2.out⟩
    · intro x c kl ya yb w1 cnt1 hkey hlk hRv hat hrg1 hlt hg1 hs1 hen
      obtain ⟨x', ex, rfl, hwx⟩ := Maps.keyOf_int_inv Try.underlying3 hkey
      cases ex
      have hHas : Maps.has D (kN x) = true := has_true_of_atKey hat
      have HR1 := aM (Kd.R_grown2 HR.out rfl hg1 (fun k hk e => by
        cases hk
        obtain ⟨cells, hc⟩ := Kd.R_typed HR.out _ e.symm
        obtain ⟨_, _, _, _, _, _, _, _, _, hit, _⟩ := HRG.out
        rw [hc] at hit
        cases hit))
      have HB1 := aM (HB.out.grown hg1 HB.out.size (fun k hk => by cases hk; exact Nat.le_refl _))
      have HRG1 := aM hrg1
      have HX := aM (And.intro hlk (And.intro hHas hlt))
      clear hkey hlk hRv hat hrg1 hlt hg1 hHas hwx hs1
      go_wp2_with (first
        | ((with_reducible refine gate_builtin (b := .append) (xs := #[.tmp 17, .tmp 19]) rfl ?_); at_builtin; refine Kd.R_append (Kd.int .i64) (w0 := w) w.heap.size rfl (.tmp 17) (.tmp 19) 50 3 (.int .i64 0) 8 rfl Try.underlying50 info3 rfl (by decide) (by omega) u3 ks x [.int .i64 x] (fun _ => True) (fun _ => False) rfl rfl rfl (fun _ hk => hk.elim) (fun _ _ => trivial) HR1.out HB1.out HB1.out.size (by have := HL.out; have := HW.out.len; omega) ?_; intro v1 w7 ho hb hg hat; have HO1 := aM ho; have HB2 := aM hb; have HRG2 := aM (HRG1.out.kept hg (fun e => by obtain ⟨cells, hc⟩ := Kd.R_typed HR1.out _ e.symm; obtain ⟨_, _, _, _, _, hbb, _⟩ := HRG1.out; rw [hc] at hbb; cases hbb) (fun e => by obtain ⟨cells, hc⟩ := Kd.R_typed HR1.out _ e.symm; obtain ⟨_, _, _, _, _, _, _, _, _, hit, _⟩ := HRG1.out; rw [hc] at hit; cases hit)); clear ho hb hg hat)
        )
      go_roundg cnt1
      case measure => exact HX.out.2.2
      case rel =>
        have hin : ¬ x ∈ ks := fun h => by
          have := ((HM.out x).1 h).2
          rw [HX.out.1] at this
          cases this
        refine ⟨_, ks ++ [x], HRG2, HO1, ⟨?_⟩, ⟨fun z => ?_⟩, HB2⟩
        · exact List.nodup_append.2 ⟨HND.out, by simp, fun a ha b hb => by rintro rfl; exact hin (by simpa using (List.mem_singleton.1 hb) ▸ ha)⟩
        · rw [List.mem_append, List.mem_singleton, HM.out z]
          by_cases hz : z = x
          · subst hz
            simp [HX.out.2.1, sameKey_refl' z]
          · have : (kN z).sameKey (kN x) = false := sameKey_ne (kN_ne hz)
            simp [this, hz]
end Go.Proofs.Ytbbgpfjeobdogaa.PB
end

section
namespace Go.Proofs.Ytbbgpfjeobdogaa.PB
open Go.RowKit Go.Proofs.YtbbgpfjeobdogaaW.PrintWords Go.Proofs.YtbbgpfjeobdogaaW.PrintLast Go.Proofs.YtbbgpfjeobdogaaW.PrintMore
set_option linter.unusedVariables false
set_option linter.unusedSimpArgs false
def edit_own.f (a0_0 : ByteArray) (l0_1 : List S71) : Option (ByteArray × List S71) := if l0_1.length * 16 ≤ 140737488355328 then some (a0_0, l0_1) else none
set_option maxHeartbeats 4000000 in
set_option maxRecDepth 100000 in
theorem edit_own.calls (a0_0 : ByteArray) (A0_1 : Option Addr) (c0_1 : Nat) (l0_1 : List S71) (r1 : ByteArray) (r2 : List S71) (w : World) (hr0_1 : Kd.C k71 w A0_1 l0_1.length l0_1) (hc0_1 : l0_1.length ≤ c0_1) (h : edit_own.f a0_0 l0_1 = some (r1, r2)) :
    Calls Try.prog 47 #[.agg #[.string a0_0, .slice A0_1 l0_1.length c0_1]] w fun e w' => ∃ v1_ : Value, e = .returned (.agg #[.string r1, v1_]) ∧ Kd.R k71 71 w' w.heap.size (fun _ => True) v1_ r2 ∧ Below w.heap.size w w' := by
  have hu32 := Try.underlying32
  unfold edit_own.f at h
  by_cases hl : l0_1.length * 16 ≤ 140737488355328
  case neg => rw [if_neg hl] at h; cases h
  rw [if_pos hl] at h
  simp only [Option.some.injEq, Prod.mk.injEq] at h
  obtain ⟨rfl, rfl⟩ := h
  have HR := aM hr0_1
  have HL := aM hl
  clear hr0_1 hl
  have HB := aM (Below.refl w.heap.size w)
  go_enter Try.func47, Try.ntmps47
  go_wp2_with fail
  have BK1 := aM (blk_drew (blk_alloc (blk_new w (.cells #[.string a0_0, .slice A0_1 l0_1.length c0_1] 32)) (.cells #[.string (⟨#[]⟩ : ByteArray), .slice none 0 0] 32)))
  have BK2 := aM (blk_drew (blk_new (w.alloc (.cells #[.string a0_0, .slice A0_1 l0_1.length c0_1] 32)) (.cells #[.string (⟨#[]⟩ : ByteArray), .slice none 0 0] 32)))
  have HB2 := aM (((((Below.refl w.heap.size w).alloc (Nat.le_refl _) (.cells #[.string a0_0, .slice A0_1 l0_1.length c0_1] 32)).alloc (by simp) (.cells #[.string (⟨#[]⟩ : ByteArray), .slice none 0 0] 32))).drew)
  rw [show (w.alloc (.cells #[.string a0_0, .slice A0_1 l0_1.length c0_1] 32)).heap.size = w.heap.size + 1 by simp] at BK2
  refine start_ (n := 7) (S := fun w' => w'.cell? ⟨w.heap.size, 0, none⟩ = some (.string a0_0) ∧ w'.cell? ⟨w.heap.size, 1, none⟩ = some (.slice A0_1 l0_1.length c0_1)) (ds := [6]) #[false, false, false, false, false, false, false] (by kernel_rfl) rfl rfl ⟨(bC BK1.out 0).trans rfl, (bC BK1.out 1).trans rfl⟩ (fun hHeld => ?_)
  generalize ((w.alloc (.cells #[.string a0_0, .slice A0_1 l0_1.length c0_1] 32)).alloc (.cells #[.string (⟨#[]⟩ : ByteArray), .slice none 0 0] 32)).drew = w2 at BK1 BK2 HB2 hHeld ⊢
  refine pure_ (i := 0) (N := some 3) (v := ?_) (a' := ?_) #[true, false, false, false, false, false, false] rfl rfl (by kernel_rfl) (fun _ _ _ h => h) (Or.inl ⟨by rfl, ?_⟩) ?_ ?_
  rotate_left
  · intro w'
    go_simp
    with_reducible rfl
  rotate_left
  · simp only [Act.put, List.setIfInBounds_toArray, List.set_cons_zero, List.set_cons_succ]
    rfl
  refine pure_ (i := 2) (N := some 5) (v := ?_) (a' := ?_) #[true, false, true, false, false, false, false] rfl rfl (by kernel_rfl) (fun _ _ _ h => h) (Or.inl ⟨by rfl, ?_⟩) ?_ ?_
  rotate_left
  · intro w'
    go_simp
    with_reducible rfl
  rotate_left
  · simp only [Act.put, List.setIfInBounds_toArray, List.set_cons_zero, List.set_cons_succ]
    rfl
  refine take_ (i := 1) (N := some 4) (v := ?_) (a' := ?_) #[true, true, true, false, false, false, false] rfl rfl (by kernel_rfl) (fun _ _ _ h => h) (Or.inl ⟨by rfl, ?_⟩) hHeld ?_ ?_
  rotate_left
  · rintro w' ⟨s0, s1⟩
    go_simp
    with_reducible rfl
  rotate_left
  · simp only [Act.put, List.setIfInBounds_toArray, List.set_cons_zero, List.set_cons_succ]
    rfl
  refine take_ (i := 3) (N := some 6) (v := ?_) (a' := ?_) #[true, true, true, true, false, false, false] rfl rfl (by kernel_rfl) (fun _ _ _ h => h) (Or.inl ⟨by rfl, ?_⟩) hHeld ?_ ?_
  rotate_left
  · rintro w' ⟨s0, s1⟩
    go_simp
    with_reducible rfl
  rotate_left
  · simp only [Act.put, List.setIfInBounds_toArray, List.set_cons_zero, List.set_cons_succ]
    rfl
  refine one_ (i := 4) (N := some 7) #[true, true, true, true, true, false, false] rfl rfl (by kernel_rfl) (by decide) (fun K hK => ?_)
  refine Kd.R_append_rows_step k71 (w0 := w) w.heap.size (by rfl) (.const (.slice none 0 0)) (.tmp 6) 30 71 (.agg #[(.int .u64 0), (.int .i64 0)]) 16 rfl Try.underlying30 info71 rfl (by decide) (by omega) (.slice none 0 0) [] l0_1 A0_1 l0_1.length c0_1 (fun _ => True) (fun _ => False) rfl rfl (Kd.R_nil _ _ _ _ _) (cB_ HR.out HB2.out) (fun x cs h => by rw [k71_open h]; exact k71_mkM _ _ _ x) (fun _ h => h.elim) (fun _ _ => trivial) HB2.out HB2.out.size (by simpa using HL.out) ?_
  intro v1 w3 ho hb hg1 hat
  rw [List.nil_append] at ho
  have BK3 := aM (blk_grown BK1.out hg1 (by simp [Value.ownBlock]))
  have BK4 := aM (blk_grown BK2.out hg1 (by simp [Value.ownBlock]))
  have HO := aM ho
  have HB3 := aM hb
  obtain ⟨A1, c1, rfl⟩ := Kd.R_slice ho
  clear ho hb hg1 hat
  refine hK.out _ _ ⟨(bC BK3.out 0).trans rfl, (bC BK3.out 1).trans rfl⟩ (fun hHeld => ?_)
  clear hK K
  refine norm_ (a' := ?_) ?_ ?_
  rotate_left
  · show Act.put _ (some 7) _ = _
    simp only [Act.put, List.setIfInBounds_toArray, List.set_cons_zero, List.set_cons_succ]
    rfl
  refine pure_ (i := 5) (N := some 8) (v := ?_) (a' := ?_) #[true, true, true, true, true, true, false] rfl rfl (by kernel_rfl) (fun _ _ _ h => h) (Or.inl ⟨by rfl, ?_⟩) ?_ ?_
  rotate_left
  · intro w'
    go_simp
    with_reducible rfl
  rotate_left
  · simp only [Act.put, List.setIfInBounds_toArray, List.set_cons_zero, List.set_cons_succ]
    rfl
  refine last_ (i := 6) (N := none) #[true, true, true, true, true, true, true] rfl rfl (by kernel_rfl) (by decide) (fun K hK => ?_)
  have hs0 : w3.cell? ⟨w.heap.size + 1, 0, none⟩ = some (.string (⟨#[]⟩ : ByteArray)) := (bC BK4.out 0).trans rfl
  have hf0 := bF BK4.out 0
  have hs1 : w3.cell? ⟨w.heap.size + 1, 1, none⟩ = some (.slice none 0 0) := (bC BK4.out 1).trans rfl
  have hf1 := bF BK4.out 1
  refine skip_ (w1 := ?_) (by rfl) rfl ?_ ?_
  rotate_left
  · go_simp
    rfl
  refine hK.out _ _ (done_ (by kernel_rfl) ?_)
  clear hK K
  go_wp2
  refine bodyPost_ret (results_cell_row rfl _ _ (w.heap.size + 1) 32 #[.string a0_0, .slice A1 l0_1.length c1] (0, 0) _ rfl (bU (cs := #[.string a0_0, .slice none 0 0]) (bU (cs := #[.string (⟨#[]⟩ : ByteArray), .slice none 0 0]) BK4.out 0 _ rfl) 1 _ rfl) Try.underlying32 rfl (by kernel_rfl)) rfl ?_
  exact ⟨_, rfl, rM (rF (p := ⟨w.heap.size + 1, 1, none⟩) (rF (p := ⟨w.heap.size + 1, 0, none⟩) (rT HO.out BK4.out (by decide)) (fun _ hk => hk.2) (.string a0_0)) (fun _ hk => hk.2) _) (fun _ hk => hk.1), (HB3.out.setCell (Nat.le_succ _) _).setCell (Nat.le_succ _) _⟩
end Go.Proofs.Ytbbgpfjeobdogaa.PB
end

section
namespace Go.Proofs.Ytbbgpfjeobdogaa.PB
open Go.RowKit Go.Proofs.YtbbgpfjeobdogaaW.PrintWords Go.Proofs.YtbbgpfjeobdogaaW.PrintLast Go.Proofs.YtbbgpfjeobdogaaW.PrintMore
attribute [local go_sem] max2_int min2_int max_two min_two max_three min_three max_four min_four   
set_option linter.unusedVariables false
set_option linter.unusedSimpArgs false
def edit_Invert.f (a0_0 : Int) (a0_1 : ByteArray) (l0_2 : List (S71)) (a0_3 : ByteArray) (l0_4 : List (S71)) : Option (Int × ByteArray × (List (S71)) × ByteArray × (List (S71))) := (edit_own.f a0_3 l0_4).bind fun bt103 => ((edit_own.f a0_1 l0_2).bind fun bt107 => (some (a0_0, bt103.1, bt103.2, bt107.1, bt107.2)))
def edit_Invert.T1 : Bool × List (List Nat × List Nat) := (true, [([], []), ([0], [0]), ([], []), ([2], [2]), ([3], [3]), ([], []), ([5], [5]), ([6, 4], [6]), ([1, 4, 7], [1, 4, 7]), ([8, 7, 0, 1, 2, 3, 4, 5, 6, 7, 8], [8])])
def edit_Invert.B1 : List Nat := [0, 1, 0, 4, 12, 0, 32, 124, 255, 511]
theorem edit_Invert.tab1 : rtab .any (opsOf Try.f32 1) = edit_Invert.T1 := by kernel_rfl
theorem edit_Invert.bits1 : waitsOk edit_Invert.T1.2 edit_Invert.B1 = true := by kernel_rfl
set_option maxHeartbeats 8000000 in
set_option maxRecDepth 100000 in
theorem edit_Invert.calls (a0_0 : Int) (a0_1 : ByteArray) (A0_2 : Option Addr) (c0_2 : Nat) (l0_2 : List (S71)) (a0_3 : ByteArray) (A0_4 : Option Addr) (c0_4 : Nat) (l0_4 : List (S71)) (r1 : Int) (r2 : ByteArray) (r3 : List (S71)) (r4 : ByteArray) (r5 : List (S71)) (w : World) (hr0_2 : Kd.C k71 w A0_2 l0_2.length l0_2) (hc0_2 : l0_2.length ≤ c0_2) (hr0_4 : Kd.C k71 w A0_4 l0_4.length l0_4) (hc0_4 : l0_4.length ≤ c0_4) (h : edit_Invert.f a0_0 a0_1 l0_2 a0_3 l0_4 = some (r1, r2, r3, r4, r5)) :
  Calls Try.prog 32 #[.agg #[.int .i64 a0_0, .string a0_1, .slice A0_2 l0_2.length c0_2, .string a0_3, .slice A0_4 l0_4.length c0_4]] w fun e w' => ∃ v2_ v4_ : Value, e = .returned (.agg #[.int .i64 r1, .string r2, v2_, .string r4, v4_]) ∧ Kd.R k71 71 w' w.heap.size (fun k_ => some k_ ≠ (v4_ : Value).ownBlock) v2_ r3 ∧ Kd.R k71 71 w' w.heap.size (fun k_ => some k_ ≠ (v2_ : Value).ownBlock) v4_ r5 ∧ Below w.heap.size w w' := by
 have hu34 := Try.underlying34
 have hu32 := Try.underlying32
 have HR0_2 := aM hr0_2
 have HC0_2 := aM hc0_2
 clear hr0_2 hc0_2
 have HR0_4 := aM hr0_4
 have HC0_4 := aM hc0_4
 clear hr0_4 hc0_4
 have HB := aM (Below.refl w.heap.size w)
 have H : ((edit_own.f a0_3 l0_4).bind fun bt103 => ((edit_own.f a0_1 l0_2).bind fun bt107 => (some (a0_0, bt103.1, bt103.2, bt107.1, bt107.2)))) = some (r1, r2, r3, r4, r5) := h
 clear h
 replace H := Option.bind_eq_some_iff.mp H
 obtain ⟨⟨t103, t104⟩, A20, H⟩ := H
 replace H : ((edit_own.f a0_1 l0_2).bind fun bt107 => (some (a0_0, t103, t104, bt107.1, bt107.2))) = some (r1, r2, r3, r4, r5) := H
 have A2 := aM A20
 clear A20
 replace H := Option.bind_eq_some_iff.mp H
 obtain ⟨⟨t107, t108⟩, A30, H⟩ := H
 replace H : (some (a0_0, t103, t104, t107, t108)) = some (r1, r2, r3, r4, r5) := H
 have A3 := aM A30
 clear A30
 simp only [Option.some.injEq, Prod.mk.injEq] at H
 obtain ⟨rfl, rfl, rfl, rfl, rfl⟩ := H
 go_enter Try.func32, Try.ntmps32
 try go_wp2_with (first | ((with_reducible refine gate_dst (N := 1) rfl ?_); refine box_event ?hg (N := 1) ?hd (cs := #[.int .i64 a0_0, .string a0_1, .slice A0_2 l0_2.length c0_2, .string a0_3, .slice A0_4 l0_4.length c0_4]) (t := 34) ?hr ?_; (case hd | hg => rfl); (case hr => first | (go_simp; done) | (go_simp; rfl)); intro gb101 hg w4 hbox hb; have n0_ := aM (bP (ey HB.out) hb); have n1_ := aM (hbox); have n2_ := aM ((by rw [hg]; exact (bZ (ey HB.out)) : w.heap.size ≤ gb101)); have n3_ := n2_; clear HB; have HB := n0_; have BK101 := n1_; have GW101 := n2_; have GE101 := n3_; clear n0_ n1_ n2_ n3_; clear hb hbox hg) | ((with_reducible refine gate_dst (N := 2) rfl ?_); refine box_event ?hg (N := 2) ?hd (cs := #[.int .i64 0, .string (⟨#[]⟩ : ByteArray), .slice none 0 0, .string (⟨#[]⟩ : ByteArray), .slice none 0 0]) (t := 34) ?hr ?_; (case hd | hg => rfl); (case hr => first | (go_simp; done) | (go_simp; rfl)); intro gb102 hg w5 hbox hb; have n0_ := aM (bB (g := gb101) (qy BK101.out) hb); have n1_ := aM (bP (by repeat (first | (with_reducible first | exact HB.out | apply ea | apply en | apply ed | refine es ?_ GE101.out) | exact HB.out)) hb); have n2_ := aM (hbox); have n3_ := aM ((by rw [hg]; exact (bZ (by repeat (first | (with_reducible first | exact HB.out | apply ea | apply en | apply ed | refine es ?_ GE101.out) | exact HB.out))) : w.heap.size ≤ gb102)); have n4_ := n3_; have n5_ := aM ((by rw [hg]; exact Nat.ne_of_lt (blk_lt (g := gb101) (qy BK101.out)) : gb101 ≠ gb102)); have n6_ := aM ((by rw [hg]; exact Nat.ne_of_gt (blk_lt (g := gb101) (qy BK101.out)) : gb102 ≠ gb101)); clear BK101 HB; have BK101 := n0_; have HB := n1_; have BK102 := n2_; have GW102 := n3_; have GE102 := n4_; have NB101_102 := n5_; have NB102_101 := n6_; clear n0_ n1_ n2_ n3_ n4_ n5_ n6_; clear hb hbox hg))
 have n0_ := aM (blk_drew BK101.out)
 have n1_ := aM (blk_drew BK102.out)
 have n2_ := aM (below_drew1 HB.out)
 clear BK101
 clear BK102
 clear HB
 have BK101 := n0_
 have BK102 := n1_
 have HB := n2_
 clear n0_ n1_ n2_
 refine start_ (n := 10) (S := fun w' => w'.cell? ⟨gb101, 0, none⟩ = some (.int .i64 a0_0) ∧ w'.cell? ⟨gb101, 1, none⟩ = some (.string a0_1) ∧ w'.cell? ⟨gb101, 2, none⟩ = some (.slice A0_2 l0_2.length c0_2) ∧ w'.cell? ⟨gb101, 3, none⟩ = some (.string a0_3) ∧ w'.cell? ⟨gb101, 4, none⟩ = some (.slice A0_4 l0_4.length c0_4)) (ds := []) b17_ (by kernel_rfl) rfl rfl ⟨(bC BK101.out 0).trans rfl, (bC BK101.out 1).trans rfl, (bC BK101.out 2).trans rfl, (bC BK101.out 3).trans rfl, (bC BK101.out 4).trans rfl⟩ (fun hHeld => ?_); refine with_tabW edit_Invert.tab1 edit_Invert.bits1 (fun HT_ HW_ => ?_)
 generalize w5.drew = w6 at BK101 BK102 HB hHeld ⊢
 refine pure_ (i := 0) (N := some 3) (v := ?_) (a' := ?_) b18_ rfl rfl (any_of HT_.out (by kernel_rfl)) (fun _ _ _ h => h) (Or.inl ⟨by rfl, ?_⟩) ?_ ?_
 rotate_left
 ·intro w'
  go_simp
  with_reducible rfl
 rotate_left
 ·simp only [Act.put, sA, sZ, sS, i64_w, i32_w]
  rfl
 refine pure_ (i := 2) (N := some 5) (v := ?_) (a' := ?_) b19_ rfl rfl (any_of HT_.out (by kernel_rfl)) (fun _ _ _ h => h) (Or.inl ⟨by rfl, ?_⟩) ?_ ?_
 rotate_left
 ·intro w'
  go_simp
  with_reducible rfl
 rotate_left
 ·simp only [Act.put, sA, sZ, sS, i64_w, i32_w]
  rfl
 refine pure_ (i := 5) (N := some 8) (v := ?_) (a' := ?_) b20_ rfl rfl (any_of HT_.out (by kernel_rfl)) (fun _ _ _ h => h) (Or.inl ⟨by rfl, ?_⟩) ?_ ?_
 rotate_left
 ·intro w'
  go_simp
  with_reducible rfl
 rotate_left
 ·simp only [Act.put, sA, sZ, sS, i64_w, i32_w]
  rfl
 refine take_ (i := 1) (N := some 4) (v := ?_) (a' := ?_) b21_ rfl rfl (take_ofW HT_.out HW_.out (by kernel_rfl)) (fun _ _ _ h => h) (Or.inl ⟨by rfl, ?_⟩) hHeld ?_ ?_
 rotate_left
 ·rintro w' ⟨s0, s1, s2, s3, s4⟩
  go_simp
  with_reducible rfl
 rotate_left
 ·simp only [Act.put, sA, sZ, sS, i64_w, i32_w]
  rfl
 refine take_ (i := 3) (N := some 6) (v := ?_) (a' := ?_) b22_ rfl rfl (take_ofW HT_.out HW_.out (by kernel_rfl)) (fun _ _ _ h => h) (Or.inl ⟨by rfl, ?_⟩) hHeld ?_ ?_
 rotate_left
 ·rintro w' ⟨s0, s1, s2, s3, s4⟩
  go_simp
  with_reducible rfl
 rotate_left
 ·simp only [Act.put, sA, sZ, sS, i64_w, i32_w]
  rfl
 refine take_ (i := 6) (N := some 9) (v := ?_) (a' := ?_) b23_ rfl rfl (take_ofW HT_.out HW_.out (by kernel_rfl)) (fun _ _ _ h => h) (Or.inl ⟨by rfl, ?_⟩) hHeld ?_ ?_
 rotate_left
 ·rintro w' ⟨s0, s1, s2, s3, s4⟩
  go_simp
  with_reducible rfl
 rotate_left
 ·simp only [Act.put, sA, sZ, sS, i64_w, i32_w]
  rfl
 refine one_ (i := 4) (N := some 7) b24_ rfl rfl (one_of HT_.out (by kernel_rfl)) (by decide) (fun K hK => ?_)
 refine goes_ Try.func47 (by kernel_rfl) rfl #[.agg #[.string a0_3, .slice A0_4 l0_4.length c0_4]] (by rfl) rfl rfl (by (try simp only [mT, mC, mN]); first | done | rfl | (simp only [lD, lT]; rfl)) ?_
 with_reducible refine (edit_own.calls a0_3 _ _ l0_4 t103 t104 _ ?side1 ?side2 A2.out).mono ?_
 (case side1 => repeat (first | exact (cB_ HR0_4.out HB.out) | (with_reducible refine Kd.C_alloc ?_ _) | (with_reducible refine Kd.C_drewN ?_ _) | (with_reducible refine Kd.C_drew ?_)))
 (case side2 => exact HC0_4.out)
 rintro e w7 ⟨v105, rfl, ho0, hb⟩
 refine ⟨_, rfl, ?_⟩
 have n0_ := aM (rL ho0 (bZ (by repeat (first | (with_reducible first | exact HB.out | apply ea | apply en | apply ed | refine es ?_ GE101.out | refine es ?_ GE102.out) | exact HB.out))))
 have n1_ := aM (bB (g := gb101) (qy BK101.out) hb)
 have n2_ := aM (bB (g := gb102) (qy BK102.out) hb)
 have n3_ := aM (bP (by repeat (first | (with_reducible first | exact HB.out | apply ea | apply en | apply ed | refine es ?_ GE101.out | refine es ?_ GE102.out) | exact HB.out)) hb)
 clear BK101
 clear BK102
 clear HB
 have HO106 := n0_
 have BK101 := n1_
 have BK102 := n2_
 have HB := n3_
 clear n0_ n1_ n2_ n3_
 (try clear hb)
 (try clear hb2)
 (try clear hk)
 (try clear hi)
 (try clear ho0)
 refine hK.out _ _ ⟨(bC BK101.out 0).trans rfl, (bC BK101.out 1).trans rfl, (bC BK101.out 2).trans rfl, (bC BK101.out 3).trans rfl, (bC BK101.out 4).trans rfl⟩ (fun hHeld => ?_)
 clear hK K
 refine norm_ (a' := ?_) ?_ ?_
 rotate_left
 ·show Act.put _ (some 7) _ = _
  simp only [Act.put, sA, sZ, sS, i64_w, i32_w]
  rfl
 refine one_ (i := 7) (N := some 10) b25_ rfl rfl (one_of HT_.out (by kernel_rfl)) (by decide) (fun K hK => ?_)
 refine goes_ Try.func47 (by kernel_rfl) rfl #[.agg #[.string a0_1, .slice A0_2 l0_2.length c0_2]] (by rfl) rfl rfl (by (try simp only [mT, mC, mN]); first | done | rfl | (simp only [lD, lT]; rfl)) ?_
 with_reducible refine (edit_own.calls a0_1 _ _ l0_2 t107 t108 _ ?side1 ?side2 A3.out).mono ?_
 (case side1 => repeat (first | exact (cB_ HR0_2.out HB.out) | (with_reducible refine Kd.C_alloc ?_ _) | (with_reducible refine Kd.C_drewN ?_ _) | (with_reducible refine Kd.C_drew ?_)))
 (case side2 => exact HC0_2.out)
 rintro e w8 ⟨v109, rfl, ho0, hb⟩
 refine ⟨_, rfl, ?_⟩
 have n0_ := aM (rE (ry HO106.out) (Kd.R_base ho0) hb)
 have n1_ := aM (rL (Kd.R_new' ho0 (Kd.R_lt (ry HO106.out))) (bZ (by repeat (first | (with_reducible first | exact HB.out | apply ea | apply en | apply ed | refine es ?_ GE101.out | refine es ?_ GE102.out) | exact HB.out))))
 have n2_ := aM (bB (g := gb101) (qy BK101.out) hb)
 have n3_ := aM (bB (g := gb102) (qy BK102.out) hb)
 have n4_ := aM (bP (by repeat (first | (with_reducible first | exact HB.out | apply ea | apply en | apply ed | refine es ?_ GE101.out | refine es ?_ GE102.out) | exact HB.out)) hb)
 clear HO106
 clear BK101
 clear BK102
 clear HB
 have HO106 := n0_
 have HO110 := n1_
 have BK101 := n2_
 have BK102 := n3_
 have HB := n4_
 clear n0_ n1_ n2_ n3_ n4_
 (try clear hb)
 (try clear hb2)
 (try clear hk)
 (try clear hi)
 (try clear ho0)
 obtain ⟨Ao9, co9, eo9⟩ := Kd.R_slice HO110.out
 (first | subst eo9 | (injection eo9 with f1_ f2_ f3_; have f4_ := f1_.symm; have f5_ := f3_.symm; clear f1_ f2_ f3_; subst f4_; subst f5_))
 obtain ⟨Ao10, co10, eo10⟩ := Kd.R_slice HO106.out
 (first | subst eo10 | (injection eo10 with f1_ f2_ f3_; have f4_ := f1_.symm; have f5_ := f3_.symm; clear f1_ f2_ f3_; subst f4_; subst f5_))
 refine hK.out _ _ ⟨(bC BK101.out 0).trans rfl, (bC BK101.out 1).trans rfl, (bC BK101.out 2).trans rfl, (bC BK101.out 3).trans rfl, (bC BK101.out 4).trans rfl⟩ (fun hHeld => ?_)
 clear hK K
 refine norm_ (a' := ?_) ?_ ?_
 rotate_left
 ·show Act.put _ (some 10) _ = _
  simp only [Act.put, sA, sZ, sS, i64_w, i32_w]
  rfl
 refine pure_ (i := 8) (N := some 11) (v := ?_) (a' := ?_) b26_ rfl rfl (any_of HT_.out (by kernel_rfl)) (fun _ _ _ h => h) (Or.inl ⟨by rfl, ?_⟩) ?_ ?_
 rotate_left
 ·intro w'
  go_simp
  with_reducible rfl
 rotate_left
 ·simp only [Act.put, sA, sZ, sS, i64_w, i32_w]
  rfl
 refine one_ (i := 9) (N := none) b27_ rfl rfl (one_of HT_.out (by kernel_rfl)) (by decide) (fun K hK => ?_)
 have hs11 : w8.cell? ⟨gb102, 0, none⟩ = some (.int .i64 0) := (bC BK102.out 0).trans rfl
 have hfs11 := bF BK102.out 0
 have hns11_0 := NB101_102.out
 have hms11_0 := NB102_101.out
 have hs12 : w8.cell? ⟨gb102, 1, none⟩ = some (.string (⟨#[]⟩ : ByteArray)) := (bC BK102.out 1).trans rfl
 have hfs12 := bF BK102.out 1
 have hns12_0 := NB101_102.out
 have hms12_0 := NB102_101.out
 have hs13 : w8.cell? ⟨gb102, 2, none⟩ = some (.slice none 0 0) := (bC BK102.out 2).trans rfl
 have hfs13 := bF BK102.out 2
 have hns13_0 := NB101_102.out
 have hms13_0 := NB102_101.out
 have hs14 : w8.cell? ⟨gb102, 3, none⟩ = some (.string (⟨#[]⟩ : ByteArray)) := (bC BK102.out 3).trans rfl
 have hfs14 := bF BK102.out 3
 have hns14_0 := NB101_102.out
 have hms14_0 := NB102_101.out
 have hs15 : w8.cell? ⟨gb102, 4, none⟩ = some (.slice none 0 0) := (bC BK102.out 4).trans rfl
 have hfs15 := bF BK102.out 4
 have hns15_0 := NB101_102.out
 have hms15_0 := NB102_101.out
 refine skip_ (w1 := ?_) (by rfl) rfl ?_ ?_
 rotate_left
 ·go_simp
  rfl
 refine hK.out _ _ ⟨((cell_far (p := ⟨gb102, _, none⟩) NB101_102.out _).trans (((cell_far (p := ⟨gb102, _, none⟩) NB101_102.out _).trans (((cell_far (p := ⟨gb102, _, none⟩) NB101_102.out _).trans (((cell_far (p := ⟨gb102, _, none⟩) NB101_102.out _).trans (((cell_far (p := ⟨gb102, _, none⟩) NB101_102.out _).trans (hHeld.1)))))))))), ((cell_far (p := ⟨gb102, _, none⟩) NB101_102.out _).trans (((cell_far (p := ⟨gb102, _, none⟩) NB101_102.out _).trans (((cell_far (p := ⟨gb102, _, none⟩) NB101_102.out _).trans (((cell_far (p := ⟨gb102, _, none⟩) NB101_102.out _).trans (((cell_far (p := ⟨gb102, _, none⟩) NB101_102.out _).trans (hHeld.2.1)))))))))), ((cell_far (p := ⟨gb102, _, none⟩) NB101_102.out _).trans (((cell_far (p := ⟨gb102, _, none⟩) NB101_102.out _).trans (((cell_far (p := ⟨gb102, _, none⟩) NB101_102.out _).trans (((cell_far (p := ⟨gb102, _, none⟩) NB101_102.out _).trans (((cell_far (p := ⟨gb102, _, none⟩) NB101_102.out _).trans (hHeld.2.2.1)))))))))), ((cell_far (p := ⟨gb102, _, none⟩) NB101_102.out _).trans (((cell_far (p := ⟨gb102, _, none⟩) NB101_102.out _).trans (((cell_far (p := ⟨gb102, _, none⟩) NB101_102.out _).trans (((cell_far (p := ⟨gb102, _, none⟩) NB101_102.out _).trans (((cell_far (p := ⟨gb102, _, none⟩) NB101_102.out _).trans (hHeld.2.2.2.1)))))))))), ((cell_far (p := ⟨gb102, _, none⟩) NB101_102.out _).trans (((cell_far (p := ⟨gb102, _, none⟩) NB101_102.out _).trans (((cell_far (p := ⟨gb102, _, none⟩) NB101_102.out _).trans (((cell_far (p := ⟨gb102, _, none⟩) NB101_102.out _).trans (((cell_far (p := ⟨gb102, _, none⟩) NB101_102.out _).trans (hHeld.2.2.2.2))))))))))⟩ (fun hHeld => ?_)
 clear hK K
 refine done_ (done_of HT_.out (by kernel_rfl)) ?_
 try go_wp2
 refine bodyPost_ret (results_cell_row rfl _ _ gb102 34 #[.int .i64 a0_0, .string t103, .slice Ao10 t104.length co10, .string t107, .slice Ao9 t108.length co9] (0, 0) _ rfl (by (with_reducible repeat (first | apply qn | apply qd | apply qa)); refine bU (cs := #[.int .i64 a0_0, .string t103, .slice Ao10 t104.length co10, .string t107, .slice none 0 0]) ?_ 4 _ rfl; (with_reducible repeat (first | apply qn | apply qd | apply qa)); refine bU (cs := #[.int .i64 a0_0, .string t103, .slice Ao10 t104.length co10, .string (⟨#[]⟩ : ByteArray), .slice none 0 0]) ?_ 3 _ rfl; (with_reducible repeat (first | apply qn | apply qd | apply qa)); refine bU (cs := #[.int .i64 a0_0, .string t103, .slice none 0 0, .string (⟨#[]⟩ : ByteArray), .slice none 0 0]) ?_ 2 _ rfl; (with_reducible repeat (first | apply qn | apply qd | apply qa)); refine bU (cs := #[.int .i64 a0_0, .string (⟨#[]⟩ : ByteArray), .slice none 0 0, .string (⟨#[]⟩ : ByteArray), .slice none 0 0]) ?_ 1 _ rfl; (with_reducible repeat (first | apply qn | apply qd | apply qa)); refine bU (cs := #[.int .i64 0, .string (⟨#[]⟩ : ByteArray), .slice none 0 0, .string (⟨#[]⟩ : ByteArray), .slice none 0 0]) ?_ 0 _ rfl; exact qy BK102.out) Try.underlying34 rfl (by kernel_rfl)) rfl ?_
 exact ⟨_, _, by first | rfl | (simp [errW_none, errW_some] <;> rfl) | (simp [*, errW_none, errW_some] <;> rfl), by (with_reducible repeat (first | apply ra | apply rn | apply rd_)); exact rM (rF (p := ⟨gb102, 4, none⟩) (rF (p := ⟨gb102, 3, none⟩) (rF (p := ⟨gb102, 2, none⟩) (rF (p := ⟨gb102, 1, none⟩) (rF (p := ⟨gb102, 0, none⟩) (rT HO106.out BK102.out (by decide)) (fun _ hk => hk.2) (.int .i64 a0_0)) (fun _ hk => hk.2) (.string t103)) (fun _ hk => hk.2) (.slice Ao10 t104.length co10)) (fun _ hk => hk.2) (.string t107)) (fun _ hk => hk.2) (.slice Ao9 t108.length co9)) (fun _ hk => hk.1.2), by (with_reducible repeat (first | apply ra | apply rn | apply rd_)); exact rM (rF (p := ⟨gb102, 4, none⟩) (rF (p := ⟨gb102, 3, none⟩) (rF (p := ⟨gb102, 2, none⟩) (rF (p := ⟨gb102, 1, none⟩) (rF (p := ⟨gb102, 0, none⟩) (rT HO110.out BK102.out (by decide)) (fun _ hk => hk.2) (.int .i64 a0_0)) (fun _ hk => hk.2) (.string t103)) (fun _ hk => hk.2) (.slice Ao10 t104.length co10)) (fun _ hk => hk.2) (.string t107)) (fun _ hk => hk.2) (.slice Ao9 t108.length co9)) (fun _ hk => hk.1.2), by repeat (first | (with_reducible first | exact HB.out | apply ea | apply en | apply ed | refine es ?_ GE101.out | refine es ?_ GE102.out) | exact HB.out)⟩
end Go.Proofs.Ytbbgpfjeobdogaa.PB
end

section
namespace Go.Proofs.Ytbbgpfjeobdogaa.PB
open Go.RowKit Go.Proofs.YtbbgpfjeobdogaaW.PrintWords Go.Proofs.YtbbgpfjeobdogaaW.PrintLast Go.Proofs.YtbbgpfjeobdogaaW.PrintMore
attribute [local go_sem] max2_int min2_int max_two min_two max_three min_three max_four min_four   
set_option linter.unusedVariables false
set_option linter.unusedSimpArgs false
def hist_own.f (a0_0 : Int) (a0_1 : ByteArray) (l0_2 : List (S71)) (a0_3 : ByteArray) (l0_4 : List (S71)) : Option (Int × ByteArray × (List (S71)) × ByteArray × (List (S71))) := (edit_Invert.f a0_0 a0_1 l0_2 a0_3 l0_4).bind fun bt117 => ((edit_Invert.f bt117.1 bt117.2.1 bt117.2.2.1 bt117.2.2.2.1 bt117.2.2.2.2).bind fun bt126 => (some (bt126.1, bt126.2.1, bt126.2.2.1, bt126.2.2.2.1, bt126.2.2.2.2)))
set_option maxHeartbeats 8000000 in
set_option maxRecDepth 100000 in
theorem hist_own.calls (a0_0 : Int) (a0_1 : ByteArray) (A0_2 : Option Addr) (c0_2 : Nat) (l0_2 : List (S71)) (a0_3 : ByteArray) (A0_4 : Option Addr) (c0_4 : Nat) (l0_4 : List (S71)) (r1 : Int) (r2 : ByteArray) (r3 : List (S71)) (r4 : ByteArray) (r5 : List (S71)) (w : World) (hr0_2 : Kd.C k71 w A0_2 l0_2.length l0_2) (hc0_2 : l0_2.length ≤ c0_2) (hr0_4 : Kd.C k71 w A0_4 l0_4.length l0_4) (hc0_4 : l0_4.length ≤ c0_4) (h : hist_own.f a0_0 a0_1 l0_2 a0_3 l0_4 = some (r1, r2, r3, r4, r5)) :
  Calls Try.prog 35 #[.agg #[.int .i64 a0_0, .string a0_1, .slice A0_2 l0_2.length c0_2, .string a0_3, .slice A0_4 l0_4.length c0_4]] w fun e w' => ∃ v2_ v4_ : Value, e = .returned (.agg #[.int .i64 r1, .string r2, v2_, .string r4, v4_]) ∧ Kd.R k71 71 w' w.heap.size (fun k_ => some k_ ≠ (v4_ : Value).ownBlock) v2_ r3 ∧ Kd.R k71 71 w' w.heap.size (fun k_ => some k_ ≠ (v2_ : Value).ownBlock) v4_ r5 ∧ Below w.heap.size w w' := by
 have hu34 := Try.underlying34
 have HR0_2 := aM hr0_2
 have HC0_2 := aM hc0_2
 clear hr0_2 hc0_2
 have HR0_4 := aM hr0_4
 have HC0_4 := aM hc0_4
 clear hr0_4 hc0_4
 have HB := aM (Below.refl w.heap.size w)
 have H : ((edit_Invert.f a0_0 a0_1 l0_2 a0_3 l0_4).bind fun bt117 => ((edit_Invert.f bt117.1 bt117.2.1 bt117.2.2.1 bt117.2.2.2.1 bt117.2.2.2.2).bind fun bt126 => (some (bt126.1, bt126.2.1, bt126.2.2.1, bt126.2.2.2.1, bt126.2.2.2.2)))) = some (r1, r2, r3, r4, r5) := h
 clear h
 replace H := Option.bind_eq_some_iff.mp H
 obtain ⟨⟨t117, t118, t119, t122, t123⟩, A20, H⟩ := H
 replace H : ((edit_Invert.f t117 t118 t119 t122 t123).bind fun bt126 => (some (bt126.1, bt126.2.1, bt126.2.2.1, bt126.2.2.2.1, bt126.2.2.2.2))) = some (r1, r2, r3, r4, r5) := H
 have A2 := aM A20
 clear A20
 replace H := Option.bind_eq_some_iff.mp H
 obtain ⟨⟨t126, t127, t128, t131, t132⟩, A30, H⟩ := H
 replace H : (some (t126, t127, t128, t131, t132)) = some (r1, r2, r3, r4, r5) := H
 have A3 := aM A30
 clear A30
 simp only [Option.some.injEq, Prod.mk.injEq] at H
 obtain ⟨rfl, rfl, rfl, rfl, rfl⟩ := H
 go_enter Try.func35, Try.ntmps35
 go_wp2_with (first | ((with_reducible refine gate_dst (N := 1) rfl ?_); refine box_event ?hg (N := 1) ?hd (cs := #[.int .i64 a0_0, .string a0_1, .slice A0_2 l0_2.length c0_2, .string a0_3, .slice A0_4 l0_4.length c0_4]) (t := 34) ?hr ?_; (case hd | hg => rfl); (case hr => first | (go_simp; done) | (go_simp; rfl)); intro gb115 hg w4 hbox hb; have n0_ := aM (bP (ey HB.out) hb); have n1_ := aM (hbox); have n2_ := aM ((by rw [hg]; exact (bZ (ey HB.out)) : w.heap.size ≤ gb115)); have n3_ := n2_; clear HB; have HB := n0_; have BK115 := n1_; have GW115 := n2_; have GE115 := n3_; clear n0_ n1_ n2_ n3_; clear hb hbox hg) | ((with_reducible refine gate_dst (N := 2) rfl ?_); refine box_event ?hg (N := 2) ?hd (cs := #[.int .i64 0, .string (⟨#[]⟩ : ByteArray), .slice none 0 0, .string (⟨#[]⟩ : ByteArray), .slice none 0 0]) (t := 34) ?hr ?_; (case hd | hg => rfl); (case hr => first | (go_simp; done) | (go_simp; rfl)); intro gb116 hg w5 hbox hb; have n0_ := aM (bB (g := gb115) (qy BK115.out) hb); have n1_ := aM (bP (by repeat (first | (with_reducible first | exact HB.out | apply ea | apply en | apply ed | refine es ?_ GE115.out) | exact HB.out)) hb); have n2_ := aM (hbox); have n3_ := aM ((by rw [hg]; exact (bZ (by repeat (first | (with_reducible first | exact HB.out | apply ea | apply en | apply ed | refine es ?_ GE115.out) | exact HB.out))) : w.heap.size ≤ gb116)); have n4_ := n3_; have n5_ := aM ((by rw [hg]; exact Nat.ne_of_lt (blk_lt (g := gb115) (qy BK115.out)) : gb115 ≠ gb116)); have n6_ := aM ((by rw [hg]; exact Nat.ne_of_gt (blk_lt (g := gb115) (qy BK115.out)) : gb116 ≠ gb115)); clear BK115 HB; have BK115 := n0_; have HB := n1_; have BK116 := n2_; have GW116 := n3_; have GE116 := n4_; have NB115_116 := n5_; have NB116_115 := n6_; clear n0_ n1_ n2_ n3_ n4_ n5_ n6_; clear hb hbox hg; have hnb6 := NB115_116.out; have hnc6 := NB116_115.out; have hcz7_0 := zC BK115.out 0 (.int .i64 a0_0); have hcz7_1 := zC BK115.out 1 (.string a0_1); have hcz7_2 := zC BK115.out 2 (.slice A0_2 l0_2.length c0_2); have hcz7_3 := zC BK115.out 3 (.string a0_3); have hcz7_4 := zC BK115.out 4 (.slice A0_4 l0_4.length c0_4); have hfz7_0 := bF BK115.out 0; have hfz7_1 := bF BK115.out 1; have hfz7_2 := bF BK115.out 2; have hfz7_3 := bF BK115.out 3; have hfz7_4 := bF BK115.out 4) | ((with_reducible refine gate_callee (f := 32) rfl ?_); refine goesL_ (some 4) rfl rfl Try.func32 (by kernel_rfl) rfl #[.agg #[.int .i64 a0_0, .string a0_1, .slice A0_2 l0_2.length c0_2, .string a0_3, .slice A0_4 l0_4.length c0_4]] rfl (by (try simp only [mT, mC, mN]); first | done | rfl | (simp only [lD, lT]; rfl)) ?_; (with_reducible refine (edit_Invert.calls a0_0 a0_1 _ _ l0_2 a0_3 _ _ l0_4 t117 t118 t119 t122 t123 _ ?side1 ?side2 ?side3 ?side4 A2.out).mono ?_); (case side1 => repeat (first | exact (cB_ HR0_2.out HB.out) | (with_reducible refine Kd.C_alloc ?_ _) | (with_reducible refine Kd.C_drewN ?_ _) | (with_reducible refine Kd.C_drew ?_))); (case side2 => exact HC0_2.out); (case side3 => repeat (first | exact (cB_ HR0_4.out HB.out) | (with_reducible refine Kd.C_alloc ?_ _) | (with_reducible refine Kd.C_drewN ?_ _) | (with_reducible refine Kd.C_drew ?_))); (case side4 => exact HC0_4.out); rintro e w8 ⟨v120, v124, rfl, ho0, ho1, hb⟩; refine ⟨_, rfl, ?_⟩; have n0_ := aM (rL ho0 (bZ (by repeat (first | (with_reducible first | exact HB.out | apply ea | apply en | apply ed | refine es ?_ GE115.out | refine es ?_ GE116.out) | exact HB.out)))); have n1_ := aM (rL ho1 (bZ (by repeat (first | (with_reducible first | exact HB.out | apply ea | apply en | apply ed | refine es ?_ GE115.out | refine es ?_ GE116.out) | exact HB.out)))); have n2_ := aM (bB (g := gb115) (qy BK115.out) hb); have n3_ := aM (bB (g := gb116) (qy BK116.out) hb); have n4_ := aM (bP (by repeat (first | (with_reducible first | exact HB.out | apply ea | apply en | apply ed | refine es ?_ GE115.out | refine es ?_ GE116.out) | exact HB.out)) hb); clear BK115 BK116 HB; have HO121 := n0_; have HO125 := n1_; have BK115 := n2_; have BK116 := n3_; have HB := n4_; clear n0_ n1_ n2_ n3_ n4_; (try clear hb); (try clear hb2); (try clear hk); (try clear hi); (try clear ho0); (try clear ho1); obtain ⟨Ao9, co9, eo9⟩ := Kd.R_slice HO121.out; subst eo9; obtain ⟨Ao10, co10, eo10⟩ := Kd.R_slice HO125.out; subst eo10) | ((with_reducible refine gate_callee (f := 32) rfl ?_); refine goesL_ (some 5) rfl rfl Try.func32 (by kernel_rfl) rfl #[.agg #[.int .i64 t117, .string t118, .slice Ao9 t119.length co9, .string t122, .slice Ao10 t123.length co10]] rfl (by (try simp only [mT, mC, mN]); first | done | rfl | (simp only [lD, lT]; rfl)) ?_; (with_reducible refine (edit_Invert.calls t117 t118 _ _ t119 t122 _ _ t123 t126 t127 t128 t131 t132 _ ?side1 ?side2 ?side3 ?side4 A3.out).mono ?_); (case side1 => repeat (first | exact (rR HO121.out).2.2 | (with_reducible refine Kd.C_alloc ?_ _) | (with_reducible refine Kd.C_drewN ?_ _) | (with_reducible refine Kd.C_drew ?_))); (case side2 => exact (rR HO121.out).2.1); (case side3 => repeat (first | exact (rR HO125.out).2.2 | (with_reducible refine Kd.C_alloc ?_ _) | (with_reducible refine Kd.C_drewN ?_ _) | (with_reducible refine Kd.C_drew ?_))); (case side4 => exact (rR HO125.out).2.1); rintro e w11 ⟨v129, v133, rfl, ho0, ho1, hb⟩; refine ⟨_, rfl, ?_⟩; have n0_ := aM (rM (Kd.R_told (Kd.R_told (Kd.R_old (ry HO121.out) hb) (Kd.R_base ho0)) (Kd.R_base ho1)) (fun _ h_ => h_.1)); have n1_ := aM (rM (Kd.R_told (Kd.R_told (Kd.R_old (ry HO125.out) hb) (Kd.R_base ho0)) (Kd.R_base ho1)) (fun _ h_ => h_.1)); have n2_ := aM (rL (Kd.R_new' (Kd.R_new' ho0 (Kd.R_lt (ry HO121.out))) (Kd.R_lt (ry HO125.out))) (bZ (by repeat (first | (with_reducible first | exact HB.out | apply ea | apply en | apply ed | refine es ?_ GE115.out | refine es ?_ GE116.out) | exact HB.out)))); have n3_ := aM (rL (Kd.R_new' (Kd.R_new' ho1 (Kd.R_lt (ry HO121.out))) (Kd.R_lt (ry HO125.out))) (bZ (by repeat (first | (with_reducible first | exact HB.out | apply ea | apply en | apply ed | refine es ?_ GE115.out | refine es ?_ GE116.out) | exact HB.out)))); have n4_ := aM (bB (g := gb115) (qy BK115.out) hb); have n5_ := aM (bB (g := gb116) (qy BK116.out) hb); have n6_ := aM (bP (by repeat (first | (with_reducible first | exact HB.out | apply ea | apply en | apply ed | refine es ?_ GE115.out | refine es ?_ GE116.out) | exact HB.out)) hb); clear HO121 HO125 BK115 BK116 HB; have HO121 := n0_; have HO125 := n1_; have HO130 := n2_; have HO134 := n3_; have BK115 := n4_; have BK116 := n5_; have HB := n6_; clear n0_ n1_ n2_ n3_ n4_ n5_ n6_; (try clear hb); (try clear hb2); (try clear hk); (try clear hi); (try clear ho0); (try clear ho1); have hcz12_0 := zC BK116.out 0 (.int .i64 0); have hcz12_1 := zC BK116.out 1 (.string (⟨#[]⟩ : ByteArray)); have hcz12_2 := zC BK116.out 2 (.slice none 0 0); have hcz12_3 := zC BK116.out 3 (.string (⟨#[]⟩ : ByteArray)); have hcz12_4 := zC BK116.out 4 (.slice none 0 0); have hfz12_0 := bF BK116.out 0; have hfz12_1 := bF BK116.out 1; have hfz12_2 := bF BK116.out 2; have hfz12_3 := bF BK116.out 3; have hfz12_4 := bF BK116.out 4; obtain ⟨Ao13, co13, eo13⟩ := Kd.R_slice HO130.out; subst eo13; obtain ⟨Ao14, co14, eo14⟩ := Kd.R_slice HO134.out; subst eo14))
 refine bodyPost_ret (results_cell_row rfl _ _ gb116 34 #[.int .i64 t126, .string t127, .slice Ao13 t128.length co13, .string t131, .slice Ao14 t132.length co14] (0, 0) _ rfl (by (with_reducible repeat (first | apply qn | apply qd | apply qa)); refine bU (cs := #[.int .i64 t126, .string t127, .slice Ao13 t128.length co13, .string t131, .slice none 0 0]) ?_ 4 _ rfl; (with_reducible repeat (first | apply qn | apply qd | apply qa)); refine bU (cs := #[.int .i64 t126, .string t127, .slice Ao13 t128.length co13, .string (⟨#[]⟩ : ByteArray), .slice none 0 0]) ?_ 3 _ rfl; (with_reducible repeat (first | apply qn | apply qd | apply qa)); refine bU (cs := #[.int .i64 t126, .string t127, .slice none 0 0, .string (⟨#[]⟩ : ByteArray), .slice none 0 0]) ?_ 2 _ rfl; (with_reducible repeat (first | apply qn | apply qd | apply qa)); refine bU (cs := #[.int .i64 t126, .string (⟨#[]⟩ : ByteArray), .slice none 0 0, .string (⟨#[]⟩ : ByteArray), .slice none 0 0]) ?_ 1 _ rfl; (with_reducible repeat (first | apply qn | apply qd | apply qa)); refine bU (cs := #[.int .i64 0, .string (⟨#[]⟩ : ByteArray), .slice none 0 0, .string (⟨#[]⟩ : ByteArray), .slice none 0 0]) ?_ 0 _ rfl; exact qy BK116.out) Try.underlying34 rfl (by kernel_rfl)) rfl ?_
 exact ⟨_, _, by first | rfl | (simp [errW_none, errW_some] <;> rfl) | (simp [*, errW_none, errW_some] <;> rfl), by (with_reducible repeat (first | apply ra | apply rn | apply rd_)); exact rM (rF (p := ⟨gb116, 4, none⟩) (rF (p := ⟨gb116, 3, none⟩) (rF (p := ⟨gb116, 2, none⟩) (rF (p := ⟨gb116, 1, none⟩) (rF (p := ⟨gb116, 0, none⟩) (rT HO130.out BK116.out (by decide)) (fun _ hk => hk.2) (.int .i64 t126)) (fun _ hk => hk.2) (.string t127)) (fun _ hk => hk.2) (.slice Ao13 t128.length co13)) (fun _ hk => hk.2) (.string t131)) (fun _ hk => hk.2) (.slice Ao14 t132.length co14)) (fun _ hk => hk.1.1.1), by (with_reducible repeat (first | apply ra | apply rn | apply rd_)); exact rM (rF (p := ⟨gb116, 4, none⟩) (rF (p := ⟨gb116, 3, none⟩) (rF (p := ⟨gb116, 2, none⟩) (rF (p := ⟨gb116, 1, none⟩) (rF (p := ⟨gb116, 0, none⟩) (rT HO134.out BK116.out (by decide)) (fun _ hk => hk.2) (.int .i64 t126)) (fun _ hk => hk.2) (.string t127)) (fun _ hk => hk.2) (.slice Ao13 t128.length co13)) (fun _ hk => hk.2) (.string t131)) (fun _ hk => hk.2) (.slice Ao14 t132.length co14)) (fun _ hk => hk.1.1.1), by repeat (first | (with_reducible first | exact HB.out | apply ea | apply en | apply ed | refine es ?_ GE115.out | refine es ?_ GE116.out) | exact HB.out)⟩
end Go.Proofs.Ytbbgpfjeobdogaa.PB
end

section
namespace Go.Proofs.Ytbbgpfjeobdogaa.PB
open Go.RowKit Go.Maps Go.Proofs.YtbbgpfjeobdogaaW.PrintWords Go.Proofs.YtbbgpfjeobdogaaW.PrintLast Go.Proofs.YtbbgpfjeobdogaaW.PrintMore
set_option maxRecDepth 100000
set_option linter.unusedVariables false
set_option linter.unusedSimpArgs false
abbrev Ed := S34
def invE (x : Ed) : Ed := ⟨x.f0, x.f2, x.f1⟩
theorem own_f (s : ByteArray) (l : List S71) (h : l.length ≤ 100000) : edit_own.f s l = some (s, l) := by unfold edit_own.f; rw [if_pos (by omega)]
theorem invert_f (x : Ed) (h1 : x.f1.f1.length ≤ 100000) (h2 : x.f2.f1.length ≤ 100000) : edit_Invert.f x.f0 x.f1.f0 x.f1.f1 x.f2.f0 x.f2.f1 = some (x.f0, x.f2.f0, x.f2.f1, x.f1.f0, x.f1.f1) := by
  unfold edit_Invert.f
  rw [own_f _ _ h1, own_f _ _ h2]
  rfl
theorem hown_f (x : Ed) (h1 : x.f1.f1.length ≤ 100000) (h2 : x.f2.f1.length ≤ 100000) : hist_own.f x.f0 x.f1.f0 x.f1.f1 x.f2.f0 x.f2.f1 = some (x.f0, x.f1.f0, x.f1.f1, x.f2.f0, x.f2.f1) := by
  unfold hist_own.f
  rw [invert_f x h1 h2]
  show (edit_Invert.f x.f0 x.f2.f0 x.f2.f1 x.f1.f0 x.f1.f1).bind _ = _
  have := invert_f (invE x) h2 h1
  unfold invE at this
  rw [this]
  rfl
theorem ed_of {w : World} {B : Nat} {x : Ed} {v2 v4 : Value} {ok ok' : Nat → Prop} (h2 : Kd.R k71 71 w B ok v2 x.f1.f1) (h4 : Kd.R k71 71 w B ok' v4 x.f2.f1) :
    Kd.FK k34 w (fun k => B ≤ k) x [.int .i64 x.f0, .string x.f1.f0, v2, .string x.f2.f0, v4] :=
  Kd.FK_of_M (base := B) (k34_mkM w B (fun k => B ≤ k) x (rM (Kd.R_bound h2) (fun k hk => hk.2.1)) (rM (Kd.R_bound h4) (fun k hk => hk.2.1)))
def EdAt (w : World) (ok : Nat → Prop) (v : Value) (x : Ed) : Prop := ∃ cs : List Value, v = .agg cs.toArray ∧ Kd.FK k34 w ok x cs
abbrev zEd : Value := .agg #[.int .i64 0, .string ⟨#[]⟩, .slice none 0 0, .string ⟨#[]⟩, .slice none 0 0]
theorem ed_zero (w : World) (ok : Nat → Prop) : EdAt w ok zEd z34 :=
  ⟨[.int .i64 0, .string ⟨#[]⟩, .slice none 0 0, .string ⟨#[]⟩, .slice none 0 0], rfl, fun W _ => k34_mk W z34 (Nat.le_refl _) (Kd.C_nil _ W) (Nat.le_refl _) (Kd.C_nil _ W)⟩
abbrev zs6 : Array Value := #[.int .i64 0, .int .i64 0, .string ⟨#[]⟩, .slice none 0 0, .string ⟨#[]⟩, .slice none 0 0]
abbrev zs5 : Array Value := #[.int .i64 0, .string ⟨#[]⟩, .slice none 0 0, .string ⟨#[]⟩, .slice none 0 0]
theorem HistAt.of_g {B : Nat} {S : Nat → Prop} {g bm : Nat} {w W : World} {L : List St} {now next depth now' next' depth' : Int} (h : HistAt B S g bm w L now next depth) (ht : Turn B (fun k => k = g) w W) (hg' : ∃ first : Int, W.heap[g]? = some (.cells #[.map (some bm), .int .i64 first, .int .i64 now', .int .i64 next', .int .i64 depth'] 67 (0, 0))) : HistAt B S g bm W L now' next' depth' := by
  have hne := h.lt.2.2.2
  obtain ⟨_, ⟨D, h2⟩, h3, h4, h5, h6⟩ := h
  exact ⟨hg', ⟨D, h2.turn ht (fun e => hne e.symm) (fun k hk e => hk (e ▸ h3))⟩, h3, h4, h5, h6⟩
set_option maxHeartbeats 8000000 in
theorem undo_ok {B : Nat} {S : Nat → Prop} {g bm : Nat} {w : World} {L : List St} {now next depth : Int} (h : HistAt B S g bm w L now next depth) (hw : Wf L now next) {x : St} (hx : x ∈ L) (hxn : x.f0 = now) :
    Calls Try.prog 12 #[.pointer (some ⟨g, 0, none⟩)] w fun e w' => ∃ v, e = .returned (.tuple #[v, .int .i64 (if x.f1 < 0 then 6 else 0)]) ∧ EdAt w' (fun k => w.heap.size ≤ k) v (if x.f1 < 0 then z34 else invE x.f2) ∧ HistAt B S g bm w' L (if x.f1 < 0 then now else x.f1) next depth ∧ Turn B (hb g bm) w w' := by
  have hu34 := Try.underlying34
  have hu74 := Try.underlying74
  have HH := aM h
  have HW := aM hw
  have HX := aM hx
  have hlow := aM (hw.low x hx)
  have htop := aM hw.top
  have hfit := aM (hw.fit x hx)
  subst hxn
  obtain ⟨f0, hg0⟩ := h.hg
  obtain ⟨D, hD⟩ := h.hm
  obtain ⟨cs, hcs⟩ := hD.val x hx
  obtain ⟨A3, c3, A5, c5, rfl, l3, F3, l5, F5⟩ := cells_open hcs.2
  have HLK : Aside0 (∀ W : World, Below w.heap.size w W → (Instr.lookup 65 (.map (some bm)) (.int .i64 x.f0) false).run Try.prog W = .ok (.agg #[.int .i64 x.f1, .int .i64 x.f2.f0, .string x.f2.f1.f0, .slice A3 x.f2.f1.f1.length c3, .string x.f2.f2.f0, .slice A5 x.f2.f2.f1.length c5]) W) := ⟨fun W hb =>
    look_in (hD.turn (Turn.of_below (B := 0) (S := fun _ => False) hb (Nat.zero_le _)) (fun h => h) (fun _ _ h => h)) hx (by have := hw.low x hx; omega) (by have := hw.low x hx; have := hw.top; omega) ⟨hcs.1, Kd.FK_below hcs.2 hb⟩⟩
  have HG := aM hg0
  have HF := aM (And.intro (And.intro l3 l5) (And.intro F3 F5))
  clear h hw hx hg0 hD hcs l3 l5 F3 F5
  go_enter Try.func12, Try.ntmps12
  go_wp2_with (first
    | ((with_reducible refine gate_dst (N := 2) rfl ?_); refine box_event ?hg (N := 2) ?hd (cs := zs5) (t := 34) ?hr ?_; (case hd => rfl); (case hg => rfl); (case hr => first | (go_simp; done) | (go_simp; rfl)); intro g2 hg w2 hbox hb; have HB2 := aM hb; have HX2 := aM hbox; have GE2 := aM (Nat.le_of_eq hg.symm); have HH2 := aM (HH.out.below hb); clear hb hbox hg)
    | ((with_reducible refine gate_callee (f := 31) rfl ?_); refine goesL_ (some 6) rfl rfl Try.func31 (by kernel_rfl) rfl #[.pointer (some ⟨g, 0, none⟩)] rfl (by (try simp only [List.map_toArray, List.map_cons, List.map_nil]); first | done | rfl) ?_; (with_reducible refine (good_ok HH2.out).mono ?_); rintro e w3 ⟨rfl, hw⟩; subst w3; refine ⟨_, rfl, ?_⟩)
    )
  refine start_ (n := 11) (S := fun w' => w'.cell? ⟨g, 0, none⟩ = some (.map (some bm)) ∧ w'.cell? ⟨g, 2, none⟩ = some (.int .i64 x.f0) ∧ (Instr.lookup 65 (.map (some bm)) (.int .i64 x.f0) false).run Try.prog w' = .ok (.agg #[.int .i64 x.f1, .int .i64 x.f2.f0, .string x.f2.f1.f0, .slice A3 x.f2.f1.f1.length c3, .string x.f2.f2.f0, .slice A5 x.f2.f2.f1.length c5]) w') (ds := [10]) #[tF,tF,tF,tF,tF,tF,tF,tF,tF,tF,tF] (by kernel_rfl) rfl rfl ⟨(bC (bB HG.out (below_drew1 HB2.out)) 0).trans rfl, (bC (bB HG.out (below_drew1 HB2.out)) 2).trans rfl, HLK.out _ (below_drew1 HB2.out)⟩ (fun hHeld => ?_)
  have HX3 := aM (blk_drew HX2.out)
  have HB3 := aM (below_drew1 HB2.out)
  clear HX2 HB2 HH2
  generalize w2.drew = w3 at HX3 HB3 hHeld ⊢
  refine sv 0 9 #[tT,tF,tF,tF,tF,tF,tF,tF,tF,tF,tF] ?_
  refine sv 1 10 #[tT,tT,tF,tF,tF,tF,tF,tF,tF,tF,tF] ?_
  refine sv 2 11 #[tT,tT,tT,tF,tF,tF,tF,tF,tF,tF,tF] ?_
  refine sv 4 13 #[tT,tT,tT,tF,tT,tF,tF,tF,tF,tF,tF] ?_
  refine sv 5 14 #[tT,tT,tT,tF,tT,tT,tF,tF,tF,tF,tF] ?_
  refine sv 6 15 #[tT,tT,tT,tF,tT,tT,tT,tF,tF,tF,tF] ?_
  refine st 3 12 #[tT,tT,tT,tT,tT,tT,tT,tF,tF,tF,tF] hHeld ?_
  refine st 7 16 #[tT,tT,tT,tT,tT,tT,tT,tT,tF,tF,tF] hHeld ?_
  refine st 8 17 #[tT,tT,tT,tT,tT,tT,tT,tT,tT,tF,tF] hHeld ?_
  refine one_ (i := 9) (N := some 4) #[tT,tT,tT,tT,tT,tT,tT,tT,tT,tT,tF] rfl rfl (by kernel_rfl) (by decide) (fun K hK => ?_)
  refine value_ (v := .pointer (some ⟨w3.heap.size, 0, none⟩)) (w1 := w3.alloc (.cells zs6 74)) (by rfl) rfl ?_ ?_
  · first | (go_simp; done) | (go_simp; rfl)
  have HB4 := aM (below_alloc HB3.out (.cells zs6 74))
  have HX4 := aM (blk_alloc HX3.out (.cells zs6 74))
  have HY4 := aM (blk_new w3 (.cells zs6 74))
  have NE2 := aM (show w3.heap.size ≠ g2 from fun e => by have := blk_lt HX3.out; omega)
  have GE4 := aM HB3.out.size
  refine hK.out _ _ ⟨(bC (bB HG.out HB4.out) 0).trans rfl, (bC (bB HG.out HB4.out) 2).trans rfl, HLK.out _ HB4.out⟩ (fun hHeld => ?_)
  clear hK K HX3 HB3
  generalize w3.alloc _ = w4 at HB4 HX4 HY4 hHeld ⊢
  generalize w3.heap.size = g4 at NE2 GE4 HY4 ⊢
  refine norm_ (a' := ?_) ?_ ?_
  rotate_left
  · simp only [Act.put, List.setIfInBounds_toArray, List.set_cons_zero, List.set_cons_succ, i64_w, i32_w]
    rfl
  refine last_ (i := 10) (N := none) #[tT,tT,tT,tT,tT,tT,tT,tT,tT,tT,tT] rfl rfl (by kernel_rfl) (by decide) (fun K hK => ?_)
  have hy0 := (bC HY4.out 0).trans (rfl : _ = some (Value.int .i64 0))
  have hy1 := (bC HY4.out 1).trans (rfl : _ = some (Value.int .i64 0))
  have hy2 := (bC HY4.out 2).trans (rfl : _ = some (Value.string ⟨#[]⟩))
  have hy3 := (bC HY4.out 3).trans (rfl : _ = some (Value.slice none 0 0))
  have hy4 := (bC HY4.out 4).trans (rfl : _ = some (Value.string ⟨#[]⟩))
  have hy5 := (bC HY4.out 5).trans (rfl : _ = some (Value.slice none 0 0))
  have hf0 := bF HY4.out 0
  have hf1 := bF HY4.out 1
  have hf2 := bF HY4.out 2
  have hf3 := bF HY4.out 3
  have hf4 := bF HY4.out 4
  have hf5 := bF HY4.out 5
  refine skip_ (w1 := ?_) (by rfl) rfl ?_ ?_
  rotate_left
  · go_simp
    rfl
  refine hK.out _ _ (done_ (by kernel_rfl) ?_)
  clear hK K hHeld hy0 hy1 hy2 hy3 hy4 hy5 hf0 hf1 hf2 hf3 hf4 hf5
  generalize hw5 : World.setCell _ ⟨g4, 5, none⟩ _ = w5
  have HB5 := aM (show Below w.heap.size w w5 from by subst hw5; exact below_set (below_set (below_set (below_set (below_set (below_set HB4.out GE4.out) GE4.out) GE4.out) GE4.out) GE4.out) GE4.out)
  have HY5 := aM (show w5.heap[g4]? = some (.cells #[.int .i64 x.f1, .int .i64 x.f2.f0, .string x.f2.f1.f0, .slice A3 x.f2.f1.f1.length c3, .string x.f2.f2.f0, .slice A5 x.f2.f2.f1.length c5] 74 (0, 0)) from by subst hw5; exact (blk_set (blk_set (blk_set (blk_set (blk_set (blk_set HY4.out 0 _) 1 _) 2 _) 3 _) 4 _) 5 _).trans rfl)
  have HX5 := aM (show w5.heap[g2]? = some (.cells zs5 34 (0, 0)) from by subst hw5; exact bR (bR (bR (bR (bR (bR HX4.out (fun e => NE2.out e.symm) _) (fun e => NE2.out e.symm) _) (fun e => NE2.out e.symm) _) (fun e => NE2.out e.symm) _) (fun e => NE2.out e.symm) _) (fun e => NE2.out e.symm) _)
  clear hw5 HB4 HY4 HX4
  have HG5 := aM (bB HG.out HB5.out)
  have hz0 := (bC HX5.out 0).trans (rfl : _ = some (Value.int .i64 0))
  have hz1 := (bC HX5.out 1).trans (rfl : _ = some (Value.string ⟨#[]⟩))
  have hz2 := (bC HX5.out 2).trans (rfl : _ = some (Value.slice none 0 0))
  have hz3 := (bC HX5.out 3).trans (rfl : _ = some (Value.string ⟨#[]⟩))
  have hz4 := (bC HX5.out 4).trans (rfl : _ = some (Value.slice none 0 0))
  have hfz0 := bF HX5.out 0
  have hfz1 := bF HX5.out 1
  have hfz2 := bF HX5.out 2
  have hfz3 := bF HX5.out 3
  have hfz4 := bF HX5.out 4
  have hy0 := (bC HY5.out 0).trans (rfl : _ = some (Value.int .i64 x.f1))
  by_cases hup : x.f1 < 0
  · have d1 : decide (x.f1 < 0) = true := decide_eq_true hup
    go_wp2
    refine bodyPost_ret (results_ct rfl _ _ g2 34 zs5 (0, 0) _ rfl ((blk_set (blk_set (blk_set (blk_set (blk_set HX5.out 0 _) 1 _) 2 _) 3 _) 4 _).trans rfl) Try.underlying34 rfl (by kernel_rfl)) rfl ?_
    have HB6 : ∀ W, Below w.heap.size w W → HistAt B S g bm W L x.f0 next depth ∧ Turn B (hb g bm) w W := fun W hb => ⟨HH.out.below hb, Turn.of_below hb HH.out.lt.1⟩
    refine ⟨zEd, rfl, ed_zero _ _, ?_⟩
    exact HB6 _ (by repeat (first | exact HB5.out | refine es ?_ GE2.out))
  · have d1 : decide (x.f1 < 0) = false := decide_eq_false hup
    have hcg := (bC HG5.out 2).trans (rfl : _ = some (Value.int .i64 x.f0))
    have hfg := bF HG5.out 2
    have hy1 := (bC HY5.out 1).trans (rfl : _ = some (Value.int .i64 x.f2.f0))
    have hy2 := (bC HY5.out 2).trans (rfl : _ = some (Value.string x.f2.f1.f0))
    have hy3 := (bC HY5.out 3).trans (rfl : _ = some (Value.slice A3 x.f2.f1.f1.length c3))
    have hy4 := (bC HY5.out 4).trans (rfl : _ = some (Value.string x.f2.f2.f0))
    have hy5 := (bC HY5.out 5).trans (rfl : _ = some (Value.slice A5 x.f2.f2.f1.length c5))
    have NG2 := aM (show g ≠ g2 from fun e => by have := HH.out.lt.2.1; have := GE2.out; omega)
    have NG4 := aM (show g ≠ g4 from fun e => by have := HH.out.lt.2.1; have := GE4.out; omega)
    have hn4 := NG4.out
    have hn4' : g4 ≠ g := fun e => hn4 e.symm
    have hn2' : g2 ≠ g := fun e => NG2.out e.symm
    go_wp2_with (first
      | ((with_reducible refine gate_callee (f := 32) rfl ?_); refine goesL_ (some 29) rfl rfl Try.func32 (by kernel_rfl) rfl #[.agg #[.int .i64 x.f2.f0, .string x.f2.f1.f0, .slice A3 x.f2.f1.f1.length c3, .string x.f2.f2.f0, .slice A5 x.f2.f2.f1.length c5]] rfl (by (try simp only [List.map_toArray, List.map_cons, List.map_nil]); first | done | rfl) ?_; have HT6 := aM ((Turn.of_below (S := fun k => k = g) HB5.out HH.out.lt.1).set (p := ⟨g, 2, none⟩) (.inl rfl) HH.out.bg (.int .i64 x.f1)); have HG6 := aM (bU (cs' := #[.map (some bm), .int .i64 f0, .int .i64 x.f1, .int .i64 next, .int .i64 depth]) HG5.out 2 (.int .i64 x.f1) rfl); have hok : ∀ k, ¬ S k → ¬ k = g := fun k hk e => hk (e ▸ HH.out.sg); have HX6 := aM (bR (p := ⟨g, 2, none⟩) HX5.out hn2' (.int .i64 x.f1)); (with_reducible refine (edit_Invert.calls x.f2.f0 x.f2.f1.f0 A3 c3 x.f2.f1.f1 x.f2.f2.f0 A5 c5 x.f2.f2.f1 _ _ _ _ _ _ (Kd.F_now (HT6.out.f HF.out.2.1 hok)) HF.out.1.1 (Kd.F_now (HT6.out.f HF.out.2.2 hok)) HF.out.1.2 (invert_f x.f2 hfit.out.1 hfit.out.2)).mono ?_); rintro e w7 ⟨v2, v4, rfl, h2, h4, hbb⟩; obtain ⟨A7, c7, rfl⟩ := Kd.R_slice h2; obtain ⟨A8, c8, rfl⟩ := Kd.R_slice h4; refine ⟨_, rfl, ?_⟩; have HE7 := aM (Kd.FK_mono (ok' := fun k => w.heap.size ≤ k ∧ k ≠ g2) (ed_of (x := invE x.f2) h2 h4) (fun k hk => ⟨Nat.le_trans HT6.out.size hk, fun e => by have := blk_lt HX6.out; omega⟩)); have HT7 := aM (HT6.out.below hbb (Nat.le_trans HH.out.lt.1 HT6.out.size)); have HG7 := aM (bB HG6.out hbb); have HX7 := aM (bB HX6.out hbb); clear h2 h4 hbb hok HX6 HG6 HT6; clear hz0 hz1 hz2 hz3 hz4 hfz0 hfz1 hfz2 hfz3 hfz4; have hz0 := (bC HX7.out 0).trans (rfl : _ = some (Value.int .i64 0)); have hz1 := (bC HX7.out 1).trans (rfl : _ = some (Value.string ⟨#[]⟩)); have hz2 := (bC HX7.out 2).trans (rfl : _ = some (Value.slice none 0 0)); have hz3 := (bC HX7.out 3).trans (rfl : _ = some (Value.string ⟨#[]⟩)); have hz4 := (bC HX7.out 4).trans (rfl : _ = some (Value.slice none 0 0)); have hfz0 := bF HX7.out 0; have hfz1 := bF HX7.out 1; have hfz2 := bF HX7.out 2; have hfz3 := bF HX7.out 3; have hfz4 := bF HX7.out 4)
      )
    refine bodyPost_ret (results_ct rfl _ _ g2 34 _ (0, 0) _ rfl ((blk_set (blk_set (blk_set (blk_set (blk_set HX7.out 0 _) 1 _) 2 _) 3 _) 4 _).trans rfl) Try.underlying34 rfl (by kernel_rfl)) rfl ?_
    have ht : ∀ (i : Nat) (u : Value) (W : World), Turn B (fun k => k = g) w W → Turn B (fun k => k = g) w (W.setCell ⟨g2, i, none⟩ u) := fun i u W h => h.set (p := ⟨g2, i, none⟩) (.inr GE2.out) (Nat.le_trans HH.out.lt.1 GE2.out) u
    have hf : ∀ (i : Nat) (u : Value) (W : World) (cs : List Value), Kd.FK k34 W (fun k => w.heap.size ≤ k ∧ k ≠ g2) (invE x.f2) cs → Kd.FK k34 (W.setCell ⟨g2, i, none⟩ u) (fun k => w.heap.size ≤ k ∧ k ≠ g2) (invE x.f2) cs := fun i u W cs h => Kd.FK_step h (fun k hk _ => Below.heap_setCell W ⟨g2, i, none⟩ u k hk.2)
    refine ⟨_, rfl, ⟨_, rfl, Kd.FK_mono (hf _ _ _ _ (hf _ _ _ _ (hf _ _ _ _ (hf _ _ _ _ (hf _ _ _ _ HE7.out))))) (fun k hk => hk.1)⟩, ?_, (ht _ _ _ (ht _ _ _ (ht _ _ _ (ht _ _ _ (ht _ _ _ HT7.out))))).mono (fun k hk => .inl hk)⟩
    exact HH.out.of_g (ht _ _ _ (ht _ _ _ (ht _ _ _ (ht _ _ _ (ht _ _ _ HT7.out))))) ⟨f0, bR (bR (bR (bR (bR HG7.out NG2.out _) NG2.out _) NG2.out _) NG2.out _) NG2.out _⟩
end Go.Proofs.Ytbbgpfjeobdogaa.PB
end

section
namespace Go.Proofs.Ytbbgpfjeobdogaa.PB
open Go.RowKit Go.Maps Go.Proofs.YtbbgpfjeobdogaaW.PrintWords Go.Proofs.YtbbgpfjeobdogaaW.PrintLast Go.Proofs.YtbbgpfjeobdogaaW.PrintMore
set_option maxRecDepth 100000
set_option linter.unusedVariables false
set_option linter.unusedSimpArgs false
theorem MapAt.tidy {ok : Nat → Prop} {bm : Nat} {w : World} {D : DataW Value} {L : List St} (h : MapAt ok bm w D L) : Tidy D := by
  obtain ⟨n, _, ho⟩ := h.own
  exact ho.tidy lawK
theorem any_iff {L : List St} {n : Int} : L.any (fun x => x.f0 == n) = true ↔ ∃ x ∈ L, x.f0 = n := by simp
theorem MapAt.del {ok : Nat → Prop} {bm : Nat} {w W : World} {D : DataW Value} {L L' : List St} (h : MapAt ok bm w D L) {k : Int} (ho : ∃ n, n ≤ 1000 ∧ W.ownsMap Try.prog 3 heldE bm n (D.del (kN k)))
    (hk : ∃ x ∈ L, x.f0 = k) (hL : ∀ x, x ∈ L' ↔ x ∈ L ∧ x.f0 ≠ k) (hl : L'.length + 1 = L.length) (hfk : ∀ x ∈ L, ∀ cs, Kd.FK kS w ok ⟨x.f1, x.f2⟩ cs → Kd.FK kS W ok ⟨x.f1, x.f2⟩ cs) : MapAt ok bm W (D.del (kN k)) L' := by
  refine ⟨ho, fun n => ?_, ?_, fun x hx => ?_⟩
  · by_cases hn : n = k
    · subst hn
      rw [has_del_same]
      symm
      rw [List.any_eq_false]
      intro x hx
      simpa using ((hL x).1 hx).2
    · rw [has_del_other (kN_ne hn), h.has, Bool.eq_iff_iff, any_iff, any_iff]
      constructor
      · rintro ⟨x, hx, rfl⟩; exact ⟨x, (hL x).2 ⟨hx, hn⟩, rfl⟩
      · rintro ⟨x, hx, rfl⟩; exact ⟨x, ((hL x).1 hx).1, rfl⟩
  · have := size_del (k := kN k) h.tidy
    rw [h.has, any_iff.2 hk, if_pos rfl, h.size] at this
    omega
  · obtain ⟨h1, h2⟩ := (hL x).1 hx
    obtain ⟨cs, h3, h4⟩ := h.val x h1
    exact ⟨cs, fun z => by rw [atKey_del_other (kN_ne h2)]; exact h3 z, hfk x h1 cs h4⟩
theorem MapAt.put {ok : Nat → Prop} {bm : Nat} {w W : World} {D : DataW Value} {L L' : List St} (h : MapAt ok bm w D L) {k : Int} {cs : List Value} (ho : ∃ n, n ≤ 1000 ∧ W.ownsMap Try.prog 3 heldE bm n (D.put (kN k) (.held (.agg cs.toArray))))
    {y : St} (hy : y.f0 = k) (hcs : Kd.FK kS W ok ⟨y.f1, y.f2⟩ cs) (hL : ∀ x, x ∈ L' ↔ x = y ∨ (x ∈ L ∧ x.f0 ≠ k)) (hl : L'.length = if L.any (fun x => x.f0 == k) then L.length else L.length + 1) (hfk : ∀ x ∈ L, ∀ cs, Kd.FK kS w ok ⟨x.f1, x.f2⟩ cs → Kd.FK kS W ok ⟨x.f1, x.f2⟩ cs) : MapAt ok bm W (D.put (kN k) (.held (.agg cs.toArray))) L' := by
  subst hy
  refine ⟨ho, fun n => ?_, ?_, fun x hx => ?_⟩
  · by_cases hn : n = y.f0
    · subst hn
      rw [has_put_same h.tidy.isMap (kN_key _)]
      exact (any_iff.2 ⟨y, (hL y).2 (.inl rfl), rfl⟩).symm
    · rw [has_put_other (kN_ne hn), h.has, Bool.eq_iff_iff, any_iff, any_iff]
      constructor
      · rintro ⟨x, hx, rfl⟩; exact ⟨x, (hL x).2 (.inr ⟨hx, hn⟩), rfl⟩
      · rintro ⟨x, hx, rfl⟩
        rcases (hL x).1 hx with rfl | hx
        · exact absurd rfl hn
        · exact ⟨x, hx.1, rfl⟩
  · rw [size_put h.tidy, h.has, h.size, hl]
  · rcases (hL x).1 hx with rfl | ⟨h1, h2⟩
    · exact ⟨cs, fun z => atKey_put_same h.tidy.isMap (kN_key _) _ z, hcs⟩
    · obtain ⟨cs', h3, h4⟩ := h.val x h1
      exact ⟨cs', fun z => by rw [atKey_put_other (kN_ne h2)]; exact h3 z, hfk x h1 cs' h4⟩
end Go.Proofs.Ytbbgpfjeobdogaa.PB
end

section
namespace Go.Proofs.Ytbbgpfjeobdogaa.PB
open Go.RowKit Go.Maps Go.Proofs.YtbbgpfjeobdogaaW.PrintWords Go.Proofs.YtbbgpfjeobdogaaW.PrintLast Go.Proofs.YtbbgpfjeobdogaaW.PrintMore
set_option maxRecDepth 100000
set_option linter.unusedVariables false
set_option linter.unusedSimpArgs false
theorem look_any {ok : Nat → Prop} {bm : Nat} {w : World} {D : DataW Value} {L : List St} (h : MapAt ok bm w D L) {k : Int} (h0 : -1 ≤ k) (h1 : k ≤ 1000000) :
    ∃ (a b : Int) (s s' : ByteArray) (A A' : Option Addr) (n c n' c' : Nat), ∀ W : World, Below w.heap.size w W → (Instr.lookup 65 (.map (some bm)) (.int .i64 k) true).run Try.prog W = .ok (.tuple #[.agg #[.int .i64 a, .int .i64 b, .string s, .slice A n c, .string s', .slice A' n' c'], .bool (L.any (fun x => x.f0 == k))]) W := by
  have hm : ∀ W : World, Below w.heap.size w W → MapAt ok bm W D L := fun W hb => h.turn (Turn.of_below (B := 0) (S := fun _ => False) hb (Nat.zero_le _)) (fun h => h) (fun _ _ h => h)
  by_cases hk : ∃ x ∈ L, x.f0 = k
  · obtain ⟨x, hx, rfl⟩ := hk
    obtain ⟨cs, h3, h4⟩ := h.val x hx
    obtain ⟨A3, c3, A5, c5, rfl, -⟩ := cells_open h4
    refine ⟨x.f1, x.f2.f0, x.f2.f1.f0, x.f2.f2.f0, A3, A5, x.f2.f1.f1.length, c3, x.f2.f2.f1.length, c5, fun W hb => ?_⟩
    rw [any_iff.2 ⟨x, hx, rfl⟩]
    exact look_in (c := true) (hm W hb) hx h0 h1 ⟨h3, Kd.FK_below h4 hb⟩
  · refine ⟨0, 0, ⟨#[]⟩, ⟨#[]⟩, none, none, 0, 0, 0, 0, fun W hb => ?_⟩
    have hf : L.any (fun x => x.f0 == k) = false := by
      rw [Bool.eq_false_iff]
      exact fun e => hk (any_iff.1 e)
    rw [hf]
    exact look_out (c := true) (hm W hb) (fun x hx e => hk ⟨x, hx, e⟩) h0 h1
def midL (n : Int) (L : List St) (i : Nat) : List St := keepL n (L.take i) ++ L.drop i
theorem midL_zero (n : Int) (L : List St) : midL n L 0 = L := by simp [midL, keepL]
theorem midL_end (n : Int) (L : List St) : midL n L L.length = keepL n L := by simp [midL]
theorem midL_there {n : Int} {L : List St} (hs : L.Pairwise (fun x y => x.f0 < y.f0)) (hu : ∀ x ∈ L, x.f1 < x.f0) {i : Nat} (hi : i < L.length) : (midL n L i).any (fun y => y.f0 == (L[i]).f1) = (keepL n (L.take i)).any (fun y => y.f0 == (L[i]).f1) := by
  unfold midL
  rw [List.any_append, Bool.or_eq_left_iff_imp]
  intro h
  exfalso
  obtain ⟨y, hy, he⟩ := any_iff.1 h
  have h1 := hu _ (List.getElem_mem hi)
  obtain ⟨j, hj, hjy⟩ := List.mem_iff_getElem.1 hy
  rw [List.getElem_drop] at hjy
  rw [List.length_drop] at hj
  have h2 : (L[i]).f0 ≤ y.f0 := by
    rw [← hjy]
    by_cases hz : j = 0
    · subst hz; simp
    · exact Int.le_of_lt (List.pairwise_iff_getElem.1 hs i (i + j) hi (by omega) (by omega))
  omega
theorem midL_step {n : Int} {L : List St} {i : Nat} (hi : i < L.length) : midL n L (i + 1) = if stays n (keepL n (L.take i)) L[i] then midL n L i else keepL n (L.take i) ++ L.drop (i + 1) := by
  unfold midL
  rw [← List.take_append_getElem hi, keepL_snoc]
  split
  · rw [List.append_assoc, List.singleton_append, ← List.drop_eq_getElem_cons hi]
  · rfl
theorem midL_cut {n : Int} {L : List St} {i : Nat} (hi : i < L.length) : midL n L i = keepL n (L.take i) ++ L[i] :: L.drop (i + 1) := by
  unfold midL
  rw [← List.drop_eq_getElem_cons hi]
end Go.Proofs.Ytbbgpfjeobdogaa.PB
end

section
namespace Go.Proofs.Ytbbgpfjeobdogaa.PB
open Go.RowKit Go.Maps Go.Proofs.YtbbgpfjeobdogaaW.PrintWords Go.Proofs.YtbbgpfjeobdogaaW.PrintLast Go.Proofs.YtbbgpfjeobdogaaW.PrintMore
set_option maxRecDepth 100000
set_option linter.unusedVariables false
set_option linter.unusedSimpArgs false
theorem rd_states {L : List St} {i : Nat} (hi : i < L.length) : rd (statesL L) (i : Int) = (L[i]).f0 := by
  unfold rd statesL
  rw [Int.toNat_natCast, List.getD_eq_getElem?_getD, List.getElem?_map, List.getElem?_eq_getElem hi]
  rfl
structure Fg (B : Nat) (S : Nat → Prop) (g bm : Nat) (w : World) (L : List St) (now next depth n : Int) (A : Option Addr) (c i : Nat) (W : World) : Prop where
  hist : HistAt B S g bm W (midL n L i) now next depth
  row : Kd.R (Kd.int .i64) 3 W w.heap.size (fun _ => True) (.slice A (statesL L).length c) (statesL L)
  turn : Turn B (hb g bm) w W
theorem Fg.below {B : Nat} {S : Nat → Prop} {g bm : Nat} {w W W2 : World} {L : List St} {now next depth n : Int} {A : Option Addr} {c i : Nat} (h : Fg B S g bm w L now next depth n A c i W) (hb : Below W.heap.size W W2) (hB : B ≤ w.heap.size) : Fg B S g bm w L now next depth n A c i W2 :=
  ⟨h.hist.below hb, Kd.R_below h.row hb, h.turn.below hb (Nat.le_trans hB h.turn.size)⟩
theorem own_tight {w : World} {bm n : Nat} {D : DataW Value} (h : w.ownsMap Try.prog 3 heldE bm n D) : w.ownsMap Try.prog 3 heldE bm (Maps.size D) D := by
  obtain ⟨es, clock, hb, F, _, rfl⟩ := h
  refine ⟨es, clock, hb, F, Nat.le_of_eq ?_, rfl⟩
  simp [Maps.size, length_sorted]
theorem Turn.turned {B bm : Nat} {S : Nat → Prop} {w W W2 : World} (h : Turn B S w W) (hm : W.mapTurned W2 bm) (hs : S bm) (hB : B ≤ W.heap.size) (hb : B ≤ bm) : Turn B S w W2 :=
  h.grown hm.grown (fun k hk => by cases hk; exact ⟨.inl hs, hb⟩) hB
theorem HistAt.remap {B : Nat} {S : Nat → Prop} {g bm : Nat} {w W : World} {L L' : List St} {now next depth : Int} {D' : DataW Value} (h : HistAt B S g bm w L now next depth) (ht : w.mapTurned W bm) (hD : MapAt (fun k => ¬ S k) bm W D' L') : HistAt B S g bm W L' now next depth := by
  have hne := h.lt.2.2.2
  obtain ⟨⟨f, h1⟩, _, h3, h4, h5, h6⟩ := h
  exact ⟨⟨f, ((Turn.refl 0 (fun k => k = bm) w).turned ht rfl (Nat.zero_le _) (Nat.zero_le _)).blk h1 hne⟩, ⟨D', hD⟩, h3, h4, h5, h6⟩
theorem fk_turned {S : Nat → Prop} {bm : Nat} {w W : World} (ht : w.mapTurned W bm) (hs : S bm) (x : S74) (cs : List Value) (h : Kd.FK kS w (fun k => ¬ S k) x cs) : Kd.FK kS W (fun k => ¬ S k) x cs :=
  ((Turn.refl 0 (fun k => k = bm) w).turned ht rfl (Nat.zero_le _) (Nat.zero_le _)).fk h (fun k hk e => hk (e ▸ hs))
theorem cut_mem {P Q : List St} {x : St} (h : (P ++ x :: Q).Pairwise (fun a b => a.f0 < b.f0)) (y : St) : y ∈ P ++ Q ↔ y ∈ P ++ x :: Q ∧ y.f0 ≠ x.f0 := by
  obtain ⟨_, h2, h3⟩ := List.pairwise_append.1 h
  constructor
  · intro hy
    rcases List.mem_append.1 hy with hy | hy
    · exact ⟨List.mem_append.2 (.inl hy), Int.ne_of_lt (h3 y hy x List.mem_cons_self)⟩
    · exact ⟨List.mem_append.2 (.inr (List.mem_cons_of_mem _ hy)), fun e => by have := List.rel_of_pairwise_cons h2 hy; omega⟩
  · rintro ⟨hy, hn⟩
    rcases List.mem_append.1 hy with hy | hy
    · exact List.mem_append.2 (.inl hy)
    · rcases List.mem_cons.1 hy with rfl | hy
      · exact absurd rfl hn
      · exact List.mem_append.2 (.inr hy)
theorem midL_sub (n : Int) (L : List St) (i : Nat) : (midL n L i).Sublist L := by
  have := (keepL_sub n (L.take i)).append (List.Sublist.refl (L.drop i))
  rwa [List.take_append_drop] at this
theorem keepL_root {n : Int} {L : List St} {x : St} (hx : x ∈ L) (hn : x.f0 = n) : x ∈ keepL n L := by
  suffices h : ∀ (R P : List St), (x ∈ P → x ∈ keepL n P) → x ∈ P ++ R → x ∈ keepL n (P ++ R) from by
    have := h L [] (by simp) (by simpa using hx)
    simpa using this
  intro R
  induction R with
  | nil => intro P h hp; simpa using h (by simpa using hp)
  | cons y R ih =>
    intro P h hp
    have := ih (P ++ [y]) (fun hy => by
      rw [keepL_snoc]
      rcases List.mem_append.1 hy with hy | hy
      · split
        · exact List.mem_append.2 (.inl (h hy))
        · exact h hy
      · obtain rfl := List.mem_singleton.1 hy
        rw [if_pos (by unfold stays; simp [hn])]
        simp) (by simpa using hp)
    simpa using this
section
variable {H : Type} {P : Program} {ops : Array Oper} {Q : Exit → Act → World → Prop}
theorem mapput_ {oi : Oper} {a : Act} {w : World} {K : Act → World → Prop} (hw : Region.wanted oi (yielded ops a.tmps) = true) (m x v : Operand) (t : TypeId) (hop : oi.op = Op.mapUpdate t m x v) (hN : oi.dst = none)
    (k e : TypeId) (K' : Keyed P k) (ht : P.underlying t = some (.map k e)) (R : Value → Option (DataW H × List MemPlace)) (b n : Nat) (D : DataW H)
    (hm : a.eval m = .map (some b)) (hown : w.ownsMap P k R b n D) (hn : n < maxLen) (key val : Value) (kl : Lit) (hx : a.eval x = key) (hv : a.eval v = val) (hkey : keyOf P k key = some kl)
    (d : DataW H) (ps : List MemPlace) (hval : R val = some (d, ps))
    (hK : ∀ w', w'.ownsMap P k R b (n + 1) (D.put kl d) → w.mapTurned w' b → K a w') : if Region.wanted oi (yielded ops a.tmps) = true then Oper.wp P oi a w K Q else K (a.put none undef) w := by
  rw [if_pos hw]
  obtain ⟨w', hrun, r1, r2⟩ := hown.store K' ht hn hkey hval
  unfold Oper.wp
  simp [execOp, hop, hm, hx, hv, hrun, Result.andThen]
  show K (a.put oi.dst undef) w'
  rw [hN]
  exact hK w' r1 r2
end
theorem fk_root {w : World} {ok : Nat → Prop} {a b : Int} {e : Ed} {cs : List Value} (h : Kd.FK kS w ok ⟨a, e⟩ (.int .i64 a :: cs)) : Kd.FK kS w ok ⟨b, e⟩ (.int .i64 b :: cs) := fun W hW => by
  obtain ⟨c1, c2, e1, h1, h2⟩ := h W hW
  subst h1
  have e2 : cs = c2 := by injection e1
  subst e2
  exact ⟨_, _, rfl, rfl, h2⟩
theorem rootL_mem {n : Int} {K : List St} (hs : K.Pairwise (fun a b => a.f0 < b.f0)) {x0 : St} (hx : x0 ∈ K) (hn : x0.f0 = n) (x : St) : x ∈ rootL n K ↔ x = ⟨n, -1, x0.f2⟩ ∨ (x ∈ K ∧ x.f0 ≠ n) := by
  unfold rootL
  rw [List.mem_map]
  constructor
  · rintro ⟨y, hy, rfl⟩
    by_cases h : y.f0 = n
    · have e : y = x0 := by
        have h1 := find_mem hs hy
        have h2 := find_mem hs hx
        rw [h] at h1
        rw [hn, h1] at h2
        injection h2
      subst e
      rw [if_pos (by simpa using h), h]
      exact .inl rfl
    · rw [if_neg (by simpa using h)]
      exact .inr ⟨hy, h⟩
  · rintro (rfl | ⟨h1, h2⟩)
    · exact ⟨x0, hx, by rw [if_pos (by simpa using hn), hn]⟩
    · exact ⟨x, h1, by rw [if_neg (by simpa using h2)]⟩
theorem Fg.del {B : Nat} {S : Nat → Prop} {g bm : Nat} {w W W2 : World} {L : List St} {now next depth n : Int} {A : Option Addr} {c i : Nat} {x : St} {D : DataW Value} {q : Nat} (h : Fg B S g bm w L now next depth n A c i W) (hbw : bm < w.heap.size) (hS : hb g bm bm)
    (hs : L.Pairwise (fun a b => a.f0 < b.f0)) (hi : i < L.length) (hx : x = L[i]) (hst : stays n (keepL n (L.take i)) x = false) (hD : MapAt (fun k => ¬ S k) bm W D (midL n L i)) (hq : L.length ≤ 100)
    (ho : W2.ownsMap Try.prog 3 heldE bm q (D.del (kN x.f0))) (ht : W.mapTurned W2 bm) : Fg B S g bm w L now next depth n A c (i + 1) W2 := by
  have e1 : midL n L (i + 1) = keepL n (L.take i) ++ L.drop (i + 1) := by rw [midL_step hi, ← hx, hst]; rfl
  have e2 : midL n L i = keepL n (L.take i) ++ x :: L.drop (i + 1) := by rw [midL_cut hi, hx]
  have hp := hs.sublist (midL_sub n L i)
  rw [e2] at hp hD
  have hlen : (keepL n (L.take i) ++ L.drop (i + 1)).length + 1 = (keepL n (L.take i) ++ x :: L.drop (i + 1)).length := by simp; omega
  have hle := (midL_sub n L i).length_le
  rw [e2] at hle
  refine ⟨?_, Kd.R_grown2 h.row rfl ht.grown (fun k hk e => ?_), h.turn.turned ht (.inr rfl) (by have := h.hist.lt; omega) h.hist.bb⟩
  · rw [e1]
    refine h.hist.remap ht (hD.del ⟨_, ?_, own_tight ho⟩ ⟨x, by simp, rfl⟩ (cut_mem hp) hlen (fun y _ cs => fk_turned ht h.hist.sm _ cs))
    have hsz := size_del (k := kN x.f0) hD.tidy
    have := hD.size
    omega
  · cases hk
    have := Kd.R_base h.row _ e.symm
    omega
theorem Fg.keep {B : Nat} {S : Nat → Prop} {g bm : Nat} {w W : World} {L : List St} {now next depth n : Int} {A : Option Addr} {c i : Nat} {x : St} (h : Fg B S g bm w L now next depth n A c i W) (hi : i < L.length) (hx : x = L[i]) (hst : stays n (keepL n (L.take i)) x = true) : Fg B S g bm w L now next depth n A c (i + 1) W := by
  have e1 : midL n L (i + 1) = midL n L i := by rw [midL_step hi, ← hx, if_pos hst]
  exact ⟨by rw [e1]; exact h.hist, h.row, h.turn⟩
set_option maxHeartbeats 8000000 in
theorem forget_ok {B : Nat} {S : Nat → Prop} {g bm : Nat} {w : World} {L : List St} {now next depth : Int} (h : HistAt B S g bm w L now next depth) (hw : Wf L now next) {n : Int} {x0 : St} (hx : x0 ∈ L) (hxn : x0.f0 = n) :
    Calls Try.prog 37 #[.pointer (some ⟨g, 0, none⟩), .int .i64 n] w fun e w' => e = .returned (.tuple #[]) ∧ HistAt B S g bm w' (belowL n L) now next depth ∧ Turn B (hb g bm) w w' := by
  have hu74 := Try.underlying74
  have HH := aM h
  have HW := aM hw
  clear h hw
  go_enter Try.func37, Try.ntmps37
  go_wp2_with (first
    | ((with_reducible refine gate_callee (f := 21) rfl ?_); refine goesL_ (some 10) rfl rfl Try.func21 (by kernel_rfl) rfl #[.pointer (some ⟨g, 0, none⟩)] rfl (by (try simp only [List.map_toArray, List.map_cons, List.map_nil]); first | done | rfl) ?_; (with_reducible refine (states_ok HH.out HW.out).mono ?_); rintro e w3 ⟨v, rfl, ho, hb⟩; obtain ⟨A, c, rfl⟩ := Kd.R_slice ho; refine ⟨_, rfl, ?_⟩; have HO3 := aM ho; have HB3 := aM hb; clear ho hb)
    )
  have hsl : (statesL L).length = L.length := by unfold statesL; rw [List.length_map]
  have HSL := aM hsl
  clear hsl
  go_loopg [12] L.length (fun kq v12 w' => ∃ i : Nat, v12 = .int .i64 i ∧ Aside0 (i + kq = L.length) ∧ Aside0 (Fg B S g bm w L now next depth n A c i w'))
  case atStart => exact ⟨0, rfl, ⟨by omega⟩, ⟨⟨by rw [midL_zero]; exact HH.out.below HB3.out, HO3.out, Turn.of_below HB3.out HH.out.lt.1⟩⟩⟩
  case round =>
    clear HO3 HB3
    obtain ⟨i, rfl, HI, HF⟩ := hrel
    by_cases c1 : i < L.length
    · cases gk with
      | zero => exact absurd HI.out (by omega)
      | succ k1 =>
        have c1b : decide ((i : Int) < ((statesL L).length : Int)) = true := decide_eq_true (by rw [HSL.out]; omega)
        obtain ⟨ad, ead, hcell⟩ := Kd.at_int (rR HF.out.row).2.2 (i : Int) (by omega) (by rw [HSL.out]; omega)
        cases ead
        rw [rd_states c1, Int.toNat_natCast] at hcell
        have p1 : (0 ≤ (i : Int)) = True := eq_true (by omega)
        have q1 : ((i : Int) < ((statesL L).length : Int)) = True := eq_true (by rw [HSL.out]; omega)
        have HX := aM (show ∃ x, x = L[i] ∧ x ∈ midL n L i ∧ x ∈ L from ⟨_, rfl, by rw [midL_cut c1]; exact List.mem_append.2 (.inr List.mem_cons_self), List.getElem_mem c1⟩)
        have HE := aM (midL_there (n := n) HW.out.inc (fun y hy => (HW.out.low y hy).2.2.2) c1)
        have HLX := aM (HW.out.low _ (List.getElem_mem c1))
        generalize hxg : L[i] = x at HX hcell HE HLX
        have HXE := aM hxg.symm
        clear hxg
        go_wp2
        obtain ⟨fst0, hg0⟩ := HF.out.hist.hg
        obtain ⟨D, hD⟩ := HF.out.hist.hm
        obtain ⟨x', ex, hxm, hxl⟩ := HX.out
        subst x'
        obtain ⟨cs, hcs⟩ := hD.val x hxm
        obtain ⟨A3, c3, A5, c5, rfl, -⟩ := cells_open hcs.2
        obtain ⟨a2, b2, s2, s2', A2, A2', n2, c2, n2', c2', hl2⟩ := look_any hD (k := x.f1) (by have := HLX.out; omega) (by have := HLX.out; have := HW.out.top; omega)
        generalize hth : (midL n L i).any (fun y => y.f0 == x.f1) = th at hl2
        have HTH := aM (hth.symm.trans HE.out)
        have HLK := aM (show ∀ W : World, Below wr.heap.size wr W → W.cell? ⟨g, 0, none⟩ = some (.map (some bm)) ∧ (Instr.lookup 65 (.map (some bm)) (.int .i64 x.f0) false).run Try.prog W = .ok (.agg #[.int .i64 x.f1, .int .i64 x.f2.f0, .string x.f2.f1.f0, .slice A3 x.f2.f1.f1.length c3, .string x.f2.f2.f0, .slice A5 x.f2.f2.f1.length c5]) W ∧ (Instr.lookup 65 (.map (some bm)) (.int .i64 x.f1) true).run Try.prog W = .ok (.tuple #[.agg #[.int .i64 a2, .int .i64 b2, .string s2, .slice A2 n2 c2, .string s2', .slice A2' n2' c2'], .bool th]) W from fun W hb => ⟨(bC (bB hg0 hb) 0).trans rfl, look_in (hD.turn (Turn.of_below (B := 0) (S := fun _ => False) hb (Nat.zero_le _)) (fun h => h) (fun _ _ h => h)) hxm (by have := HLX.out; omega) (by have := HLX.out; have := HW.out.top; omega) ⟨hcs.1, Kd.FK_below hcs.2 hb⟩, hl2 W hb⟩)
        clear hg0 hD hcs hl2 hth HE fst0 D
        refine start_ (n := 18) (S := fun W => W.cell? ⟨g, 0, none⟩ = some (.map (some bm)) ∧ (Instr.lookup 65 (.map (some bm)) (.int .i64 x.f0) false).run Try.prog W = .ok (.agg #[.int .i64 x.f1, .int .i64 x.f2.f0, .string x.f2.f1.f0, .slice A3 x.f2.f1.f1.length c3, .string x.f2.f2.f0, .slice A5 x.f2.f2.f1.length c5]) W ∧ (Instr.lookup 65 (.map (some bm)) (.int .i64 x.f1) true).run Try.prog W = .ok (.tuple #[.agg #[.int .i64 a2, .int .i64 b2, .string s2, .slice A2 n2 c2, .string s2', .slice A2' n2' c2'], .bool th]) W) (ds := [16]) #[tF,tF,tF,tF,tF,tF,tF,tF,tF,tF,tF,tF,tF,tF,tF,tF,tF,tF] (by kernel_rfl) rfl rfl (HLK.out _ (below_drew1 (Below.refl _ _))) (fun hHeld => ?_)
        have HB3 := aM (below_drew1 (Below.refl wr.heap.size wr))
        generalize wr.drew = w4 at HB3 hHeld ⊢
        refine sv 0 17 #[tT,tF,tF,tF,tF,tF,tF,tF,tF,tF,tF,tF,tF,tF,tF,tF,tF,tF] ?_
        refine sv 1 18 #[tT,tT,tF,tF,tF,tF,tF,tF,tF,tF,tF,tF,tF,tF,tF,tF,tF,tF] ?_
        refine sv 2 19 #[tT,tT,tT,tF,tF,tF,tF,tF,tF,tF,tF,tF,tF,tF,tF,tF,tF,tF] ?_
        refine sv 4 21 #[tT,tT,tT,tF,tT,tF,tF,tF,tF,tF,tF,tF,tF,tF,tF,tF,tF,tF] ?_
        refine sv 5 22 #[tT,tT,tT,tF,tT,tT,tF,tF,tF,tF,tF,tF,tF,tF,tF,tF,tF,tF] ?_
        refine sv 6 23 #[tT,tT,tT,tF,tT,tT,tT,tF,tF,tF,tF,tF,tF,tF,tF,tF,tF,tF] ?_
        refine sv 8 25 #[tT,tT,tT,tF,tT,tT,tT,tF,tT,tF,tF,tF,tF,tF,tF,tF,tF,tF] ?_
        refine st 3 20 #[tT,tT,tT,tT,tT,tT,tT,tF,tT,tF,tF,tF,tF,tF,tF,tF,tF,tF] hHeld ?_
        refine st 7 24 #[tT,tT,tT,tT,tT,tT,tT,tT,tT,tF,tF,tF,tF,tF,tF,tF,tF,tF] hHeld ?_
        refine st 9 26 #[tT,tT,tT,tT,tT,tT,tT,tT,tT,tT,tF,tF,tF,tF,tF,tF,tF,tF] hHeld ?_
        have hfl := field_up
        refine sv 10 27 #[tT,tT,tT,tT,tT,tT,tT,tT,tT,tT,tT,tF,tF,tF,tF,tF,tF,tF] ?_
        refine st 11 28 #[tT,tT,tT,tT,tT,tT,tT,tT,tT,tT,tT,tT,tF,tF,tF,tF,tF,tF] hHeld ?_
        refine sv 12 16 #[tT,tT,tT,tT,tT,tT,tT,tT,tT,tT,tT,tT,tT,tF,tF,tF,tF,tF] ?_
        refine sv 13 29 #[tT,tT,tT,tT,tT,tT,tT,tT,tT,tT,tT,tT,tT,tT,tF,tF,tF,tF] ?_
        refine sv 14 30 #[tT,tT,tT,tT,tT,tT,tT,tT,tT,tT,tT,tT,tT,tT,tT,tF,tF,tF] ?_
        refine one_ (i := 15) (N := some 6) #[tT,tT,tT,tT,tT,tT,tT,tT,tT,tT,tT,tT,tT,tT,tT,tT,tF,tF] rfl rfl (by kernel_rfl) (by decide) (fun K hK => ?_)
        refine value_ (v := .pointer (some ⟨w4.heap.size, 0, none⟩)) (w1 := w4.alloc (.cells zs6 74)) (by rfl) rfl ?_ ?_
        · first | (go_simp; done) | (go_simp; rfl)
        have HB4 := aM (below_alloc HB3.out (.cells zs6 74))
        have HY4 := aM (blk_new w4 (.cells zs6 74))
        have GE4 := aM HB3.out.size
        refine hK.out _ _ (HLK.out _ HB4.out) (fun hHeld => ?_)
        clear hK K HB3
        generalize w4.alloc _ = w5 at HB4 HY4 hHeld ⊢
        generalize w4.heap.size = g4 at GE4 HY4 ⊢
        refine norm_ (a' := ?_) ?_ ?_
        rotate_left
        · simp only [Act.put, List.setIfInBounds_toArray, List.set_cons_zero, List.set_cons_succ, i64_w, i32_w]
          rfl
        refine last_ (i := 16) (N := none) #[tT,tT,tT,tT,tT,tT,tT,tT,tT,tT,tT,tT,tT,tT,tT,tT,tT,tF] rfl rfl (by kernel_rfl) (by decide) (fun K hK => ?_)
        have hy0 := (bC HY4.out 0).trans (rfl : _ = some (Value.int .i64 0))
        have hy1 := (bC HY4.out 1).trans (rfl : _ = some (Value.int .i64 0))
        have hy2 := (bC HY4.out 2).trans (rfl : _ = some (Value.string ⟨#[]⟩))
        have hy3 := (bC HY4.out 3).trans (rfl : _ = some (Value.slice none 0 0))
        have hy4 := (bC HY4.out 4).trans (rfl : _ = some (Value.string ⟨#[]⟩))
        have hy5 := (bC HY4.out 5).trans (rfl : _ = some (Value.slice none 0 0))
        have hf0 := bF HY4.out 0
        have hf1 := bF HY4.out 1
        have hf2 := bF HY4.out 2
        have hf3 := bF HY4.out 3
        have hf4 := bF HY4.out 4
        have hf5 := bF HY4.out 5
        refine skip_ (w1 := ?_) (by rfl) rfl ?_ ?_
        rotate_left
        · go_simp
          rfl
        refine hK.out _ _ ?_
        refine sv 17 7 #[tT,tT,tT,tT,tT,tT,tT,tT,tT,tT,tT,tT,tT,tT,tT,tT,tT,tT] ?_
        refine done_ (by kernel_rfl) ?_
        clear hK K hHeld hy0 hy1 hy2 hy3 hy4 hy5 hf0 hf1 hf2 hf3 hf4 hf5
        generalize hw5 : World.setCell _ ⟨g4, 5, none⟩ _ = w6
        have HB5 := aM (show Below wr.heap.size wr w6 from by subst hw5; exact below_set (below_set (below_set (below_set (below_set (below_set HB4.out GE4.out) GE4.out) GE4.out) GE4.out) GE4.out) GE4.out)
        clear hw5 HB4 HY4 HLK hcell
        have HF6 := aM (HF.out.below HB5.out HH.out.lt.1)
        clear HB5 HF
        obtain ⟨f6, hg6⟩ := HF6.out.hist.hg
        have c60 : w6.cell? ⟨g, 0, none⟩ = some (.map (some bm)) := (bC hg6 0).trans rfl
        clear hg6
        have e1 : wrap64 ((i : Int) + 1) = ((i + 1 : Nat) : Int) := by unfold wrap64; have := HI.out; have := HW.out.len; omega
        by_cases hn : x.f0 = n
        · have d1 : decide (x.f0 = n) = true := decide_eq_true hn
          have HS := aM (show stays n (keepL n (L.take i)) x = true from by unfold stays; simp [hn])
          go_wp2
          rw [e1]
          go_roundg k1
          case measure => exact Nat.lt_succ_self _
          case rel => exact ⟨i + 1, rfl, ⟨by have := HI.out; omega⟩, ⟨HF6.out.keep c1 HXE.out HS.out⟩⟩
        · have d1 : decide (x.f0 = n) = false := decide_eq_false hn
          cases th
          · have HS := aM (show stays n (keepL n (L.take i)) x = false from by unfold stays; rw [← HTH.out]; simp [hn])
            go_wp2_with (first
              | (at_delete; obtain ⟨D6, hD6⟩ := HF6.out.hist.hm; obtain ⟨q6, hq6, ho6⟩ := hD6.own; refine wpList_delete_own _ rfl _ _ 65 3 rfl 74 lawK Try.underlying65 heldE bm q6 D6 rfl ho6 _ _ rfl (hkN (by have := HLX.out; omega) (by have := HLX.out; have := HW.out.top; omega)) ?_; intro w7 hown7 hturn7; have HF7 := aM (HF6.out.del HH.out.lt.2.2.1 (.inr rfl) HW.out.inc c1 HXE.out HS.out hD6 HW.out.len hown7 hturn7); clear hD6 ho6 hown7 hturn7 hq6)
              )
            rw [e1]
            go_roundg k1
            case measure => exact Nat.lt_succ_self _
            case rel => exact ⟨i + 1, rfl, ⟨by have := HI.out; omega⟩, ⟨HF7.out⟩⟩
          · have HS := aM (show stays n (keepL n (L.take i)) x = true from by unfold stays; rw [← HTH.out]; simp)
            go_wp2
            rw [e1]
            go_roundg k1
            case measure => exact Nat.lt_succ_self _
            case rel => exact ⟨i + 1, rfl, ⟨by have := HI.out; omega⟩, ⟨HF6.out.keep c1 HXE.out HS.out⟩⟩
    · have c1b : decide ((i : Int) < ((statesL L).length : Int)) = false := decide_eq_false (by rw [HSL.out]; omega)
      have q1 : ((i : Int) < ((statesL L).length : Int)) = False := eq_false (by rw [HSL.out]; omega)
      have HN0 := aM (HW.out.low x0 hx)
      have HM0 := aM (show x0 ∈ keepL n L from keepL_root hx hxn)
      have HH1 := aM (show HistAt B S g bm wr (keepL n L) now next depth from by
        have h := HF.out.hist
        rw [show i = L.length from by have := HI.out; omega, midL_end] at h
        exact h)
      obtain ⟨f1, hg1⟩ := HH1.out.hg
      have c0 : wr.cell? ⟨g, 0, none⟩ = some (.map (some bm)) := (bC hg1 0).trans rfl
      obtain ⟨D, hD⟩ := HH1.out.hm
      obtain ⟨cs, hcs⟩ := hD.val x0 HM0.out
      obtain ⟨A3, c3, A5, c5, rfl, -⟩ := cells_open hcs.2
      have HLK := aM (look_in (c := false) hD HM0.out (by have := HN0.out; omega) (by have := HN0.out; have := HW.out.top; omega) hcs)
      have HFK := aM hcs.2
      have HT1 := aM HF.out.turn
      have HLK := aM (show (Instr.lookup 65 (.map (some bm)) (.int .i64 n) false).run Try.prog wr = .ok (.agg #[.int .i64 x0.f1, .int .i64 x0.f2.f0, .string x0.f2.f1.f0, .slice A3 x0.f2.f1.f1.length c3, .string x0.f2.f2.f0, .slice A5 x0.f2.f2.f1.length c5]) wr from hxn ▸ HLK.out)
      clear hg1 hD hcs HF HI
      go_wp2_with (first
        | (at_lookup; refine wpList_lookup_eq _ rfl _ _ _ false rfl _ _ _ rfl rfl HLK.out ?_)
        )
      have HB2 := aM (below_alloc (Below.refl wr.heap.size wr) (.cells #[.int .i64 (-1), .int .i64 x0.f2.f0, .string x0.f2.f1.f0, .slice A3 x0.f2.f1.f1.length c3, .string x0.f2.f2.f0, .slice A5 x0.f2.f2.f1.length c5] 74))
      have HY2 := aM (blk_new wr (.cells #[.int .i64 (-1), .int .i64 x0.f2.f0, .string x0.f2.f1.f0, .slice A3 x0.f2.f1.f1.length c3, .string x0.f2.f2.f0, .slice A5 x0.f2.f2.f1.length c5] 74))
      clear HLK
      generalize wr.alloc _ = w4 at HB2 HY2 ⊢
      have GE4 := aM (show w.heap.size ≤ wr.heap.size from HT1.out.size)
      have NB4 := aM (show bm ≠ wr.heap.size ∧ g ≠ wr.heap.size from by have := HH1.out.lt; omega)
      generalize hg4 : wr.heap.size = g4 at GE4 HY2 NB4 HB2 ⊢
      have HG4 := aM hg4
      clear hg4
      have HLK := aM (show ∀ W : World, Below g4 w4 W → W.cell? ⟨g, 0, none⟩ = some (.map (some bm)) from fun W hb => (bC ((HG4.out ▸ HB2.out : Below wr.heap.size wr w4).trans (HG4.out ▸ hb) |> bB (HH1.out.hg.choose_spec)) 0).trans rfl)
      refine start_ (n := 7) (S := fun W => W.cell? ⟨g, 0, none⟩ = some (.map (some bm)) ∧ W.cell? ⟨g4, 0, none⟩ = some (.int .i64 (-1)) ∧ W.cell? ⟨g4, 1, none⟩ = some (.int .i64 x0.f2.f0) ∧ W.cell? ⟨g4, 2, none⟩ = some (.string x0.f2.f1.f0) ∧ W.cell? ⟨g4, 3, none⟩ = some (.slice A3 x0.f2.f1.f1.length c3) ∧ W.cell? ⟨g4, 4, none⟩ = some (.string x0.f2.f2.f0) ∧ W.cell? ⟨g4, 5, none⟩ = some (.slice A5 x0.f2.f2.f1.length c5)) (ds := [6]) #[tF,tF,tF,tF,tF,tF,tF] (by kernel_rfl) rfl rfl ⟨HLK.out _ (below_drew1 (Below.refl _ _)), (bC (blk_drew HY2.out) 0).trans rfl, (bC (blk_drew HY2.out) 1).trans rfl, (bC (blk_drew HY2.out) 2).trans rfl, (bC (blk_drew HY2.out) 3).trans rfl, (bC (blk_drew HY2.out) 4).trans rfl, (bC (blk_drew HY2.out) 5).trans rfl⟩ (fun hHeld => ?_)
      have HB3 := aM (below_drew1 HB2.out)
      have HY3 := aM (blk_drew HY2.out)
      clear HB2 HY2 HLK
      generalize w4.drew = w5 at HB3 HY3 hHeld ⊢
      refine sv 0 51 #[tT,tF,tF,tF,tF,tF,tF] ?_
      refine sv 1 52 #[tT,tT,tF,tF,tF,tF,tF] ?_
      refine sv 2 53 #[tT,tT,tT,tF,tF,tF,tF] ?_
      refine sv 4 55 #[tT,tT,tT,tF,tT,tF,tF] ?_
      refine st 3 54 #[tT,tT,tT,tT,tT,tF,tF] hHeld ?_
      refine st 5 56 #[tT,tT,tT,tT,tT,tT,tF] hHeld ?_
      refine last_ (i := 6) (N := none) #[tT,tT,tT,tT,tT,tT,tT] rfl rfl (by kernel_rfl) (by decide) (fun K hK => ?_)
      have HH5 := aM (HH1.out.below (HG4.out ▸ HB3.out : Below wr.heap.size wr w5))
      obtain ⟨D5, hD5⟩ := HH5.out.hm
      obtain ⟨q5, hq5, ho5⟩ := hD5.own
      refine mapput_ (by rfl) _ _ _ _ rfl rfl 3 74 lawK Try.underlying65 heldE bm q5 D5 rfl ho5 (Nat.lt_of_le_of_lt hq5 (by decide)) (.int .i64 n) (.agg (List.toArray [.int .i64 (-1), .int .i64 x0.f2.f0, .string x0.f2.f1.f0, .slice A3 x0.f2.f1.f1.length c3, .string x0.f2.f2.f0, .slice A5 x0.f2.f2.f1.length c5])) (kN n) rfl rfl (hkN (by have := HN0.out; omega) (by have := HN0.out; have := HW.out.top; omega)) (.held (.agg (List.toArray [.int .i64 (-1), .int .i64 x0.f2.f0, .string x0.f2.f1.f0, .slice A3 x0.f2.f1.f1.length c3, .string x0.f2.f2.f0, .slice A5 x0.f2.f2.f1.length c5]))) [] rfl (fun w7 hown7 hturn7 => ?_)
      refine hK.out _ _ (done_ (by kernel_rfl) ?_)
      have HP := aM (HW.out.inc.sublist (keepL_sub n L))
      have HA := aM (any_iff.2 ⟨x0, HM0.out, hxn⟩)
      have HH7 := aM (show HistAt B S g bm w7 (belowL n L) now next depth from HH5.out.remap hturn7 (hD5.put (k := n) (y := ⟨n, -1, x0.f2⟩) ⟨_, by
          rw [size_put hD5.tidy, hD5.size]
          have := (keepL_sub n L).length_le
          have := HW.out.len
          split <;> omega, own_tight hown7⟩ rfl (fk_turned hturn7 HH5.out.sm _ _ (fk_root (Kd.FK_below HFK.out (HG4.out ▸ HB3.out : Below wr.heap.size wr w5)))) (rootL_mem HP.out HM0.out hxn) (by rw [HA.out, if_pos rfl]; exact List.length_map _) (fun y _ cs => fk_turned hturn7 HH5.out.sm _ cs)))
      have HT7 := aM (show Turn B (hb g bm) w w7 from (HT1.out.below (HG4.out ▸ HB3.out : Below wr.heap.size wr w5) (Nat.le_trans HH.out.lt.1 HT1.out.size)).turned hturn7 (.inr rfl) HH5.out.lt.1 HH.out.bb)
      clear hD5 ho5 hown7 hturn7 hK hHeld HY3 HB3 HH5
      obtain ⟨f7, hg7⟩ := HH7.out.hg
      have hg1 := (bC hg7 1).trans (rfl : _ = some (Value.int .i64 f7))
      have hfg := bF hg7 1
      have HG7 := aM hg7
      clear hg7
      go_wp2
      refine bodyPost_end (results_none rfl _ _ _) rfl ?_
      exact ⟨rfl, HH7.out.of_g ((Turn.refl B (fun k => k = g) w7).set (p := ⟨g, 1, none⟩) (.inl rfl) HH.out.bg _) ⟨n, (bU HG7.out 1 _ rfl).trans rfl⟩, HT7.out.set (p := ⟨g, 1, none⟩) (.inl (.inl rfl)) HH.out.bg _⟩
end Go.Proofs.Ytbbgpfjeobdogaa.PB
end

section
namespace Go.Proofs.Ytbbgpfjeobdogaa.PB
open Go.RowKit Go.Proofs.YtbbgpfjeobdogaaW.PrintWords Go.Proofs.YtbbgpfjeobdogaaW.PrintLast Go.Proofs.YtbbgpfjeobdogaaW.PrintMore
attribute [local go_sem] max2_int min2_int max_two min_two max_three min_three max_four min_four   
set_option linter.unusedVariables false
set_option linter.unusedSimpArgs false
def runs_Total.l0 : Nat → Int → List (S71) → Int → Int → Option (Int)
 | 0, _, _, _, _ => none
 | k + 1, x3, x6, x7, x8 => if x8 < x7 then (if 0 ≤ x8 then (if x8 < (x6.length : Int) then (if ((rd_T71 x6 x8).f1) > (wrap64 (4096 - x3)) then (some 4097) else (runs_Total.l0 k (wrap64 (x3 + (mx ((rd_T71 x6 x8).f1) 0))) x6 x7 (wrap64 (x8 + 1)))) else (none)) else (none)) else (some x3)
def runs_Total.f (k : Nat) (l0 : List (S71)) : Option (Int) := runs_Total.l0 k 0 l0 (l0.length : Int) 0
set_option maxHeartbeats 8000000 in
set_option maxRecDepth 100000 in
theorem runs_Total.calls (k : Nat) (A0 : Option Addr) (c0 : Nat) (l0 : List (S71)) (r : Int) (w : World) (hr0 : Kd.C k71 w A0 l0.length l0) (hc0 : l0.length ≤ c0) (h : runs_Total.f k l0 = some r) :
  Calls Try.prog 75 #[.slice A0 l0.length c0] w fun e w' => e = .returned (.int .i64 r) ∧ Below w.heap.size w w' := by
 have hu71 := Try.underlying71
 have HR0 := aM hr0
 have HC0 := aM hc0
 clear hr0 hc0
 have HB := aM (Below.refl w.heap.size w)
 have H : (runs_Total.l0 k 0 l0 (l0.length : Int) 0) = some r := h
 clear h
 have H' := aM H
 clear H
 go_enter Try.func75, Try.ntmps75
 go_wp2
 go_loopg [3, 8] k (fun kq v3 v8 w' => ∃ (x3_1 : Int) (x8_1 : Int), v3 = .int .i64 x3_1 ∧ v8 = .int .i64 x8_1 ∧ Aside0 (runs_Total.l0 kq x3_1 l0 (l0.length : Int) x8_1 = some r) ∧ Aside0 (kq ≤ k) ∧ Aside0 (Below w.heap.size w w'))
 case atStart => exact ⟨(0), (0), (by first | rfl | (simp; done) | (simp [*]; done)), (by first | rfl | (simp; done) | (simp [*]; done)), H', ⟨Nat.le_refl _⟩, ⟨by exact ey HB.out⟩⟩
 case round =>
  clear H'
  obtain ⟨x3_1, x8_1, rfl, rfl, HA, HK1, HB⟩ := hrel
  cases gk with
  | zero => exact absurd HA.out (by simp [runs_Total.l0])
  | succ k1 =>
   have H := HA.out
   clear HA
   simp only [runs_Total.l0] at H
   by_cases c2 : x8_1 < (l0.length : Int)
   ·rw [if_pos c2] at H
    have c2b0 : decide (x8_1 < (l0.length : Int)) = true := decide_eq_true c2
    clear c2
    by_cases c3 : 0 ≤ x8_1
    ·rw [if_pos c3] at H
     have c3b0 : decide (0 ≤ x8_1) = true := decide_eq_true c3
     clear c3
     by_cases c4 : x8_1 < (l0.length : Int)
     ·rw [if_pos c4] at H
      have c4b0 : decide (x8_1 < (l0.length : Int)) = true := decide_eq_true c4
      clear c4
      by_cases c5 : ((rd_T71 l0 x8_1).f1) > (wrap64 (4096 - x3_1))
      ·rw [if_pos c5] at H
       have c5b0 : decide ((wrap64 (4096 - x3_1)) < ((rd_T71 l0 x8_1).f1)) = true := decide_eq_true c5
       clear c5
       obtain rfl := Option.some.inj H
       have p135 : 0 ≤ (x8_1 : Int) := of_decide_eq_true (by first | (with_reducible assumption) | assumption)
       have q135 : x8_1 < (l0.length : Int) := of_decide_eq_true (by first | (with_reducible assumption) | assumption)
       obtain ⟨ad135, e135, hx135_0, hx135_1⟩ := at_T71 HR0.out x8_1 p135 q135
       cases e135
       replace hx135_0 := (HB.out.cell (World.block_lt_of_cell? w _ hx135_0)).trans hx135_0
       replace hx135_1 := (HB.out.cell (World.block_lt_of_cell? w _ hx135_1)).trans hx135_1
       replace p135 := eq_true p135
       replace q135 := eq_true q135
       go_wp2_with (first | ((with_reducible refine gate_dst (N := 5) rfl ?_); refine box_event ?hg (N := 5) ?hd (cs := #[.int .u64 0, .int .i64 0]) (t := 71) ?hr ?_; (case hd | hg => rfl); (case hr => first | (go_simp; done) | (go_simp; rfl)); intro gb136 hg w6 hbox hb; have n0_ := aM (bP (ey HB.out) hb); have n1_ := aM (hbox); have n2_ := aM ((by rw [hg]; exact (bZ (ey HB.out)) : w.heap.size ≤ gb136)); have n3_ := n2_; clear HB; have HB := n0_; have BK136 := n1_; have GW136 := n2_; have GE136 := n3_; clear n0_ n1_ n2_ n3_; clear hb hbox hg; have hcz7_0 := zC BK136.out 0 (.int .u64 0); have hcz7_1 := zC BK136.out 1 (.int .i64 0); have hfz7_0 := bF BK136.out 0; have hfz7_1 := bF BK136.out 1))
       go_ret
       exact ⟨by first | rfl | (simp [errW_none, errW_some] <;> rfl) | (simp [*, errW_none, errW_some] <;> rfl), by repeat (first | (with_reducible first | exact HB.out | apply ea | apply en | apply ed | refine es ?_ GE136.out) | exact HB.out)⟩
      ·rw [if_neg c5] at H
       have c5b0 : decide ((wrap64 (4096 - x3_1)) < ((rd_T71 l0 x8_1).f1)) = false := decide_eq_false c5
       clear c5
       obtain ⟨ji8, hji8⟩ : ∃ j_ : Int, (mx ((rd_T71 l0 x8_1).f1) 0) = j_ := ⟨_, rfl⟩
       replace H : (runs_Total.l0 k1 (wrap64 (x3_1 + (ji8))) l0 (l0.length : Int) (wrap64 (x8_1 + 1))) = some r := by first | (rw [hji8] at H; exact H) | (simp only [hji8] at H ⊢; exact H)
       have hji8_ : (if ((rd_T71 l0 x8_1).f1) < 0 then 0 else ((rd_T71 l0 x8_1).f1)) = ji8 := hji8
       have H' := aM H
       clear H
       have p135 : 0 ≤ (x8_1 : Int) := of_decide_eq_true (by first | (with_reducible assumption) | assumption)
       have q135 : x8_1 < (l0.length : Int) := of_decide_eq_true (by first | (with_reducible assumption) | assumption)
       obtain ⟨ad135, e135, hx135_0, hx135_1⟩ := at_T71 HR0.out x8_1 p135 q135
       cases e135
       replace hx135_0 := (HB.out.cell (World.block_lt_of_cell? w _ hx135_0)).trans hx135_0
       replace hx135_1 := (HB.out.cell (World.block_lt_of_cell? w _ hx135_1)).trans hx135_1
       replace p135 := eq_true p135
       replace q135 := eq_true q135
       go_wp2_with (first | ((with_reducible refine gate_dst (N := 5) rfl ?_); refine box_event ?hg (N := 5) ?hd (cs := #[.int .u64 0, .int .i64 0]) (t := 71) ?hr ?_; (case hd | hg => rfl); (case hr => first | (go_simp; done) | (go_simp; rfl)); intro gb136 hg w9 hbox hb; have n0_ := aM (bP (ey HB.out) hb); have n1_ := aM (hbox); have n2_ := aM ((by rw [hg]; exact (bZ (ey HB.out)) : w.heap.size ≤ gb136)); have n3_ := n2_; clear HB; have HB := n0_; have BK136 := n1_; have GW136 := n2_; have GE136 := n3_; clear n0_ n1_ n2_ n3_; clear hb hbox hg; have hcz10_0 := zC BK136.out 0 (.int .u64 0); have hcz10_1 := zC BK136.out 1 (.int .i64 0); have hfz10_0 := bF BK136.out 0; have hfz10_1 := bF BK136.out 1))
       go_roundg k1
       case measure => have := HK1.out; omega
       case rel => exact ⟨(wrap64 (x3_1 + (ji8))), (wrap64 (x8_1 + 1)), (by first | rfl | (simp; done) | (simp only [← hji8] <;> (first | rfl | simp)) | (simp [*]; done)), (by first | rfl | (simp; done) | (simp [*]; done)), H', ⟨by have := HK1.out; omega⟩, ⟨by repeat (first | (with_reducible first | exact HB.out | apply ea | apply en | apply ed | refine es ?_ GE136.out) | exact HB.out)⟩⟩
     ·rw [if_neg c4] at H
      exact absurd H (by simp)
    ·rw [if_neg c3] at H
     exact absurd H (by simp)
   ·rw [if_neg c2] at H
    have c2b0 : decide (x8_1 < (l0.length : Int)) = false := decide_eq_false c2
    clear c2
    obtain rfl := Option.some.inj H
    go_wp2
    go_ret
    exact ⟨by first | rfl | (simp [errW_none, errW_some] <;> rfl) | (simp [*, errW_none, errW_some] <;> rfl), by exact ey HB.out⟩
end Go.Proofs.Ytbbgpfjeobdogaa.PB
end

section
namespace Go.Proofs.Ytbbgpfjeobdogaa.PB
open Go.RowKit Go.Proofs.YtbbgpfjeobdogaaW.PrintWords Go.Proofs.YtbbgpfjeobdogaaW.PrintLast Go.Proofs.YtbbgpfjeobdogaaW.PrintMore
attribute [local go_sem] max2_int min2_int max_two min_two max_three min_three max_four min_four   
set_option linter.unusedVariables false
set_option linter.unusedSimpArgs false
def runs_Good.l0 : Nat → List (S71) → List (S71) → Int → Int → Option (Bool)
 | 0, _, _, _, _ => none
 | k + 1, x0, x5, x6, x7 => if x7 < x6 then (if 0 ≤ x7 then (if x7 < (x5.length : Int) then (if ((rd_T71 x5 x7).f1) < 1 then (some false) else (if x7 > 0 then (if 0 ≤ (wrap64 (x7 - 1)) then (if (wrap64 (x7 - 1)) < (x0.length : Int) then (if ((rd_T71 x0 (wrap64 (x7 - 1))).f0) = ((rd_T71 x5 x7).f0) then (some false) else (runs_Good.l0 k x0 x5 x6 (wrap64 (x7 + 1)))) else (none)) else (none)) else (runs_Good.l0 k x0 x5 x6 (wrap64 (x7 + 1))))) else (none)) else (none)) else ((runs_Total.f k x0).bind fun t140 => (some (decide (t140 ≤ 4096))))
def runs_Good.f (k : Nat) (l0 : List (S71)) : Option (Bool) := runs_Good.l0 k l0 l0 (l0.length : Int) 0
set_option maxHeartbeats 8000000 in
set_option maxRecDepth 100000 in
theorem runs_Good.calls (k : Nat) (A0 : Option Addr) (c0 : Nat) (l0 : List (S71)) (r : Bool) (w : World) (hr0 : Kd.C k71 w A0 l0.length l0) (hc0 : l0.length ≤ c0) (h : runs_Good.f k l0 = some r) :
  Calls Try.prog 74 #[.slice A0 l0.length c0] w fun e w' => e = .returned (.bool r) ∧ Below w.heap.size w w' := by
 have hu71 := Try.underlying71
 have HR0 := aM hr0
 have HC0 := aM hc0
 clear hr0 hc0
 have HB := aM (Below.refl w.heap.size w)
 have H : (runs_Good.l0 k l0 l0 (l0.length : Int) 0) = some r := h
 clear h
 have H' := aM H
 clear H
 go_enter Try.func74, Try.ntmps74
 go_wp2
 repeat (go_quiet (fail); try go_wp2)
 go_loopg [7] k (fun kq v7 w' => ∃ (x7_1 : Int), v7 = .int .i64 x7_1 ∧ Aside0 (runs_Good.l0 kq l0 l0 (l0.length : Int) x7_1 = some r) ∧ Aside0 (kq ≤ k) ∧ Aside0 (Below w.heap.size w w'))
 case atStart => exact ⟨(0), (by first | rfl | (simp; done) | (simp [*]; done)), H', ⟨Nat.le_refl _⟩, ⟨by exact ey HB.out⟩⟩
 case round =>
  clear H'
  obtain ⟨x7_1, rfl, HA, HK1, HB⟩ := hrel
  cases gk with
  | zero => exact absurd HA.out (by simp [runs_Good.l0])
  | succ k1 =>
   have H := HA.out
   clear HA
   simp only [runs_Good.l0] at H
   by_cases c2 : x7_1 < (l0.length : Int)
   ·rw [if_pos c2] at H
    have c2b0 : decide (x7_1 < (l0.length : Int)) = true := decide_eq_true c2
    clear c2
    by_cases c3 : 0 ≤ x7_1
    ·rw [if_pos c3] at H
     have c3b0 : decide (0 ≤ x7_1) = true := decide_eq_true c3
     clear c3
     by_cases c4 : x7_1 < (l0.length : Int)
     ·rw [if_pos c4] at H
      have c4b0 : decide (x7_1 < (l0.length : Int)) = true := decide_eq_true c4
      clear c4
      by_cases c5 : ((rd_T71 l0 x7_1).f1) < 1
      ·rw [if_pos c5] at H
       have c5b0 : decide (((rd_T71 l0 x7_1).f1) < 1) = true := decide_eq_true c5
       clear c5
       obtain rfl := Option.some.inj H
       have p137 : 0 ≤ (x7_1 : Int) := of_decide_eq_true (by first | (with_reducible assumption) | assumption)
       have q137 : x7_1 < (l0.length : Int) := of_decide_eq_true (by first | (with_reducible assumption) | assumption)
       obtain ⟨ad137, e137, hx137_0, hx137_1⟩ := at_T71 HR0.out x7_1 p137 q137
       cases e137
       replace hx137_0 := (HB.out.cell (World.block_lt_of_cell? w _ hx137_0)).trans hx137_0
       replace hx137_1 := (HB.out.cell (World.block_lt_of_cell? w _ hx137_1)).trans hx137_1
       replace p137 := eq_true p137
       replace q137 := eq_true q137
       go_wp2_with (first | ((with_reducible refine gate_dst (N := 4) rfl ?_); refine box_event ?hg (N := 4) ?hd (cs := #[.int .u64 0, .int .i64 0]) (t := 71) ?hr ?_; (case hd | hg => rfl); (case hr => first | (go_simp; done) | (go_simp; rfl)); intro gb138 hg w6 hbox hb; have n0_ := aM (bP (ey HB.out) hb); have n1_ := aM (hbox); have n2_ := aM ((by rw [hg]; exact (bZ (ey HB.out)) : w.heap.size ≤ gb138)); have n3_ := n2_; clear HB; have HB := n0_; have BK138 := n1_; have GW138 := n2_; have GE138 := n3_; clear n0_ n1_ n2_ n3_; clear hb hbox hg; have hcz7_0 := zC BK138.out 0 (.int .u64 0); have hcz7_1 := zC BK138.out 1 (.int .i64 0); have hfz7_0 := bF BK138.out 0; have hfz7_1 := bF BK138.out 1))
       repeat (go_quiet (first | ((with_reducible refine gate_dst (N := 4) rfl ?_); refine box_event ?hg (N := 4) ?hd (cs := #[.int .u64 0, .int .i64 0]) (t := 71) ?hr ?_; (case hd | hg => rfl); (case hr => first | (go_simp; done) | (go_simp; rfl)); intro gb138 hg w6 hbox hb; have n0_ := aM (bP (ey HB.out) hb); have n1_ := aM (hbox); have n2_ := aM ((by rw [hg]; exact (bZ (ey HB.out)) : w.heap.size ≤ gb138)); have n3_ := n2_; clear HB; have HB := n0_; have BK138 := n1_; have GW138 := n2_; have GE138 := n3_; clear n0_ n1_ n2_ n3_; clear hb hbox hg; have hcz7_0 := zC BK138.out 0 (.int .u64 0); have hcz7_1 := zC BK138.out 1 (.int .i64 0); have hfz7_0 := bF BK138.out 0; have hfz7_1 := bF BK138.out 1)); try go_wp2_with (first | ((with_reducible refine gate_dst (N := 4) rfl ?_); refine box_event ?hg (N := 4) ?hd (cs := #[.int .u64 0, .int .i64 0]) (t := 71) ?hr ?_; (case hd | hg => rfl); (case hr => first | (go_simp; done) | (go_simp; rfl)); intro gb138 hg w6 hbox hb; have n0_ := aM (bP (ey HB.out) hb); have n1_ := aM (hbox); have n2_ := aM ((by rw [hg]; exact (bZ (ey HB.out)) : w.heap.size ≤ gb138)); have n3_ := n2_; clear HB; have HB := n0_; have BK138 := n1_; have GW138 := n2_; have GE138 := n3_; clear n0_ n1_ n2_ n3_; clear hb hbox hg; have hcz7_0 := zC BK138.out 0 (.int .u64 0); have hcz7_1 := zC BK138.out 1 (.int .i64 0); have hfz7_0 := bF BK138.out 0; have hfz7_1 := bF BK138.out 1)))
       go_ret
       exact ⟨by first | rfl | (simp [errW_none, errW_some] <;> rfl) | (simp [*, errW_none, errW_some] <;> rfl), by repeat (first | (with_reducible first | exact HB.out | apply ea | apply en | apply ed | refine es ?_ GE138.out) | exact HB.out)⟩
      ·rw [if_neg c5] at H
       have c5b0 : decide (((rd_T71 l0 x7_1).f1) < 1) = false := decide_eq_false c5
       clear c5
       by_cases c8 : x7_1 > 0
       ·rw [if_pos c8] at H
        have c8b0 : decide (0 < x7_1) = true := decide_eq_true c8
        clear c8
        obtain ⟨ji9, hji9⟩ : ∃ j_ : Int, (wrap64 (x7_1 - 1)) = j_ := ⟨_, rfl⟩
        replace H : (if 0 ≤ (ji9) then (if (ji9) < (l0.length : Int) then (if ((rd_T71 l0 (ji9)).f0) = ((rd_T71 l0 x7_1).f0) then (some false) else (runs_Good.l0 k1 l0 l0 (l0.length : Int) (wrap64 (x7_1 + 1)))) else (none)) else (none)) = some r := by first | (rw [hji9] at H; exact H) | (simp only [hji9] at H ⊢; exact H)
        have hji9w : (IntKind.i64.wrap (x7_1 - 1)) = ji9 := (i64_w _).trans hji9
        by_cases c10 : 0 ≤ (ji9)
        ·rw [if_pos c10] at H
         have c10b0 : decide (0 ≤ (ji9)) = true := decide_eq_true c10
         clear c10
         by_cases c11 : (ji9) < (l0.length : Int)
         ·rw [if_pos c11] at H
          have c11b0 : decide ((ji9) < (l0.length : Int)) = true := decide_eq_true c11
          clear c11
          by_cases c12 : ((rd_T71 l0 (ji9)).f0) = ((rd_T71 l0 x7_1).f0)
          ·rw [if_pos c12] at H
           have c12b0 : (((rd_T71 l0 (ji9)).f0) == ((rd_T71 l0 x7_1).f0)) = true := beq_iff_eq.mpr c12
           have c12b1 : (((rd_T71 l0 (ji9)).f0) != ((rd_T71 l0 x7_1).f0)) = false := bne_eq_false_iff_eq.mpr c12
           clear c12
           obtain rfl := Option.some.inj H
           have p137 : 0 ≤ (x7_1 : Int) := of_decide_eq_true (by first | (with_reducible assumption) | assumption)
           have q137 : x7_1 < (l0.length : Int) := of_decide_eq_true (by first | (with_reducible assumption) | assumption)
           obtain ⟨ad137, e137, hx137_0, hx137_1⟩ := at_T71 HR0.out x7_1 p137 q137
           cases e137
           replace hx137_0 := (HB.out.cell (World.block_lt_of_cell? w _ hx137_0)).trans hx137_0
           replace hx137_1 := (HB.out.cell (World.block_lt_of_cell? w _ hx137_1)).trans hx137_1
           replace p137 := eq_true p137
           replace q137 := eq_true q137
           go_wp2_with (first | ((with_reducible refine gate_dst (N := 4) rfl ?_); refine box_event ?hg (N := 4) ?hd (cs := #[.int .u64 0, .int .i64 0]) (t := 71) ?hr ?_; (case hd | hg => rfl); (case hr => first | (go_simp; done) | (go_simp; rfl)); intro gb138 hg w13 hbox hb; have n0_ := aM (bP (ey HB.out) hb); have n1_ := aM (hbox); have n2_ := aM ((by rw [hg]; exact (bZ (ey HB.out)) : w.heap.size ≤ gb138)); have n3_ := n2_; clear HB; have HB := n0_; have BK138 := n1_; have GW138 := n2_; have GE138 := n3_; clear n0_ n1_ n2_ n3_; clear hb hbox hg; have hcz14_0 := zC BK138.out 0 (.int .u64 0); have hcz14_1 := zC BK138.out 1 (.int .i64 0); have hfz14_0 := bF BK138.out 0; have hfz14_1 := bF BK138.out 1; have p139 : 0 ≤ ((ji9) : Int) := of_decide_eq_true (by first | (with_reducible assumption) | assumption); have q139 : (ji9) < (l0.length : Int) := of_decide_eq_true (by first | (with_reducible assumption) | assumption); obtain ⟨ad139, e139, hx139_0, hx139_1⟩ := at_T71 HR0.out (ji9) p139 q139; obtain rfl : ad137 = ad139 := (by injection e139); have hn139_0 : ad137.block ≠ gb138 := Nat.ne_of_lt (Nat.lt_of_lt_of_le (by have := World.block_lt_of_cell? _ _ hx139_0; first | rwa [add_block] at this | exact this) GW138.out); have hn139_1 : ad137.block ≠ gb138 := Nat.ne_of_lt (Nat.lt_of_lt_of_le (by have := World.block_lt_of_cell? _ _ hx139_0; first | rwa [add_block] at this | exact this) GW138.out); replace hx139_0 := (HB.out.cell (World.block_lt_of_cell? w _ hx139_0)).trans hx139_0; replace hx139_1 := (HB.out.cell (World.block_lt_of_cell? w _ hx139_1)).trans hx139_1; replace hx139_0 := (cell_far (p := ⟨gb138, 0, none⟩) (by first | (rw [add_block]; exact hn139_0) | (show (Addr.add _ _).block ≠ _; rw [add_block]; exact hn139_0) | exact hn139_0) (.int .u64 ((rd_T71 l0 x7_1).f0))).trans hx139_0; replace hx139_1 := (cell_far (p := ⟨gb138, 0, none⟩) (by first | (rw [add_block]; exact hn139_0) | (show (Addr.add _ _).block ≠ _; rw [add_block]; exact hn139_0) | exact hn139_0) (.int .u64 ((rd_T71 l0 x7_1).f0))).trans hx139_1; replace hx139_0 := (cell_far (p := ⟨gb138, 1, none⟩) (by first | (rw [add_block]; exact hn139_1) | (show (Addr.add _ _).block ≠ _; rw [add_block]; exact hn139_1) | exact hn139_1) (.int .i64 ((rd_T71 l0 x7_1).f1))).trans hx139_0; replace hx139_1 := (cell_far (p := ⟨gb138, 1, none⟩) (by first | (rw [add_block]; exact hn139_1) | (show (Addr.add _ _).block ≠ _; rw [add_block]; exact hn139_1) | exact hn139_1) (.int .i64 ((rd_T71 l0 x7_1).f1))).trans hx139_1; (try have hy139_0 := fun (n_ : Nat) => (show ((((w13.drewN n_).setCell ⟨gb138, 0, none⟩ (.int .u64 ((rd_T71 l0 x7_1).f0))).setCell ⟨gb138, 1, none⟩ (.int .i64 ((rd_T71 l0 x7_1).f1)))).cell? _ = some _ from hx139_0)); (try have hy139_1 := fun (n_ : Nat) => (show ((((w13.drewN n_).setCell ⟨gb138, 0, none⟩ (.int .u64 ((rd_T71 l0 x7_1).f0))).setCell ⟨gb138, 1, none⟩ (.int .i64 ((rd_T71 l0 x7_1).f1)))).cell? _ = some _ from hx139_1)); clear hn139_0 hn139_1; replace p139 := eq_true p139; replace q139 := eq_true q139))
           repeat (go_quiet (first | ((with_reducible refine gate_dst (N := 4) rfl ?_); refine box_event ?hg (N := 4) ?hd (cs := #[.int .u64 0, .int .i64 0]) (t := 71) ?hr ?_; (case hd | hg => rfl); (case hr => first | (go_simp; done) | (go_simp; rfl)); intro gb138 hg w13 hbox hb; have n0_ := aM (bP (ey HB.out) hb); have n1_ := aM (hbox); have n2_ := aM ((by rw [hg]; exact (bZ (ey HB.out)) : w.heap.size ≤ gb138)); have n3_ := n2_; clear HB; have HB := n0_; have BK138 := n1_; have GW138 := n2_; have GE138 := n3_; clear n0_ n1_ n2_ n3_; clear hb hbox hg; have hcz14_0 := zC BK138.out 0 (.int .u64 0); have hcz14_1 := zC BK138.out 1 (.int .i64 0); have hfz14_0 := bF BK138.out 0; have hfz14_1 := bF BK138.out 1; have p139 : 0 ≤ ((ji9) : Int) := of_decide_eq_true (by first | (with_reducible assumption) | assumption); have q139 : (ji9) < (l0.length : Int) := of_decide_eq_true (by first | (with_reducible assumption) | assumption); obtain ⟨ad139, e139, hx139_0, hx139_1⟩ := at_T71 HR0.out (ji9) p139 q139; obtain rfl : ad137 = ad139 := (by injection e139); have hn139_0 : ad137.block ≠ gb138 := Nat.ne_of_lt (Nat.lt_of_lt_of_le (by have := World.block_lt_of_cell? _ _ hx139_0; first | rwa [add_block] at this | exact this) GW138.out); have hn139_1 : ad137.block ≠ gb138 := Nat.ne_of_lt (Nat.lt_of_lt_of_le (by have := World.block_lt_of_cell? _ _ hx139_0; first | rwa [add_block] at this | exact this) GW138.out); replace hx139_0 := (HB.out.cell (World.block_lt_of_cell? w _ hx139_0)).trans hx139_0; replace hx139_1 := (HB.out.cell (World.block_lt_of_cell? w _ hx139_1)).trans hx139_1; replace hx139_0 := (cell_far (p := ⟨gb138, 0, none⟩) (by first | (rw [add_block]; exact hn139_0) | (show (Addr.add _ _).block ≠ _; rw [add_block]; exact hn139_0) | exact hn139_0) (.int .u64 ((rd_T71 l0 x7_1).f0))).trans hx139_0; replace hx139_1 := (cell_far (p := ⟨gb138, 0, none⟩) (by first | (rw [add_block]; exact hn139_0) | (show (Addr.add _ _).block ≠ _; rw [add_block]; exact hn139_0) | exact hn139_0) (.int .u64 ((rd_T71 l0 x7_1).f0))).trans hx139_1; replace hx139_0 := (cell_far (p := ⟨gb138, 1, none⟩) (by first | (rw [add_block]; exact hn139_1) | (show (Addr.add _ _).block ≠ _; rw [add_block]; exact hn139_1) | exact hn139_1) (.int .i64 ((rd_T71 l0 x7_1).f1))).trans hx139_0; replace hx139_1 := (cell_far (p := ⟨gb138, 1, none⟩) (by first | (rw [add_block]; exact hn139_1) | (show (Addr.add _ _).block ≠ _; rw [add_block]; exact hn139_1) | exact hn139_1) (.int .i64 ((rd_T71 l0 x7_1).f1))).trans hx139_1; (try have hy139_0 := fun (n_ : Nat) => (show ((((w13.drewN n_).setCell ⟨gb138, 0, none⟩ (.int .u64 ((rd_T71 l0 x7_1).f0))).setCell ⟨gb138, 1, none⟩ (.int .i64 ((rd_T71 l0 x7_1).f1)))).cell? _ = some _ from hx139_0)); (try have hy139_1 := fun (n_ : Nat) => (show ((((w13.drewN n_).setCell ⟨gb138, 0, none⟩ (.int .u64 ((rd_T71 l0 x7_1).f0))).setCell ⟨gb138, 1, none⟩ (.int .i64 ((rd_T71 l0 x7_1).f1)))).cell? _ = some _ from hx139_1)); clear hn139_0 hn139_1; replace p139 := eq_true p139; replace q139 := eq_true q139)); try go_wp2_with (first | ((with_reducible refine gate_dst (N := 4) rfl ?_); refine box_event ?hg (N := 4) ?hd (cs := #[.int .u64 0, .int .i64 0]) (t := 71) ?hr ?_; (case hd | hg => rfl); (case hr => first | (go_simp; done) | (go_simp; rfl)); intro gb138 hg w13 hbox hb; have n0_ := aM (bP (ey HB.out) hb); have n1_ := aM (hbox); have n2_ := aM ((by rw [hg]; exact (bZ (ey HB.out)) : w.heap.size ≤ gb138)); have n3_ := n2_; clear HB; have HB := n0_; have BK138 := n1_; have GW138 := n2_; have GE138 := n3_; clear n0_ n1_ n2_ n3_; clear hb hbox hg; have hcz14_0 := zC BK138.out 0 (.int .u64 0); have hcz14_1 := zC BK138.out 1 (.int .i64 0); have hfz14_0 := bF BK138.out 0; have hfz14_1 := bF BK138.out 1; have p139 : 0 ≤ ((ji9) : Int) := of_decide_eq_true (by first | (with_reducible assumption) | assumption); have q139 : (ji9) < (l0.length : Int) := of_decide_eq_true (by first | (with_reducible assumption) | assumption); obtain ⟨ad139, e139, hx139_0, hx139_1⟩ := at_T71 HR0.out (ji9) p139 q139; obtain rfl : ad137 = ad139 := (by injection e139); have hn139_0 : ad137.block ≠ gb138 := Nat.ne_of_lt (Nat.lt_of_lt_of_le (by have := World.block_lt_of_cell? _ _ hx139_0; first | rwa [add_block] at this | exact this) GW138.out); have hn139_1 : ad137.block ≠ gb138 := Nat.ne_of_lt (Nat.lt_of_lt_of_le (by have := World.block_lt_of_cell? _ _ hx139_0; first | rwa [add_block] at this | exact this) GW138.out); replace hx139_0 := (HB.out.cell (World.block_lt_of_cell? w _ hx139_0)).trans hx139_0; replace hx139_1 := (HB.out.cell (World.block_lt_of_cell? w _ hx139_1)).trans hx139_1; replace hx139_0 := (cell_far (p := ⟨gb138, 0, none⟩) (by first | (rw [add_block]; exact hn139_0) | (show (Addr.add _ _).block ≠ _; rw [add_block]; exact hn139_0) | exact hn139_0) (.int .u64 ((rd_T71 l0 x7_1).f0))).trans hx139_0; replace hx139_1 := (cell_far (p := ⟨gb138, 0, none⟩) (by first | (rw [add_block]; exact hn139_0) | (show (Addr.add _ _).block ≠ _; rw [add_block]; exact hn139_0) | exact hn139_0) (.int .u64 ((rd_T71 l0 x7_1).f0))).trans hx139_1; replace hx139_0 := (cell_far (p := ⟨gb138, 1, none⟩) (by first | (rw [add_block]; exact hn139_1) | (show (Addr.add _ _).block ≠ _; rw [add_block]; exact hn139_1) | exact hn139_1) (.int .i64 ((rd_T71 l0 x7_1).f1))).trans hx139_0; replace hx139_1 := (cell_far (p := ⟨gb138, 1, none⟩) (by first | (rw [add_block]; exact hn139_1) | (show (Addr.add _ _).block ≠ _; rw [add_block]; exact hn139_1) | exact hn139_1) (.int .i64 ((rd_T71 l0 x7_1).f1))).trans hx139_1; (try have hy139_0 := fun (n_ : Nat) => (show ((((w13.drewN n_).setCell ⟨gb138, 0, none⟩ (.int .u64 ((rd_T71 l0 x7_1).f0))).setCell ⟨gb138, 1, none⟩ (.int .i64 ((rd_T71 l0 x7_1).f1)))).cell? _ = some _ from hx139_0)); (try have hy139_1 := fun (n_ : Nat) => (show ((((w13.drewN n_).setCell ⟨gb138, 0, none⟩ (.int .u64 ((rd_T71 l0 x7_1).f0))).setCell ⟨gb138, 1, none⟩ (.int .i64 ((rd_T71 l0 x7_1).f1)))).cell? _ = some _ from hx139_1)); clear hn139_0 hn139_1; replace p139 := eq_true p139; replace q139 := eq_true q139)))
           go_ret
           exact ⟨by first | rfl | (simp [errW_none, errW_some] <;> rfl) | (simp only [← hji9]; first | rfl | (simp [errW_none, errW_some] <;> rfl)) | (simp [*, errW_none, errW_some] <;> rfl), by repeat (first | (with_reducible first | exact HB.out | apply ea | apply en | apply ed | refine es ?_ GE138.out) | exact HB.out)⟩
          ·rw [if_neg c12] at H
           have c12b0 : (((rd_T71 l0 (ji9)).f0) == ((rd_T71 l0 x7_1).f0)) = false := beq_eq_false_iff_ne.mpr c12
           have c12b1 : (((rd_T71 l0 (ji9)).f0) != ((rd_T71 l0 x7_1).f0)) = true := bne_iff_ne.mpr c12
           have H' := aM H
           clear H
           have p137 : 0 ≤ (x7_1 : Int) := of_decide_eq_true (by first | (with_reducible assumption) | assumption)
           have q137 : x7_1 < (l0.length : Int) := of_decide_eq_true (by first | (with_reducible assumption) | assumption)
           obtain ⟨ad137, e137, hx137_0, hx137_1⟩ := at_T71 HR0.out x7_1 p137 q137
           cases e137
           replace hx137_0 := (HB.out.cell (World.block_lt_of_cell? w _ hx137_0)).trans hx137_0
           replace hx137_1 := (HB.out.cell (World.block_lt_of_cell? w _ hx137_1)).trans hx137_1
           replace p137 := eq_true p137
           replace q137 := eq_true q137
           go_wp2_with (first | ((with_reducible refine gate_dst (N := 4) rfl ?_); refine box_event ?hg (N := 4) ?hd (cs := #[.int .u64 0, .int .i64 0]) (t := 71) ?hr ?_; (case hd | hg => rfl); (case hr => first | (go_simp; done) | (go_simp; rfl)); intro gb138 hg w15 hbox hb; have n0_ := aM (bP (ey HB.out) hb); have n1_ := aM (hbox); have n2_ := aM ((by rw [hg]; exact (bZ (ey HB.out)) : w.heap.size ≤ gb138)); have n3_ := n2_; clear HB; have HB := n0_; have BK138 := n1_; have GW138 := n2_; have GE138 := n3_; clear n0_ n1_ n2_ n3_; clear hb hbox hg; have hcz16_0 := zC BK138.out 0 (.int .u64 0); have hcz16_1 := zC BK138.out 1 (.int .i64 0); have hfz16_0 := bF BK138.out 0; have hfz16_1 := bF BK138.out 1; have p139 : 0 ≤ ((ji9) : Int) := of_decide_eq_true (by first | (with_reducible assumption) | assumption); have q139 : (ji9) < (l0.length : Int) := of_decide_eq_true (by first | (with_reducible assumption) | assumption); obtain ⟨ad139, e139, hx139_0, hx139_1⟩ := at_T71 HR0.out (ji9) p139 q139; obtain rfl : ad137 = ad139 := (by injection e139); have hn139_0 : ad137.block ≠ gb138 := Nat.ne_of_lt (Nat.lt_of_lt_of_le (by have := World.block_lt_of_cell? _ _ hx139_0; first | rwa [add_block] at this | exact this) GW138.out); have hn139_1 : ad137.block ≠ gb138 := Nat.ne_of_lt (Nat.lt_of_lt_of_le (by have := World.block_lt_of_cell? _ _ hx139_0; first | rwa [add_block] at this | exact this) GW138.out); replace hx139_0 := (HB.out.cell (World.block_lt_of_cell? w _ hx139_0)).trans hx139_0; replace hx139_1 := (HB.out.cell (World.block_lt_of_cell? w _ hx139_1)).trans hx139_1; replace hx139_0 := (cell_far (p := ⟨gb138, 0, none⟩) (by first | (rw [add_block]; exact hn139_0) | (show (Addr.add _ _).block ≠ _; rw [add_block]; exact hn139_0) | exact hn139_0) (.int .u64 ((rd_T71 l0 x7_1).f0))).trans hx139_0; replace hx139_1 := (cell_far (p := ⟨gb138, 0, none⟩) (by first | (rw [add_block]; exact hn139_0) | (show (Addr.add _ _).block ≠ _; rw [add_block]; exact hn139_0) | exact hn139_0) (.int .u64 ((rd_T71 l0 x7_1).f0))).trans hx139_1; replace hx139_0 := (cell_far (p := ⟨gb138, 1, none⟩) (by first | (rw [add_block]; exact hn139_1) | (show (Addr.add _ _).block ≠ _; rw [add_block]; exact hn139_1) | exact hn139_1) (.int .i64 ((rd_T71 l0 x7_1).f1))).trans hx139_0; replace hx139_1 := (cell_far (p := ⟨gb138, 1, none⟩) (by first | (rw [add_block]; exact hn139_1) | (show (Addr.add _ _).block ≠ _; rw [add_block]; exact hn139_1) | exact hn139_1) (.int .i64 ((rd_T71 l0 x7_1).f1))).trans hx139_1; (try have hy139_0 := fun (n_ : Nat) => (show ((((w15.drewN n_).setCell ⟨gb138, 0, none⟩ (.int .u64 ((rd_T71 l0 x7_1).f0))).setCell ⟨gb138, 1, none⟩ (.int .i64 ((rd_T71 l0 x7_1).f1)))).cell? _ = some _ from hx139_0)); (try have hy139_1 := fun (n_ : Nat) => (show ((((w15.drewN n_).setCell ⟨gb138, 0, none⟩ (.int .u64 ((rd_T71 l0 x7_1).f0))).setCell ⟨gb138, 1, none⟩ (.int .i64 ((rd_T71 l0 x7_1).f1)))).cell? _ = some _ from hx139_1)); clear hn139_0 hn139_1; replace p139 := eq_true p139; replace q139 := eq_true q139))
           repeat (go_quiet (first | ((with_reducible refine gate_dst (N := 4) rfl ?_); refine box_event ?hg (N := 4) ?hd (cs := #[.int .u64 0, .int .i64 0]) (t := 71) ?hr ?_; (case hd | hg => rfl); (case hr => first | (go_simp; done) | (go_simp; rfl)); intro gb138 hg w15 hbox hb; have n0_ := aM (bP (ey HB.out) hb); have n1_ := aM (hbox); have n2_ := aM ((by rw [hg]; exact (bZ (ey HB.out)) : w.heap.size ≤ gb138)); have n3_ := n2_; clear HB; have HB := n0_; have BK138 := n1_; have GW138 := n2_; have GE138 := n3_; clear n0_ n1_ n2_ n3_; clear hb hbox hg; have hcz16_0 := zC BK138.out 0 (.int .u64 0); have hcz16_1 := zC BK138.out 1 (.int .i64 0); have hfz16_0 := bF BK138.out 0; have hfz16_1 := bF BK138.out 1; have p139 : 0 ≤ ((ji9) : Int) := of_decide_eq_true (by first | (with_reducible assumption) | assumption); have q139 : (ji9) < (l0.length : Int) := of_decide_eq_true (by first | (with_reducible assumption) | assumption); obtain ⟨ad139, e139, hx139_0, hx139_1⟩ := at_T71 HR0.out (ji9) p139 q139; obtain rfl : ad137 = ad139 := (by injection e139); have hn139_0 : ad137.block ≠ gb138 := Nat.ne_of_lt (Nat.lt_of_lt_of_le (by have := World.block_lt_of_cell? _ _ hx139_0; first | rwa [add_block] at this | exact this) GW138.out); have hn139_1 : ad137.block ≠ gb138 := Nat.ne_of_lt (Nat.lt_of_lt_of_le (by have := World.block_lt_of_cell? _ _ hx139_0; first | rwa [add_block] at this | exact this) GW138.out); replace hx139_0 := (HB.out.cell (World.block_lt_of_cell? w _ hx139_0)).trans hx139_0; replace hx139_1 := (HB.out.cell (World.block_lt_of_cell? w _ hx139_1)).trans hx139_1; replace hx139_0 := (cell_far (p := ⟨gb138, 0, none⟩) (by first | (rw [add_block]; exact hn139_0) | (show (Addr.add _ _).block ≠ _; rw [add_block]; exact hn139_0) | exact hn139_0) (.int .u64 ((rd_T71 l0 x7_1).f0))).trans hx139_0; replace hx139_1 := (cell_far (p := ⟨gb138, 0, none⟩) (by first | (rw [add_block]; exact hn139_0) | (show (Addr.add _ _).block ≠ _; rw [add_block]; exact hn139_0) | exact hn139_0) (.int .u64 ((rd_T71 l0 x7_1).f0))).trans hx139_1; replace hx139_0 := (cell_far (p := ⟨gb138, 1, none⟩) (by first | (rw [add_block]; exact hn139_1) | (show (Addr.add _ _).block ≠ _; rw [add_block]; exact hn139_1) | exact hn139_1) (.int .i64 ((rd_T71 l0 x7_1).f1))).trans hx139_0; replace hx139_1 := (cell_far (p := ⟨gb138, 1, none⟩) (by first | (rw [add_block]; exact hn139_1) | (show (Addr.add _ _).block ≠ _; rw [add_block]; exact hn139_1) | exact hn139_1) (.int .i64 ((rd_T71 l0 x7_1).f1))).trans hx139_1; (try have hy139_0 := fun (n_ : Nat) => (show ((((w15.drewN n_).setCell ⟨gb138, 0, none⟩ (.int .u64 ((rd_T71 l0 x7_1).f0))).setCell ⟨gb138, 1, none⟩ (.int .i64 ((rd_T71 l0 x7_1).f1)))).cell? _ = some _ from hx139_0)); (try have hy139_1 := fun (n_ : Nat) => (show ((((w15.drewN n_).setCell ⟨gb138, 0, none⟩ (.int .u64 ((rd_T71 l0 x7_1).f0))).setCell ⟨gb138, 1, none⟩ (.int .i64 ((rd_T71 l0 x7_1).f1)))).cell? _ = some _ from hx139_1)); clear hn139_0 hn139_1; replace p139 := eq_true p139; replace q139 := eq_true q139)); try go_wp2_with (first | ((with_reducible refine gate_dst (N := 4) rfl ?_); refine box_event ?hg (N := 4) ?hd (cs := #[.int .u64 0, .int .i64 0]) (t := 71) ?hr ?_; (case hd | hg => rfl); (case hr => first | (go_simp; done) | (go_simp; rfl)); intro gb138 hg w15 hbox hb; have n0_ := aM (bP (ey HB.out) hb); have n1_ := aM (hbox); have n2_ := aM ((by rw [hg]; exact (bZ (ey HB.out)) : w.heap.size ≤ gb138)); have n3_ := n2_; clear HB; have HB := n0_; have BK138 := n1_; have GW138 := n2_; have GE138 := n3_; clear n0_ n1_ n2_ n3_; clear hb hbox hg; have hcz16_0 := zC BK138.out 0 (.int .u64 0); have hcz16_1 := zC BK138.out 1 (.int .i64 0); have hfz16_0 := bF BK138.out 0; have hfz16_1 := bF BK138.out 1; have p139 : 0 ≤ ((ji9) : Int) := of_decide_eq_true (by first | (with_reducible assumption) | assumption); have q139 : (ji9) < (l0.length : Int) := of_decide_eq_true (by first | (with_reducible assumption) | assumption); obtain ⟨ad139, e139, hx139_0, hx139_1⟩ := at_T71 HR0.out (ji9) p139 q139; obtain rfl : ad137 = ad139 := (by injection e139); have hn139_0 : ad137.block ≠ gb138 := Nat.ne_of_lt (Nat.lt_of_lt_of_le (by have := World.block_lt_of_cell? _ _ hx139_0; first | rwa [add_block] at this | exact this) GW138.out); have hn139_1 : ad137.block ≠ gb138 := Nat.ne_of_lt (Nat.lt_of_lt_of_le (by have := World.block_lt_of_cell? _ _ hx139_0; first | rwa [add_block] at this | exact this) GW138.out); replace hx139_0 := (HB.out.cell (World.block_lt_of_cell? w _ hx139_0)).trans hx139_0; replace hx139_1 := (HB.out.cell (World.block_lt_of_cell? w _ hx139_1)).trans hx139_1; replace hx139_0 := (cell_far (p := ⟨gb138, 0, none⟩) (by first | (rw [add_block]; exact hn139_0) | (show (Addr.add _ _).block ≠ _; rw [add_block]; exact hn139_0) | exact hn139_0) (.int .u64 ((rd_T71 l0 x7_1).f0))).trans hx139_0; replace hx139_1 := (cell_far (p := ⟨gb138, 0, none⟩) (by first | (rw [add_block]; exact hn139_0) | (show (Addr.add _ _).block ≠ _; rw [add_block]; exact hn139_0) | exact hn139_0) (.int .u64 ((rd_T71 l0 x7_1).f0))).trans hx139_1; replace hx139_0 := (cell_far (p := ⟨gb138, 1, none⟩) (by first | (rw [add_block]; exact hn139_1) | (show (Addr.add _ _).block ≠ _; rw [add_block]; exact hn139_1) | exact hn139_1) (.int .i64 ((rd_T71 l0 x7_1).f1))).trans hx139_0; replace hx139_1 := (cell_far (p := ⟨gb138, 1, none⟩) (by first | (rw [add_block]; exact hn139_1) | (show (Addr.add _ _).block ≠ _; rw [add_block]; exact hn139_1) | exact hn139_1) (.int .i64 ((rd_T71 l0 x7_1).f1))).trans hx139_1; (try have hy139_0 := fun (n_ : Nat) => (show ((((w15.drewN n_).setCell ⟨gb138, 0, none⟩ (.int .u64 ((rd_T71 l0 x7_1).f0))).setCell ⟨gb138, 1, none⟩ (.int .i64 ((rd_T71 l0 x7_1).f1)))).cell? _ = some _ from hx139_0)); (try have hy139_1 := fun (n_ : Nat) => (show ((((w15.drewN n_).setCell ⟨gb138, 0, none⟩ (.int .u64 ((rd_T71 l0 x7_1).f0))).setCell ⟨gb138, 1, none⟩ (.int .i64 ((rd_T71 l0 x7_1).f1)))).cell? _ = some _ from hx139_1)); clear hn139_0 hn139_1; replace p139 := eq_true p139; replace q139 := eq_true q139)))
           go_roundg k1
           case measure => have := HK1.out; omega
           case rel => exact ⟨(wrap64 (x7_1 + 1)), (by first | rfl | (simp; done) | (simp [*]; done)), H', ⟨by have := HK1.out; omega⟩, ⟨by repeat (first | (with_reducible first | exact HB.out | apply ea | apply en | apply ed | refine es ?_ GE138.out) | exact HB.out)⟩⟩
         ·rw [if_neg c11] at H
          exact absurd H (by simp)
        ·rw [if_neg c10] at H
         exact absurd H (by simp)
       ·rw [if_neg c8] at H
        have c8b0 : decide (0 < x7_1) = false := decide_eq_false c8
        clear c8
        have H' := aM H
        clear H
        have p137 : 0 ≤ (x7_1 : Int) := of_decide_eq_true (by first | (with_reducible assumption) | assumption)
        have q137 : x7_1 < (l0.length : Int) := of_decide_eq_true (by first | (with_reducible assumption) | assumption)
        obtain ⟨ad137, e137, hx137_0, hx137_1⟩ := at_T71 HR0.out x7_1 p137 q137
        cases e137
        replace hx137_0 := (HB.out.cell (World.block_lt_of_cell? w _ hx137_0)).trans hx137_0
        replace hx137_1 := (HB.out.cell (World.block_lt_of_cell? w _ hx137_1)).trans hx137_1
        replace p137 := eq_true p137
        replace q137 := eq_true q137
        go_wp2_with (first | ((with_reducible refine gate_dst (N := 4) rfl ?_); refine box_event ?hg (N := 4) ?hd (cs := #[.int .u64 0, .int .i64 0]) (t := 71) ?hr ?_; (case hd | hg => rfl); (case hr => first | (go_simp; done) | (go_simp; rfl)); intro gb138 hg w17 hbox hb; have n0_ := aM (bP (ey HB.out) hb); have n1_ := aM (hbox); have n2_ := aM ((by rw [hg]; exact (bZ (ey HB.out)) : w.heap.size ≤ gb138)); have n3_ := n2_; clear HB; have HB := n0_; have BK138 := n1_; have GW138 := n2_; have GE138 := n3_; clear n0_ n1_ n2_ n3_; clear hb hbox hg; have hcz18_0 := zC BK138.out 0 (.int .u64 0); have hcz18_1 := zC BK138.out 1 (.int .i64 0); have hfz18_0 := bF BK138.out 0; have hfz18_1 := bF BK138.out 1))
        repeat (go_quiet (first | ((with_reducible refine gate_dst (N := 4) rfl ?_); refine box_event ?hg (N := 4) ?hd (cs := #[.int .u64 0, .int .i64 0]) (t := 71) ?hr ?_; (case hd | hg => rfl); (case hr => first | (go_simp; done) | (go_simp; rfl)); intro gb138 hg w17 hbox hb; have n0_ := aM (bP (ey HB.out) hb); have n1_ := aM (hbox); have n2_ := aM ((by rw [hg]; exact (bZ (ey HB.out)) : w.heap.size ≤ gb138)); have n3_ := n2_; clear HB; have HB := n0_; have BK138 := n1_; have GW138 := n2_; have GE138 := n3_; clear n0_ n1_ n2_ n3_; clear hb hbox hg; have hcz18_0 := zC BK138.out 0 (.int .u64 0); have hcz18_1 := zC BK138.out 1 (.int .i64 0); have hfz18_0 := bF BK138.out 0; have hfz18_1 := bF BK138.out 1)); try go_wp2_with (first | ((with_reducible refine gate_dst (N := 4) rfl ?_); refine box_event ?hg (N := 4) ?hd (cs := #[.int .u64 0, .int .i64 0]) (t := 71) ?hr ?_; (case hd | hg => rfl); (case hr => first | (go_simp; done) | (go_simp; rfl)); intro gb138 hg w17 hbox hb; have n0_ := aM (bP (ey HB.out) hb); have n1_ := aM (hbox); have n2_ := aM ((by rw [hg]; exact (bZ (ey HB.out)) : w.heap.size ≤ gb138)); have n3_ := n2_; clear HB; have HB := n0_; have BK138 := n1_; have GW138 := n2_; have GE138 := n3_; clear n0_ n1_ n2_ n3_; clear hb hbox hg; have hcz18_0 := zC BK138.out 0 (.int .u64 0); have hcz18_1 := zC BK138.out 1 (.int .i64 0); have hfz18_0 := bF BK138.out 0; have hfz18_1 := bF BK138.out 1)))
        go_roundg k1
        case measure => have := HK1.out; omega
        case rel => exact ⟨(wrap64 (x7_1 + 1)), (by first | rfl | (simp; done) | (simp [*]; done)), H', ⟨by have := HK1.out; omega⟩, ⟨by repeat (first | (with_reducible first | exact HB.out | apply ea | apply en | apply ed | refine es ?_ GE138.out) | exact HB.out)⟩⟩
     ·rw [if_neg c4] at H
      exact absurd H (by simp)
    ·rw [if_neg c3] at H
     exact absurd H (by simp)
   ·rw [if_neg c2] at H
    have c2b0 : decide (x7_1 < (l0.length : Int)) = false := decide_eq_false c2
    clear c2
    replace H := Option.bind_eq_some_iff.mp H
    obtain ⟨t140, A190, H⟩ := H
    replace H : (some (decide (t140 ≤ 4096))) = some r := H
    have A19 := aM A190
    clear A190
    obtain rfl := Option.some.inj H
    go_wp2_with (first | (go_at_call 75; (with_reducible refine (runs_Total.calls k1 _ _ l0 t140 _ ?side1 ?side2 A19.out).mono ?_); (case side1 => repeat (first | exact (cB_ HR0.out HB.out) | (with_reducible refine Kd.C_alloc ?_ _) | (with_reducible refine Kd.C_drewN ?_ _) | (with_reducible refine Kd.C_drew ?_))); (case side2 => exact HC0.out); rintro e w20 ⟨rfl, hb⟩; have n0_ := aM (bP (ey HB.out) hb); clear HB; have HB := n0_; clear n0_; (try clear hb); (try clear hb2); (try clear hk); (try clear hi)))
    repeat (go_quiet (first | (go_at_call 75; (with_reducible refine (runs_Total.calls k1 _ _ l0 t140 _ ?side1 ?side2 A19.out).mono ?_); (case side1 => repeat (first | exact (cB_ HR0.out HB.out) | (with_reducible refine Kd.C_alloc ?_ _) | (with_reducible refine Kd.C_drewN ?_ _) | (with_reducible refine Kd.C_drew ?_))); (case side2 => exact HC0.out); rintro e w20 ⟨rfl, hb⟩; have n0_ := aM (bP (ey HB.out) hb); clear HB; have HB := n0_; clear n0_; (try clear hb); (try clear hb2); (try clear hk); (try clear hi))); try go_wp2_with (first | (go_at_call 75; (with_reducible refine (runs_Total.calls k1 _ _ l0 t140 _ ?side1 ?side2 A19.out).mono ?_); (case side1 => repeat (first | exact (cB_ HR0.out HB.out) | (with_reducible refine Kd.C_alloc ?_ _) | (with_reducible refine Kd.C_drewN ?_ _) | (with_reducible refine Kd.C_drew ?_))); (case side2 => exact HC0.out); rintro e w20 ⟨rfl, hb⟩; have n0_ := aM (bP (ey HB.out) hb); clear HB; have HB := n0_; clear n0_; (try clear hb); (try clear hb2); (try clear hk); (try clear hi))))
    go_ret
    exact ⟨by first | rfl | (simp [errW_none, errW_some] <;> rfl) | (simp [*, errW_none, errW_some] <;> rfl), by exact ey HB.out⟩
end Go.Proofs.Ytbbgpfjeobdogaa.PB
end

section
namespace Go.Proofs.Ytbbgpfjeobdogaa.PB
open Go.RowKit Go.Proofs.YtbbgpfjeobdogaaW.PrintWords Go.Proofs.YtbbgpfjeobdogaaW.PrintLast Go.Proofs.YtbbgpfjeobdogaaW.PrintMore
attribute [local go_sem] max2_int min2_int max_two min_two max_three min_three max_four min_four   
set_option linter.unusedVariables false
set_option linter.unusedSimpArgs false
def runs_within.f (k : Nat) (l0 : List (S71)) (a1 : Int) (a2 : Int) : Option (Bool) := (runs_Good.f k l0).bind fun t149 => (if t149 = true then (if a1 ≥ 0 then (if a1 ≤ a2 then ((runs_Total.f k l0).bind fun t150 => (some (decide (a2 ≤ t150)))) else (some false)) else (some false)) else (some false))
set_option maxHeartbeats 8000000 in
set_option maxRecDepth 100000 in
theorem runs_within.calls (k : Nat) (A0 : Option Addr) (c0 : Nat) (l0 : List (S71)) (a1 : Int) (a2 : Int) (r : Bool) (w : World) (hr0 : Kd.C k71 w A0 l0.length l0) (hc0 : l0.length ≤ c0) (h : runs_within.f k l0 a1 a2 = some r) :
  Calls Try.prog 76 #[.slice A0 l0.length c0, .int .i64 a1, .int .i64 a2] w fun e w' => e = .returned (.bool r) ∧ Below w.heap.size w w' := by
 have HR0 := aM hr0
 have HC0 := aM hc0
 clear hr0 hc0
 have HB := aM (Below.refl w.heap.size w)
 have H : ((runs_Good.f k l0).bind fun t149 => (if t149 = true then (if a1 ≥ 0 then (if a1 ≤ a2 then ((runs_Total.f k l0).bind fun t150 => (some (decide (a2 ≤ t150)))) else (some false)) else (some false)) else (some false))) = some r := h
 clear h
 replace H := Option.bind_eq_some_iff.mp H
 obtain ⟨t149, A40, H⟩ := H
 replace H : (if t149 = true then (if a1 ≥ 0 then (if a1 ≤ a2 then ((runs_Total.f k l0).bind fun t150 => (some (decide (a2 ≤ t150)))) else (some false)) else (some false)) else (some false)) = some r := H
 have A4 := aM A40
 clear A40
 by_cases c5 : t149 = true
 ·subst c5
  have H1 : (if a1 ≥ 0 then (if a1 ≤ a2 then ((runs_Total.f k l0).bind fun t150 => (some (decide (a2 ≤ t150)))) else (some false)) else (some false)) = some r := by rw [if_pos rfl] at H; exact H
  clear H
  have H := H1
  clear H1
  by_cases c6 : a1 ≥ 0
  ·rw [if_pos c6] at H
   have c6b0 : decide (0 ≤ a1) = true := decide_eq_true c6
   clear c6
   by_cases c7 : a1 ≤ a2
   ·rw [if_pos c7] at H
    have c7b0 : decide (a1 ≤ a2) = true := decide_eq_true c7
    clear c7
    replace H := Option.bind_eq_some_iff.mp H
    obtain ⟨t150, A80, H⟩ := H
    replace H : (some (decide (a2 ≤ t150))) = some r := H
    have A8 := aM A80
    clear A80
    obtain rfl := Option.some.inj H
    go_enter Try.func76, Try.ntmps76
    go_wp2_with (first | ((with_reducible refine gate_callee (f := 74) rfl ?_); refine goesL_ (some 8) rfl rfl Try.func74 (by kernel_rfl) rfl #[.slice A0 l0.length c0] rfl (by (try simp only [mT, mC, mN]); first | done | rfl | (simp only [lD, lT]; rfl)) ?_; (with_reducible refine (runs_Good.calls k _ _ l0 true _ ?side1 ?side2 A4.out).mono ?_); (case side1 => repeat (first | exact HR0.out | (with_reducible refine Kd.C_alloc ?_ _) | (with_reducible refine Kd.C_drewN ?_ _) | (with_reducible refine Kd.C_drew ?_))); (case side2 => exact HC0.out); rintro e w9 ⟨rfl, hb⟩; refine ⟨_, rfl, ?_⟩; have n0_ := aM (bP (ey HB.out) hb); clear HB; have HB := n0_; clear n0_; (try clear hb); (try clear hb2); (try clear hk); (try clear hi)) | (go_at_call 75; (with_reducible refine (runs_Total.calls k _ _ l0 t150 _ ?side1 ?side2 A8.out).mono ?_); (case side1 => repeat (first | exact (cB_ HR0.out HB.out) | (with_reducible refine Kd.C_alloc ?_ _) | (with_reducible refine Kd.C_drewN ?_ _) | (with_reducible refine Kd.C_drew ?_))); (case side2 => exact HC0.out); rintro e w10 ⟨rfl, hb⟩; have n0_ := aM (bP (ey HB.out) hb); clear HB; have HB := n0_; clear n0_; (try clear hb); (try clear hb2); (try clear hk); (try clear hi)))
    go_ret
    exact ⟨by first | rfl | (simp [errW_none, errW_some] <;> rfl) | (simp [*, errW_none, errW_some] <;> rfl), by exact ey HB.out⟩
   ·rw [if_neg c7] at H
    have c7b0 : decide (a1 ≤ a2) = false := decide_eq_false c7
    clear c7
    obtain rfl := Option.some.inj H
    go_enter Try.func76, Try.ntmps76
    go_wp2_with (first | ((with_reducible refine gate_callee (f := 74) rfl ?_); refine goesL_ (some 8) rfl rfl Try.func74 (by kernel_rfl) rfl #[.slice A0 l0.length c0] rfl (by (try simp only [mT, mC, mN]); first | done | rfl | (simp only [lD, lT]; rfl)) ?_; (with_reducible refine (runs_Good.calls k _ _ l0 true _ ?side1 ?side2 A4.out).mono ?_); (case side1 => repeat (first | exact HR0.out | (with_reducible refine Kd.C_alloc ?_ _) | (with_reducible refine Kd.C_drewN ?_ _) | (with_reducible refine Kd.C_drew ?_))); (case side2 => exact HC0.out); rintro e w11 ⟨rfl, hb⟩; refine ⟨_, rfl, ?_⟩; have n0_ := aM (bP (ey HB.out) hb); clear HB; have HB := n0_; clear n0_; (try clear hb); (try clear hb2); (try clear hk); (try clear hi)))
    go_ret
    exact ⟨by first | rfl | (simp [errW_none, errW_some] <;> rfl) | (simp [*, errW_none, errW_some] <;> rfl), by exact ey HB.out⟩
  ·rw [if_neg c6] at H
   have c6b0 : decide (0 ≤ a1) = false := decide_eq_false c6
   clear c6
   obtain rfl := Option.some.inj H
   go_enter Try.func76, Try.ntmps76
   go_wp2_with (first | ((with_reducible refine gate_callee (f := 74) rfl ?_); refine goesL_ (some 8) rfl rfl Try.func74 (by kernel_rfl) rfl #[.slice A0 l0.length c0] rfl (by (try simp only [mT, mC, mN]); first | done | rfl | (simp only [lD, lT]; rfl)) ?_; (with_reducible refine (runs_Good.calls k _ _ l0 true _ ?side1 ?side2 A4.out).mono ?_); (case side1 => repeat (first | exact HR0.out | (with_reducible refine Kd.C_alloc ?_ _) | (with_reducible refine Kd.C_drewN ?_ _) | (with_reducible refine Kd.C_drew ?_))); (case side2 => exact HC0.out); rintro e w12 ⟨rfl, hb⟩; refine ⟨_, rfl, ?_⟩; have n0_ := aM (bP (ey HB.out) hb); clear HB; have HB := n0_; clear n0_; (try clear hb); (try clear hb2); (try clear hk); (try clear hi)))
   go_ret
   exact ⟨by first | rfl | (simp [errW_none, errW_some] <;> rfl) | (simp [*, errW_none, errW_some] <;> rfl), by exact ey HB.out⟩
 ·replace c5 := Bool.eq_false_iff.mpr c5
  subst c5
  have H1 : (some false) = some r := by rw [if_neg (show ¬ (false = true) by decide)] at H; exact H
  clear H
  have H := H1
  clear H1
  obtain rfl := Option.some.inj H
  go_enter Try.func76, Try.ntmps76
  go_wp2_with (first | ((with_reducible refine gate_callee (f := 74) rfl ?_); refine goesL_ (some 8) rfl rfl Try.func74 (by kernel_rfl) rfl #[.slice A0 l0.length c0] rfl (by (try simp only [mT, mC, mN]); first | done | rfl | (simp only [lD, lT]; rfl)) ?_; (with_reducible refine (runs_Good.calls k _ _ l0 false _ ?side1 ?side2 A4.out).mono ?_); (case side1 => repeat (first | exact HR0.out | (with_reducible refine Kd.C_alloc ?_ _) | (with_reducible refine Kd.C_drewN ?_ _) | (with_reducible refine Kd.C_drew ?_))); (case side2 => exact HC0.out); rintro e w13 ⟨rfl, hb⟩; refine ⟨_, rfl, ?_⟩; have n0_ := aM (bP (ey HB.out) hb); clear HB; have HB := n0_; clear n0_; (try clear hb); (try clear hb2); (try clear hk); (try clear hi)))
  go_ret
  exact ⟨by first | rfl | (simp [errW_none, errW_some] <;> rfl) | (simp [*, errW_none, errW_some] <;> rfl), by exact ey HB.out⟩
end Go.Proofs.Ytbbgpfjeobdogaa.PB
end

section
namespace Go.Proofs.Ytbbgpfjeobdogaa.PB
open Go.RowKit Go.Proofs.YtbbgpfjeobdogaaW.PrintWords Go.Proofs.YtbbgpfjeobdogaaW.PrintLast Go.Proofs.YtbbgpfjeobdogaaW.PrintMore
attribute [local go_sem] max2_int min2_int max_two min_two max_three min_three max_four min_four
set_option linter.unusedVariables false
set_option linter.unusedSimpArgs false
structure GFrame (B g : Nat) (w w' : World) : Prop where
  below : Below B w w'
  typ : ∀ i cs t fr, i ≠ g → t ≠ 71 → w.heap[i]? = some (.cells cs t fr) → w'.heap[i]? = some (.cells cs t fr)
theorem GFrame.refl (B g : Nat) (w : World) : GFrame B g w w := ⟨Below.refl _ _, fun _ _ _ _ _ _ h => h⟩
theorem GFrame.trans {B g : Nat} {a b c : World} (h : GFrame B g a b) (k : GFrame B g b c) : GFrame B g a c :=
  ⟨h.below.trans k.below, fun i cs t fr h1 h2 h3 => k.typ i cs t fr h1 h2 (h.typ i cs t fr h1 h2 h3)⟩
theorem GFrame.alloc {B g : Nat} {a w : World} (h : GFrame B g a w) (hB : B ≤ w.heap.size) (o : Obj) : GFrame B g a (w.alloc o) :=
  h.trans ⟨(Below.refl _ _).alloc hB o, fun i cs t fr _ _ h3 => by rw [Below.heap_alloc _ _ _ (Array.getElem?_eq_some_iff.1 h3).1]; exact h3⟩
theorem GFrame.drewN {B g : Nat} {a w : World} (h : GFrame B g a w) (n : Nat) : GFrame B g a (w.drewN n) :=
  h.trans ⟨pw_below_drewN (Below.refl _ _) n, fun i cs t fr _ _ h3 => h3⟩
theorem GFrame.drew {B g : Nat} {a w : World} (h : GFrame B g a w) : GFrame B g a w.drew :=
  h.trans ⟨(Below.refl _ _).drew, fun i cs t fr _ _ h3 => h3⟩
theorem GFrame.setg {B g : Nat} {a w : World} (h : GFrame B g a w) (hB : B ≤ g) (j : Nat) (u : Value) : GFrame B g a (w.setCell ⟨g, j, none⟩ u) :=
  h.trans ⟨(Below.refl _ _).setCell hB u, fun i cs t fr h1 _ h3 => by rw [Below.heap_setCell _ _ _ _ h1]; exact h3⟩
theorem GFrame.grown {B g : Nat} {a w w' : World} {row : Option Nat} (h : GFrame B g a w) (hg : w.grownBy w' row) (hB : B ≤ w.heap.size) (hr : ∀ k, row = some k → B ≤ k ∧ ∃ cells fr, w.heap[k]? = some (.cells cells 71 fr)) : GFrame B g a w' :=
  h.trans ⟨(Below.refl _ _).grown hg hB (fun k hk => (hr k hk).1), fun i cs t fr _ h2 h3 => by
    rw [hg.block i (Array.getElem?_eq_some_iff.1 h3).1 (fun e => by
      obtain ⟨_, cells, fr', hc⟩ := hr i e.symm
      rw [hc] at h3
      injection h3 with h3
      injection h3 with _ h3
      exact h2 h3.symm)]
    exact h3⟩
def GS (B g : Nat) (w : World) (xs : List S71) : Prop := ∃ v, w.heap[g]? = some (.cells #[v] 30 (0, 0)) ∧ Kd.R k71 71 w B (fun _ => True) v xs
def addRun (xs : List S71) (r : S71) : List S71 :=
  if r.f1 < 1 then xs else if 0 < xs.length then (if (xs.getD (xs.length - 1) z71).f0 = r.f0 then xs.set (xs.length - 1) ⟨(xs.getD (xs.length - 1) z71).f0, wrap64 ((xs.getD (xs.length - 1) z71).f1 + r.f1)⟩ else xs ++ [r]) else xs ++ [r]
theorem R_typed' {B : Nat} {w : World} {v : Value} {xs : List S71} (h : Kd.R k71 71 w B (fun _ => True) v xs) : ∀ k, v.ownBlock = some k → B ≤ k ∧ ∃ cells fr, w.heap[k]? = some (.cells cells 71 fr) := fun k hk => by
  obtain ⟨cells, hc⟩ := Kd.R_typed h k hk
  exact ⟨Kd.R_base h k hk, cells, _, hc⟩
set_option maxHeartbeats 4000000 in
theorem gather1_small (L N : Int) (g : Nat) (w : World) (hN : N < 1) :
    Calls Try.prog 87 #[.agg #[.int .u64 L, .int .i64 N], .pointer (some ⟨g, 0, none⟩)] w fun e w' => e = .returned (.tuple #[]) ∧ w' = w.alloc (.cells #[.int .u64 L, .int .i64 N] 71) := by
  have hu71 := Try.underlying71
  have hN' : decide (N < 1) = true := by simpa using hN
  go_enter Try.func87, Try.ntmps87
  go_wp2
  exact bodyPost_ret (results_none rfl _ _ _) rfl ⟨rfl, rfl⟩
theorem notype : ∀ q, q ∈ 71 :: k71.E → q ≠ 30 := by
  intro q hq
  have : q = 71 := by simpa [k71, Kd.iso, Kd.pair, Kd.int, Kd.scalar] using hq
  omega
theorem GS_grown {B g : Nat} {w w1 W : World} {v : Value} {xs : List S71} (hB : B ≤ g) (hg : W.heap[g]? = some (.cells #[v] 30 (0, 0))) (hR : Kd.R k71 71 W B (fun _ => True) v xs) (hF : GFrame B g w W)
    (hg1 : W.grownBy w1 v.ownBlock) : w1.heap[g]? = some (.cells #[v] 30 (0, 0)) ∧ GFrame B g w w1 :=
  ⟨blk_grown hg hg1 (Kd.R_ne hR hg (by decide)), hF.grown hg1 (Nat.le_trans hB (Nat.le_of_lt (blk_lt hg))) (R_typed' hR)⟩
theorem GS_put {B g : Nat} {w w1 : World} {v v1 : Value} {ys : List S71} (hB : B ≤ g) (hg : w1.heap[g]? = some (.cells #[v] 30 (0, 0))) (hR : Kd.R k71 71 w1 B (fun _ => True) v1 ys) (hF : GFrame B g w w1) :
    GS B g (w1.setCell ⟨g, 0, none⟩ v1) ys ∧ GFrame B g w (w1.setCell ⟨g, 0, none⟩ v1) :=
  ⟨⟨v1, blk_set hg 0 v1, Kd.R_set hR hg notype 0 v1⟩, hF.setg hB 0 v1⟩
theorem GFrame.box {B g : Nat} {w : World} (hB : B ≤ w.heap.size) (o : Obj) (n : Nat) : GFrame B g w ((w.alloc o).drewN n) := ((GFrame.refl B g w).alloc hB o).drewN n
theorem box_heap {g : Nat} {w : World} {x : Obj} (o : Obj) (n : Nat) (h : w.heap[g]? = some x) : ((w.alloc o).drewN n).heap[g]? = some x := by
  show (w.alloc o).heap[g]? = some x
  rw [Below.heap_alloc _ _ _ (blk_lt h)]; exact h
theorem GS_same {B g n b c : Nat} {w W : World} {xs : List S71} (hB : B ≤ g) (hg : W.heap[g]? = some (.cells #[.slice (some ⟨b, 0, none⟩) (n + 1) c] 30 (0, 0))) (hR : Kd.R k71 71 W B (fun _ => True) (.slice (some ⟨b, 0, none⟩) (n + 1) c) xs)
    (hF : GFrame B g w W) (hn : xs.length = n + 1) (x : Int) :
    GS B g (W.setCell ⟨b, n * 2 + 1, none⟩ (.int .i64 x)) (xs.set n ⟨(xs.getD n z71).f0, x⟩) ∧ GFrame B g w (W.setCell ⟨b, n * 2 + 1, none⟩ (.int .i64 x)) := by
  obtain ⟨ce, hcl, hM, hcc, hfr⟩ := Kd.R_elem hR z71 (n : Int) (by omega) (by omega)
  obtain rfl := k71_openM hM
  obtain ⟨h1, h2⟩ := Kd.R_seg hR (n : Int) (by omega) (by omega) (seg := [.int .i64 x]) (j := 1) hcl hcc (show 2 ≤ 2 from by decide) (x' := (⟨(xs.getD (n : Int).toNat z71).f0, x⟩ : S71)) (k71_mkM _ _ _ (⟨(xs.getD (n : Int).toNat z71).f0, x⟩ : S71)) (fun _ hk => hk)
  have h3 : some g ≠ some b := Kd.R_ne hR hg (by decide)
  exact ⟨⟨_, blk_grown hg h2 h3, h1⟩, hF.grown h2 (Nat.le_trans hB (Nat.le_of_lt (blk_lt hg))) (R_typed' hR)⟩
set_option maxHeartbeats 4000000 in
set_option maxRecDepth 100000 in
theorem gather1_first (L N : Int) (B g : Nat) (A : Option Addr) (c : Nat) (w : World) (hN : ¬ N < 1) (hB : B ≤ g) (hg : w.heap[g]? = some (.cells #[.slice A 0 c] 30 (0, 0))) (hR : Kd.R k71 71 w B (fun _ => True) (.slice A 0 c) []) :
    Calls Try.prog 87 #[.agg #[.int .u64 L, .int .i64 N], .pointer (some ⟨g, 0, none⟩)] w fun e w' => e = .returned (.tuple #[]) ∧ GS B g w' [⟨L, N⟩] ∧ GFrame B g w w' := by
  have hu71 := Try.underlying71
  have hN' : decide (N < 1) = false := by simpa using hN
  have hc : w.cell? ⟨g, 0, none⟩ = some (.slice A 0 c) := by rw [bC hg]; rfl
  have hlt := World.block_lt_of_cell? w _ hc
  have HR := aM hR
  have HG := aM hg
  clear hR hg
  go_enter Try.func87, Try.ntmps87
  go_wp2
  go_quiet (fail)
  go_wp2_with (at_builtin; go_loud (refine Kd.R_append k71 (w0 := w) B rfl (.tmp 33) (.tmp 35) 30 71 (.agg #[(.int .u64 0), (.int .i64 0)]) 16 rfl Try.underlying30 info71 rfl (by decide) (by omega) (.slice A 0 c) [] (⟨L, N⟩ : S71) [.int .u64 L, .int .i64 N] (fun _ => True) (fun _ => False) rfl ?aX ?aP (fun _ hk => hk.elim) ?aF ?aO ?aB ?aS ?aL ?_); (case aX => simp [Act.eval, go_sem]); (case aP => exact k71_mkM _ _ _ (⟨L, N⟩ : S71)); (case aB => exact pw_below_drewN ((Below.refl _ _).alloc (by omega) _) _); (case aF => exact (fun _ _ => trivial)); (case aO => exact (by (with_reducible repeat (first | apply ra | apply rn | apply rd_)); exact HR.out)); (case aS => simp; omega); (case aL => simp); intro v1 w1 ho hb hg1 hat; obtain ⟨A1, c1, rfl⟩ := Kd.R_slice ho; go_loud (have HF := aM (GS_grown hB (box_heap _ _ HG.out) (Kd.R_drewN (Kd.R_alloc HR.out _) _) (GFrame.box (by omega) _ _) hg1)); have HO := aM ho; clear ho hb hg1 hat; have hcg := bC HF.out.1 0; have hfg := bF HF.out.1 0)
  go_end0
  exact ⟨rfl, GS_put hB HF.out.1 HO.out HF.out.2⟩
set_option maxHeartbeats 4000000 in
set_option maxRecDepth 100000 in
theorem gather1_other (L N : Int) (B g : Nat) (v : Value) (xs : List S71) (w : World) (hN : ¬ N < 1) (hB : B ≤ g) (hg : w.heap[g]? = some (.cells #[v] 30 (0, 0))) (hR : Kd.R k71 71 w B (fun _ => True) v xs)
    (hp : 0 < xs.length) (hne : ¬ (xs.getD (xs.length - 1) z71).f0 = L) (hlen : (xs.length + 1) * 16 ≤ 140737488355328) :
    Calls Try.prog 87 #[.agg #[.int .u64 L, .int .i64 N], .pointer (some ⟨g, 0, none⟩)] w fun e w' => e = .returned (.tuple #[]) ∧ GS B g w' (xs ++ [⟨L, N⟩]) ∧ GFrame B g w w' := by
  have hu71 := Try.underlying71
  obtain ⟨b, c, rfl, hbb, hbl, _⟩ := Kd.R_form hR hp
  have hmax := (rR hR).2.2.2.1
  obtain ⟨ce, hcl, hM, hcc, hfr⟩ := Kd.R_elem hR z71 ((xs.length : Int) - 1) (by omega) (by omega)
  obtain rfl := k71_openM hM
  obtain ⟨n, hn⟩ : ∃ n, xs.length = n + 1 := ⟨xs.length - 1, by omega⟩
  have en : ((xs.length : Int) - 1).toNat = n := by omega
  have hx0 : w.cell? ⟨b, n * 2, none⟩ = some (.int .u64 (xs.getD n z71).f0) := by have := hcc 0 _ rfl; rw [en] at this; exact this
  have hx1 : w.cell? ⟨b, n * 2 + 1, none⟩ = some (.int .i64 (xs.getD n z71).f1) := by have := hcc 1 _ rfl; rw [en] at this; exact this
  rw [show xs.length - 1 = n by omega] at hne
  have hb : ((xs.getD n z71).f0 == L) = false := by simpa using hne
  have hN' : decide (N < 1) = false := by simpa using hN
  rw [hn] at hg hR
  have HL := aM hlen
  clear hlen
  have hc : w.cell? ⟨g, 0, none⟩ = some (.slice (some ⟨b, 0, none⟩) (n + 1) c) := by rw [bC hg]; rfl
  have hlt := World.block_lt_of_cell? w _ hc
  have HR := aM hR
  have HG := aM hg
  have HN := aM hn
  have hn2 : n ≤ 9223372036854775806 := by omega
  generalize (xs.getD n z71).f0 = L1 at *
  generalize (xs.getD n z71).f1 = N1 at *
  clear hR hg hn hne hM hcc hcl hfr en hp hmax
  go_enter Try.func87, Try.ntmps87
  go_wp2
  go_quiet (fail)
  go_wp2_with (at_builtin; go_loud (refine Kd.R_append k71 (w0 := w) B rfl (.tmp 33) (.tmp 35) 30 71 (.agg #[(.int .u64 0), (.int .i64 0)]) 16 rfl Try.underlying30 info71 rfl (by decide) (by omega) (.slice (some ⟨b, 0, none⟩) (n + 1) c) xs (⟨L, N⟩ : S71) [.int .u64 L, .int .i64 N] (fun _ => True) (fun _ => False) rfl ?aX ?aP (fun _ hk => hk.elim) ?aF ?aO ?aB ?aS ?aL ?_); (case aX => simp [Act.eval, go_sem]); (case aP => exact k71_mkM _ _ _ (⟨L, N⟩ : S71)); (case aB => exact pw_below_drewN ((Below.refl _ _).alloc (by omega) _) _); (case aF => exact (fun _ _ => trivial)); (case aO => exact (by (with_reducible repeat (first | apply ra | apply rn | apply rd_)); exact HR.out)); (case aS => simp; omega); (case aL => exact HL.out); intro v1 w1 ho hb hg1 hat; obtain ⟨A1, c1, rfl⟩ := Kd.R_slice ho; go_loud (have HF := aM (GS_grown hB (box_heap _ _ HG.out) (Kd.R_drewN (Kd.R_alloc HR.out _) _) (GFrame.box (by omega) _ _) hg1)); have HO := aM ho; clear ho hb hg1 hat; have hcg := bC HF.out.1 0; have hfg := bF HF.out.1 0)
  go_end0
  exact ⟨rfl, GS_put hB HF.out.1 (by have h := HO.out; rw [List.length_append] at h; exact h) HF.out.2⟩
set_option maxHeartbeats 4000000 in
set_option maxRecDepth 100000 in
theorem gather1_same (L N : Int) (B g : Nat) (v : Value) (xs : List S71) (w : World) (hN : ¬ N < 1) (hB : B ≤ g) (hg : w.heap[g]? = some (.cells #[v] 30 (0, 0))) (hR : Kd.R k71 71 w B (fun _ => True) v xs)
    (hp : 0 < xs.length) (hne : (xs.getD (xs.length - 1) z71).f0 = L) :
    Calls Try.prog 87 #[.agg #[.int .u64 L, .int .i64 N], .pointer (some ⟨g, 0, none⟩)] w fun e w' => e = .returned (.tuple #[]) ∧ GS B g w' (xs.set (xs.length - 1) ⟨(xs.getD (xs.length - 1) z71).f0, wrap64 ((xs.getD (xs.length - 1) z71).f1 + N)⟩) ∧ GFrame B g w w' := by
  have hu71 := Try.underlying71
  obtain ⟨b, c, rfl, hbb, hbl, _⟩ := Kd.R_form hR hp
  have hmax := (rR hR).2.2.2.1
  obtain ⟨ce, hcl, hM, hcc, hfr⟩ := Kd.R_elem hR z71 ((xs.length : Int) - 1) (by omega) (by omega)
  obtain rfl := k71_openM hM
  obtain ⟨n, hn⟩ : ∃ n, xs.length = n + 1 := ⟨xs.length - 1, by omega⟩
  have en : ((xs.length : Int) - 1).toNat = n := by omega
  rw [en] at hcc hfr
  have hx0 : w.cell? ⟨b, n * 2, none⟩ = some (.int .u64 (xs.getD n z71).f0) := hcc 0 _ rfl
  have hx1 : w.cell? ⟨b, n * 2 + 1, none⟩ = some (.int .i64 (xs.getD n z71).f1) := hcc 1 _ rfl
  have hf1 : w.frozen? ⟨b, n * 2 + 1, none⟩ = false := hfr 1
  rw [show xs.length - 1 = n by omega] at hne ⊢
  have hb : ((xs.getD n z71).f0 == L) = true := by simpa using hne
  have hN' : decide (N < 1) = false := by simpa using hN
  rw [hn] at hg hR
  have hc : w.cell? ⟨g, 0, none⟩ = some (.slice (some ⟨b, 0, none⟩) (n + 1) c) := by rw [bC hg]; rfl
  have hlt := World.block_lt_of_cell? w _ hc
  have HR := aM hR
  have HG := aM hg
  have HN := aM hn
  have hn2 : n ≤ 9223372036854775806 := by omega
  generalize hL1 : (xs.getD n z71).f0 = L1 at *
  have HL1 := aM hL1
  clear hL1
  generalize (xs.getD n z71).f1 = N1 at *
  clear hR hg hn hne hM hcc hcl hfr en hp hmax
  go_enter Try.func87, Try.ntmps87
  go_wp2
  go_quiet (fail)
  go_wp2
  go_region
  go_wp2
  refine bodyPost_ret (results_none rfl _ _ _) rfl ⟨rfl, ?_⟩
  obtain rfl := HL1.out
  exact GS_same hB (box_heap _ _ HG.out) (Kd.R_drewN (Kd.R_alloc HR.out _) _) (GFrame.box (by omega) _ _) HN.out (wrap64 (N1 + N))
theorem gather1 (L N : Int) (B g : Nat) (xs : List S71) (w : World) (hB : B ≤ g) (hS : GS B g w xs) (hlen : (xs.length + 1) * 16 ≤ 140737488355328) :
    Calls Try.prog 87 #[.agg #[.int .u64 L, .int .i64 N], .pointer (some ⟨g, 0, none⟩)] w fun e w' => e = .returned (.tuple #[]) ∧ GS B g w' (addRun xs ⟨L, N⟩) ∧ GFrame B g w w' := by
  obtain ⟨v, hg, hR⟩ := hS
  unfold addRun
  by_cases hN : N < 1
  · rw [if_pos hN]
    refine (gather1_small L N g w hN).mono ?_
    rintro e w' ⟨rfl, rfl⟩
    exact ⟨rfl, ⟨v, box_heap _ 0 hg, Kd.R_alloc hR _⟩, GFrame.box (Nat.le_trans hB (Nat.le_of_lt (blk_lt hg))) _ 0⟩
  rw [if_neg hN]
  by_cases hp : 0 < xs.length
  · rw [if_pos hp]
    by_cases he : (xs.getD (xs.length - 1) z71).f0 = L
    · rw [if_pos he]
      exact gather1_same L N B g v xs w hN hB hg hR hp he
    · rw [if_neg he]
      exact gather1_other L N B g v xs w hN hB hg hR hp he hlen
  · rw [if_neg hp]
    obtain rfl : xs = [] := List.eq_nil_of_length_eq_zero (by omega)
    obtain ⟨A, c, rfl⟩ := Kd.R_slice hR
    exact gather1_first L N B g A c w hN hB hg hR
def someTo (step : List S71 → S71 → List S71) (a b : Int) : List S71 → Int → List S71 → List S71
  | [], _, acc => acc
  | r :: l, p, acc => someTo step a b l (wrap64 (p + r.f1)) (step acc ⟨r.f0, wrap64 ((if b < wrap64 (p + r.f1) then b else wrap64 (p + r.f1)) - (if p < a then a else p))⟩)
theorem GS_alloc {B g : Nat} {w : World} {xs : List S71} (h : GS B g w xs) (o : Obj) : GS B g (w.alloc o) xs := by
  obtain ⟨v, hg, hR⟩ := h
  exact ⟨v, box_heap o 0 hg, Kd.R_alloc hR o⟩
theorem someTo_snoc {step : List S71 → S71 → List S71} {a b : Int} {l : List S71} {k : Nat} (hk : k < l.length) (p : Int) (acc : List S71) :
    someTo step a b (l.drop k) p acc = someTo step a b (l.drop (k + 1)) (wrap64 (p + (rd_T71 l (k : Int)).f1)) (step acc ⟨(rd_T71 l (k : Int)).f0, wrap64 ((if b < wrap64 (p + (rd_T71 l (k : Int)).f1) then b else wrap64 (p + (rd_T71 l (k : Int)).f1)) - (if p < a then a else p))⟩) := by
  rw [List.drop_eq_getElem_cons hk]
  unfold rd_T71
  rw [Int.toNat_natCast, List.getD_eq_getElem?_getD, List.getElem?_eq_getElem hk]
  rfl
set_option maxHeartbeats 4000000 in
set_option maxRecDepth 100000 in
theorem some_any (step : List S71 → S71 → List S71) (hstep : ∀ acc r, (step acc r).length ≤ acc.length + 1) (fid : Nat) (caps : Array Value)
    (hcf : ∀ (args : Array Value) (w : World), Sem.run Try.prog (callFunc fid args) w = .ok (.enter fid args) w)
    (A : Option Addr) (c : Nat) (l : List S71) (a b : Int) (g : Nat) (acc0 : List S71) (w0 w : World) (hB : w0.heap.size ≤ g)
    (hr : Kd.C k71 w0 A l.length l) (hw : Below w0.heap.size w0 w) (hS : GS w0.heap.size g w acc0) (hlen : (acc0.length + l.length) * 16 ≤ 140737488355328)
    (hadd : ∀ acc L N w1, (acc.length + 1) * 16 ≤ 140737488355328 → GS w0.heap.size g w1 acc → GFrame w0.heap.size g w w1 →
      Calls Try.prog fid (#[.agg #[.int .u64 L, .int .i64 N]] ++ caps) w1 fun e w' => e = .returned (.tuple #[]) ∧ GS w0.heap.size g w' (step acc ⟨L, N⟩) ∧ GFrame w0.heap.size g w1 w') :
    Calls Try.prog 79 #[.slice A l.length c, .int .i64 a, .int .i64 b, .func (.func fid) #[] caps] w fun e w' => e = .returned (.tuple #[]) ∧ GS w0.heap.size g w' (someTo step a b l 0 acc0) ∧ GFrame w0.heap.size g w w' := by
  have hu71 := Try.underlying71
  have hmax : l.length ≤ 9223372036854775807 := hr.2.1
  have HR := aM hr
  have HW := aM hw
  have HS := aM hS
  have HA := aM hadd
  have HL := aM hlen
  have HP := aM hstep
  clear hr hw hS hadd hlen hstep
  go_enter Try.func79, Try.ntmps79
  go_wp2
  go_loopw [8, 14] (fun p i wr => ∃ (k : Nat) (pz : Int) (acc : List S71), k ≤ l.length ∧ i = .int .i64 k ∧ p = .int .i64 pz ∧ Aside0 (GS w0.heap.size g wr acc) ∧ Aside0 (GFrame w0.heap.size g w wr) ∧ Aside0 (acc.length ≤ acc0.length + k) ∧ Aside0 (someTo step a b (l.drop k) pz acc = someTo step a b l 0 acc0)) (fun _ i _ => l.length - (intOf i).toNat)
  case atStart => exact ⟨0, 0, acc0, Nat.zero_le _, rfl, rfl, HS, ⟨GFrame.refl _ _ _⟩, ⟨by omega⟩, ⟨rfl⟩⟩
  case round =>
    obtain ⟨k, pz, acc, hk, rfl, rfl, HG, HF, HAL, HE⟩ := hrel
    by_cases hlt : k < l.length
    · obtain ⟨ad, rfl, hx0, hx1⟩ := at_T71 HR.out (k : Int) (by omega) (by omega)
      have hb1 : Below w0.heap.size w0 wr := HW.out.trans HF.out.below
      replace hx0 := (hb1.cell (World.block_lt_of_cell? w0 _ hx0)).trans hx0
      replace hx1 := (hb1.cell (World.block_lt_of_cell? w0 _ hx1)).trans hx1
      simp only [Int.toNat_natCast] at hx0 hx1
      have hsn := someTo_snoc (step := step) (a := a) (b := b) hlt pz acc
      generalize (rd_T71 l (k : Int)).f0 = e0 at *
      generalize (rd_T71 l (k : Int)).f1 = e1 at *
      have HB1 := aM hb1
      have HSN := aM hsn
      clear hsn
      clear hb1
      go_wp2_with ((with_reducible refine (HA.out acc _ _ _ ?h1 ?h2 ?h3).mono ?_); (case h1 => have h1 := HL.out; have h2 := HAL.out; omega); (case h2 => exact GS_alloc HG.out _); (case h3 => exact HF.out.alloc (by have := HB1.out.size; omega) _); rintro e w2 ⟨rfl, hg2, hf2⟩; have HG2 := aM hg2; have HF2 := aM hf2; clear hg2 hf2)
      go_roundw
      case rel => exact ⟨k + 1, wrap64 (pz + e1), _, by omega, by go_num, rfl, HG2, ⟨(HF.out.alloc (by have := HB1.out.size; omega) _).trans HF2.out⟩, ⟨by have h1 := HP.out acc; have h2 := HAL.out; exact Nat.le_trans (h1 _) (by omega)⟩, ⟨HSN.out.symm.trans HE.out⟩⟩
      case measure => simp [intOf]; omega
    · have hkl : k = l.length := by omega
      subst hkl
      go_wp2
      exact bodyPost_end (results_none rfl _ _ _) rfl ⟨rfl, by have h := HE.out; rw [List.drop_length] at h; rw [← h]; exact HG.out, HF.out⟩
theorem run_enter {P : Program} {f : FuncId} {fn : Func} {c : Code} (hf : P.funcs[f]? = some fn) (hname : (fn.name == "runtime.NumGoroutine") = false) (hb : fn.body = some c) (args : Array Value) (w : World) :
    Sem.run P (callFunc f args) w = .ok (.enter f args) w := by
  have h1 : fn.name ≠ "runtime.NumGoroutine" := by simpa using hname
  simp [callFunc, hf, h1, hb]
theorem hcf103 : ∀ (args : Array Value) (w : World), Sem.run Try.prog (callFunc 87 args) w = .ok (.enter 87 args) w := fun args w => run_enter Try.func87 rfl rfl args w
theorem addRun_len (acc : List S71) (r : S71) : (addRun acc r).length ≤ acc.length + 1 := by
  unfold addRun
  repeat' split
  all_goals simp
theorem some_add (A : Option Addr) (c : Nat) (l : List S71) (a b : Int) (g : Nat) (acc0 : List S71) (w0 w : World) (hB : w0.heap.size ≤ g)
    (hr : Kd.C k71 w0 A l.length l) (hw : Below w0.heap.size w0 w) (hS : GS w0.heap.size g w acc0) (hlen : (acc0.length + l.length) * 16 ≤ 140737488355328) :
    Calls Try.prog 79 #[.slice A l.length c, .int .i64 a, .int .i64 b, .func (.func 87) #[] #[.pointer (some ⟨g, 0, none⟩)]] w fun e w' => e = .returned (.tuple #[]) ∧ GS w0.heap.size g w' (someTo addRun a b l 0 acc0) ∧ GFrame w0.heap.size g w w' :=
  some_any addRun addRun_len 87 _ hcf103 A c l a b g acc0 w0 w hB hr hw hS hlen (fun acc L N w1 h1 h2 _ => gather1 L N _ g acc w1 hB h2 h1)
set_option maxHeartbeats 4000000 in
set_option maxRecDepth 100000 in
theorem gather_any (lid : Nat) (caps : Array Value) (args : Nat → Array Value) (hargs : ∀ g, #[.func (.func 87) #[] #[.pointer (some ⟨g, 0, none⟩)]] ++ caps = args g) (hcf : ∀ (args : Array Value) (w : World), Sem.run Try.prog (callFunc lid args) w = .ok (.enter lid args) w) (R : List S71) (w : World)
    (hlay : ∀ g w1, w.heap.size ≤ g → GS w.heap.size g w1 [] → Below w.heap.size w w1 →
      Calls Try.prog lid (args g) w1 fun e w' => e = .returned (.tuple #[]) ∧ GS w.heap.size g w' R ∧ GFrame w.heap.size g w1 w') :
    Calls Try.prog 77 #[.func (.func lid) #[] caps] w fun e w' => ∃ v, e = .returned v ∧ Kd.R k71 71 w' w.heap.size (fun _ => True) v R ∧ Below w.heap.size w w' := by
  have hmf : ∀ (fn : Fn) (first cap : Array Value) (w : World), (Instr.makeFunc fn first cap).run Try.prog w = .ok (.func fn first cap) w := fun _ _ _ _ => rfl
  have HY := aM hlay
  have hargs' := hargs w.heap.size
  clear hlay hargs
  go_enter Try.func77, Try.ntmps77
  go_wp2_with ((with_reducible refine (HY.out w.heap.size _ ?h1 ?h2 ?h3).mono ?_); (case h1 => omega); (case h2 => exact ⟨_, blk_new _ _, Kd.R_nil _ _ _ _ _⟩); (case h3 => exact (Below.refl _ _).alloc (Nat.le_refl _) _); rintro e w2 ⟨rfl, hg2, hf2⟩; obtain ⟨v, hgv, hRv⟩ := hg2; have hcv : w2.cell? ⟨w.heap.size, 0, none⟩ = some v := (by rw [bC hgv]; rfl); have HG2 := aM hgv; have HR2 := aM hRv; have HF2 := aM hf2; clear hgv hRv hf2)
  go_ret
  exact ⟨v, rfl, HR2.out, ((Below.refl _ _).alloc (Nat.le_refl _) _).trans HF2.out.below⟩
theorem hcf86 : ∀ (args : Array Value) (w : World), Sem.run Try.prog (callFunc 78 args) w = .ok (.enter 78 args) w := fun args w => run_enter Try.func78 rfl rfl args w
theorem hcf93 : ∀ (args : Array Value) (w : World), Sem.run Try.prog (callFunc 80 args) w = .ok (.enter 80 args) w := fun args w => run_enter Try.func80 rfl rfl args w
theorem cell_later' {w0 w : World} (h : Below w0.heap.size w0 w) {p : Addr} {v : Value} (hc : w0.cell? p = some v) : w.cell? p = some v := (h.cell (World.block_lt_of_cell? w0 _ hc)).trans hc
set_option maxHeartbeats 4000000 in
set_option maxRecDepth 100000 in
theorem lay_slice (A : Option Addr) (c : Nat) (l : List S71) (a b : Int) (bl ba bb g : Nat) (w0 w : World) (hB : w0.heap.size ≤ g) (hr : Kd.C k71 w0 A l.length l) (hbx : w0.cell? ⟨bl, 0, none⟩ = some (.slice A l.length c))
    (hba : w0.cell? ⟨ba, 0, none⟩ = some (.int .i64 a)) (hbb : w0.cell? ⟨bb, 0, none⟩ = some (.int .i64 b))
    (hw : Below w0.heap.size w0 w) (hS : GS w0.heap.size g w []) (hlen : l.length * 16 ≤ 140737488355328) :
    Calls Try.prog 78 #[.func (.func 87) #[] #[.pointer (some ⟨g, 0, none⟩)], .pointer (some ⟨bl, 0, none⟩), .pointer (some ⟨ba, 0, none⟩), .pointer (some ⟨bb, 0, none⟩)] w fun e w' => e = .returned (.tuple #[]) ∧ GS w0.heap.size g w' (someTo addRun a b l 0 []) ∧ GFrame w0.heap.size g w w' := by
  have hb := cell_later' hw hbx
  have hb1 := cell_later' hw hba
  have hb2 := cell_later' hw hbb
  have HC := some_add A c l a b g [] w0 w hB hr hw hS (by simpa using hlen)
  have HC := aM HC
  clear hr hw hS hlen hbx hba hbb
  go_enter Try.func78, Try.ntmps78
  go_wp2_with ((with_reducible refine HC.out.mono ?_); rintro e w2 ⟨rfl, hg2, hf2⟩; have HG2 := aM hg2; have HF2 := aM hf2; clear hg2 hf2)
  go_end0
  exact ⟨rfl, HG2.out, HF2.out⟩
theorem someTo_len {step : List S71 → S71 → List S71} (hstep : ∀ acc r, (step acc r).length ≤ acc.length + 1) (a b : Int) (l : List S71) : ∀ p acc, (someTo step a b l p acc).length ≤ acc.length + l.length := by
  induction l with
  | nil => intro p acc; simp [someTo]
  | cons r l ih => intro p acc; have := ih (wrap64 (p + r.f1)) (step acc ⟨r.f0, wrap64 ((if b < wrap64 (p + r.f1) then b else wrap64 (p + r.f1)) - (if p < a then a else p))⟩); have h2 := hstep acc ⟨r.f0, wrap64 ((if b < wrap64 (p + r.f1) then b else wrap64 (p + r.f1)) - (if p < a then a else p))⟩; simp only [someTo, List.length_cons]; omega
def spliceRuns (l : List S71) (a b : Int) (m : List S71) : List S71 := someTo addRun b 4096 l 0 (someTo addRun 0 4096 m 0 (someTo addRun 0 a l 0 []))
set_option maxHeartbeats 4000000 in
set_option maxRecDepth 100000 in
theorem lay_splice (A : Option Addr) (c : Nat) (l : List S71) (a b : Int) (A2 : Option Addr) (c2 : Nat) (m : List S71) (bl ba bb bm g : Nat) (w0 w : World) (hB : w0.heap.size ≤ g) (hr : Kd.C k71 w0 A l.length l) (hrm : Kd.C k71 w0 A2 m.length m)
    (hbx : w0.cell? ⟨bl, 0, none⟩ = some (.slice A l.length c)) (hbm : w0.cell? ⟨bm, 0, none⟩ = some (.slice A2 m.length c2))
    (hba : w0.cell? ⟨ba, 0, none⟩ = some (.int .i64 a)) (hbb : w0.cell? ⟨bb, 0, none⟩ = some (.int .i64 b))
    (hw : Below w0.heap.size w0 w) (hS : GS w0.heap.size g w []) (hlen : (l.length + m.length + l.length) * 16 ≤ 140737488355328) :
    Calls Try.prog 80 #[.func (.func 87) #[] #[.pointer (some ⟨g, 0, none⟩)], .pointer (some ⟨bl, 0, none⟩), .pointer (some ⟨ba, 0, none⟩), .pointer (some ⟨bm, 0, none⟩), .pointer (some ⟨bb, 0, none⟩)] w fun e w' => e = .returned (.tuple #[]) ∧ GS w0.heap.size g w' (spliceRuns l a b m) ∧ GFrame w0.heap.size g w w' := by
  have hb := cell_later' hw hbx
  have hb1 := cell_later' hw hba
  have l1 := someTo_len addRun_len 0 a l 0 []
  have l2 := someTo_len addRun_len 0 4096 m 0 (someTo addRun 0 a l 0 [])
  simp only [List.length_nil] at l1
  have HC := some_add A c l 0 a g [] w0 w hB hr hw hS (by simp only [List.length_nil]; omega)
  have HC2 := fun W (h : Below w0.heap.size w0 W) hs => some_add A2 c2 m 0 4096 g (someTo addRun 0 a l 0 []) w0 W hB hrm h hs (by omega)
  have HC3 := fun W (h : Below w0.heap.size w0 W) hs => some_add A c l b 4096 g (someTo addRun 0 4096 m 0 (someTo addRun 0 a l 0 [])) w0 W hB hr h hs (by omega)
  have HC := aM HC
  have HC2 := aM HC2
  have HC3 := aM HC3
  have HW := aM hw
  have HBX := aM hbx
  have HBM := aM hbm
  have HBB := aM hbb
  clear hr hrm hw hS hlen hbx hbm hbb hba l1 l2
  go_enter Try.func80, Try.ntmps80
  go_wp2_with fail
  refine HC.out.mono ?_
  rintro e w1 ⟨rfl, hg2, hf2⟩
  have HG2 := aM hg2
  have HF2 := aM hf2
  have hw1 := HW.out.trans hf2.below
  have hc1 := cell_later' hw1 HBM.out
  have hc2 := cell_later' hw1 HBX.out
  have hc3 := cell_later' hw1 HBB.out
  have HW1 := aM hw1
  clear hg2 hf2 hw1
  go_wp2_with fail
  refine (HC2.out _ HW1.out HG2.out).mono ?_
  rintro e w2 ⟨rfl, hg2, hf2⟩
  have HG3 := aM hg2
  have HF3 := aM (HF2.out.trans hf2)
  have hw1 := HW1.out.trans hf2.below
  have hc4 := cell_later' hw1 HBX.out
  have hc5 := cell_later' hw1 HBB.out
  have HW2 := aM hw1
  clear hg2 hf2 hw1
  go_wp2_with fail
  refine (HC3.out _ HW2.out HG3.out).mono ?_
  rintro e w3 ⟨rfl, hg2, hf2⟩
  have HG4 := aM hg2
  have HF4 := aM (HF3.out.trans hf2)
  clear hg2 hf2
  go_wp2
  go_end0
  exact ⟨rfl, HG4.out, HF4.out⟩
def runs_Slice.f (k : Nat) (l0 : List S71) (a1 : Int) (a2 : Int) : Option (List S71 × Int) :=
  (runs_within.f k l0 a1 a2).bind fun t => if t = true then (if l0.length * 16 ≤ 140737488355328 then some (someTo addRun a1 a2 l0 0 [], 0) else none) else some ([], 2)
set_option maxHeartbeats 4000000 in
set_option maxRecDepth 100000 in
theorem runs_Slice.calls (k : Nat) (A0 : Option Addr) (c0 : Nat) (l0 : List S71) (a1 : Int) (a2 : Int) (r1 : List S71) (r2 : Int) (w : World) (hr0 : Kd.C k71 w A0 l0.length l0) (hc0 : l0.length ≤ c0) (h : runs_Slice.f k l0 a1 a2 = some (r1, r2)) :
    Calls Try.prog 60 #[.slice A0 l0.length c0, .int .i64 a1, .int .i64 a2] w fun e w' => ∃ v0_ : Value, e = .returned (.tuple #[v0_, .int .i64 r2]) ∧ Kd.R k71 71 w' w.heap.size (fun _ => True) v0_ r1 ∧ Below w.heap.size w w' := by
  have hmf : ∀ (fn : Fn) (first cap : Array Value) (w : World), (Instr.makeFunc fn first cap).run Try.prog w = .ok (.func fn first cap) w := fun _ _ _ _ => rfl
  unfold runs_Slice.f at h
  obtain ⟨t, ht, h⟩ := Option.bind_eq_some_iff.1 h
  have HC := aM (fun W (hw : Below w.heap.size w W) => runs_within.calls k A0 c0 l0 a1 a2 t W (cB_ hr0 hw) hc0 ht)
  have HR := aM hr0
  clear hr0 ht
  cases t with
  | false =>
    simp only [Bool.false_eq_true, if_false] at h
    injection h with h
    injection h with h1 h2
    subst h1; subst h2
    go_enter Try.func60, Try.ntmps60
    go_wp2_with fail
    refine (HC.out _ (((Below.refl _ _).alloc (Nat.le_refl _) _).alloc (by simp) _ |>.alloc (by simp; omega) _)).mono ?_
    rintro e w1 ⟨rfl, hb⟩
    have HB := aM hb
    clear hb
    go_wp2
    go_ret2
    exact ⟨_, rfl, Kd.R_nil _ _ _ _ _, ((((Below.refl _ _).alloc (Nat.le_refl _) _).alloc (by simp) _).alloc (by simp; omega) _).trans (HB.out.mono (by simp; omega))⟩
  | true =>
    simp only [if_true] at h
    by_cases hl : l0.length * 16 ≤ 140737488355328
    case neg => rw [if_neg hl] at h; cases h
    rw [if_pos hl] at h
    injection h with h
    injection h with h1 h2
    subst h1; subst h2
    have HL := aM hl
    clear hl
    go_enter Try.func60, Try.ntmps60
    go_wp2_with fail
    have hb3 := (((Below.refl w.heap.size w).alloc (Nat.le_refl _) (.cells #[.slice A0 l0.length c0] 30)).alloc (by simp) (.cells #[.int .i64 a1] 3) |>.alloc (by simp; omega) (.cells #[.int .i64 a2] 3))
    refine (HC.out _ hb3).mono ?_
    rintro e w1 ⟨rfl, hb⟩
    have HB := aM hb
    have HB3 := aM hb3
    have c1 : w1.cell? ⟨w.heap.size, 0, none⟩ = some (.slice A0 l0.length c0) := cell_later' hb (by simp [go_sem])
    have c2 : w1.cell? ⟨w.heap.size + 1, 0, none⟩ = some (.int .i64 a1) := cell_later' hb (by simp [go_sem])
    have c3 : w1.cell? ⟨w.heap.size + 1 + 1, 0, none⟩ = some (.int .i64 a2) := cell_later' hb (by simp [go_sem])
    clear hb hb3
    have HG := aM (gather_any 78 #[.pointer (some ⟨w.heap.size, 0, none⟩), .pointer (some ⟨w.heap.size + 1, 0, none⟩), .pointer (some ⟨w.heap.size + 1 + 1, 0, none⟩)] _ (fun g => rfl) hcf86 (someTo addRun a1 a2 l0 0 []) w1 (fun g w2 h1 h2 h3 => lay_slice A0 c0 l0 a1 a2 _ _ _ g w1 w2 h1 (cB_ HR.out ((HB3.out.trans (HB.out.mono (by simp; omega))))) c1 c2 c3 h3 h2 HL.out))
    go_wp2_with ((with_reducible refine HG.out.mono ?_); rintro e w3 ⟨v, rfl, hRv, hBv⟩; have HV := aM hRv; have HBV := aM hBv; clear hRv hBv)
    go_ret2
    exact ⟨_, rfl, rL HV.out (by have := HB.out.size; simp at this; omega), (HB3.out.trans (HB.out.mono (by simp; omega))).trans (HBV.out.mono (by have := HB.out.size; simp at this; omega))⟩
def runs_Splice.f (k : Nat) (l0 : List S71) (a1 : Int) (a2 : Int) (l3 : List S71) : Option (List S71 × Int) :=
  (runs_within.f k l0 a1 a2).bind fun t => if t = true then ((runs_Good.f k l3).bind fun u => if u = true then ((runs_Total.f k l0).bind fun p => (runs_Total.f k l3).bind fun q =>
    if wrap64 (wrap64 (p - wrap64 (a2 - a1)) + q) > 4096 then some ([], 3) else if (l0.length + l3.length + l0.length) * 16 ≤ 140737488355328 then some (spliceRuns l0 a1 a2 l3, 0) else none) else some ([], 2)) else some ([], 2)
theorem splice_boxes {w w1 : World} {x0 x1 x2 x3 : Value} (hb : Below ((((w.alloc (.cells #[x0] 30)).alloc (.cells #[x1] 3)).alloc (.cells #[x2] 3)).alloc (.cells #[x3] 30)).heap.size ((((w.alloc (.cells #[x0] 30)).alloc (.cells #[x1] 3)).alloc (.cells #[x2] 3)).alloc (.cells #[x3] 30)) w1) :
    Below w.heap.size w w1 ∧ w1.cell? ⟨w.heap.size, 0, none⟩ = some x0 ∧ w1.cell? ⟨w.heap.size + 1, 0, none⟩ = some x1 ∧ w1.cell? ⟨w.heap.size + 1 + 1, 0, none⟩ = some x2 ∧ w1.cell? ⟨w.heap.size + 1 + 1 + 1, 0, none⟩ = some x3 ∧ w.heap.size + 1 + 1 + 1 + 1 ≤ w1.heap.size :=
  ⟨((((Below.refl _ _).alloc (Nat.le_refl _) _).alloc (by simp) _).alloc (by simp; omega) _ |>.alloc (by simp; omega) _).trans (hb.mono (by simp; omega)),
   cell_later' hb (by simp [go_sem]), cell_later' hb (by simp [go_sem]), cell_later' hb (by simp [go_sem]), cell_later' hb (by simp [go_sem]), by have := hb.size; simpa using this⟩
set_option maxHeartbeats 4000000 in
set_option maxRecDepth 100000 in
theorem runs_Splice.out (k : Nat) (A0 : Option Addr) (c0 : Nat) (l0 : List S71) (a1 : Int) (a2 : Int) (A3 : Option Addr) (c3 : Nat) (l3 : List S71) (w : World) (hr0 : Kd.C k71 w A0 l0.length l0) (hc0 : l0.length ≤ c0) (ht : runs_within.f k l0 a1 a2 = some false) :
    Calls Try.prog 62 #[.slice A0 l0.length c0, .int .i64 a1, .int .i64 a2, .slice A3 l3.length c3] w fun e w' => ∃ v0_ : Value, e = .returned (.tuple #[v0_, .int .i64 2]) ∧ Kd.R k71 71 w' w.heap.size (fun _ => True) v0_ [] ∧ Below w.heap.size w w' := by
  have hmf : ∀ (fn : Fn) (first cap : Array Value) (w : World), (Instr.makeFunc fn first cap).run Try.prog w = .ok (.func fn first cap) w := fun _ _ _ _ => rfl
  have HC := aM (fun W (hw : Below w.heap.size w W) => runs_within.calls k A0 c0 l0 a1 a2 false W (cB_ hr0 hw) hc0 ht)
  clear hr0 ht
  go_enter Try.func62, Try.ntmps62
  go_wp2_with fail
  refine (HC.out _ (splice_boxes (Below.refl _ _)).1).mono ?_
  rintro e w1 ⟨rfl, hb⟩
  have HB := aM (splice_boxes hb)
  clear hb
  go_wp2
  go_ret2
  exact ⟨_, rfl, Kd.R_nil _ _ _ _ _, HB.out.1⟩
set_option maxHeartbeats 4000000 in
set_option maxRecDepth 100000 in
theorem runs_Splice.bad (k : Nat) (A0 : Option Addr) (c0 : Nat) (l0 : List S71) (a1 : Int) (a2 : Int) (A3 : Option Addr) (c3 : Nat) (l3 : List S71) (w : World) (hr0 : Kd.C k71 w A0 l0.length l0) (hc0 : l0.length ≤ c0) (hr3 : Kd.C k71 w A3 l3.length l3) (hc3 : l3.length ≤ c3)
    (ht : runs_within.f k l0 a1 a2 = some true) (hu : runs_Good.f k l3 = some false) :
    Calls Try.prog 62 #[.slice A0 l0.length c0, .int .i64 a1, .int .i64 a2, .slice A3 l3.length c3] w fun e w' => ∃ v0_ : Value, e = .returned (.tuple #[v0_, .int .i64 2]) ∧ Kd.R k71 71 w' w.heap.size (fun _ => True) v0_ [] ∧ Below w.heap.size w w' := by
  have hmf : ∀ (fn : Fn) (first cap : Array Value) (w : World), (Instr.makeFunc fn first cap).run Try.prog w = .ok (.func fn first cap) w := fun _ _ _ _ => rfl
  have HC := aM (fun W (hw : Below w.heap.size w W) => runs_within.calls k A0 c0 l0 a1 a2 true W (cB_ hr0 hw) hc0 ht)
  have HG := aM (fun W (hw : Below w.heap.size w W) => runs_Good.calls k A3 c3 l3 false W (cB_ hr3 hw) hc3 hu)
  clear hr0 ht hr3 hu
  go_enter Try.func62, Try.ntmps62
  go_wp2_with fail
  refine (HC.out _ (splice_boxes (Below.refl _ _)).1).mono ?_
  rintro e w1 ⟨rfl, hb⟩
  have HB := aM (splice_boxes hb)
  have hc4 := (splice_boxes hb).2.2.2.2.1
  clear hb
  go_wp2_with fail
  refine (HG.out _ HB.out.1).mono ?_
  rintro e w2 ⟨rfl, hb⟩
  have HB2 := aM (HB.out.1.trans (hb.mono (by have := HB.out.2.2.2.2.2; omega)))
  clear hb
  go_wp2
  go_ret2
  exact ⟨_, rfl, Kd.R_nil _ _ _ _ _, HB2.out⟩
set_option maxHeartbeats 4000000 in
set_option maxRecDepth 100000 in
theorem runs_Splice.rest (k : Nat) (A0 : Option Addr) (c0 : Nat) (l0 : List S71) (a1 : Int) (a2 : Int) (A3 : Option Addr) (c3 : Nat) (l3 : List S71) (r1 : List S71) (r2 : Int) (w : World) (hr0 : Kd.C k71 w A0 l0.length l0) (hc0 : l0.length ≤ c0) (hr3 : Kd.C k71 w A3 l3.length l3) (hc3 : l3.length ≤ c3)
    (ht : runs_within.f k l0 a1 a2 = some true) (hu : runs_Good.f k l3 = some true) (p q : Int) (hp : runs_Total.f k l0 = some p) (hq : runs_Total.f k l3 = some q)
    (h : (if wrap64 (wrap64 (p - wrap64 (a2 - a1)) + q) > 4096 then some ([], 3) else if (l0.length + l3.length + l0.length) * 16 ≤ 140737488355328 then some (spliceRuns l0 a1 a2 l3, 0) else none) = some (r1, r2)) :
    Calls Try.prog 62 #[.slice A0 l0.length c0, .int .i64 a1, .int .i64 a2, .slice A3 l3.length c3] w fun e w' => ∃ v0_ : Value, e = .returned (.tuple #[v0_, .int .i64 r2]) ∧ Kd.R k71 71 w' w.heap.size (fun _ => True) v0_ r1 ∧ Below w.heap.size w w' := by
  have hmf : ∀ (fn : Fn) (first cap : Array Value) (w : World), (Instr.makeFunc fn first cap).run Try.prog w = .ok (.func fn first cap) w := fun _ _ _ _ => rfl
  have HC := aM (fun W (hw : Below w.heap.size w W) => runs_within.calls k A0 c0 l0 a1 a2 true W (cB_ hr0 hw) hc0 ht)
  have HG := aM (fun W (hw : Below w.heap.size w W) => runs_Good.calls k A3 c3 l3 true W (cB_ hr3 hw) hc3 hu)
  have HT1 := aM (fun W (hw : Below w.heap.size w W) => runs_Total.calls k A0 c0 l0 p W (cB_ hr0 hw) hc0 hp)
  have HT2 := aM (fun W (hw : Below w.heap.size w W) => runs_Total.calls k A3 c3 l3 q W (cB_ hr3 hw) hc3 hq)
  have HR0 := aM hr0
  have HR3 := aM hr3
  have HH := aM h
  clear hr0 ht hr3 hu hp hq h
  go_enter Try.func62, Try.ntmps62
  go_wp2_with fail
  refine (HC.out _ (splice_boxes (Below.refl _ _)).1).mono ?_
  rintro e w1 ⟨rfl, hb⟩
  have HB := aM hb
  have hc4 := (splice_boxes hb).2.2.2.2.1
  clear hb
  go_wp2_with fail
  refine (HG.out _ (splice_boxes HB.out).1).mono ?_
  rintro e w2 ⟨rfl, hb⟩
  have HB2 := aM (HB.out.trans (hb.mono (by have := (splice_boxes HB.out).2.2.2.2.2; simp; omega)))
  clear hb hc4
  obtain ⟨hc1, hc2, hc3', hc4, hc5⟩ := (splice_boxes HB2.out).2
  have HZ := aM hc5
  clear hc5
  go_wp2_with fail
  go_region_held3 (fun w' => w'.cell? ⟨w.heap.size, 0, none⟩ = some (.slice A0 l0.length c0) ∧ w'.cell? ⟨w.heap.size + 1, 0, none⟩ = some (.int .i64 a1) ∧ w'.cell? ⟨w.heap.size + 1 + 1, 0, none⟩ = some (.int .i64 a2) ∧ w'.cell? ⟨w.heap.size + 1 + 1 + 1, 0, none⟩ = some (.slice A3 l3.length c3) ∧ Aside0 (Below w2.heap.size w2 w'))
    (first
      | exact ⟨hc1, hc2, hc3', hc4, ⟨below_drew (Below.refl _ _)⟩⟩
      | (go_split_ands; exact ⟨cell_later' hb (by assumption), cell_later' hb (by assumption), cell_later' hb (by assumption), cell_later' hb (by assumption), ⟨(fun (g5 : Aside0 (Below w2.heap.size w2 _)) => g5.out.trans (hb.mono g5.out.size)) (by assumption)⟩⟩))
    (first
      | (go_at_call 75; first | ((with_reducible refine (HT1.out _ ?hw).mono ?_); (case hw => go_split_ands; exact (splice_boxes HB2.out).1.trans ((by assumption : Aside0 (Below w2.heap.size w2 _)).out.mono (by have := HZ.out; omega))); rintro e w3 ⟨rfl, hb⟩) | ((with_reducible refine (HT2.out _ ?hw).mono ?_); (case hw => go_split_ands; exact (splice_boxes HB2.out).1.trans ((by assumption : Aside0 (Below w2.heap.size w2 _)).out.mono (by have := HZ.out; omega))); rintro e w3 ⟨rfl, hb⟩)))
  clear hc1 hc2 hc3' hc4
  obtain ⟨hc1, hc2, hc3', hc4, hB3⟩ := ‹_ ∧ _›
  have HB3 := aM (HB2.out.trans (hB3.out.mono (by have := HZ.out; simp; omega)))
  clear hB3
  have HH1 := HH.out
  rw [← i64_w, ← i64_w, ← i64_w] at HH1
  generalize IntKind.i64.wrap (IntKind.i64.wrap (p - IntKind.i64.wrap (a2 - a1)) + q) = z at HH1 ⊢
  by_cases h4 : z > 4096
  · have hd : decide (4096 < z) = true := by simpa using h4
    rw [if_pos h4] at HH1
    injection HH1 with h
    injection h with h1 h2
    subst h1; subst h2
    have h4' : 4096 < z := h4
    go_wp2
    go_ret2
    exact ⟨_, rfl, Kd.R_nil _ _ _ _ _, (splice_boxes HB3.out).1⟩
  · have hd : decide (4096 < z) = false := by simpa using h4
    rw [if_neg h4] at HH1
    by_cases hl : (l0.length + l3.length + l0.length) * 16 ≤ 140737488355328
    case neg => rw [if_neg hl] at HH1; cases HH1
    rw [if_pos hl] at HH1
    injection HH1 with h
    injection h with h1 h2
    subst h1; subst h2
    have HL := aM hl
    have h4' : ¬ 4096 < z := h4
    clear hl
    have HG := aM (gather_any 80 #[.pointer (some ⟨w.heap.size, 0, none⟩), .pointer (some ⟨w.heap.size + 1, 0, none⟩), .pointer (some ⟨w.heap.size + 1 + 1 + 1, 0, none⟩), .pointer (some ⟨w.heap.size + 1 + 1, 0, none⟩)] _ (fun g => rfl) hcf93 (spliceRuns l0 a1 a2 l3) w3 (fun g w4 h1 h2 h3 => lay_splice A0 c0 l0 a1 a2 A3 c3 l3 _ _ _ _ g w3 w4 h1 (cB_ HR0.out (splice_boxes HB3.out).1) (cB_ HR3.out (splice_boxes HB3.out).1) hc1 hc4 hc2 hc3' h3 h2 HL.out))
    go_wp2_with ((with_reducible refine HG.out.mono ?_); rintro e w5 ⟨v, rfl, hRv, hBv⟩; have HV := aM hRv; have HBV := aM hBv; clear hRv hBv)
    go_ret2
    exact ⟨_, rfl, rL HV.out (by have := (splice_boxes HB3.out).1.size; omega), (splice_boxes HB3.out).1.trans (HBV.out.mono (by have := (splice_boxes HB3.out).1.size; omega))⟩
theorem runs_Splice.calls (k : Nat) (A0 : Option Addr) (c0 : Nat) (l0 : List S71) (a1 : Int) (a2 : Int) (A3 : Option Addr) (c3 : Nat) (l3 : List S71) (r1 : List S71) (r2 : Int) (w : World) (hr0 : Kd.C k71 w A0 l0.length l0) (hc0 : l0.length ≤ c0) (hr3 : Kd.C k71 w A3 l3.length l3) (hc3 : l3.length ≤ c3) (h : runs_Splice.f k l0 a1 a2 l3 = some (r1, r2)) :
    Calls Try.prog 62 #[.slice A0 l0.length c0, .int .i64 a1, .int .i64 a2, .slice A3 l3.length c3] w fun e w' => ∃ v0_ : Value, e = .returned (.tuple #[v0_, .int .i64 r2]) ∧ Kd.R k71 71 w' w.heap.size (fun _ => True) v0_ r1 ∧ Below w.heap.size w w' := by
  unfold runs_Splice.f at h
  obtain ⟨t, ht, h⟩ := Option.bind_eq_some_iff.1 h
  cases t with
  | false =>
    simp only [Bool.false_eq_true, if_false] at h
    injection h with h
    injection h with h1 h2
    subst h1; subst h2
    exact runs_Splice.out k A0 c0 l0 a1 a2 A3 c3 l3 w hr0 hc0 ht
  | true =>
    simp only [if_true] at h
    obtain ⟨u, hu, h⟩ := Option.bind_eq_some_iff.1 h
    cases u with
    | false =>
      simp only [Bool.false_eq_true, if_false] at h
      injection h with h
      injection h with h1 h2
      subst h1; subst h2
      exact runs_Splice.bad k A0 c0 l0 a1 a2 A3 c3 l3 w hr0 hc0 hr3 hc3 ht hu
    | true =>
      simp only [if_true] at h
      obtain ⟨p, hp, h⟩ := Option.bind_eq_some_iff.1 h
      obtain ⟨q, hq, h⟩ := Option.bind_eq_some_iff.1 h
      exact runs_Splice.rest k A0 c0 l0 a1 a2 A3 c3 l3 r1 r2 w hr0 hc0 hr3 hc3 ht hu p q hp hq h
end Go.Proofs.Ytbbgpfjeobdogaa.PB
end

section
namespace Go.Proofs.Ytbbgpfjeobdogaa.PB
open Go.RowKit Go.Proofs.YtbbgpfjeobdogaaW.PrintWords
set_option linter.unusedVariables false
def totF : List S71 → Int → Int
  | [], n => n
  | r :: l, n => if r.f1 > 4096 - n then 4097 else totF l (n + (if r.f1 < 0 then 0 else r.f1))
def tot (l : List S71) : Int := totF l 0
def bytes (l : List S71) : List Int := l.flatMap fun r => List.replicate r.f1.toNat r.f0
def step1 (acc : List S71) (x : Int) : List S71 :=
  if 0 < acc.length ∧ (acc.getD (acc.length - 1) z71).f0 = x then acc.set (acc.length - 1) ⟨x, (acc.getD (acc.length - 1) z71).f1 + 1⟩ else acc ++ [⟨x, 1⟩]
def packTo (acc : List S71) (b : List Int) : List S71 := b.foldl step1 acc
def pack (b : List Int) : List S71 := packTo [] b
theorem packTo_append (acc : List S71) (a b : List Int) : packTo acc (a ++ b) = packTo (packTo acc a) b := List.foldl_append
theorem snoc_cases (acc : List S71) : acc = [] ∨ ∃ pre q, acc = pre ++ [q] := by
  rcases List.eq_nil_or_concat acc with h | ⟨pre, q, h⟩
  · exact .inl h
  · exact .inr ⟨pre, q, by rw [h, List.concat_eq_append]⟩
theorem getD_snoc (pre : List S71) (q : S71) : (pre ++ [q]).getD ((pre ++ [q]).length - 1) z71 = q := by
  simp [List.getD_eq_getElem?_getD]
theorem set_snoc (pre : List S71) (q r : S71) : (pre ++ [q]).set ((pre ++ [q]).length - 1) r = pre ++ [r] := by
  simp
theorem step1_nil (x : Int) : step1 [] x = [⟨x, 1⟩] := by simp [step1]
theorem step1_same (pre : List S71) (q : S71) : step1 (pre ++ [q]) q.f0 = pre ++ [⟨q.f0, q.f1 + 1⟩] := by
  unfold step1
  rw [getD_snoc, set_snoc, if_pos ⟨by simp, rfl⟩]
theorem step1_other (pre : List S71) (q : S71) (x : Int) (h : q.f0 ≠ x) : step1 (pre ++ [q]) x = pre ++ [q] ++ [⟨x, 1⟩] := by
  unfold step1
  rw [getD_snoc, if_neg (fun hh => h hh.2)]
theorem addRun_small (acc : List S71) (r : S71) (h : r.f1 < 1) : addRun acc r = acc := by simp [addRun, h]
theorem addRun_nil (r : S71) (h : ¬ r.f1 < 1) : addRun [] r = [r] := by simp [addRun, h]
theorem addRun_same (pre : List S71) (q r : S71) (h : ¬ r.f1 < 1) (he : q.f0 = r.f0) : addRun (pre ++ [q]) r = pre ++ [⟨q.f0, wrap64 (q.f1 + r.f1)⟩] := by
  unfold addRun
  rw [if_neg h, getD_snoc, set_snoc, if_pos (by simp), if_pos he]
theorem addRun_other (pre : List S71) (q r : S71) (h : ¬ r.f1 < 1) (he : ¬ q.f0 = r.f0) : addRun (pre ++ [q]) r = pre ++ [q] ++ [r] := by
  unfold addRun
  rw [if_neg h, getD_snoc, if_pos (by simp), if_neg he]
theorem packTo_rep_same (pre : List S71) (x : Int) : ∀ (n : Nat) (m : Int), packTo (pre ++ [⟨x, m⟩]) (List.replicate n x) = pre ++ [⟨x, m + n⟩]
  | 0, m => by simp [packTo]
  | n + 1, m => by
    rw [List.replicate_succ]
    show packTo (step1 (pre ++ [⟨x, m⟩]) x) _ = _
    rw [show step1 (pre ++ [(⟨x, m⟩ : S71)]) x = pre ++ [⟨x, m + 1⟩] from step1_same pre ⟨x, m⟩, packTo_rep_same pre x n (m + 1)]
    congr 3
    push_cast
    omega
def capped (B : Int) (acc : List S71) : Prop := ∀ r ∈ acc, 0 ≤ r.f1 ∧ r.f1 ≤ B
theorem addRun_pack (acc : List S71) (L : Int) (N : Nat) (B : Int) (hc : capped B acc) (hB : B + N ≤ 9223372036854775807) : addRun acc ⟨L, N⟩ = packTo acc (List.replicate N L) := by
  cases N with
  | zero => rw [addRun_small _ _ (by show ((0 : Nat) : Int) < 1; omega)]; rfl
  | succ n =>
    have h1 : ¬ ((⟨L, ((n + 1 : Nat) : Int)⟩ : S71).f1 < 1) := by show ¬ ((n + 1 : Nat) : Int) < 1; omega
    rw [List.replicate_succ]
    rcases snoc_cases acc with rfl | ⟨pre, q, rfl⟩
    · rw [addRun_nil _ h1]
      show _ = packTo (step1 [] L) _
      rw [step1_nil, ← List.nil_append [(⟨L, 1⟩ : S71)], packTo_rep_same]
      simp
      omega
    · show _ = packTo (step1 (pre ++ [q]) L) _
      by_cases he : q.f0 = L
      · subst he
        have hq := hc q (by simp)
        rw [addRun_same pre q ⟨q.f0, ((n + 1 : Nat) : Int)⟩ h1 rfl, step1_same, packTo_rep_same]
        congr 3
        show wrap64 (q.f1 + ((n + 1 : Nat) : Int)) = _
        unfold wrap64
        omega
      · rw [addRun_other _ _ _ h1 he, step1_other _ _ _ he, packTo_rep_same]
        simp
        omega
theorem capped_mono {B B' : Int} {acc : List S71} (h : capped B acc) (hB : B ≤ B') : capped B' acc := fun r hr => ⟨(h r hr).1, by have := (h r hr).2; omega⟩
theorem step1_capped {B : Int} {acc : List S71} (h : capped B acc) (hB : 0 ≤ B) (x : Int) : capped (B + 1) (step1 acc x) := by
  rcases snoc_cases acc with rfl | ⟨pre, q, rfl⟩
  · rw [step1_nil]
    intro r hr
    obtain rfl := List.mem_singleton.1 hr
    exact ⟨by show (0 : Int) ≤ 1; omega, by show (1 : Int) ≤ B + 1; omega⟩
  · by_cases he : q.f0 = x
    · subst he
      rw [step1_same]
      intro r hr
      rcases List.mem_append.1 hr with hr | hr
      · have := h r (List.mem_append_left _ hr); omega
      · obtain rfl := List.mem_singleton.1 hr
        have := h q (by simp)
        exact ⟨by show 0 ≤ q.f1 + 1; omega, by show q.f1 + 1 ≤ B + 1; omega⟩
    · rw [step1_other _ _ _ he]
      intro r hr
      rcases List.mem_append.1 hr with hr | hr
      · have := h r hr; omega
      · obtain rfl := List.mem_singleton.1 hr
        exact ⟨by show (0 : Int) ≤ 1; omega, by show (1 : Int) ≤ B + 1; omega⟩
theorem packTo_capped (b : List Int) : ∀ {B : Int} {acc : List S71}, capped B acc → 0 ≤ B → capped (B + b.length) (packTo acc b) := by
  induction b with
  | nil => intro B acc h hB; simpa [packTo] using h
  | cons x b ih =>
    intro B acc h hB
    have := ih (step1_capped h hB x) (by omega)
    show capped _ (packTo (step1 acc x) b)
    refine capped_mono this ?_
    rw [List.length_cons]
    push_cast
    omega
theorem bytes_cons (r : S71) (l : List S71) : bytes (r :: l) = List.replicate r.f1.toNat r.f0 ++ bytes l := by simp [bytes]
theorem bytes_append (a b : List S71) : bytes (a ++ b) = bytes a ++ bytes b := by simp [bytes]
theorem someTo_pack (a b : Nat) (l : List S71) : ∀ (p : Nat) (acc : List S71) (B : Int), (∀ r ∈ l, 0 ≤ r.f1) → capped B acc → 0 ≤ B → B + (bytes l).length ≤ 1000000 → p + (bytes l).length ≤ 1000000 → a ≤ 1000000 → b ≤ 1000000 →
    someTo addRun (a : Int) (b : Int) l (p : Int) acc = packTo acc (((bytes l).take (b - p)).drop (a - p)) := by
  induction l with
  | nil => intro p acc B _ _ _ _ _ _ _; simp [someTo, bytes, packTo]
  | cons r l ih =>
    intro p acc B h0 hc hB hlen hp ha hb
    obtain ⟨n, hn⟩ := Int.eq_ofNat_of_zero_le (h0 r List.mem_cons_self)
    have hn' : r.f1.toNat = n := by omega
    rw [bytes_cons, hn'] at hlen hp ⊢
    rw [List.length_append, List.length_replicate] at hlen hp
    push_cast at hlen hp
    have hw : wrap64 ((p : Int) + r.f1) = ((p + n : Nat) : Int) := by unfold wrap64; omega
    simp only [someTo]
    rw [hw]
    
    have hN : wrap64 ((if (b : Int) < ((p + n : Nat) : Int) then (b : Int) else ((p + n : Nat) : Int)) - (if (p : Int) < (a : Int) then (a : Int) else (p : Int))) = (min b (p + n) : Nat) - (max p a : Nat) := by
      unfold wrap64
      split <;> split <;> omega
    rw [hN]
    have hsplit : (((List.replicate n r.f0) ++ bytes l).take (b - p)).drop (a - p) = List.replicate (min b (p + n) - max p a) r.f0 ++ ((bytes l).take (b - (p + n))).drop (a - (p + n)) := by
      rw [List.take_append, List.drop_append, List.length_take, List.length_replicate, List.take_replicate, List.drop_replicate]
      congr 1
      · congr 1; omega
      · by_cases hbp : b ≤ p + n
        · rw [show b - p - n = 0 by omega, show b - (p + n) = 0 by omega]; simp
        · rw [show b - p - n = b - (p + n) by omega, show a - p - min (b - p) n = a - (p + n) by omega]
    rw [hsplit, packTo_append]
    by_cases hle : max p a ≤ min b (p + n)
    · rw [show ((min b (p + n) : Nat) : Int) - ((max p a : Nat) : Int) = ((min b (p + n) - max p a : Nat) : Int) by omega]
      rw [addRun_pack acc r.f0 _ B hc (by omega)]
      have hc2 := packTo_capped (List.replicate (min b (p + n) - max p a) r.f0) hc hB
      rw [List.length_replicate] at hc2
      exact ih (p + n) _ _ (fun r hr => h0 r (List.mem_cons_of_mem _ hr)) hc2 (by omega) (by omega) (by push_cast; omega) ha hb
    · rw [addRun_small _ _ (by show ((min b (p + n) : Nat) : Int) - ((max p a : Nat) : Int) < 1; omega), show min b (p + n) - max p a = 0 by omega]
      exact ih (p + n) acc B (fun r hr => h0 r (List.mem_cons_of_mem _ hr)) hc hB (by omega) (by push_cast; omega) ha hb
theorem totF_bytes (l : List S71) : ∀ n : Int, 0 ≤ n → totF l n ≤ 4096 → totF l n = n + (bytes l).length := by
  induction l with
  | nil => intro n _ h; simp [totF, bytes]
  | cons r l ih =>
    intro n h0 h
    simp only [totF] at h ⊢
    split at h
    · omega
    · rename_i hc
      rw [if_neg hc]
      rw [ih _ (by split <;> omega) h, bytes_cons, List.length_append, List.length_replicate]
      push_cast
      split <;> omega
theorem tot_bytes {l : List S71} (h : tot l ≤ 4096) : tot l = (bytes l).length := by
  have := totF_bytes l 0 (by omega) h
  unfold tot
  omega
theorem tot_of_bytes {l : List S71} (h0 : ∀ r ∈ l, 0 ≤ r.f1) (h : (bytes l).length ≤ 4096) : tot l = (bytes l).length := by
  have : ∀ (l : List S71) (n : Int), 0 ≤ n → (∀ r ∈ l, 0 ≤ r.f1) → n + (bytes l).length ≤ 4096 → totF l n = n + (bytes l).length := by
    intro l
    induction l with
    | nil => intro n _ _ _; simp [totF, bytes]
    | cons r l ih =>
      intro n hn h0 h
      have hr := h0 r List.mem_cons_self
      rw [bytes_cons, List.length_append, List.length_replicate] at h ⊢
      push_cast at h ⊢
      simp only [totF]
      rw [if_neg (by omega), if_neg (by omega), ih _ (by omega) (fun r hr => h0 r (List.mem_cons_of_mem _ hr)) (by omega)]
      omega
  have := this l 0 (by omega) h0 (by omega)
  unfold tot
  omega
def nrm : List S71 → Prop
  | [] => True
  | [r] => 1 ≤ r.f1
  | r :: s :: l => 1 ≤ r.f1 ∧ r.f0 ≠ s.f0 ∧ nrm (s :: l)
theorem nrm_tail {r : S71} {l : List S71} (h : nrm (r :: l)) : nrm l := by
  cases l with
  | nil => trivial
  | cons s l => exact h.2.2
theorem nrm_head {r : S71} {l : List S71} (h : nrm (r :: l)) : 1 ≤ r.f1 := by
  cases l with
  | nil => exact h
  | cons s l => exact h.1
theorem nrm_pos {l : List S71} (h : nrm l) : ∀ r ∈ l, 1 ≤ r.f1 := by
  induction l with
  | nil => intro r hr; cases hr
  | cons s l ih =>
    intro r hr
    rcases List.mem_cons.1 hr with rfl | hr
    · exact nrm_head h
    · exact ih (nrm_tail h) r hr
theorem nrm_snoc {pre : List S71} {q r : S71} : nrm (pre ++ [q]) → q.f0 ≠ r.f0 → 1 ≤ r.f1 → nrm (pre ++ [q] ++ [r]) := by
  induction pre with
  | nil => intro h h1 h2; exact ⟨h, h1, h2⟩
  | cons p pre ih =>
    intro h h1 h2
    cases pre with
    | nil => exact ⟨h.1, h.2.1, ih h.2.2 h1 h2⟩
    | cons s pre => exact ⟨h.1, h.2.1, ih h.2.2 h1 h2⟩
theorem nrm_last {pre : List S71} {q q' : S71} : nrm (pre ++ [q]) → q'.f0 = q.f0 → 1 ≤ q'.f1 → nrm (pre ++ [q']) := by
  induction pre with
  | nil => intro h h1 h2; exact h2
  | cons p pre ih =>
    intro h h1 h2
    cases pre with
    | nil => exact ⟨h.1, by rw [h1]; exact h.2.1, h2⟩
    | cons s pre => exact ⟨h.1, h.2.1, ih h.2.2 h1 h2⟩
theorem step1_nrm {acc : List S71} (h : nrm acc) (x : Int) : nrm (step1 acc x) := by
  rcases snoc_cases acc with rfl | ⟨pre, q, rfl⟩
  · rw [step1_nil]; show (1 : Int) ≤ 1; omega
  · by_cases he : q.f0 = x
    · subst he
      rw [step1_same]
      exact nrm_last h rfl (by have := nrm_pos h q (by simp); show 1 ≤ q.f1 + 1; omega)
    · rw [step1_other _ _ _ he]
      exact nrm_snoc h he (by show (1 : Int) ≤ 1; omega)
theorem packTo_nrm (b : List Int) : ∀ {acc : List S71}, nrm acc → nrm (packTo acc b) := by
  induction b with
  | nil => intro acc h; exact h
  | cons x b ih => intro acc h; exact ih (step1_nrm h x)
theorem pack_nrm (b : List Int) : nrm (pack b) := packTo_nrm b trivial
theorem step1_bytes {acc : List S71} (h : nrm acc) (x : Int) : bytes (step1 acc x) = bytes acc ++ [x] := by
  rcases snoc_cases acc with rfl | ⟨pre, q, rfl⟩
  · rw [step1_nil]; simp [bytes]
  · by_cases he : q.f0 = x
    · subst he
      have := nrm_pos h q (by simp)
      rw [step1_same, bytes_append, bytes_append, List.append_assoc]
      congr 1
      simp only [bytes, List.flatMap_cons, List.flatMap_nil, List.append_nil]
      rw [show (q.f1 + 1).toNat = q.f1.toNat + 1 by omega, List.replicate_succ']
    · rw [step1_other _ _ _ he, bytes_append]
      congr 1
theorem packTo_bytes (b : List Int) : ∀ {acc : List S71}, nrm acc → bytes (packTo acc b) = bytes acc ++ b := by
  induction b with
  | nil => intro acc h; simp [packTo]
  | cons x b ih =>
    intro acc h
    show bytes (packTo (step1 acc x) b) = _
    rw [ih (step1_nrm h x), step1_bytes h, List.append_assoc]
    rfl
theorem pack_bytes (b : List Int) : bytes (pack b) = b := by
  unfold pack
  rw [packTo_bytes b (acc := []) trivial]
  simp [bytes]
theorem packTo_normal (l : List S71) : ∀ (pre : List S71) (q : S71), nrm (q :: l) → packTo (pre ++ [q]) (bytes l) = pre ++ q :: l := by
  induction l with
  | nil => intro pre q _; simp [bytes, packTo]
  | cons s l ih =>
    intro pre q h
    have hs := nrm_head (nrm_tail h)
    obtain ⟨n, hn⟩ : ∃ n : Nat, s.f1 = ((n + 1 : Nat) : Int) := ⟨(s.f1 - 1).toNat, by omega⟩
    rw [bytes_cons, packTo_append, hn, Int.toNat_natCast, List.replicate_succ]
    show packTo (packTo (step1 (pre ++ [q]) s.f0) _) _ = _
    rw [step1_other _ _ _ h.2.1, packTo_rep_same]
    have e : (⟨s.f0, 1 + (n : Int)⟩ : S71) = s := by
      cases s
      simp only at hn
      subst hn
      congr 1
      push_cast
      omega
    rw [e, ih (pre ++ [q]) s (nrm_tail h)]
    simp
theorem pack_of_nrm {l : List S71} (h : nrm l) : pack (bytes l) = l := by
  cases l with
  | nil => rfl
  | cons s l =>
    have hs := nrm_head h
    obtain ⟨n, hn⟩ : ∃ n : Nat, s.f1 = ((n + 1 : Nat) : Int) := ⟨(s.f1 - 1).toNat, by omega⟩
    unfold pack
    rw [bytes_cons, packTo_append, hn, Int.toNat_natCast, List.replicate_succ]
    show packTo (packTo (step1 [] s.f0) _) _ = _
    rw [step1_nil, ← List.nil_append [(⟨s.f0, 1⟩ : S71)], packTo_rep_same]
    have e : (⟨s.f0, 1 + (n : Int)⟩ : S71) = s := by
      cases s
      simp only at hn
      subst hn
      congr 1
      push_cast
      omega
    rw [e, packTo_normal l [] s h]
    rfl
instance nrmDec : (l : List S71) → Decidable (nrm l)
  | [] => isTrue trivial
  | [r] => inferInstanceAs (Decidable (1 ≤ r.f1))
  | r :: s :: l => by
    have := nrmDec (s :: l)
    exact inferInstanceAs (Decidable (1 ≤ r.f1 ∧ r.f0 ≠ s.f0 ∧ nrm (s :: l)))
def good (l : List S71) : Bool := decide (nrm l) && decide (tot l ≤ 4096)
end Go.Proofs.Ytbbgpfjeobdogaa.PB
end

section
namespace Go.Proofs.Ytbbgpfjeobdogaa.PB
open Go.RowKit Go.Proofs.YtbbgpfjeobdogaaW.PrintWords Go.Proofs.YtbbgpfjeobdogaaW.PrintLast Go.Proofs.YtbbgpfjeobdogaaW.PrintMore
attribute [local go_sem] max2_int min2_int max_two min_two max_three min_three max_four min_four   
set_option linter.unusedVariables false
set_option linter.unusedSimpArgs false
theorem eqA71 (d : Nat) (w : World) (x0 y0 : Int) (x1 y1 : Int) :
  (Op.equalIn (d + 2) 71 (.agg #[.int .u64 x0, .int .i64 x1]) (.agg #[.int .u64 y0, .int .i64 y1])).run Try.prog w = .ok (x0 == y0 && (x1 == y1)) w := by
 refine eqA_of Try.underlying71 (by kernel_rfl) ?_
 refine eqf_cons (by rfl) (by go_simp; rfl) (by go_simp; rfl) (by go_simp) ?_
 exact eqf_last (by rfl) (by go_simp; rfl) (by go_simp; rfl) (by go_simp)
end Go.Proofs.Ytbbgpfjeobdogaa.PB
end

section
namespace Go.Proofs.Ytbbgpfjeobdogaa.PB
open Go.RowKit Go.Proofs.YtbbgpfjeobdogaaW.PrintWords
set_option linter.unusedVariables false
instance : DecidableEq S71 := fun a b => decidable_of_iff (a.f0 = b.f0 ∧ a.f1 = b.f1) (by cases a; cases b; simp)
theorem rdT (l : List S71) (i : Nat) : rd_T71 l (i : Int) = l.getD i z71 := by unfold rd_T71; rw [Int.toNat_natCast]
theorem dropT {l : List S71} {i : Nat} (h : i < l.length) : l.drop i = l.getD i z71 :: l.drop (i + 1) := by
 rw [List.drop_eq_getElem_cons h, List.getD_eq_getElem?_getD, List.getElem?_eq_getElem h]; rfl
theorem w1 {i n : Nat} (h : i < n) (hn : n ≤ 1000000000000000) : wrap64 ((i : Int) + 1) = ((i + 1 : Nat) : Int) := by unfold wrap64; omega
abbrev big : Nat := 1000000000000
theorem total_ev (l : List S71) (hl : l.length ≤ big) : Ev (fun k => runs_Total.f k l) (tot l) := by
 unfold big at hl
 have loop : ∀ (d i : Nat) (n : Int), i + d = l.length → 0 ≤ n → n ≤ 4096 → Ev (fun k => runs_Total.l0 k n l (l.length : Int) (i : Int)) (totF (l.drop i) n) := by
  intro d
  induction d with
  | zero =>
   intro i n hi h0 h1
   refine Ev.step (fun k => by simp only [runs_Total.l0]; rfl) ?_
   refine Ev.neg (by omega) ?_
   rw [List.drop_eq_nil_of_le (by omega)]
   exact Ev.now _
  | succ d ih =>
   intro i n hi h0 h1
   have hlt : i < l.length := by omega
   refine Ev.step (fun k => by simp only [runs_Total.l0]; rfl) ?_
   refine Ev.pos (by omega) (Ev.pos (by omega) (Ev.pos (by omega) ?_))
   rw [dropT hlt, rdT]
   simp only [totF]
   rw [show wrap64 (4096 - n) = 4096 - n by unfold wrap64; omega]
   refine Ev.ite (fun _ => Ev.now _) (fun hc => ?_)
   have hm : wrap64 (n + mx (l.getD i z71).f1 0) = n + (if (l.getD i z71).f1 < 0 then 0 else (l.getD i z71).f1) := by
    unfold mx wrap64
    split <;> omega
   rw [hm, w1 hlt (by omega)]
   exact ih (i + 1) _ (by omega) (by split <;> omega) (by split <;> omega)
 exact loop l.length 0 0 (by omega) (by omega) (by omega)
theorem good_ev (l : List S71) (hl : l.length ≤ big) : Ev (fun k => runs_Good.f k l) (good l) := by
 have ht := total_ev l hl
 unfold big at hl
 have loop : ∀ (d i : Nat), i + d = l.length → ∀ b : Bool, (b = true ↔ ((0 < i → i < l.length → (l.getD (i - 1) z71).f0 ≠ (l.getD i z71).f0) ∧ nrm (l.drop i) ∧ tot l ≤ 4096)) → Ev (fun k => runs_Good.l0 k l l (l.length : Int) (i : Int)) b := by
  intro d
  induction d with
  | zero =>
   intro i hi b hb
   refine Ev.step (fun k => by simp only [runs_Good.l0]; rfl) ?_
   refine Ev.neg (by omega) ?_
   rw [List.drop_eq_nil_of_le (by omega)] at hb
   refine Ev.bind ht (ev_val (Ev.now _) ?_)
   rw [Bool.eq_iff_iff, hb, decide_eq_true_iff]
   exact ⟨fun h => ⟨fun _ h2 => absurd h2 (by omega), trivial, h⟩, fun h => h.2.2⟩
  | succ d ih =>
   intro i hi b hb
   have hlt : i < l.length := by omega
   have hn : nrm (l.drop i) ↔ 1 ≤ (l.getD i z71).f1 ∧ (i + 1 < l.length → (l.getD i z71).f0 ≠ (l.getD (i + 1) z71).f0) ∧ nrm (l.drop (i + 1)) := by
    rw [dropT hlt]
    by_cases h2 : i + 1 < l.length
    ·rw [dropT h2]
     exact ⟨fun h => ⟨h.1, fun _ => h.2.1, h.2.2⟩, fun h => ⟨h.1, h.2.1 h2, h.2.2⟩⟩
    ·rw [List.drop_eq_nil_of_le (show l.length ≤ i + 1 by omega)]
     exact ⟨fun h => ⟨h, fun h3 => absurd h3 h2, trivial⟩, fun h => h.1⟩
   refine Ev.step (fun k => by simp only [runs_Good.l0]; rfl) ?_
   refine Ev.pos (by omega) (Ev.pos (by omega) (Ev.pos (by omega) ?_))
   rw [rdT, w1 hlt (by omega)]
   by_cases h1 : (l.getD i z71).f1 < 1
   ·refine Ev.pos h1 (ev_val (Ev.now _) ?_)
    rw [Bool.eq_iff_iff, hb, hn]
    exact ⟨fun h => (by cases h), fun h => (by have := h.2.1.1; omega)⟩
   ·refine Ev.neg h1 ?_
    have hrest : ∀ b' : Bool, (b' = true ↔ (nrm (l.drop i) ∧ tot l ≤ 4096)) → Ev (fun k => runs_Good.l0 k l l (l.length : Int) ((i + 1 : Nat) : Int)) b' := fun b' hb' => ih (i + 1) (by omega) b' (by
     rw [hb', hn, show i + 1 - 1 = i by omega]
     exact ⟨fun h => ⟨fun _ => h.1.2.1, h.1.2.2, h.2⟩, fun h => ⟨⟨by omega, h.1 (by omega), h.2.1⟩, h.2.2⟩⟩)
    by_cases h0 : 0 < i
    ·refine Ev.pos (by omega) ?_
     rw [show wrap64 ((i : Int) - 1) = ((i - 1 : Nat) : Int) by unfold wrap64; omega]
     refine Ev.pos (by omega) (Ev.pos (by omega) ?_)
     rw [rdT]
     by_cases he : (l.getD (i - 1) z71).f0 = (l.getD i z71).f0
     ·refine Ev.pos he (ev_val (Ev.now _) ?_)
      rw [Bool.eq_iff_iff, hb]
      exact ⟨fun h => (by cases h), fun h => absurd he (h.1 h0 hlt)⟩
     ·refine Ev.neg he (hrest b ?_)
      rw [hb]
      exact ⟨fun h => h.2, fun h => ⟨fun _ _ => he, h⟩⟩
    ·refine Ev.neg (by omega) (hrest b ?_)
     rw [hb]
     exact ⟨fun h => h.2, fun h => ⟨fun h3 => absurd h3 h0, h⟩⟩
 refine loop l.length 0 (by omega) (good l) ?_
 simp [good]
end Go.Proofs.Ytbbgpfjeobdogaa.PB
end

section
namespace Go.Proofs.Ytbbgpfjeobdogaa.Opn
open Go.ChangeShapes Go.WideShapes Go.Deep Go.Proofs.YtbbgpfjeobdogaaW.PrintWords
set_option linter.unusedVariables false
def Opn {α : Type} (P : Program) (w : World) (t : TypeId) (d : Kd α) (wf : α → Prop) : Prop :=
  ∀ (H : Type) (enc : TypeId × Value → H) (base : Nat) (spare : Nat → Bool) (held : Bool) (fuel : Nat) (cs : List Value) (x : DataW H × List MemPlace),
    DataW.trod enc P w base spare held fuel t cs = some x → (∀ n ∈ x.1.weights P t, n ≤ reachBytes) → ∃ a : α, d.K w a cs ∧ wf a
section
variable {P : Program} {w : World}
theorem int {t : TypeId} {k : IntKind} (hu : P.underlying t = some (.int k)) : Opn P w t (Kd.int k) (fun n => (Lit.int k n).wf = true) := by
  intro H enc base spare held fuel cs x h _
  obtain ⟨n, rfl, _, hw⟩ := DataW.trod_int hu h
  exact ⟨n, rfl, hw⟩
theorem bool {t : TypeId} (hu : P.underlying t = some .bool) : Opn P w t Kd.bool (fun _ => True) := by
  intro H enc base spare held fuel cs x h _
  obtain ⟨b, rfl, _⟩ := DataW.trod_bool hu h
  exact ⟨b, rfl, trivial⟩
theorem string {t : TypeId} (hu : P.underlying t = some .string) : Opn P w t Kd.string (fun s => s.size ≤ 140737488351232) := by
  intro H enc base spare held fuel cs x h hz
  obtain ⟨s, rfl, rfl, _⟩ := DataW.trod_string hu h
  refine ⟨s, rfl, ?_⟩
  have := hz s.data.toList.length (by simp [DataW.weights])
  rw [data_length] at this
  exact this
theorem weightsAll_mem {H : Type} {e : TypeId} : ∀ {ds : List (DataW H)} {d : DataW H}, d ∈ ds → ∀ n ∈ d.weights P e, n ∈ DataW.weightsAll P e ds
  | d0 :: ds, d, hd, n, hn => by
    simp only [DataW.weightsAll, List.mem_append]
    rcases List.mem_cons.1 hd with rfl | hd
    · exact .inl hn
    · exact .inr (weightsAll_mem hd n hn)
theorem slice {α : Type} {t e : TypeId} {d : Kd α} {wf : α → Prop} (hu : P.underlying t = some (.slice e)) (hc : P.cellsOf e = d.sz) {B : Nat} (hB : P.bytesOf e = B) (ho : Opn P w e d wf) :
    Opn P w t (Kd.slice e d) (fun xs => xs.length * B ≤ 140737488351232 ∧ ∀ x ∈ xs, wf x) := by
  intro H enc base spare held fuel cs x h hz
  rcases open_slice hu h with ⟨rfl, rfl⟩ | ⟨a, len, cap, m, n, D, Pl, rfl, hb, hl, hm, hmm, rfl, hel⟩
  · exact ⟨[], ⟨none, 0, rfl, Nat.le_refl _, Kd.C_nil _ _⟩, by simp, by intro x hx; cases hx⟩
  · simp only [DataW.weights, hu, List.mem_cons, List.mem_append] at hz
    have hlm : len ≤ m := by rw [hmm]; split <;> omega
    have hall : ∀ i, i < len → ∃ a' : α, (∃ cs', w.cells? base (a.add (i * P.cellsOf e)) (P.cellsOf e) = some cs' ∧ d.K w a' cs') ∧ wf a' := fun i hi => by
      obtain ⟨cs', h1, h2⟩ := hel i (by omega)
      obtain ⟨a', h3, h4⟩ := ho H enc base spare held n cs' _ h2 (fun q hq => hz q (.inr (.inl (weightsAll_mem (List.mem_map.2 ⟨i, List.mem_range.2 hi, rfl⟩) q hq))))
      exact ⟨a', ⟨cs', h1, h3⟩, h4⟩
    obtain ⟨xs, hxs, hx⟩ : ∃ xs : List α, xs.length = len ∧ ∀ i, ∀ h : i < xs.length, (∃ cs', w.cells? base (a.add (i * P.cellsOf e)) (P.cellsOf e) = some cs' ∧ d.K w xs[i] cs') ∧ wf xs[i] := by
      clear hz hel hlm hmm hm hl h
      induction len with
      | zero => exact ⟨[], rfl, fun i h => absurd h (by simp)⟩
      | succ q ih =>
        obtain ⟨xs, h1, h2⟩ := ih (fun i hi => hall i (by omega))
        obtain ⟨a', h3⟩ := hall q (by omega)
        refine ⟨xs ++ [a'], by simp [h1], fun i h => ?_⟩
        by_cases hi : i < xs.length
        · rw [List.getElem_append_left hi]; exact h2 i hi
        · have : i = q := by simp at h; omega
          subst this
          rw [List.getElem_append_right (by omega)]
          simpa using h3
    refine ⟨xs, ⟨some a, cap, by rw [hxs], by omega, rfl, by have : cap ≤ 9223372036854775807 := hm; omega, fun hp => ⟨a, rfl, fun i p hp => ?_⟩⟩, ?_, ?_⟩
    · have hi : i < xs.length := (List.getElem?_eq_some_iff.1 hp).1
      have hpe : p = xs[i] := by rw [List.getElem?_eq_getElem hi] at hp; exact (Option.some.inj hp).symm
      obtain ⟨⟨cs', h1, h2⟩, _⟩ := hx i hi
      rw [hc] at h1
      obtain ⟨_, hcl, hat⟩ := World.cells?_some h1
      refine ⟨cs', by rw [hcl], by rw [hpe]; exact h2, fun j u hu => ?_⟩
      have hj : j < d.sz := by have := (List.getElem?_eq_some_iff.1 hu).1; omega
      have := hat j hj
      rw [← Go.Deep.add_add, this, hu]
    · have := hz _ (.inl rfl)
      rw [hB] at this
      simp only [List.length_map, List.length_range] at this
      rw [hxs]
      exact Nat.le_trans (Nat.mul_le_mul_right _ (by omega)) this
    · intro x hxm
      obtain ⟨i, hi, rfl⟩ := List.mem_iff_getElem.1 hxm
      exact (hx i hi).2
end
end Go.Proofs.Ytbbgpfjeobdogaa.Opn
end
