/- What the row hangs on, part 2. -/
import Derived.Test.YtjkfkiebhgkolaaGreatDoorProg
import Derived.Maps.OwnSet
import Derived.StillTailTactics
import Derived.Laws.CopyRow
import Derived.OpenShut
import Derived.ChangeArms
import Derived.Deep.Slices
import Derived.SizedLaws
import Derived.Shelf.Strings.Builder1
import Derived.Shelf.Strings.Builder2
import Derived.Shelf.Strings.Trim
import Derived.Shelf.Small.Utf8
import Derived.Shelf.Small.Strs
import Derived.Shelf.Strings.BuilderF
import Derived.Shelf.Strings.BuilderK
import Derived.Shelf.Strings.Builder2Cap
import Derived.Shelf.Strings.Search1
import Derived.Shelf.Strings.Search2
import Derived.Shelf.Strings.Search3
import Derived.Shelf.Strings.Count
import Derived.Shelf.LaysM
import Derived.Shelf.Strings.Shaped
import Derived.Shelf.Strings.Prefix
import Derived.Shelf.Unicode.Decode
import Derived.Shelf.Strings.Runes
import Derived.Shelf.Strings.AsciiSet
import Derived.Shelf.Bits.Mul64
import Derived.Shelf.Strings.Repeat
import Derived.Shelf.Unicode.DecodeSlow
import Derived.Shelf.Unicode.DecodeAny
import Derived.Test.YtjkfkiebhgkolaaGreatDoorProg
import Derived.Lib.CountLaws
import Derived.Lib.SplitLaws
import Derived.Lib.IndexMore
import Derived.Test.YtjkfkiebhgkolaaGreatDoorQOperSwaps1
section
namespace Go.Proofs.YtjkfkiebhgkolaaGreatDoor.PB
open Go.RowKit Go.Proofs.YtjkfkiebhgkolaaGreatDoorW.PrintWords Go.Proofs.YtjkfkiebhgkolaaGreatDoorW.PrintLast Go.Proofs.YtjkfkiebhgkolaaGreatDoorW.PrintMore
theorem qn : type_of% @blk_drewN := @blk_drewN
theorem qd : type_of% @blk_drew := @blk_drew
theorem qa : type_of% @blk_alloc := @blk_alloc
theorem ra : type_of% @Kd.R_alloc := @Kd.R_alloc
theorem rn : type_of% @Kd.R_drewN := @Kd.R_drewN
theorem rd_ : type_of% @Kd.R_drew := @Kd.R_drew
theorem va : type_of% @Kd.V_alloc := @Kd.V_alloc
theorem vn : type_of% @Kd.V_drewN := @Kd.V_drewN
theorem vd : type_of% @Kd.V_drew := @Kd.V_drew
theorem ea : type_of% @below_alloc := @below_alloc
theorem en : type_of% @pw_below_drewN := @pw_below_drewN
theorem ed : type_of% @below_drew1 := @below_drew1
theorem es : type_of% @below_set := @below_set
theorem aM : type_of% @Aside0.mk := @Aside0.mk
theorem bC : type_of% @blk_cell := @blk_cell
theorem bF : type_of% @blk_frozen := @blk_frozen
theorem rF : type_of% @Kd.R_far := @Kd.R_far
theorem bZ : type_of% @below_size := @below_size
theorem bB : type_of% @blk_below := @blk_below
theorem bP : type_of% @below_step := @below_step
theorem rT : type_of% @Kd.R_types := @Kd.R_types
theorem rM : type_of% @Kd.R_mono := @Kd.R_mono
theorem rR : type_of% @Kd.R_reads' := @Kd.R_reads'
theorem cB_ : type_of% @Kd.C_below := @Kd.C_below
theorem rL : type_of% @Kd.R_lower := @Kd.R_lower
theorem rE : type_of% @Kd.R_elder' := @Kd.R_elder'
theorem bR : type_of% @blk_far := @blk_far
theorem bU : type_of% @blk_put := @blk_put
theorem sA : type_of% @List.setIfInBounds_toArray := @List.setIfInBounds_toArray
theorem sZ : type_of% @List.set_cons_zero := @List.set_cons_zero
theorem sS : type_of% @List.set_cons_succ := @List.set_cons_succ
theorem mT : type_of% @List.map_toArray := @List.map_toArray
theorem mC : type_of% @List.map_cons := @List.map_cons
theorem mN : type_of% @List.map_nil := @List.map_nil
theorem lD : type_of% @List.length_drop := @List.length_drop
theorem lT : type_of% @List.length_take := @List.length_take
class Up (W w : World) : Prop where
  b : Below w.heap.size w W
instance (w : World) : Up w w := ⟨Below.refl _ _⟩
instance {W w : World} (o : Obj) [u : Up W w] : Up (W.alloc o) w := ⟨below_alloc u.b o⟩
instance {W w : World} [u : Up W w] : Up W.drew w := ⟨below_drew1 u.b⟩
instance {W w : World} (n : Nat) [u : Up W w] : Up (W.drewN n) w := ⟨pw_below_drewN u.b n⟩
theorem qy {W w : World} {g : Nat} {o : Obj} [u : Up W w] (h : w.heap[g]? = some o) : W.heap[g]? = some o := blk_below h u.b
theorem ry {α : Type} {d : Kd α} {e : TypeId} {W w : World} {base : Nat} {ok : Nat → Prop} {v : Value} {xs : List α} [u : Up W w] (h : d.R e w base ok v xs) : d.R e W base ok v xs := Kd.R_below h u.b
theorem ey {W w v : World} [u : Up W w] (h : Below v.heap.size v w) : Below v.heap.size v W := below_then h h.size u.b
section
variable {P : Program} {ops : Array Oper} {Q : Exit → Act → World → Prop} {md : Region.Mode} {S : World → Prop} {ds : List Nat} {oi : Oper} {v : Value} {fuel : Nat} {l : Array Bool} {a : Act} {w : World} {T : Bool × List (List Nat × List Nat)} {B : List Nat} {a' : Act}
theorem pv (i n : Nat) (l' : Array Bool) (HT : Aside0 (rtab md ops = T)) (h : wpAnyLast P md ops Q S ds fuel l' a' w) (hi : ops[i]? = some oi := by rfl) (hN : oi.dst = some n := by rfl) (hc : anyT T l.toList l'.toList i = true := by kernel_rfl) (hQ : ∀ (c : List PanicEntry) (a : Act) (w : World), Q (.panic c) (a.put oi.dst v) w → Q (.panic c) a w := by exact fun _ _ _ h => h) (hy : Yields P ops oi v a := by exact Or.inl ⟨by rfl, fun w' => by go_simp; with_reducible rfl⟩) (ha : a.put (some n) v = a' := by simp only [Act.put, sA, sZ, sS, i64_w, i32_w]; rfl) : wpAnyLast P md ops Q S ds (fuel + 1) l a w := pure_ l' hi hN (any_of HT.out hc) hQ hy ha h
theorem pu (i n : Nat) (l' : Array Bool) (HT : Aside0 (rtab md ops = T)) (h : wpAnyLast P md ops Q S ds fuel l' a' w) (hi : ops[i]? = some oi := by rfl) (hN : oi.dst = some n := by rfl) (hc : anyT T l.toList l'.toList i = true := by kernel_rfl) (hQ : ∀ (c : List PanicEntry) (a : Act) (w : World), Q (.panic c) (a.put oi.dst undef) w → Q (.panic c) a w := by exact fun _ _ _ h => h) (hy : Yields P ops oi undef a := by exact Or.inr ⟨by rfl, rfl⟩) (ha : a.put (some n) undef = a' := by simp only [Act.put, sA, sZ, sS, i64_w, i32_w]; rfl) : wpAnyLast P md ops Q S ds (fuel + 1) l a w := pure_ l' hi hN (any_of HT.out hc) hQ hy ha h
theorem pt (i n : Nat) (l' : Array Bool) (HT : Aside0 (rtab md ops = T)) (HW : Aside0 (waitsOk T.2 B = true)) (hS : S w) (h : wpAnyLast P md ops Q S ds fuel l' a' w) (hi : ops[i]? = some oi := by rfl) (hN : oi.dst = some n := by rfl) (hc : takeW T B ds l.toList l'.toList i = true := by kernel_rfl) (hQ : ∀ (c : List PanicEntry) (a : Act) (w : World), Q (.panic c) (a.put oi.dst v) w → Q (.panic c) a w := by exact fun _ _ _ h => h) (hy : YieldsIf P ops S oi v a := by exact Or.inl ⟨by rfl, fun w' hs => by (repeat obtain ⟨_, hs⟩ := hs); go_simp; with_reducible rfl⟩) (ha : a.put (some n) v = a' := by simp only [Act.put, sA, sZ, sS, i64_w, i32_w]; rfl) : wpAnyLast P md ops Q S ds (fuel + 1) l a w := take_ l' hi hN (take_ofW HT.out HW.out hc) hQ hy hS ha h
theorem p1 (i : Nat) (N : Option Tmp) (l' : Array Bool) (HT : Aside0 (rtab md ops = T)) (h : ∀ (K : Act → World → Prop), Shut (∀ (a' : Act) (w' : World), S w' → (S w' → wpAnyLast P md ops Q S ds fuel l' a' w') → K a' w') → if Region.wanted oi (yielded ops a.tmps) = true then Oper.wp P oi a w K Q else K (a.put N undef) w) (hi : ops[i]? = some oi := by rfl) (hN : oi.dst = N := by rfl) (hc : (readyT T.snd l.toList == [i] && l.toList.set i true == l'.toList) = true := by kernel_rfl) (hd : i ∉ ds := by decide) : wpAnyLast P md ops Q S ds (fuel + 1) l a w := one_ l' hi hN (one_of HT.out hc) hd h
end
theorem zC {w : World} {g : Nat} {t : TypeId} {cs : Array Value} (h : w.heap[g]? = some (.cells cs t (0, 0))) (i : Nat) (v : Value) (e : cs[i]? = some v := by rfl) : w.cell? ⟨g, i, none⟩ = some v := (bC h i).trans e
section
variable {P : Program} {ops : Array Oper} {rest : List Oper} {o : Oper} {a : Act} {Q : Exit → Act → World → Prop} {W W' : World}
theorem yH {w : World} (k : Below w.heap.size w W := by repeat (first | (with_reducible first | exact (‹Aside0 (Below _ _ _)›).out | apply ea | apply en | apply ed | refine es ?_ (‹Aside0 (_ ≤ _)›).out) | exact (‹Aside0 (Below _ _ _)›).out)) : Below w.heap.size w W := k
theorem yP (w : World) (hb : Below W.heap.size W W') (k : Below w.heap.size w W := by repeat (first | (with_reducible first | exact (‹Aside0 (Below _ _ _)›).out | apply ea | apply en | apply ed | refine es ?_ (‹Aside0 (_ ≤ _)›).out) | exact (‹Aside0 (Below _ _ _)›).out)) : Aside0 (Below w.heap.size w W') := ⟨bP k hb⟩
theorem yG (w : World) {g : Nat} (hg : g = W.heap.size) (k : Below w.heap.size w W := by repeat (first | (with_reducible first | exact (‹Aside0 (Below _ _ _)›).out | apply ea | apply en | apply ed | refine es ?_ (‹Aside0 (_ ≤ _)›).out) | exact (‹Aside0 (Below _ _ _)›).out)) : Aside0 (w.heap.size ≤ g) := ⟨hg ▸ bZ k⟩
theorem yR {w : World} {α : Type} {d : Kd α} {A : Option Addr} {n : Nat} {xs : List α} (h : Aside0 (d.C w A n xs)) (k : Below w.heap.size w W := by repeat (first | (with_reducible first | exact (‹Aside0 (Below _ _ _)›).out | apply ea | apply en | apply ed | refine es ?_ (‹Aside0 (_ ≤ _)›).out) | exact (‹Aside0 (Below _ _ _)›).out)) : d.C W A n xs := cB_ h.out k
theorem yB {w : World} {g : Nat} {ob : Obj} [u : Up W w] (hb : Below W.heap.size W W') (h : Aside0 (w.heap[g]? = some ob)) : Aside0 (W'.heap[g]? = some ob) := ⟨bB (qy h.out) hb⟩
theorem yN {w : World} {g g' : Nat} {ob : Obj} [u : Up W w] (hg : g' = W.heap.size) (h : Aside0 (w.heap[g]? = some ob)) : Aside0 (g ≠ g') := ⟨by rw [hg]; exact Nat.ne_of_lt (blk_lt (qy (W := W) h.out))⟩
theorem yM {w : World} {g g' : Nat} {ob : Obj} [u : Up W w] (hg : g' = W.heap.size) (h : Aside0 (w.heap[g]? = some ob)) : Aside0 (g' ≠ g) := ⟨by rw [hg]; exact Nat.ne_of_gt (blk_lt (qy (W := W) h.out))⟩
theorem yX (N : Tmp) (cs : Array Value) (t : TypeId) (h : ∀ g, g = W.heap.size → ∀ w1, Aside0 (w1.heap[g]? = some (.cells cs t (0, 0))) → Below W.heap.size W w1 → wpList P ops Q rest (a.put o.dst (.pointer (some ⟨g, 0, none⟩))) w1)
    (hd : o.dst = some N := by with_reducible rfl) (hgd : o.guard = none := by rfl) (hrun : (execOp a.eval o).run P W = .ok (.value (.pointer (some ⟨W.heap.size, 0, none⟩))) (W.alloc (.cells cs t (0, 0))) := by first | (go_simp; done) | (go_simp; rfl)) : wpList P ops Q (o :: rest) a W :=
  box_event hgd hd hrun fun g hg w1 hbox hb => h g hg w1 ⟨hbox⟩ hb
theorem yC (N : Option Tmp) {f : FuncId} {fn : Func} (hf : P.funcs[f]? = some fn) (args : Array Value) {xs : Array Operand} {ts : Array TypeId} (h : Calls P f args W fun e w' => ∃ v, e = .returned v ∧ wpList P ops Q rest (a.put N v) w')
    (hop : o.op = .call { callee := .value (.func f), args := xs, argTypes := ts } := by with_reducible rfl) (hd : o.dst = N := by rfl) (hg : o.guard = none := by rfl) (hname : (fn.name == "runtime.NumGoroutine") = false := by kernel_rfl) (hb : fn.body.isSome = true := by rfl)
    (hargs : xs.map a.eval = args := by (try simp only [List.map_toArray, List.map_cons, List.map_nil]); first | done | rfl | (simp only [List.length_drop, List.length_take]; rfl)) : wpList P ops Q (o :: rest) a W := goesL_ N hd hg hf hname hb args hop hargs h
theorem ye {p : Prop} (h : p := by first | rfl | (simp [errW_none, errW_some] <;> rfl) | (simp [*, errW_none, errW_some] <;> rfl)) : p := h
theorem yn {p : Prop} (h : p := by first | exact Kd.R_nil _ _ _ _ _ | exact Kd.N_nil _ _ _ _ _ | exact Kd.V_nil _ _ _ _ _ | exact Kd.Q_nil _ _ _ _ _ | exact Kd.S_nil _ _ _ _ _) : p := h
end
abbrev I := true
abbrev O := false
abbrev b0_ : Array Bool := #[O,O,O,O,O,O,O,O,O,O,O,O,O]
abbrev b1_ : Array Bool := #[I,O,O,O,O,O,O,O,O,O,O,O,O]
abbrev b2_ : Array Bool := #[I,I,O,O,O,O,O,O,O,O,O,O,O]
abbrev b3_ : Array Bool := #[I,I,I,O,O,O,O,O,O,O,O,O,O]
abbrev b4_ : Array Bool := #[I,I,I,I,O,O,O,O,O,O,O,O,O]
abbrev b5_ : Array Bool := #[I,I,I,I,I,O,O,O,O,O,O,O,O]
abbrev b6_ : Array Bool := #[I,I,I,I,I,O,O,I,O,O,O,O,O]
abbrev b7_ : Array Bool := #[I,I,I,I,I,I,O,I,O,O,O,O,O]
abbrev b8_ : Array Bool := #[I,I,I,I,I,I,O,I,I,O,O,O,O]
abbrev b9_ : Array Bool := #[I,I,I,I,I,I,O,I,I,I,O,O,O]
abbrev b10_ : Array Bool := #[I,I,I,I,I,I,I,I,I,I,O,O,O]
abbrev b11_ : Array Bool := #[I,I,I,I,I,I,I,I,I,I,I,O,O]
abbrev b12_ : Array Bool := #[I,I,I,I,I,I,I,I,I,I,I,I,O]
abbrev b13_ : Array Bool := #[I,I,I,I,I,I,I,I,I,I,I,I,I]
abbrev b14_ : Array Bool := #[I,I,I,I,I,I,O,O,O,O,O,O,O]
abbrev b15_ : Array Bool := #[I,I,I,I,I,I,I,O,O,O,O,O,O]
abbrev b16_ : Array Bool := #[I,I,I,I,I,I,I,I,O,O,O,O,O]
abbrev b17_ : Array Bool := #[I,I,I,I,I,I,I,I,I,O,O,O,O]
abbrev b18_ : Array Bool := #[O,O,O,O,O,O,O,O,O,O,O,O,O,O,O,O]
abbrev b19_ : Array Bool := #[I,O,O,O,O,O,O,O,O,O,O,O,O,O,O,O]
abbrev b20_ : Array Bool := #[I,O,I,O,O,O,O,O,O,O,O,O,O,O,O,O]
abbrev b21_ : Array Bool := #[I,O,I,O,I,O,O,O,O,O,O,O,O,O,O,O]
abbrev b22_ : Array Bool := #[I,O,I,O,I,O,O,I,O,O,O,O,O,O,O,O]
abbrev b23_ : Array Bool := #[I,O,I,O,I,O,O,I,O,I,O,O,O,O,O,O]
abbrev b24_ : Array Bool := #[I,O,I,O,I,O,O,I,O,I,O,O,I,O,O,O]
abbrev b25_ : Array Bool := #[I,I,I,O,I,O,O,I,O,I,O,O,I,O,O,O]
abbrev b26_ : Array Bool := #[I,I,I,I,I,O,O,I,O,I,O,O,I,O,O,O]
abbrev b27_ : Array Bool := #[I,I,I,I,I,I,O,I,O,I,O,O,I,O,O,O]
abbrev b28_ : Array Bool := #[I,I,I,I,I,I,I,I,O,I,O,O,I,O,O,O]
abbrev b29_ : Array Bool := #[I,I,I,I,I,I,I,I,I,I,O,O,I,O,O,O]
abbrev b30_ : Array Bool := #[I,I,I,I,I,I,I,I,I,I,I,O,I,O,O,O]
abbrev b31_ : Array Bool := #[I,I,I,I,I,I,I,I,I,I,I,I,I,O,O,O]
abbrev b32_ : Array Bool := #[I,I,I,I,I,I,I,I,I,I,I,I,I,I,O,O]
abbrev b33_ : Array Bool := #[I,I,I,I,I,I,I,I,I,I,I,I,I,I,I,O]
abbrev b34_ : Array Bool := #[I,I,I,I,I,I,I,I,I,I,I,I,I,I,I,I]
abbrev b35_ : Array Bool := #[I,O,I,O,O,O,O,O,O,O,O,O,O]
abbrev b36_ : Array Bool := #[I,O,I,I,O,O,O,O,O,O,O,O,O]
abbrev b37_ : Array Bool := #[I,O,I,I,O,I,O,O,O,O,O,O,O]
abbrev b38_ : Array Bool := #[I,O,I,I,O,I,I,O,O,O,O,O,O]
abbrev b39_ : Array Bool := #[I,O,I,I,O,I,I,I,O,O,O,O,O]
abbrev b40_ : Array Bool := #[I,O,I,I,O,I,I,I,I,O,O,O,O]
abbrev b41_ : Array Bool := #[I,I,I,I,O,I,I,I,I,O,O,O,O]
abbrev b42_ : Array Bool := #[O,O,O,O,O,O,O,O,O,O,O,O,O,O,O,O,O]
abbrev b43_ : Array Bool := #[I,O,O,O,O,O,O,O,O,O,O,O,O,O,O,O,O]
abbrev b44_ : Array Bool := #[I,O,I,O,O,O,O,O,O,O,O,O,O,O,O,O,O]
abbrev b45_ : Array Bool := #[I,O,I,O,I,O,O,O,O,O,O,O,O,O,O,O,O]
abbrev b46_ : Array Bool := #[I,O,I,O,I,O,O,I,O,O,O,O,O,O,O,O,O]
abbrev b47_ : Array Bool := #[I,O,I,O,I,O,O,I,O,I,O,O,O,O,O,O,O]
abbrev b48_ : Array Bool := #[I,O,I,O,I,O,O,I,O,I,O,O,I,O,O,O,O]
abbrev b49_ : Array Bool := #[I,I,I,O,I,O,O,I,O,I,O,O,I,O,O,O,O]
abbrev b50_ : Array Bool := #[I,I,I,I,I,O,O,I,O,I,O,O,I,O,O,O,O]
abbrev b51_ : Array Bool := #[I,I,I,I,I,I,O,I,O,I,O,O,I,O,O,O,O]
abbrev b52_ : Array Bool := #[I,I,I,I,I,I,I,I,O,I,O,O,I,O,O,O,O]
abbrev b53_ : Array Bool := #[I,I,I,I,I,I,I,I,I,I,O,O,I,O,O,O,O]
abbrev b54_ : Array Bool := #[I,I,I,I,I,I,I,I,I,I,I,O,I,O,O,O,O]
abbrev b55_ : Array Bool := #[I,I,I,I,I,I,I,I,I,I,I,I,I,O,O,O,O]
abbrev b56_ : Array Bool := #[I,I,I,I,I,I,I,I,I,I,I,I,I,I,O,O,O]
abbrev b57_ : Array Bool := #[I,I,I,I,I,I,I,I,I,I,I,I,I,I,I,O,O]
abbrev b58_ : Array Bool := #[I,I,I,I,I,I,I,I,I,I,I,I,I,I,I,I,O]
abbrev b59_ : Array Bool := #[I,I,I,I,I,I,I,I,I,I,I,I,I,I,I,I,I]
abbrev b60_ : Array Bool := #[O,O,O,O,O,O,O,O]
abbrev b61_ : Array Bool := #[I,O,O,O,O,O,O,O]
abbrev b62_ : Array Bool := #[I,O,O,O,O,I,O,O]
abbrev b63_ : Array Bool := #[I,I,O,O,O,I,O,O]
abbrev b64_ : Array Bool := #[I,I,I,O,O,I,O,O]
abbrev b65_ : Array Bool := #[I,I,I,I,O,I,O,O]
abbrev b66_ : Array Bool := #[I,I,I,I,I,I,O,O]
abbrev b67_ : Array Bool := #[I,I,I,I,I,I,I,O]
abbrev b68_ : Array Bool := #[I,I,I,I,I,I,I,I]
attribute [local go_sem] max2_int min2_int max_two min_two max_three min_three max_four min_four   
set_option linter.unusedVariables false
set_option linter.unusedSimpArgs false
def errW : Option Int → Value
 | none => .nilIface
 | some c => .iface 0 (.int .i64 c)
theorem errW_none : errW none = .nilIface := rfl
theorem errW_some (c : Int) : errW (some c) = .iface 0 (.int .i64 c) := rfl
theorem info3 : (Tryz.prog.info? 3).map (fun i => (i.zero, i.size, i.bytes)) = some (some (.int .i64 0), 1, 8) := by kernel_rfl
theorem info5 : (Tryz.prog.info? 5).map (fun i => (i.zero, i.size, i.bytes)) = some (some (.int .u8 0), 1, 1) := by kernel_rfl
theorem info26 : (Tryz.prog.info? 26).map (fun i => (i.zero, i.size, i.bytes)) = some (some (.int .u64 0), 1, 8) := by kernel_rfl
theorem info68 : (Tryz.prog.info? 68).map (fun i => (i.zero, i.size, i.bytes)) = some (some (.agg #[(.int .u64 0), (.int .i64 0)]), 2, 16) := by kernel_rfl
theorem info185 : (Tryz.prog.info? 185).map (fun i => (i.zero, i.size, i.bytes)) = some (some (.agg #[(.int .i64 0), (.int .i64 0), (.int .i64 0), (.bool false)]), 4, 32) := by kernel_rfl
structure S68 where
 f0 : Int
 f1 : Int
def z68 : S68 := ⟨(0 : Int), (0 : Int)⟩
def k68 : Kd S68 := Kd.iso (Kd.pair (Kd.int .u64) (Kd.int .i64)) (fun x : S68 => (x.f0, x.f1))
theorem k68_open {w : World} {x : S68} {cs : List Value} (h : k68.K w x cs) : cs = [.int .u64 x.f0, .int .i64 x.f1] := by
 obtain ⟨_, _, rfl, rfl, rfl⟩ := h
 exact rfl
theorem k68_openM {w : World} {base : Nat} {ok : Nat → Prop} {x : S68} {cs : List Value} (h : k68.M w base ok x cs) : cs = [.int .u64 x.f0, .int .i64 x.f1] := by
 obtain ⟨_, _, rfl, rfl, rfl⟩ := h
 exact rfl
theorem k68_mkM (w : World) (base : Nat) (ok : Nat → Prop) (x : S68)  : k68.M w base ok x [.int .u64 x.f0, .int .i64 x.f1] := ⟨[.int .u64 x.f0], [.int .i64 x.f1], rfl, rfl, rfl⟩
def rd_T68 (xs : List S68) (i : Int) : S68 := xs.getD i.toNat z68
theorem at_T68 {w : World} {A : Option Addr} {n : Nat} {xs : List S68} (h : Kd.C k68 w A n xs) (i : Int) (h0 : 0 ≤ i) (h1 : i < n) : ∃ ad , A = some ad ∧ w.cell? (ad.add (i.toNat * 2)) = some (.int .u64 (rd_T68 xs i).f0) ∧ w.cell? ⟨(ad.add (i.toNat * 2)).block, (ad.add (i.toNat * 2)).off + 1, none⟩ = some (.int .i64 (rd_T68 xs i).f1) := by
 obtain ⟨ad, c, e, _, hK, hc0⟩ := Kd.C_get h z68 i h0 h1
 have hc : ∀ j u, c[j]? = some u → w.cell? (ad.add (i.toNat * 2 + j)) = some u := hc0
 obtain rfl := k68_open hK
 exact ⟨ad, e, hc 0 _ rfl, by rw [← add_field _ _ 1 (by omega)]; exact hc 1 _ rfl⟩
structure S24 where
 f0 : ByteArray
 f1 : (List S68)
def k24 : Kd S24 := Kd.iso (Kd.pair Kd.string (Kd.slice 68 k68)) (fun x : S24 => (x.f0, x.f1))
theorem k24_open {w : World} {x : S24} {cs : List Value} (h : k24.K w x cs) : ∃ A1 c1, cs = [.string x.f0, .slice A1 x.f1.length c1] ∧ x.f1.length ≤ c1 ∧ k68.C w A1 x.f1.length x.f1 := by
 obtain ⟨_, _, rfl, rfl, ⟨A1, c1, rfl, l1, g1⟩⟩ := h
 exact ⟨A1, c1, rfl, l1, g1⟩
structure S28 where
 f0 : Int
 f1 : Int
 f2 : Bool
def k28 : Kd S28 := Kd.iso (Kd.pair (Kd.int .i64) (Kd.pair (Kd.int .i64) Kd.bool)) (fun x : S28 => (x.f0, x.f1, x.f2))
theorem k28_open {w : World} {x : S28} {cs : List Value} (h : k28.K w x cs) : cs = [.int .i64 x.f0, .int .i64 x.f1, .bool x.f2] := by
 obtain ⟨_, _, rfl, rfl, ⟨_, _, rfl, rfl, rfl⟩⟩ := h
 exact rfl
structure S30 where
 f0 : S24
 f1 : Bool
def k30 : Kd S30 := Kd.iso (Kd.pair k24 Kd.bool) (fun x : S30 => (x.f0, x.f1))
theorem k30_open {w : World} {x : S30} {cs : List Value} (h : k30.K w x cs) : ∃ A1 c1, cs = [.string x.f0.f0, .slice A1 x.f0.f1.length c1, .bool x.f1] ∧ x.f0.f1.length ≤ c1 ∧ k68.C w A1 x.f0.f1.length x.f0.f1 := by
 obtain ⟨_, _, rfl, s0, rfl⟩ := h
 obtain ⟨A1, c1, rfl, l1, g1⟩ := k24_open s0
 exact ⟨A1, c1, rfl, l1, g1⟩
structure S32 where
 f0 : S24
 f1 : Int
 f2 : Int
 f3 : S28
 f4 : Int
 f5 : Int
 f6 : S30
 f7 : Bool
def k32 : Kd S32 := Kd.iso (Kd.pair k24 (Kd.pair (Kd.int .u64) (Kd.pair (Kd.int .i32) (Kd.pair k28 (Kd.pair (Kd.int .i64) (Kd.pair (Kd.int .i64) (Kd.pair k30 Kd.bool))))))) (fun x : S32 => (x.f0, x.f1, x.f2, x.f3, x.f4, x.f5, x.f6, x.f7))
theorem k32_open {w : World} {x : S32} {cs : List Value} (h : k32.K w x cs) : ∃ A1 c1 A10 c10, cs = [.string x.f0.f0, .slice A1 x.f0.f1.length c1, .int .u64 x.f1, .int .i32 x.f2, .int .i64 x.f3.f0, .int .i64 x.f3.f1, .bool x.f3.f2, .int .i64 x.f4, .int .i64 x.f5, .string x.f6.f0.f0, .slice A10 x.f6.f0.f1.length c10, .bool x.f6.f1, .bool x.f7] ∧ x.f0.f1.length ≤ c1 ∧ k68.C w A1 x.f0.f1.length x.f0.f1 ∧ x.f6.f0.f1.length ≤ c10 ∧ k68.C w A10 x.f6.f0.f1.length x.f6.f0.f1 := by
 obtain ⟨_, _, rfl, s0, ⟨_, _, rfl, rfl, ⟨_, _, rfl, rfl, ⟨_, _, rfl, s4, ⟨_, _, rfl, rfl, ⟨_, _, rfl, rfl, ⟨_, _, rfl, s9, rfl⟩⟩⟩⟩⟩⟩⟩ := h
 obtain ⟨A1, c1, rfl, l1, g1⟩ := k24_open s0
 obtain rfl := k28_open s4
 obtain ⟨A10, c10, rfl, l10, g10⟩ := k30_open s9
 exact ⟨A1, c1, A10, c10, rfl, l1, g1, l10, g10⟩
structure S36 where
 f0 : Int
 f1 : S24
 f2 : S24
structure S38 where
 f0 : S36
 f1 : S30
 f2 : Bool
 f3 : Int
structure S185 where
 f0 : Int
 f1 : Int
 f2 : Int
 f3 : Bool
def z185 : S185 := ⟨(0 : Int), (0 : Int), (0 : Int), false⟩
def k185 : Kd S185 := Kd.iso (Kd.pair (Kd.int .i64) (Kd.pair (Kd.int .i64) (Kd.pair (Kd.int .i64) Kd.bool))) (fun x : S185 => (x.f0, x.f1, x.f2, x.f3))
theorem k185_open {w : World} {x : S185} {cs : List Value} (h : k185.K w x cs) : cs = [.int .i64 x.f0, .int .i64 x.f1, .int .i64 x.f2, .bool x.f3] := by
 obtain ⟨_, _, rfl, rfl, ⟨_, _, rfl, rfl, ⟨_, _, rfl, rfl, rfl⟩⟩⟩ := h
 exact rfl
theorem k185_mkM (w : World) (base : Nat) (ok : Nat → Prop) (x : S185)  : k185.M w base ok x [.int .i64 x.f0, .int .i64 x.f1, .int .i64 x.f2, .bool x.f3] := ⟨[.int .i64 x.f0], [.int .i64 x.f1, .int .i64 x.f2, .bool x.f3], rfl, rfl, ⟨[.int .i64 x.f1], [.int .i64 x.f2, .bool x.f3], rfl, rfl, ⟨[.int .i64 x.f2], [.bool x.f3], rfl, rfl, rfl⟩⟩⟩
def rd_T185 (xs : List S185) (i : Int) : S185 := xs.getD i.toNat z185
theorem at_T185 {w : World} {A : Option Addr} {n : Nat} {xs : List S185} (h : Kd.C k185 w A n xs) (i : Int) (h0 : 0 ≤ i) (h1 : i < n) : ∃ ad , A = some ad ∧ w.cell? (ad.add (i.toNat * 4)) = some (.int .i64 (rd_T185 xs i).f0) ∧ w.cell? ⟨(ad.add (i.toNat * 4)).block, (ad.add (i.toNat * 4)).off + 1, none⟩ = some (.int .i64 (rd_T185 xs i).f1) ∧ w.cell? ⟨(ad.add (i.toNat * 4)).block, (ad.add (i.toNat * 4)).off + 2, none⟩ = some (.int .i64 (rd_T185 xs i).f2) ∧ w.cell? ⟨(ad.add (i.toNat * 4)).block, (ad.add (i.toNat * 4)).off + 3, none⟩ = some (.bool (rd_T185 xs i).f3) := by
 obtain ⟨ad, c, e, _, hK, hc0⟩ := Kd.C_get h z185 i h0 h1
 have hc : ∀ j u, c[j]? = some u → w.cell? (ad.add (i.toNat * 4 + j)) = some u := hc0
 obtain rfl := k185_open hK
 exact ⟨ad, e, hc 0 _ rfl, by rw [← add_field _ _ 1 (by omega)]; exact hc 1 _ rfl, by rw [← add_field _ _ 2 (by omega)]; exact hc 2 _ rfl, by rw [← add_field _ _ 3 (by omega)]; exact hc 3 _ rfl⟩
structure S45 where
 f0 : Int
 f1 : Int
 f2 : Bool
structure S42 where
 f0 : S36
 f1 : S30
 f2 : Bool
 f3 : Int
end Go.Proofs.YtjkfkiebhgkolaaGreatDoor.PB
end

section
namespace Go.Proofs.YtjkfkiebhgkolaaGreatDoor.PB
open Go.RowKit Go.Maps Go.Proofs.YtjkfkiebhgkolaaGreatDoorW.PrintWords Go.Proofs.YtjkfkiebhgkolaaGreatDoorW.PrintLast Go.Proofs.YtjkfkiebhgkolaaGreatDoorW.PrintMore
set_option maxRecDepth 100000
set_option linter.unusedVariables false
set_option linter.unusedSimpArgs false
class Told (W W' : World) (P : Prop) (Q : outParam Prop) : Prop where
 t : Below W.heap.size W W' → P → Q
section
variable {W W' w : World} {P Q P' Q' : Prop}
theorem tl [k : Told W W' P Q] (hb : Below W.heap.size W W') (h : Aside0 P) : Aside0 Q := ⟨k.t hb h.out⟩
instance told_blk {g : Nat} {o : Obj} : Told W W' (W.heap[g]? = some o) (W'.heap[g]? = some o) := ⟨fun hb h => bB h hb⟩
instance told_R {α : Type} {d : Kd α} {e b : Nat} {ok : Nat → Prop} {v : Value} {xs : List α} : Told W W' (d.R e W b ok v xs) (d.R e W' b ok v xs) := ⟨fun hb h => Kd.R_below h hb⟩
instance told_V {α : Type} {d : Kd α} {e b : Nat} {ok : Nat → Prop} {v : Value} {xs : List α} : Told W W' (d.V e W b ok v xs) (d.V e W' b ok v xs) := ⟨fun hb h => Kd.V_below h hb⟩
instance told_C {α : Type} {d : Kd α} {A : Option Addr} {n : Nat} {xs : List α} : Told W W' (d.C W A n xs) (d.C W' A n xs) := ⟨fun hb h => cB_ h hb⟩
instance told_bel : Told W W' (Below w.heap.size w W) (Below w.heap.size w W') := ⟨fun hb h => bP h hb⟩
instance told_and [k : Told W W' P Q] [k' : Told W W' P' Q'] : Told W W' (P ∧ P') (Q ∧ Q') := ⟨fun hb h => ⟨k.t hb h.1, k'.t hb h.2⟩⟩
theorem cell_below {p : Addr} {v : Value} (h : W.cell? p = some v) (hb : Below W.heap.size W W') : W'.cell? p = some v := by
 unfold World.cell? at h ⊢
 cases hq : W.heap[p.block]? with
 | none => rw [hq] at h; cases h
 | some o => rw [bB hq hb]; rw [hq] at h; exact h
instance told_cell {p : Addr} {v : Value} : Told W W' (W.cell? p = some v) (W'.cell? p = some v) := ⟨fun hb h => cell_below h hb⟩
theorem gG {g : Nat} (hg : g = W.heap.size) (h : Aside0 (Below w.heap.size w W)) : Aside0 (w.heap.size ≤ g) := ⟨hg ▸ h.out.size⟩
theorem g0 {g : Nat} (hg : g = W.heap.size) : Aside0 (W.heap.size ≤ g) := ⟨Nat.le_of_eq hg.symm⟩
theorem gN {g g' : Nat} {o : Obj} (hg : g = W.heap.size) (h : Aside0 (W.heap[g']? = some o)) : Aside0 (g ≠ g') := ⟨fun e => by have := blk_lt h.out; omega⟩
end
def putL (w : World) (g : Nat) : Nat → List Value → World
 | _, [] => w
 | n, v :: vs => putL (w.setCell ⟨g, n, none⟩ v) g (n + 1) vs
def setsL (cs : Array Value) : Nat → List Value → Array Value
 | _, [] => cs
 | n, v :: vs => setsL (cs.setIfInBounds n v) (n + 1) vs
section
variable {g t b : Nat} {w w0 : World}
theorem blk_sets : ∀ (vs : List Value) (n : Nat) (w : World) (cs : Array Value), w.heap[g]? = some (.cells cs t (0, 0)) → (putL w g n vs).heap[g]? = some (.cells (setsL cs n vs) t (0, 0))
 | [], _, _, _, h => h
 | v :: vs, n, w, cs, h => blk_sets vs (n + 1) _ _ (bU h n v rfl)
theorem R_sets {α : Type} {k : Kd α} {e : Nat} {ok : Nat → Prop} {u : Value} {xs : List α} (ht : ∀ q, q ∈ e :: k.E → q ≠ t) :
  ∀ (vs : List Value) (n : Nat) (w : World) (cs : Array Value), w.heap[g]? = some (.cells cs t (0, 0)) → Kd.R k e w b ok u xs → Kd.R k e (putL w g n vs) b ok u xs
 | [], _, _, _, _, h => h
 | v :: vs, n, w, cs, hb, h => R_sets ht vs (n + 1) _ _ (bU hb n v rfl) (Kd.R_set h hb ht n v)
theorem below_sets (hg : w0.heap.size ≤ g) : ∀ (vs : List Value) (n : Nat) (w : World), Below w0.heap.size w0 w → Below w0.heap.size w0 (putL w g n vs)
 | [], _, _, h => h
 | v :: vs, n, w, h => below_sets hg vs (n + 1) _ (h.setCell hg v)
theorem blk_sets_far {g' : Nat} {o : Obj} (hne : g' ≠ g) : ∀ (vs : List Value) (n : Nat) (w : World), w.heap[g']? = some o → (putL w g n vs).heap[g']? = some o
 | [], _, _, h => h
 | v :: vs, n, w, h => blk_sets_far hne vs (n + 1) _ ((Below.heap_setCell w ⟨g, n, none⟩ v g' hne).trans h)
theorem putL_row : ∀ (vs : List Value) (n : Nat) (w : World) (cs : Array Value), w.heap[g]? = some (.cells cs t (0, 0)) → n + vs.length ≤ cs.size → w.setRow g (cs.toList.take n ++ vs ++ cs.toList.drop (n + vs.length)).toArray = putL w g n vs
 | [], n, w, cs, h, _ => by
  rw [List.append_nil, List.length_nil, Nat.add_zero, List.take_append_drop, Array.toArray_toList]
  exact setRow_self w g cs t (0, 0) h
 | v :: vs, n, w, cs, h, hl => by
  have h1 : (w.setCell ⟨g, n, none⟩ v).heap[g]? = some (.cells (cs.setIfInBounds n v) t (0, 0)) := bU h n v rfl
  have ih := putL_row vs (n + 1) _ _ h1 (by simp at hl ⊢; omega)
  show _ = putL (w.setCell ⟨g, n, none⟩ v) g (n + 1) vs
  rw [← ih, setCell_eq_setRow w g n cs t (0, 0) v h, setRow_setRow]
  congr 2
  have e := list_seg_step cs.toList n v vs (by simp at hl ⊢; omega)
  rw [Array.toList_setIfInBounds]
  exact e.symm
theorem run_put {P : Program} {ty : Nat} {cs : Array Value} {n : Nat} {v : Value} (vs : List Value) (h : w.heap[g]? = some (.cells cs t (0, 0))) (hv : v.cells = vs.toArray) (hi : (P.info? ty).map (·.size) = some vs.length) (hl : n + vs.length ≤ cs.size) (h1 : vs.all (·.oneCell') = true) :
  (storeVar ty ⟨g, n, none⟩ v).run P w = .ok () (putL w g n vs) := by
 have := run_storeCells_at (P := P) g n t vs 0 cs w h (by simpa using hl) (fun v hv => List.all_eq_true.1 h1 v hv)
 rw [Nat.add_zero, putL_row vs n w cs h hl] at this
 cases hq : P.info? ty with
 | none => rw [hq] at hi; cases hi
 | some i =>
  rw [hq] at hi
  have hs : vs.length = i.size := by simpa using hi.symm
  simp [storeVar, sizeOf, typeInfo, hq, hv, hs, this]
end
structure Put (W : World) (g n : Nat) (vs : List Value) (W' : World) : Prop where
 e : W' = putL W g n vs
section
variable {W W' w w0 : World} {g t n : Nat} {cs : Array Value} {vs : List Value}
theorem sX {cs' : Array Value} (hP : Put W g n vs W') (h : Aside0 (W.heap[g]? = some (.cells cs t (0, 0)))) (e : setsL cs n vs = cs' := by simp only [setsL, List.setIfInBounds_toArray, List.set_cons_zero, List.set_cons_succ]; rfl) : Aside0 (W'.heap[g]? = some (.cells cs' t (0, 0))) := ⟨by rw [hP.e, ← e]; exact blk_sets vs n W cs h.out⟩
theorem sB {g' t' : Nat} {cs' : Array Value} (hP : Put W g n vs W') (h : Aside0 (W.heap[g]? = some (.cells cs t (0, 0)))) (h' : Aside0 (W.heap[g']? = some (.cells cs' t' (0, 0)))) (hne : t' ≠ t := by decide) : Aside0 (W'.heap[g']? = some (.cells cs' t' (0, 0))) := ⟨by rw [hP.e]; exact blk_sets_far (blk_ne h'.out h.out hne) vs n W h'.out⟩
theorem sM {g' : Nat} {o : Obj} (hP : Put W g n vs W') (hne : Aside0 (g' ≠ g)) (h' : Aside0 (W.heap[g']? = some o)) : Aside0 (W'.heap[g']? = some o) := ⟨by rw [hP.e]; exact blk_sets_far hne.out vs n W h'.out⟩
theorem sN {g' : Nat} {o : Obj} (hP : Put W g n vs W') (hne : Aside0 (g ≠ g')) (h' : Aside0 (W.heap[g']? = some o)) : Aside0 (W'.heap[g']? = some o) := ⟨by rw [hP.e]; exact blk_sets_far hne.out.symm vs n W h'.out⟩
theorem sR {α : Type} {k : Kd α} {e b : Nat} {ok : Nat → Prop} {u : Value} {xs : List α} (hP : Put W g n vs W') (h : Aside0 (W.heap[g]? = some (.cells cs t (0, 0)))) (hR : Aside0 (Kd.R k e W b ok u xs)) (ht : ∀ q, q ∈ e :: k.E → q ≠ t := by decide) : Aside0 (Kd.R k e W' b ok u xs) := ⟨by rw [hP.e]; exact R_sets ht vs n W cs h.out hR.out⟩
theorem vre {α : Type} {d : Kd α} {e b b' : Nat} {ok : Nat → Prop} {v : Value} {xs : List α} (h : d.V e W b ok v xs) : d.V e W b' ok v xs := h
theorem sW (hP : Put W g n vs W') (hg : Aside0 (w.heap.size ≤ g)) (h : Aside0 (Below w.heap.size w W)) : Aside0 (Below w.heap.size w W') := ⟨by rw [hP.e]; exact below_sets hg.out vs n W h.out⟩
end
section
variable {P : Program} {ops : Array Oper} {rest : List Oper} {o : Oper} {a : Act} {Q : Exit → Act → World → Prop} {W : World}
theorem gB (N : Tmp) (cs : Array Value) (t : TypeId) (h : ∀ g, g = W.heap.size → ∀ w1, Aside0 (w1.heap[g]? = some (.cells cs t (0, 0))) → Below W.heap.size W w1 → wpList P ops Q rest (a.put o.dst (.pointer (some ⟨g, 0, none⟩))) w1)
  (hd : o.dst = some N := by with_reducible rfl) (hgd : o.guard = none := by rfl) (hrun : (execOp a.eval o).run P W = .ok (.value (.pointer (some ⟨W.heap.size, 0, none⟩))) (W.alloc (.cells cs t (0, 0))) := by first | (go_simp; done) | (go_simp; rfl)) : wpList P ops Q (o :: rest) a W :=
 box_event hgd hd hrun fun g hg w1 hbox hb => h g hg w1 ⟨hbox⟩ hb
theorem gC (N : Option Tmp) {f : FuncId} {fn : Func} (hf : P.funcs[f]? = some fn) (args : Array Value) {xs : Array Operand} {ts : Array TypeId} (h : Calls P f args W fun e w' => ∃ v, e = .returned v ∧ wpList P ops Q rest (a.put N v) w')
  (hop : o.op = .call { callee := .value (.func f), args := xs, argTypes := ts } := by with_reducible rfl) (hd : o.dst = N := by rfl) (hg : o.guard = none := by rfl) (hname : (fn.name == "runtime.NumGoroutine") = false := by kernel_rfl) (hb : fn.body.isSome = true := by rfl)
  (hargs : xs.map a.eval = args := by (try simp only [List.map_toArray, List.map_cons, List.map_nil]); first | done | rfl) : wpList P ops Q (o :: rest) a W := goesL_ N hd hg hf hname hb args hop hargs h
theorem gS {g t : Nat} {cs : Array Value} (B : Aside0 (W.heap[g]? = some (.cells cs t (0, 0)))) (n : Nat) (vs : List Value) {ty : TypeId} {p : Tmp} {x : Operand} (h : ∀ W', Put W g n vs W' → wpList P ops Q rest a W')
  (ho : o.op = .store ty (.tmp p) x := by with_reducible rfl) (hp : a.eval (.tmp p) = .pointer (some ⟨g, n, none⟩) := by rfl) (hv : (a.eval x).cells = vs.toArray := by rfl) (hi : (P.info? ty).map (·.size) = some vs.length := by kernel_rfl) (hl : (n + vs.length).ble cs.size = true := by rfl) (h1 : vs.all (·.oneCell') = true := by rfl) (hN : o.dst = none := by rfl) (hgd : o.guard = none := by rfl) : wpList P ops Q (o :: rest) a W :=
 store_event hgd ho hN (by unfold execOp; simp only [ho, hp, Instr.storeAt, Instr.sureAddr, Sem.run_bind, Sem.run_pure, Result.andThen_ok, run_put vs B.out hv hi (Nat.le_of_ble_eq_true hl) h1]) fun W' hW => h W' ⟨hW⟩
end
def z (n m : Nat) : Array Bool := ((List.range n).map fun i => m.testBit i).toArray
section
variable {P : Program} {ops : Array Oper} {Q : Exit → Act → World → Prop} {md : Region.Mode} {S : World → Prop} {ds : List Nat} {oi : Oper} {v : Value} {fuel : Nat} {l : Array Bool} {a : Act} {w : World} {a' : Act}
theorem nm (h : wpAnyLast P md ops Q S ds fuel l a' w) {N : Option Tmp} {b : Act} (ha : b.put N v = a' := by simp only [Act.put, List.setIfInBounds_toArray, List.set_cons_zero, List.set_cons_succ, i64_w, i32_w]; rfl) : wpAnyLast P md ops Q S ds fuel l (b.put N v) w := by rw [ha]; exact h
theorem oS1 {id : Nat} (n : Nat) (S : World → Prop) (ds : List Nat) (hS : S w.drew) (h : S w.drew → wpAnyLast P .any ops Q S ds n (z n 0) a w.drew) (hm : P.follows .mixedOrders = true := by kernel_rfl) (hn : ops.size = n := by rfl) (hl : Array.replicate n false = z n 0 := by kernel_rfl) : (Code.region id ops true).wp P Q a w := start_ (z n 0) hm hn hl hS h
theorem oC (i : Nat) (N : Option Tmp) (l' : Array Bool) {f : FuncId} {fn : Func} (hf : P.funcs[f]? = some fn) (args : Array Value) {xs : Array Operand} {ts : Array TypeId}
  (h : Calls P f args w fun e w' => ∃ v, e = .returned v ∧ S w' ∧ (S w' → wpAnyLast P md ops Q S ds fuel l' (a.put N v) w'))
  (hi : ops[i]? = some oi := by rfl) (hN : oi.dst = N := by rfl) (hop : oi.op = .call { callee := .value (.func f), args := xs, argTypes := ts } := by rfl) (hc : readyB md ops l l' i = true := by kernel_rfl) (hd : i ∉ ds := by decide) (hw : Region.wanted oi (yielded ops a.tmps) = true := by rfl)
  (hname : (fn.name == "runtime.NumGoroutine") = false := by kernel_rfl) (hb : fn.body.isSome = true := by rfl) (hargs : xs.map a.eval = args := by (try simp only [List.map_toArray, List.map_cons, List.map_nil]); first | done | rfl) : wpAnyLast P md ops Q S ds (fuel + 1) l a w :=
 one_ l' hi hN hc hd fun K hK => goes_ hf hname hb args hw hN hop hargs (h.mono fun e w' ⟨v, he, hs, hk⟩ => ⟨v, he, hK.out _ _ hs hk⟩)
theorem oS (i : Nat) (l' : Array Bool) {g t : Nat} {cs : Array Value} (B : Aside0 (w.heap[g]? = some (.cells cs t (0, 0)))) (n : Nat) (vs : List Value) {ty : TypeId} {p : Tmp} {x : Operand} (h : ∀ W', Put w g n vs W' → S W' ∧ (S W' → wpAnyLast P md ops Q S ds fuel l' a W'))
  (hi : ops[i]? = some oi := by rfl) (ho : oi.op = .store ty (.tmp p) x := by rfl) (hp : a.eval (.tmp p) = .pointer (some ⟨g, n, none⟩) := by rfl) (hv : (a.eval x).cells = vs.toArray := by rfl) (hty : (P.info? ty).map (·.size) = some vs.length := by kernel_rfl) (hl : (n + vs.length).ble cs.size = true := by rfl) (h1 : vs.all (·.oneCell') = true := by rfl) (hN : oi.dst = none := by rfl) (hc : readyB md ops l l' i = true := by kernel_rfl) (hd : i ∉ ds := by decide) (hw : Region.wanted oi (yielded ops a.tmps) = true := by rfl) : wpAnyLast P md ops Q S ds (fuel + 1) l a w :=
 one_ l' hi hN hc hd fun K hK => skip_ hw hN (by unfold execOp; simp only [ho, hp, Instr.storeAt, Instr.sureAddr, Sem.run_bind, Sem.run_pure, Result.andThen_ok, run_put vs B.out hv hty (Nat.le_of_ble_eq_true hl) h1]) (hK.out _ _ (h _ ⟨rfl⟩).1 (h _ ⟨rfl⟩).2)
theorem lS (i : Nat) (l' : Array Bool) {g t : Nat} {cs : Array Value} (B : Aside0 (w.heap[g]? = some (.cells cs t (0, 0)))) (n : Nat) (vs : List Value) {ty : TypeId} {p : Tmp} {x : Operand} (h : ∀ W', Put w g n vs W' → wpAnyLast P md ops Q S ds fuel l' a W')
  (hi : ops[i]? = some oi := by rfl) (ho : oi.op = .store ty (.tmp p) x := by rfl) (hp : a.eval (.tmp p) = .pointer (some ⟨g, n, none⟩) := by rfl) (hv : (a.eval x).cells = vs.toArray := by rfl) (hty : (P.info? ty).map (·.size) = some vs.length := by kernel_rfl) (hl : (n + vs.length).ble cs.size = true := by rfl) (h1 : vs.all (·.oneCell') = true := by rfl) (hN : oi.dst = none := by rfl) (hc : readyB md ops l l' i = true := by kernel_rfl) (hd : i ∈ ds := by decide) (hw : Region.wanted oi (yielded ops a.tmps) = true := by rfl) : wpAnyLast P md ops Q S ds (fuel + 1) l a w :=
 last_ l' hi hN hc hd fun K hK => skip_ hw hN (by unfold execOp; simp only [ho, hp, Instr.storeAt, Instr.sureAddr, Sem.run_bind, Sem.run_pure, Result.andThen_ok, run_put vs B.out hv hty (Nat.le_of_ble_eq_true hl) h1]) (hK.out _ _ (h _ ⟨rfl⟩))
end
end Go.Proofs.YtjkfkiebhgkolaaGreatDoor.PB
end

section
namespace Go.Proofs.YtjkfkiebhgkolaaGreatDoor.Opn
open Go.ChangeShapes Go.WideShapes Go.Deep Go.Proofs.YtjkfkiebhgkolaaGreatDoorW.PrintWords
set_option linter.unusedVariables false
def Opn {α : Type} (P : Program) (w : World) (t : TypeId) (d : Kd α) (wf : α → Prop) : Prop :=
  ∀ (H : Type) (enc : TypeId × Value → H) (base : Nat) (spare : Nat → Bool) (held : Bool) (fuel : Nat) (cs : List Value) (x : DataW H × List MemPlace),
    DataW.trod enc P w base spare held fuel t cs = some x → (∀ n ∈ x.1.weights P t, n ≤ reachBytes) → ∃ a : α, d.K w a cs ∧ wf a
section
variable {P : Program} {w : World}
theorem int {t : TypeId} {k : IntKind} (hu : P.underlying t = some (.int k)) : Opn P w t (Kd.int k) (fun n => (Lit.int k n).wf = true) := by
  intro H enc base spare held fuel cs x h _
  obtain ⟨n, rfl, _, hw⟩ := DataW.trod_int hu h
  exact ⟨n, rfl, hw⟩
theorem bool {t : TypeId} (hu : P.underlying t = some .bool) : Opn P w t Kd.bool (fun _ => True) := by
  intro H enc base spare held fuel cs x h _
  obtain ⟨b, rfl, _⟩ := DataW.trod_bool hu h
  exact ⟨b, rfl, trivial⟩
theorem string {t : TypeId} (hu : P.underlying t = some .string) : Opn P w t Kd.string (fun s => s.size ≤ 140737488351232) := by
  intro H enc base spare held fuel cs x h hz
  obtain ⟨s, rfl, rfl, _⟩ := DataW.trod_string hu h
  refine ⟨s, rfl, ?_⟩
  have := hz s.data.toList.length (by simp [DataW.weights])
  rw [data_length] at this
  exact this
theorem weightsAll_mem {H : Type} {e : TypeId} : ∀ {ds : List (DataW H)} {d : DataW H}, d ∈ ds → ∀ n ∈ d.weights P e, n ∈ DataW.weightsAll P e ds
  | d0 :: ds, d, hd, n, hn => by
    simp only [DataW.weightsAll, List.mem_append]
    rcases List.mem_cons.1 hd with rfl | hd
    · exact .inl hn
    · exact .inr (weightsAll_mem hd n hn)
theorem slice {α : Type} {t e : TypeId} {d : Kd α} {wf : α → Prop} (hu : P.underlying t = some (.slice e)) (hc : P.cellsOf e = d.sz) {B : Nat} (hB : P.bytesOf e = B) (ho : Opn P w e d wf) :
    Opn P w t (Kd.slice e d) (fun xs => xs.length * B ≤ 140737488351232 ∧ ∀ x ∈ xs, wf x) := by
  intro H enc base spare held fuel cs x h hz
  rcases open_slice hu h with ⟨rfl, rfl⟩ | ⟨a, len, cap, m, n, D, Pl, rfl, hb, hl, hm, hmm, rfl, hel⟩
  · exact ⟨[], ⟨none, 0, rfl, Nat.le_refl _, Kd.C_nil _ _⟩, by simp, by intro x hx; cases hx⟩
  · simp only [DataW.weights, hu, List.mem_cons, List.mem_append] at hz
    have hlm : len ≤ m := by rw [hmm]; split <;> omega
    have hall : ∀ i, i < len → ∃ a' : α, (∃ cs', w.cells? base (a.add (i * P.cellsOf e)) (P.cellsOf e) = some cs' ∧ d.K w a' cs') ∧ wf a' := fun i hi => by
      obtain ⟨cs', h1, h2⟩ := hel i (by omega)
      obtain ⟨a', h3, h4⟩ := ho H enc base spare held n cs' _ h2 (fun q hq => hz q (.inr (.inl (weightsAll_mem (List.mem_map.2 ⟨i, List.mem_range.2 hi, rfl⟩) q hq))))
      exact ⟨a', ⟨cs', h1, h3⟩, h4⟩
    obtain ⟨xs, hxs, hx⟩ : ∃ xs : List α, xs.length = len ∧ ∀ i, ∀ h : i < xs.length, (∃ cs', w.cells? base (a.add (i * P.cellsOf e)) (P.cellsOf e) = some cs' ∧ d.K w xs[i] cs') ∧ wf xs[i] := by
      clear hz hel hlm hmm hm hl h
      induction len with
      | zero => exact ⟨[], rfl, fun i h => absurd h (by simp)⟩
      | succ q ih =>
        obtain ⟨xs, h1, h2⟩ := ih (fun i hi => hall i (by omega))
        obtain ⟨a', h3⟩ := hall q (by omega)
        refine ⟨xs ++ [a'], by simp [h1], fun i h => ?_⟩
        by_cases hi : i < xs.length
        · rw [List.getElem_append_left hi]; exact h2 i hi
        · have : i = q := by simp at h; omega
          subst this
          rw [List.getElem_append_right (by omega)]
          simpa using h3
    refine ⟨xs, ⟨some a, cap, by rw [hxs], by omega, rfl, by have : cap ≤ 9223372036854775807 := hm; omega, fun hp => ⟨a, rfl, fun i p hp => ?_⟩⟩, ?_, ?_⟩
    · have hi : i < xs.length := (List.getElem?_eq_some_iff.1 hp).1
      have hpe : p = xs[i] := by rw [List.getElem?_eq_getElem hi] at hp; exact (Option.some.inj hp).symm
      obtain ⟨⟨cs', h1, h2⟩, _⟩ := hx i hi
      rw [hc] at h1
      obtain ⟨_, hcl, hat⟩ := World.cells?_some h1
      refine ⟨cs', by rw [hcl], by rw [hpe]; exact h2, fun j u hu => ?_⟩
      have hj : j < d.sz := by have := (List.getElem?_eq_some_iff.1 hu).1; omega
      have := hat j hj
      rw [← Go.Deep.add_add, this, hu]
    · have := hz _ (.inl rfl)
      rw [hB] at this
      simp only [List.length_map, List.length_range] at this
      rw [hxs]
      exact Nat.le_trans (Nat.mul_le_mul_right _ (by omega)) this
    · intro x hxm
      obtain ⟨i, hi, rfl⟩ := List.mem_iff_getElem.1 hxm
      exact (hx i hi).2
end
end Go.Proofs.YtjkfkiebhgkolaaGreatDoor.Opn
end

section
namespace Go.Proofs.YtjkfkiebhgkolaaGreatDoor.PB
open Go.Proofs.YtjkfkiebhgkolaaGreatDoorW.PrintWords
theorem Ev.pos {α : Type} {c : Prop} [Decidable c] {A B : Nat → Option α} {r : α} (h : c) (k : Ev A r) : Ev (fun n => if c then A n else B n) r := by
  obtain ⟨K, hK⟩ := k
  exact ⟨K, fun n hn => by show (if c then A n else B n) = _; rw [if_pos h]; exact hK n hn⟩
theorem Ev.neg {α : Type} {c : Prop} [Decidable c] {A B : Nat → Option α} {r : α} (h : ¬ c) (k : Ev B r) : Ev (fun n => if c then A n else B n) r := by
  obtain ⟨K, hK⟩ := k
  exact ⟨K, fun n hn => by show (if c then A n else B n) = _; rw [if_neg h]; exact hK n hn⟩
theorem Ev.ite {α : Type} {c : Prop} [Decidable c] {A B : Nat → Option α} {r s : α} (h1 : c → Ev A r) (h2 : ¬ c → Ev B s) : Ev (fun n => if c then A n else B n) (if c then r else s) := by
  by_cases h : c
  · rw [if_pos h]; exact Ev.pos h (h1 h)
  · rw [if_neg h]; exact Ev.neg h (h2 h)
theorem ev_val {α : Type} {g : Nat → Option α} {a b : α} (h : Ev g a) (e : a = b) : Ev g b := e ▸ h
end Go.Proofs.YtjkfkiebhgkolaaGreatDoor.PB
end

section
namespace Go.Proofs
open Go.Shelf
def Tryz.lays161_ren : Go.Shelf.Ren := ⟨fun | 161 => 80 | 231 => 129 | 227 => 130 | 233 => 131 | 235 => 132 | 228 => 157 | 197 => 93 | 151 => 158 | 260 => 137 | 152 => 171 | 137 => 94 | 119 => 91 | 224 => 169 | 225 => 168 | 217 => 138 | 266 => 160 | n => n, fun | 9 => 9 | 4 => 4 | 3 => 3 | 5 => 5 | 117 => 179 | 116 => 178 | 0 => 0 | 124 => 182 | 105 => 132 | 21 => 21 | 119 => 203 | 46 => 138 | 139 => 206 | 138 => 205 | n => n, fun | 3 => 0 | 4 => 1 | n => n⟩
theorem Tryz.lays161 : Go.Proofs.Lays.n161 Tryz.prog Tryz.lays161_ren := {
  mixed := by kernel_rfl
  f119 := Tryz.func91.trans (congrArg some (by kernel_rfl))
  f137 := Tryz.func94.trans (congrArg some (by kernel_rfl))
  f151 := Tryz.func158.trans (congrArg some (by kernel_rfl))
  f152 := Tryz.func171.trans (congrArg some (by kernel_rfl))
  f161 := Tryz.func80.trans (congrArg some (by kernel_rfl))
  f197 := Tryz.func93.trans (congrArg some (by kernel_rfl))
  f217 := Tryz.func138.trans (congrArg some (by kernel_rfl))
  f224 := Tryz.func169.trans (congrArg some (by kernel_rfl))
  f225 := Tryz.func168.trans (congrArg some (by kernel_rfl))
  f227 := Tryz.func130.trans (congrArg some (by kernel_rfl))
  f228 := Tryz.func157.trans (congrArg some (by kernel_rfl))
  f231 := Tryz.func129.trans (congrArg some (by kernel_rfl))
  f233 := Tryz.func131.trans (congrArg some (by kernel_rfl))
  f235 := Tryz.func132.trans (congrArg some (by kernel_rfl))
  f260 := Tryz.func137.trans (congrArg some (by kernel_rfl))
  f266 := Tryz.func160.trans (congrArg some (by kernel_rfl))
  t0 := Tryz.underlying0
  a0 := Tryz.isAgg0
  z0 := Tryz.sizeOf0
  v0 := Tryz.zeroValue0
  t3 := Tryz.underlying3
  a3 := Tryz.isAgg3
  z3 := Tryz.sizeOf3
  v3 := Tryz.zeroValue3
  t4 := Tryz.underlying4
  a4 := Tryz.isAgg4
  z4 := Tryz.sizeOf4
  v4 := Tryz.zeroValue4
  t5 := Tryz.underlying5
  a5 := Tryz.isAgg5
  z5 := Tryz.sizeOf5
  v5 := Tryz.zeroValue5
  t9 := Tryz.underlying9
  a9 := Tryz.isAgg9
  z9 := Tryz.sizeOf9
  v9 := Tryz.zeroValue9
  t21 := Tryz.underlying21
  a21 := Tryz.isAgg21
  z21 := Tryz.sizeOf21
  v21 := Tryz.zeroValue21
  t46 := Tryz.underlying138
  a46 := Tryz.isAgg138
  z46 := Tryz.sizeOf138
  v46 := Tryz.zeroValue138
  t105 := Tryz.underlying132
  a105 := Tryz.isAgg132
  z105 := Tryz.sizeOf132
  v105 := Tryz.zeroValue132
  t116 := Tryz.underlying178
  a116 := Tryz.isAgg178
  z116 := Tryz.sizeOf178
  t117 := Tryz.underlying179
  a117 := Tryz.isAgg179
  z117 := Tryz.sizeOf179
  v117 := Tryz.zeroValue179
  t119 := Tryz.underlying203
  a119 := Tryz.isAgg203
  z119 := Tryz.sizeOf203
  t124 := Tryz.underlying182
  a124 := Tryz.isAgg182
  z124 := Tryz.sizeOf182
  v124 := Tryz.zeroValue182
  t138 := Tryz.underlying205
  a138 := Tryz.isAgg205
  z138 := Tryz.sizeOf205
  v138 := Tryz.zeroValue205
  t139 := Tryz.underlying206
  a139 := Tryz.isAgg206
  z139 := Tryz.sizeOf206
  v139 := Tryz.zeroValue206
  g3 := by kernel_rfl
  g4 := by kernel_rfl }
def Tryz.lays119_ren : Go.Shelf.Ren := ⟨fun | 119 => 91 | n => n, fun | 21 => 21 | 4 => 4 | n => n, fun | n => n⟩
theorem Tryz.lays119 : Go.Proofs.Lays.n119 Tryz.prog Tryz.lays119_ren := {
  mixed := by kernel_rfl
  f119 := Tryz.func91.trans (congrArg some (by kernel_rfl))
  t4 := Tryz.underlying4
  a4 := Tryz.isAgg4
  z4 := Tryz.sizeOf4
  v4 := Tryz.zeroValue4
  t21 := Tryz.underlying21
  a21 := Tryz.isAgg21
  z21 := Tryz.sizeOf21
  v21 := Tryz.zeroValue21 }
theorem Tryz.utf8_ValidRune (r : Int) (w : World) :
    Calls Tryz.prog 91 #[.int .i32 r] w fun e w' => e = .returned (.bool (Lib.validRune r)) ∧ w' = w := Any.utf8_ValidRune Tryz.lays119 r w
def Tryz.lays120_ren : Go.Shelf.Ren := ⟨fun | 120 => 92 | n => n, fun | 5 => 5 | 4 => 4 | n => n, fun | n => n⟩
theorem Tryz.lays120 : Go.Proofs.Lays.n120 Tryz.prog Tryz.lays120_ren := {
  mixed := by kernel_rfl
  f120 := Tryz.func92.trans (congrArg some (by kernel_rfl))
  t4 := Tryz.underlying4
  a4 := Tryz.isAgg4
  z4 := Tryz.sizeOf4
  v4 := Tryz.zeroValue4
  t5 := Tryz.underlying5
  a5 := Tryz.isAgg5
  z5 := Tryz.sizeOf5
  v5 := Tryz.zeroValue5 }
theorem Tryz.utf8_RuneStart (b : Int) (w : World) (h0 : 0 ≤ b) (h1 : b < 256) :
    Calls Tryz.prog 92 #[.int .u8 b] w fun e w' => e = .returned (.bool (Lib.runeStart b)) ∧ w' = w := Any.utf8_RuneStart Tryz.lays120 b w h0 h1
def Tryz.lays137_ren : Go.Shelf.Ren := ⟨fun | 137 => 94 | 217 => 138 | 266 => 160 | n => n, fun | 9 => 9 | 5 => 5 | 3 => 3 | n => n, fun | n => n⟩
theorem Tryz.lays137 : Go.Proofs.Lays.n137 Tryz.prog Tryz.lays137_ren := {
  mixed := by kernel_rfl
  f137 := Tryz.func94.trans (congrArg some (by kernel_rfl))
  f217 := Tryz.func138.trans (congrArg some (by kernel_rfl))
  f266 := Tryz.func160.trans (congrArg some (by kernel_rfl))
  t3 := Tryz.underlying3
  a3 := Tryz.isAgg3
  z3 := Tryz.sizeOf3
  v3 := Tryz.zeroValue3
  t5 := Tryz.underlying5
  a5 := Tryz.isAgg5
  z5 := Tryz.sizeOf5
  v5 := Tryz.zeroValue5
  t9 := Tryz.underlying9
  a9 := Tryz.isAgg9
  z9 := Tryz.sizeOf9
  v9 := Tryz.zeroValue9 }
open Go.RowKit in

theorem Tryz.strings_IndexByte (s : ByteArray) (c : Int) (w : World) :
    Calls Tryz.prog 94 #[.string s, .int .u8 c] w fun e w' => e = .returned (.int .i64 (Lib.indexByte s.data.toList c.toNat.toUInt8)) ∧ w' = w := Any.strings_IndexByte Tryz.lays137 s c w
def Tryz.lays138_ren : Go.Shelf.Ren := ⟨fun | 138 => 95 | 195 => 139 | 218 => 140 | 143 => 125 | 219 => 156 | 217 => 138 | 225 => 168 | 224 => 169 | 267 => 170 | 266 => 160 | 314 => 173 | n => n, fun | 9 => 9 | 3 => 3 | 4 => 4 | 5 => 5 | 0 => 0 | 46 => 138 | 146 => 189 | 51 => 188 | n => n, fun | 1 => 2 | n => n⟩
theorem Tryz.lays138 : Go.Proofs.Lays.n138 Tryz.prog Tryz.lays138_ren := {
  mixed := by kernel_rfl
  f138 := Tryz.func95.trans (congrArg some (by kernel_rfl))
  f143 := Tryz.func125.trans (congrArg some (by kernel_rfl))
  f195 := Tryz.func139.trans (congrArg some (by kernel_rfl))
  f217 := Tryz.func138.trans (congrArg some (by kernel_rfl))
  f218 := Tryz.func140.trans (congrArg some (by kernel_rfl))
  f219 := Tryz.func156.trans (congrArg some (by kernel_rfl))
  f224 := Tryz.func169.trans (congrArg some (by kernel_rfl))
  f225 := Tryz.func168.trans (congrArg some (by kernel_rfl))
  f266 := Tryz.func160.trans (congrArg some (by kernel_rfl))
  f267 := Tryz.func170.trans (congrArg some (by kernel_rfl))
  f314 := Tryz.func173.trans (congrArg some (by kernel_rfl))
  t0 := Tryz.underlying0
  a0 := Tryz.isAgg0
  z0 := Tryz.sizeOf0
  v0 := Tryz.zeroValue0
  t3 := Tryz.underlying3
  a3 := Tryz.isAgg3
  z3 := Tryz.sizeOf3
  v3 := Tryz.zeroValue3
  t4 := Tryz.underlying4
  a4 := Tryz.isAgg4
  z4 := Tryz.sizeOf4
  v4 := Tryz.zeroValue4
  t5 := Tryz.underlying5
  a5 := Tryz.isAgg5
  z5 := Tryz.sizeOf5
  v5 := Tryz.zeroValue5
  t9 := Tryz.underlying9
  a9 := Tryz.isAgg9
  z9 := Tryz.sizeOf9
  v9 := Tryz.zeroValue9
  t46 := Tryz.underlying138
  a46 := Tryz.isAgg138
  z46 := Tryz.sizeOf138
  v46 := Tryz.zeroValue138
  t51 := Tryz.underlying188
  a51 := Tryz.isAgg188
  z51 := Tryz.sizeOf188
  v51 := Tryz.zeroValue188
  t146 := Tryz.underlying189
  a146 := Tryz.isAgg189
  z146 := Tryz.sizeOf189
  v146 := Tryz.zeroValue189
  g1 := by kernel_rfl }
open Go.RowKit Go.Lib in

theorem Tryz.strings_Count_one (s : ByteArray) (c : UInt8) (w : World) :
    Calls Tryz.prog 95 #[.string s, .string ⟨#[c]⟩] w fun e w' => e = .returned (.int .i64 (Lib.countByte s.data.toList c)) ∧ w' = w := Any.strings_Count_one Tryz.lays138 s c w
open Go.RowKit Go.Lib in

theorem Tryz.strings_Count (s sub : ByteArray) (m : Int) (w : World) (hs : s.size < 4294967281) (hm : w.cell? ⟨2, 0, none⟩ = some (.int .i64 m)) (h2 : 2 ≤ sub.size) :
    Calls Tryz.prog 95 #[.string s, .string sub] w fun e w' => e = .returned (.int .i64 (Lib.countB s sub)) ∧ w' = w := Any.strings_Count Tryz.lays138 s sub m w hs hm h2
def Tryz.lays197_ren : Go.Shelf.Ren := ⟨fun | 197 => 93 | 260 => 137 | n => n, fun | 9 => 9 | 21 => 21 | 3 => 3 | 4 => 4 | 5 => 5 | 105 => 132 | 119 => 203 | 0 => 0 | 46 => 138 | 139 => 206 | 138 => 205 | n => n, fun | 3 => 0 | 4 => 1 | n => n⟩
theorem Tryz.lays197 : Go.Proofs.Lays.n197 Tryz.prog Tryz.lays197_ren := {
  mixed := by kernel_rfl
  f197 := Tryz.func93.trans (congrArg some (by kernel_rfl))
  f260 := Tryz.func137.trans (congrArg some (by kernel_rfl))
  t0 := Tryz.underlying0
  a0 := Tryz.isAgg0
  z0 := Tryz.sizeOf0
  v0 := Tryz.zeroValue0
  t3 := Tryz.underlying3
  a3 := Tryz.isAgg3
  z3 := Tryz.sizeOf3
  v3 := Tryz.zeroValue3
  t4 := Tryz.underlying4
  a4 := Tryz.isAgg4
  z4 := Tryz.sizeOf4
  v4 := Tryz.zeroValue4
  t5 := Tryz.underlying5
  a5 := Tryz.isAgg5
  z5 := Tryz.sizeOf5
  v5 := Tryz.zeroValue5
  t9 := Tryz.underlying9
  a9 := Tryz.isAgg9
  z9 := Tryz.sizeOf9
  v9 := Tryz.zeroValue9
  t21 := Tryz.underlying21
  a21 := Tryz.isAgg21
  z21 := Tryz.sizeOf21
  v21 := Tryz.zeroValue21
  t46 := Tryz.underlying138
  a46 := Tryz.isAgg138
  z46 := Tryz.sizeOf138
  v46 := Tryz.zeroValue138
  t105 := Tryz.underlying132
  a105 := Tryz.isAgg132
  z105 := Tryz.sizeOf132
  v105 := Tryz.zeroValue132
  t119 := Tryz.underlying203
  a119 := Tryz.isAgg203
  z119 := Tryz.sizeOf203
  t138 := Tryz.underlying205
  a138 := Tryz.isAgg205
  z138 := Tryz.sizeOf205
  v138 := Tryz.zeroValue205
  t139 := Tryz.underlying206
  a139 := Tryz.isAgg206
  z139 := Tryz.sizeOf206
  v139 := Tryz.zeroValue206
  g3 := by kernel_rfl
  g4 := by kernel_rfl }
def Tryz.lays105_ren : Go.Shelf.Ren := ⟨fun | 105 => 49 | 212 => 98 | 99 => 99 | 165 => 100 | 166 => 101 | 170 => 102 | 169 => 103 | 263 => 142 | 264 => 143 | 206 => 144 | 240 => 145 | 241 => 146 | 276 => 162 | 277 => 163 | n => n, fun | 9 => 9 | 3 => 3 | 4 => 4 | 20 => 20 | 0 => 0 | 46 => 138 | 109 => 139 | 5 => 5 | 72 => 143 | 76 => 147 | 51 => 188 | 146 => 189 | 53 => 25 | 148 => 191 | 70 => 141 | 37 => 111 | 75 => 146 | 127 => 193 | 164 => 207 | 80 => 150 | n => n, fun | n => n⟩
theorem Tryz.lays105 : Go.Proofs.Lays.n105 Tryz.prog Tryz.lays105_ren := {
  mixed := by kernel_rfl
  f99 := Tryz.func99.trans (congrArg some (by kernel_rfl))
  f105 := Tryz.func49.trans (congrArg some (by kernel_rfl))
  f165 := Tryz.func100.trans (congrArg some (by kernel_rfl))
  f166 := Tryz.func101.trans (congrArg some (by kernel_rfl))
  f169 := Tryz.func103.trans (congrArg some (by kernel_rfl))
  f170 := Tryz.func102.trans (congrArg some (by kernel_rfl))
  f206 := Tryz.func144.trans (congrArg some (by kernel_rfl))
  f212 := Tryz.func98.trans (congrArg some (by kernel_rfl))
  f240 := Tryz.func145.trans (congrArg some (by kernel_rfl))
  f241 := Tryz.func146.trans (congrArg some (by kernel_rfl))
  f263 := Tryz.func142.trans (congrArg some (by kernel_rfl))
  f264 := Tryz.func143.trans (congrArg some (by kernel_rfl))
  f276 := Tryz.func162.trans (congrArg some (by kernel_rfl))
  f277 := Tryz.func163.trans (congrArg some (by kernel_rfl))
  t0 := Tryz.underlying0
  a0 := Tryz.isAgg0
  z0 := Tryz.sizeOf0
  v0 := Tryz.zeroValue0
  t3 := Tryz.underlying3
  a3 := Tryz.isAgg3
  z3 := Tryz.sizeOf3
  v3 := Tryz.zeroValue3
  t4 := Tryz.underlying4
  a4 := Tryz.isAgg4
  z4 := Tryz.sizeOf4
  v4 := Tryz.zeroValue4
  t5 := Tryz.underlying5
  a5 := Tryz.isAgg5
  z5 := Tryz.sizeOf5
  v5 := Tryz.zeroValue5
  t9 := Tryz.underlying9
  a9 := Tryz.isAgg9
  z9 := Tryz.sizeOf9
  v9 := Tryz.zeroValue9
  t20 := Tryz.underlying20
  a20 := Tryz.isAgg20
  z20 := Tryz.sizeOf20
  v20 := Tryz.zeroValue20
  t37 := Tryz.underlying111
  a37 := Tryz.isAgg111
  z37 := Tryz.sizeOf111
  v37 := Tryz.zeroValue111
  t46 := Tryz.underlying138
  a46 := Tryz.isAgg138
  z46 := Tryz.sizeOf138
  v46 := Tryz.zeroValue138
  t51 := Tryz.underlying188
  a51 := Tryz.isAgg188
  z51 := Tryz.sizeOf188
  v51 := Tryz.zeroValue188
  t53 := Tryz.underlying25
  a53 := Tryz.isAgg25
  z53 := Tryz.sizeOf25
  v53 := Tryz.zeroValue25
  t70 := Tryz.underlying141
  a70 := Tryz.isAgg141
  z70 := Tryz.sizeOf141
  v70 := Tryz.zeroValue141
  t72 := Tryz.underlying143
  a72 := Tryz.isAgg143
  z72 := Tryz.sizeOf143
  v72 := Tryz.zeroValue143
  t75 := Tryz.underlying146
  a75 := Tryz.isAgg146
  z75 := Tryz.sizeOf146
  v75 := Tryz.zeroValue146
  t76 := Tryz.underlying147
  a76 := Tryz.isAgg147
  z76 := Tryz.sizeOf147
  v76 := Tryz.zeroValue147
  t109 := Tryz.underlying139
  a109 := Tryz.isAgg139
  z109 := Tryz.sizeOf139
  v109 := Tryz.zeroValue139
  t127 := Tryz.underlying193
  a127 := Tryz.isAgg193
  z127 := Tryz.sizeOf193
  v127 := Tryz.zeroValue193
  t146 := Tryz.underlying189
  a146 := Tryz.isAgg189
  z146 := Tryz.sizeOf189
  v146 := Tryz.zeroValue189
  t148 := Tryz.underlying191
  a148 := Tryz.isAgg191
  z148 := Tryz.sizeOf191
  v148 := Tryz.zeroValue191
  t164 := Tryz.underlying207
  a164 := Tryz.isAgg207
  z164 := Tryz.sizeOf207
  v164 := Tryz.zeroValue207 }
theorem Tryz.Builder_Extra_105 : Builder.Extra Tryz.prog Tryz.lays105_ren := {
  sizeBuilder := by kernel_rfl
  liesBuilder := by kernel_rfl
  t5 := Tryz.underlying5
  a5 := Tryz.isAgg5
  z5 := Tryz.sizeOf5
  v5 := Tryz.zeroValue5
  infoByte := by kernel_rfl
  cellsByte := by kernel_rfl
  sizeByte := by kernel_rfl
  neB5 := by decide }
open Go.RowKit Go.Lib in

theorem Tryz.strings_Repeat (s : ByteArray) (c : Nat) (w : World) (hc : c ≤ 9223372036854775807) (hlen : s.size * c ≤ 140737488355328) :
    Calls Tryz.prog 49 #[.string s, .int .i64 c] w fun e w' => e = .returned (.string ⟨(Lib.repeatL s.data.toList c).toArray⟩) ∧ Below w.heap.size w w' := Any.strings_Repeat Tryz.lays105 Tryz.Builder_Extra_105 s c w hc hlen
def Tryz.lays260_ren : Go.Shelf.Ren := ⟨fun | 260 => 137 | n => n, fun | 9 => 9 | 21 => 21 | 3 => 3 | 4 => 4 | 5 => 5 | 119 => 203 | 0 => 0 | 46 => 138 | 139 => 206 | 138 => 205 | n => n, fun | 3 => 0 | 4 => 1 | n => n⟩
theorem Tryz.lays260 : Go.Proofs.Lays.n260 Tryz.prog Tryz.lays260_ren := {
  mixed := by kernel_rfl
  f260 := Tryz.func137.trans (congrArg some (by kernel_rfl))
  t0 := Tryz.underlying0
  a0 := Tryz.isAgg0
  z0 := Tryz.sizeOf0
  v0 := Tryz.zeroValue0
  t3 := Tryz.underlying3
  a3 := Tryz.isAgg3
  z3 := Tryz.sizeOf3
  v3 := Tryz.zeroValue3
  t4 := Tryz.underlying4
  a4 := Tryz.isAgg4
  z4 := Tryz.sizeOf4
  v4 := Tryz.zeroValue4
  t5 := Tryz.underlying5
  a5 := Tryz.isAgg5
  z5 := Tryz.sizeOf5
  v5 := Tryz.zeroValue5
  t9 := Tryz.underlying9
  a9 := Tryz.isAgg9
  z9 := Tryz.sizeOf9
  v9 := Tryz.zeroValue9
  t21 := Tryz.underlying21
  a21 := Tryz.isAgg21
  z21 := Tryz.sizeOf21
  v21 := Tryz.zeroValue21
  t46 := Tryz.underlying138
  a46 := Tryz.isAgg138
  z46 := Tryz.sizeOf138
  v46 := Tryz.zeroValue138
  t119 := Tryz.underlying203
  a119 := Tryz.isAgg203
  z119 := Tryz.sizeOf203
  t138 := Tryz.underlying205
  a138 := Tryz.isAgg205
  z138 := Tryz.sizeOf205
  v138 := Tryz.zeroValue205
  t139 := Tryz.underlying206
  a139 := Tryz.isAgg206
  z139 := Tryz.sizeOf206
  v139 := Tryz.zeroValue206
  g3 := by kernel_rfl
  g4 := by kernel_rfl }
open Go.RowKit Go.Lib in

theorem Tryz.utf8_DecodeRuneInString (s : ByteArray) (w : World) (hT : Lib.Utf8Tabs 0 1 w) :
    Calls Tryz.prog 93 #[.string s] w fun e w' => e = .returned (.tuple #[.int .i32 (Lib.decodeGo s).1, .int .i64 (Lib.decodeGo s).2]) ∧ Below w.heap.size w w' := Any.utf8_DecodeRuneInString Tryz.lays197 s w hT
end Go.Proofs
end

section
namespace Go.Proofs.YtjkfkiebhgkolaaGreatDoor.PB
open Go.RowKit Go.Proofs.YtjkfkiebhgkolaaGreatDoorW.PrintWords Go.Proofs.YtjkfkiebhgkolaaGreatDoorW.PrintLast Go.Proofs.YtjkfkiebhgkolaaGreatDoorW.PrintMore
set_option linter.unusedVariables false
set_option linter.unusedSimpArgs false
def NumOk (w : World) : Prop := Lib.Utf8Tabs 0 1 w
theorem NumOk.below {w w1 : World} (h : NumOk w) (hb : Below w.heap.size w w1) : NumOk w1 :=
 ⟨fun c hc => (hb.cell (World.block_lt_of_cell? w _ (h.1 c hc))).trans (h.1 c hc), fun i hi => ⟨(hb.cell (World.block_lt_of_cell? w _ (h.2 i hi).1)).trans (h.2 i hi).1, (hb.cell (World.block_lt_of_cell? w _ (h.2 i hi).2)).trans (h.2 i hi).2⟩⟩
theorem one_byte {s : ByteArray} (h : s.size = 1) : ∃ c : UInt8, s = ⟨#[c]⟩ := by
 obtain ⟨⟨l⟩⟩ := s
 match l, h with
 | [c], _ => exact ⟨c, rfl⟩
def strings_Count.f (a0 a1 : ByteArray) : Option Int := if a1.size = 1 then some (Lib.countByte a0.data.toList (a1.data.toList.getD 0 0)) else none
theorem strings_Count.calls (a0 a1 : ByteArray) (r : Int) (w : World) (h : strings_Count.f a0 a1 = some r) :
  Calls Tryz.prog 95 #[.string a0, .string a1] w fun e w' => e = .returned (.int .i64 r) ∧ Below w.heap.size w w' := by
 unfold strings_Count.f at h
 split at h
 case isFalse => cases h
 rename_i hc
 injection h with h
 subst h
 obtain ⟨c, rfl⟩ := one_byte hc
 refine (Tryz.strings_Count_one a0 c w).mono fun e w' ⟨he, hw⟩ => ?_
 subst hw
 exact ⟨he, Below.refl _ _⟩
def strings_IndexByte.f (a0 : ByteArray) (a1 : Int) : Option Int := some (Lib.indexByte a0.data.toList a1.toNat.toUInt8)
theorem strings_IndexByte.calls (a0 : ByteArray) (a1 r : Int) (w : World) (h : strings_IndexByte.f a0 a1 = some r) :
  Calls Tryz.prog 94 #[.string a0, .int .u8 a1] w fun e w' => e = .returned (.int .i64 r) ∧ Below w.heap.size w w' := by
 have h := Option.some.inj h
 subst h
 refine (Tryz.strings_IndexByte a0 a1 w).mono fun e w' ⟨he, hw⟩ => ?_
 subst hw
 exact ⟨he, Below.refl _ _⟩
def utf8_ValidRune.f (a0 : Int) : Option Bool := some (Lib.validRune a0)
theorem utf8_ValidRune.calls (a0 : Int) (r : Bool) (w : World) (h : utf8_ValidRune.f a0 = some r) :
  Calls Tryz.prog 91 #[.int .i32 a0] w fun e w' => e = .returned (.bool r) ∧ Below w.heap.size w w' := by
 have h := Option.some.inj h
 subst h
 refine (Tryz.utf8_ValidRune a0 w).mono fun e w' ⟨he, hw⟩ => ?_
 subst hw
 exact ⟨he, Below.refl _ _⟩
def utf8_RuneStart.f (a0 : Int) : Option Bool := if 0 ≤ a0 ∧ a0 < 256 then some (Lib.runeStart a0) else none
theorem utf8_RuneStart.calls (a0 : Int) (r : Bool) (w : World) (h : utf8_RuneStart.f a0 = some r) :
  Calls Tryz.prog 92 #[.int .u8 a0] w fun e w' => e = .returned (.bool r) ∧ Below w.heap.size w w' := by
 unfold utf8_RuneStart.f at h
 split at h
 case isFalse => cases h
 rename_i hc
 injection h with h
 subst h
 refine (Tryz.utf8_RuneStart a0 w hc.1 hc.2).mono fun e w' ⟨he, hw⟩ => ?_
 subst hw
 exact ⟨he, Below.refl _ _⟩
def utf8_DecodeRuneInString.f (a0 : ByteArray) : Option (Int × Int) := some (((Lib.decodeGo a0).1 : Int), ((Lib.decodeGo a0).2 : Int))
theorem utf8_DecodeRuneInString.calls (a0 : ByteArray) (r1 r2 : Int) (w : World) (hn : NumOk w) (h : utf8_DecodeRuneInString.f a0 = some (r1, r2)) :
  Calls Tryz.prog 93 #[.string a0] w fun e w' => e = .returned (.tuple #[.int .i32 r1, .int .i64 r2]) ∧ Below w.heap.size w w' := by
 have h := Option.some.inj h
 simp only [Prod.mk.injEq] at h
 obtain ⟨rfl, rfl⟩ := h
 exact Tryz.utf8_DecodeRuneInString a0 w hn
end Go.Proofs.YtjkfkiebhgkolaaGreatDoor.PB
end

section
namespace Go.Proofs.YtjkfkiebhgkolaaGreatDoor.PB
open Go.RowKit Go.Proofs.YtjkfkiebhgkolaaGreatDoorW.PrintWords Go.Proofs.YtjkfkiebhgkolaaGreatDoorW.PrintLast Go.Proofs.YtjkfkiebhgkolaaGreatDoorW.PrintMore
attribute [local go_sem] max2_int min2_int max_two min_two max_three min_three max_four min_four   
set_option linter.unusedVariables false
set_option linter.unusedSimpArgs false
def line_Count.f (a0 : ByteArray) : Option (Int) := (strings_Count.f a0 (⟨#[10]⟩ : ByteArray)).bind fun t110 => (some (wrap64 (t110 + 1)))
set_option maxHeartbeats 8000000 in
set_option maxRecDepth 100000 in
theorem line_Count.calls (a0 : ByteArray) (r : Int) (w : World) (h : line_Count.f a0 = some r) :
  Calls Tryz.prog 72 #[.string a0] w fun e w' => e = .returned (.int .i64 r) ∧ Below w.heap.size w w' := by
 have HB := aM (Below.refl w.heap.size w)
 have H : ((strings_Count.f a0 (⟨#[10]⟩ : ByteArray)).bind fun t110 => (some (wrap64 (t110 + 1)))) = some r := h
 clear h
 replace H := Option.bind_eq_some_iff.mp H
 obtain ⟨t110, A20, H⟩ := H
 replace H : (some (wrap64 (t110 + 1))) = some r := H
 have A2 := aM A20
 clear A20
 obtain rfl := Option.some.inj H
 go_enter Tryz.func72, Tryz.ntmps72
 go_wp2_with (first | (refine yC (some 4) Tryz.func95 #[.string a0, .string (⟨#[10]⟩ : ByteArray)] ?_; (with_reducible refine (strings_Count.calls a0 (⟨#[10]⟩ : ByteArray) t110 _ A2.out).mono ?_); rintro e w3 ⟨rfl, hb⟩; refine ⟨_, rfl, ?_⟩; replace HB := yP w hb; clear hb))
 go_ret
 exact ⟨ye, by exact ey HB.out⟩
mutual
def line_Bounds.j0 : Nat → ByteArray → Int → Bool → Option (Int × Int × Int)
 | 0, _, _, _ => none
 | k + 1, x0, x1, x16 => if x16 = true then (some (0, 0, 2)) else (line_Bounds.l0 k x0 0 x1 0)
def line_Bounds.l0 : Nat → ByteArray → Int → Int → Int → Option (Int × Int × Int)
 | 0, _, _, _, _ => none
 | k + 1, x0, x7, x17, x18 => if x18 < x17 then (if 0 ≤ x7 then (if x7 ≤ (x0.size : Int) then ((strings_IndexByte.f (x0.extract (x7 : Int).toNat x0.size) 10).bind fun t175 => (line_Bounds.l0 k x0 (wrap64 (x7 + (wrap64 (t175 + 1)))) x17 (wrap64 (x18 + 1)))) else (none)) else (none)) else (if 0 ≤ x7 then (if x7 ≤ (x0.size : Int) then ((strings_IndexByte.f (x0.extract (x7 : Int).toNat x0.size) 10).bind fun t176 => (if t176 < 0 then (some (x7, (x0.size : Int), 0)) else (some (x7, wrap64 (x7 + t176), 0)))) else (none)) else (none))
end
def line_Bounds.f (k : Nat) (a0 : ByteArray) (a1 : Int) : Option (Int × Int × Int) := if a1 < 0 then (line_Bounds.j0 k a0 a1 true) else ((line_Count.f a0).bind fun t174 => (line_Bounds.j0 k a0 a1 (decide (a1 ≥ t174))))
set_option maxHeartbeats 8000000 in
set_option maxRecDepth 100000 in
theorem line_Bounds.calls (k : Nat) (a0 : ByteArray) (a1 : Int) (r1 : Int) (r2 : Int) (r3 : Int) (w : World) (h : line_Bounds.f k a0 a1 = some (r1, r2, r3)) :
  Calls Tryz.prog 44 #[.string a0, .int .i64 a1] w fun e w' => e = .returned (.tuple #[.int .i64 r1, .int .i64 r2, .int .i64 r3]) ∧ Below w.heap.size w w' := by
 have HB := aM (Below.refl w.heap.size w)
 have H : (if a1 < 0 then (line_Bounds.j0 k a0 a1 true) else ((line_Count.f a0).bind fun t174 => (line_Bounds.j0 k a0 a1 (decide (a1 ≥ t174))))) = some (r1, r2, r3) := h
 clear h
 have HC3 := aM H
 clear H
 go_enter Tryz.func44, Tryz.ntmps44
 go_upto_region 1 with (fail)
 go_cut [16] (fun v16 wc => ∃ (kq : Nat) (x16_2 : Bool), v16 = .bool x16_2 ∧ Aside0 (line_Bounds.j0 kq a0 a1 x16_2 = some (r1, r2, r3)) ∧ Aside0 (kq ≤ k) ∧ Aside0 (Below w.heap.size w wc))
 case first =>
  have H := HC3.out
  clear HC3
  by_cases c4 : a1 < 0
  ·rw [if_pos c4] at H
   have c4b0 : decide (a1 < 0) = true := decide_eq_true c4
   clear c4
   (first | rw [c4b0] | (simp only [i64_w, i32_w]; rw [c4b0]) | skip)
   have H' := aM H
   clear H
   go_wp2
   go_meet
   case rel => exact ⟨_, (true), (by first | rfl | (simp; done) | (simp [*]; done)), H', ⟨by first | omega | exact Nat.le_refl _⟩, ⟨by exact ey HB.out⟩⟩
  ·rw [if_neg c4] at H
   have c4b0 : decide (a1 < 0) = false := decide_eq_false c4
   clear c4
   (first | rw [c4b0] | (simp only [i64_w, i32_w]; rw [c4b0]) | skip)
   replace H := Option.bind_eq_some_iff.mp H
   obtain ⟨t174, A50, H⟩ := H
   replace H : (line_Bounds.j0 k a0 a1 (decide (a1 ≥ t174))) = some (r1, r2, r3) := H
   have A5 := aM A50
   clear A50
   have H' := aM H
   clear H
   go_wp2_with (first | (go_at_call 72; (with_reducible refine (line_Count.calls a0 t174 _ A5.out).mono ?_); rintro e w6 ⟨rfl, hb⟩; replace HB := yP w hb; clear hb))
   go_meet
   case rel => exact ⟨_, (decide (a1 ≥ t174)), (by first | rfl | (simp; done) | (simp [*]; done)), H', ⟨by first | omega | exact Nat.le_refl _⟩, ⟨by exact ey HB.out⟩⟩
 case rest =>
  clear HC3
  try clear p2
  try clear c4
  try clear c4b0
  obtain ⟨kq, x16_2, rfl, HA, HJ2, HB⟩ := hcut
  cases kq with
  | zero => exact absurd HA.out (by simp [line_Bounds.j0])
  | succ kj2 =>
   have H := HA.out
   clear HA
   simp only [line_Bounds.j0] at H
   by_cases c7 : x16_2 = true
   ·subst c7
    rw [if_pos rfl] at H
    simp only [Option.some.injEq, Prod.mk.injEq] at H
    obtain ⟨rfl, rfl, rfl⟩ := H
    go_wp2
    go_ret3
    exact ⟨ye, by exact ey HB.out⟩
   ·replace c7 := Bool.eq_false_iff.mpr c7
    subst c7
    rw [if_neg (show ¬ (false = true) by decide)] at H
    have H' := aM H
    clear H
    go_wp2
    go_loopg [7, 18] kj2 (fun kq v7 v18 w' => ∃ (x7_2 : Int) (x18_2 : Int), v7 = .int .i64 x7_2 ∧ v18 = .int .i64 x18_2 ∧ Aside0 (line_Bounds.l0 kq a0 x7_2 a1 x18_2 = some (r1, r2, r3)) ∧ Aside0 (kq ≤ kj2) ∧ Aside0 (Below w.heap.size w w'))
    case atStart => exact ⟨(0), (0), (by first | rfl | (simp; done) | (simp [*]; done)), (by first | rfl | (simp; done) | (simp [*]; done)), H', ⟨Nat.le_refl _⟩, ⟨by exact ey HB.out⟩⟩
    case round =>
     clear H'
     try clear p2
     try clear c4
     try clear c4b0
     try clear c7
     try clear p2
     obtain ⟨x7_2, x18_2, rfl, rfl, HA, HK2, HB⟩ := hrel
     cases gk with
     | zero => exact absurd HA.out (by simp [line_Bounds.l0])
     | succ k2 =>
      have H := HA.out
      clear HA
      simp only [line_Bounds.l0] at H
      by_cases c8 : x18_2 < a1
      ·rw [if_pos c8] at H
       have c8b0 : decide (x18_2 < a1) = true := decide_eq_true c8
       clear c8
       by_cases c9 : 0 ≤ x7_2
       ·rw [if_pos c9] at H
        have c9b0 := eq_true c9
        have c9b1 : decide (0 ≤ x7_2) = true := decide_eq_true c9
        clear c9
        by_cases c10 : x7_2 ≤ (a0.size : Int)
        ·rw [if_pos c10] at H
         have c10b0 := eq_true c10
         have c10b1 : decide (x7_2 ≤ (a0.size : Int)) = true := decide_eq_true c10
         clear c10
         replace H := Option.bind_eq_some_iff.mp H
         obtain ⟨t175, A110, H⟩ := H
         replace H : (line_Bounds.l0 k2 a0 (wrap64 (x7_2 + (wrap64 (t175 + 1)))) a1 (wrap64 (x18_2 + 1))) = some (r1, r2, r3) := H
         have A11 := aM A110
         clear A110
         have H' := aM H
         clear H
         go_wp2_with (first | (refine yC (some 24) Tryz.func94 #[.string (a0.extract (x7_2 : Int).toNat a0.size), .int .u8 10] ?_; (with_reducible refine (strings_IndexByte.calls (a0.extract (x7_2 : Int).toNat a0.size) 10 t175 _ A11.out).mono ?_); rintro e w12 ⟨rfl, hb⟩; refine ⟨_, rfl, ?_⟩; replace HB := yP w hb; clear hb))
         go_roundg k2
         case measure => have := HJ2.out; have := HK2.out; omega
         case rel => exact ⟨(wrap64 (x7_2 + (wrap64 (t175 + 1)))), (wrap64 (x18_2 + 1)), (by first | rfl | (simp; done) | (simp [*]; done)), (by first | rfl | (simp; done) | (simp [*]; done)), H', ⟨by have := HJ2.out; have := HK2.out; omega⟩, ⟨by exact ey HB.out⟩⟩
        ·rw [if_neg c10] at H
         exact absurd H (by simp)
       ·rw [if_neg c9] at H
        exact absurd H (by simp)
      ·rw [if_neg c8] at H
       have c8b0 : decide (x18_2 < a1) = false := decide_eq_false c8
       clear c8
       by_cases c13 : 0 ≤ x7_2
       ·rw [if_pos c13] at H
        have c13b0 := eq_true c13
        have c13b1 : decide (0 ≤ x7_2) = true := decide_eq_true c13
        clear c13
        by_cases c14 : x7_2 ≤ (a0.size : Int)
        ·rw [if_pos c14] at H
         have c14b0 := eq_true c14
         have c14b1 : decide (x7_2 ≤ (a0.size : Int)) = true := decide_eq_true c14
         clear c14
         replace H := Option.bind_eq_some_iff.mp H
         obtain ⟨t176, A150, H⟩ := H
         replace H : (if t176 < 0 then (some (x7_2, (a0.size : Int), 0)) else (some (x7_2, wrap64 (x7_2 + t176), 0))) = some (r1, r2, r3) := H
         have A15 := aM A150
         clear A150
         by_cases c16 : t176 < 0
         ·rw [if_pos c16] at H
          have c16b0 : decide (t176 < 0) = true := decide_eq_true c16
          clear c16
          simp only [Option.some.injEq, Prod.mk.injEq] at H
          obtain ⟨rfl, rfl, rfl⟩ := H
          go_wp2_with (first | (refine yC (some 31) Tryz.func94 #[.string (a0.extract (x7_2 : Int).toNat a0.size), .int .u8 10] ?_; (with_reducible refine (strings_IndexByte.calls (a0.extract (x7_2 : Int).toNat a0.size) 10 t176 _ A15.out).mono ?_); rintro e w17 ⟨rfl, hb⟩; refine ⟨_, rfl, ?_⟩; replace HB := yP w hb; clear hb))
          go_ret3
          exact ⟨ye, by exact ey HB.out⟩
         ·rw [if_neg c16] at H
          have c16b0 : decide (t176 < 0) = false := decide_eq_false c16
          clear c16
          simp only [Option.some.injEq, Prod.mk.injEq] at H
          obtain ⟨rfl, rfl, rfl⟩ := H
          go_wp2_with (first | (refine yC (some 31) Tryz.func94 #[.string (a0.extract (x7_2 : Int).toNat a0.size), .int .u8 10] ?_; (with_reducible refine (strings_IndexByte.calls (a0.extract (x7_2 : Int).toNat a0.size) 10 t176 _ A15.out).mono ?_); rintro e w18 ⟨rfl, hb⟩; refine ⟨_, rfl, ?_⟩; replace HB := yP w hb; clear hb))
          go_ret3
          exact ⟨ye, by exact ey HB.out⟩
        ·rw [if_neg c14] at H
         exact absurd H (by simp)
       ·rw [if_neg c13] at H
        exact absurd H (by simp)
def bureauref06_Ends.l0 : Nat → ByteArray → List Int → Int → Option (List Int)
 | 0, _, _, _ => none
 | k + 1, x0, x3, x4 => if x4 < (x0.size : Int) then (if 0 ≤ x4 then (if (bt x0 x4) = 10 then (if x3.length < 17592186044416 then (bureauref06_Ends.l0 k x0 (x3 ++ [x4]) (wrap64 (x4 + 1))) else (none)) else (bureauref06_Ends.l0 k x0 x3 (wrap64 (x4 + 1)))) else (none)) else (if x3.length < 17592186044416 then (some (x3 ++ [(x0.size : Int)])) else (none))
def bureauref06_Ends.f (k : Nat) (a0 : ByteArray) : Option (List Int) := bureauref06_Ends.l0 k a0 ([] : List Int) 0
set_option maxHeartbeats 8000000 in
set_option maxRecDepth 100000 in
theorem bureauref06_Ends.calls (k : Nat) (a0 : ByteArray) (r : List Int) (w : World) (h : bureauref06_Ends.f k a0 = some r) :
  Calls Tryz.prog 110 #[.string a0] w fun e w' => ∃ v0_ : Value, e = .returned (v0_) ∧ Kd.R (Kd.int .i64) 3 w' w.heap.size (fun _ => True) v0_ r ∧ Below w.heap.size w w' := by
 have HB := aM (Below.refl w.heap.size w)
 have H : (bureauref06_Ends.l0 k a0 ([] : List Int) 0) = some r := h
 clear h
 have H' := aM H
 clear H
 go_enter Tryz.func110, Tryz.ntmps110
 go_wp2
 go_loopg [3, 4] k (fun kq v3 v4 w' => ∃ (x3_1 : List Int) (x4_1 : Int), v4 = .int .i64 x4_1 ∧ Aside0 (bureauref06_Ends.l0 kq a0 x3_1 x4_1 = some r) ∧ Aside0 (kq ≤ k) ∧ Aside0 (Kd.R (Kd.int .i64) 3 w' w.heap.size (fun _ => True) v3 x3_1) ∧ Aside0 (Below w.heap.size w w'))
 case atStart => exact ⟨(([] : List Int)), (0), (by first | rfl | (simp; done) | (simp [*]; done)), H', ⟨Nat.le_refl _⟩, ⟨yn⟩, ⟨by exact ey HB.out⟩⟩
 case round =>
  clear H'
  try clear c1
  obtain ⟨x3_1, x4_1, rfl, HA, HK1, HO_3, HB⟩ := hrel
  cases gk with
  | zero => exact absurd HA.out (by simp [bureauref06_Ends.l0])
  | succ k1 =>
   have H := HA.out
   clear HA
   simp only [bureauref06_Ends.l0] at H
   by_cases c2 : x4_1 < (a0.size : Int)
   ·rw [if_pos c2] at H
    have c2b0 : decide (x4_1 < (a0.size : Int)) = true := decide_eq_true c2
    clear c2
    by_cases c3 : 0 ≤ x4_1
    ·rw [if_pos c3] at H
     have c3b0 : decide (0 ≤ x4_1) = true := decide_eq_true c3
     clear c3
     by_cases c5 : (bt a0 x4_1) = 10
     ·rw [if_pos c5] at H
      have c5b0 : ((bt a0 x4_1) == 10) = true := beq_iff_eq.mpr c5
      have c5b1 : ((bt a0 x4_1) != 10) = false := bne_eq_false_iff_eq.mpr c5
      clear c5
      by_cases c6 : x3_1.length < 17592186044416
      ·rw [if_pos c6] at H
       have LMc6 := aM c6
       clear c6
       obtain ⟨y326, hy326⟩ : ∃ y_ : List Int, y_ = (x3_1 ++ [x4_1]) := ⟨_, rfl⟩
       replace H : (bureauref06_Ends.l0 k1 a0 y326 (wrap64 (x4_1 + 1))) = some r := by first | (rw [hy326]; with_reducible exact H) | (have H2_ := (Option.bind_some _ _).symm.trans H; rw [hy326]; with_reducible exact H2_) | (have H2_ := (Option.bind_some _ _).symm.trans H; with_reducible exact H2_) | with_reducible exact H | (rw [hy326]; exact H) | exact H
       have Ny326 := aM hy326
       clear hy326
       have H' := aM H
       clear H
       have p4 : 0 ≤ (x4_1 : Int) := of_decide_eq_true (by first | (with_reducible assumption) | assumption)
       have q4 : x4_1 < (a0.size : Int) := of_decide_eq_true (by first | (with_reducible assumption) | assumption)
       have hx4 := bt_at a0 x4_1
       replace p4 := eq_true p4
       replace q4 := eq_true q4
       go_wp2_with (first | ((with_reducible refine gate_builtin (b := .append) (xs := #[.tmp 15, .tmp 17]) rfl ?_); at_builtin; refine Kd.R_append (Kd.int .i64) (w0 := w) w.heap.size rfl (.tmp 15) (.tmp 17) 158 3 (.int .i64 0) 8 rfl Tryz.underlying158 info3 rfl (by decide) (by omega) u3 x3_1 x4_1 [.int .i64 x4_1] (fun _ => True) (fun _ => False) rfl rfl ?aP (fun _ hk => hk.elim) ?aF ?aO ?aB ?aS ?aL ?_; (case aP => exact rfl); (case aB => exact (ey HB.out)); (case aF => exact (fun _ _ => trivial)); (case aO => exact (ry HO_3.out)); (case aS => exact (bZ (ey HB.out))); (case aL => have := LMc6.out; omega); intro v327 w7 ho hb hg hat; rw [← Ny326.out] at ho; have HO328 := aM (ho); replace HB := aM (hb); clear HO_3; clear ho hb hg hat))
       go_roundg k1
       case measure => have := HK1.out; omega
       case rel => exact ⟨(y326), (wrap64 (x4_1 + 1)), (by first | rfl | (simp; done) | (simp [*]; done)), H', ⟨by have := HK1.out; omega⟩, ⟨by exact ry HO328.out⟩, ⟨by exact ey HB.out⟩⟩
      ·rw [if_neg c6] at H
       exact absurd H (by simp)
     ·rw [if_neg c5] at H
      have c5b0 : ((bt a0 x4_1) == 10) = false := beq_eq_false_iff_ne.mpr c5
      have c5b1 : ((bt a0 x4_1) != 10) = true := bne_iff_ne.mpr c5
      have H' := aM H
      clear H
      have p4 : 0 ≤ (x4_1 : Int) := of_decide_eq_true (by first | (with_reducible assumption) | assumption)
      have q4 : x4_1 < (a0.size : Int) := of_decide_eq_true (by first | (with_reducible assumption) | assumption)
      have hx4 := bt_at a0 x4_1
      replace p4 := eq_true p4
      replace q4 := eq_true q4
      go_wp2
      go_roundg k1
      case measure => have := HK1.out; omega
      case rel => exact ⟨(x3_1), (wrap64 (x4_1 + 1)), (by first | rfl | (simp; done) | (simp [*]; done)), H', ⟨by have := HK1.out; omega⟩, ⟨by exact ry HO_3.out⟩, ⟨by exact ey HB.out⟩⟩
    ·rw [if_neg c3] at H
     exact absurd H (by simp)
   ·rw [if_neg c2] at H
    have c2b0 : decide (x4_1 < (a0.size : Int)) = false := decide_eq_false c2
    clear c2
    by_cases c8 : x3_1.length < 17592186044416
    ·rw [if_pos c8] at H
     have LMc8 := aM c8
     clear c8
     obtain ⟨y329, hy329⟩ : ∃ y_ : List Int, y_ = (x3_1 ++ [(a0.size : Int)]) := ⟨_, rfl⟩
     replace H : (some y329) = some r := by first | (rw [hy329]; with_reducible exact H) | (have H2_ := (Option.bind_some _ _).symm.trans H; rw [hy329]; with_reducible exact H2_) | (have H2_ := (Option.bind_some _ _).symm.trans H; with_reducible exact H2_) | with_reducible exact H | (rw [hy329]; exact H) | exact H
     have Ny329 := aM hy329
     clear hy329
     obtain rfl := Option.some.inj H
     go_wp2_with (first | ((with_reducible refine gate_builtin (b := .append) (xs := #[.tmp 19, .tmp 22]) rfl ?_); at_builtin; refine Kd.R_append (Kd.int .i64) (w0 := w) w.heap.size rfl (.tmp 19) (.tmp 22) 158 3 (.int .i64 0) 8 rfl Tryz.underlying158 info3 rfl (by decide) (by omega) u3 x3_1 (a0.size : Int) [.int .i64 (a0.size : Int)] (fun _ => True) (fun _ => False) rfl rfl ?aP (fun _ hk => hk.elim) ?aF ?aO ?aB ?aS ?aL ?_; (case aP => exact rfl); (case aB => exact (ey HB.out)); (case aF => exact (fun _ _ => trivial)); (case aO => exact (ry HO_3.out)); (case aS => exact (bZ (ey HB.out))); (case aL => have := LMc8.out; omega); intro v330 w9 ho hb hg hat; rw [← Ny329.out] at ho; have HO331 := aM (ho); replace HB := aM (hb); clear HO_3; clear ho hb hg hat))
     go_ret
     exact ⟨_, ye, by exact ry HO331.out, by exact ey HB.out⟩
    ·rw [if_neg c8] at H
     exact absurd H (by simp)
def bureauref06_Bounds.j0 : Nat → Int → List Int → Bool → Option (Int × Int × Int)
 | 0, _, _, _ => none
 | k + 1, x1, x7, x17 => if x17 = true then (some (0, 0, 2)) else (if x1 = 0 then (if 0 < (x7.length : Int) then (some (0, rd x7 0, 0)) else (none)) else (if 0 ≤ (wrap64 (x1 - 1)) then (if (wrap64 (x1 - 1)) < (x7.length : Int) then (if 0 ≤ x1 then (if x1 < (x7.length : Int) then (some (wrap64 ((rd x7 (wrap64 (x1 - 1))) + 1), rd x7 x1, 0)) else (none)) else (none)) else (none)) else (none)))
def bureauref06_Bounds.f (k : Nat) (a0 : ByteArray) (a1 : Int) : Option (Int × Int × Int) := (bureauref06_Ends.f k a0).bind fun t436 => (if a1 < 0 then (bureauref06_Bounds.j0 k a1 t436 true) else (bureauref06_Bounds.j0 k a1 t436 (decide (a1 ≥ (t436.length : Int)))))
set_option maxHeartbeats 8000000 in
set_option maxRecDepth 100000 in
theorem bureauref06_Bounds.calls (k : Nat) (a0 : ByteArray) (a1 : Int) (r1 : Int) (r2 : Int) (r3 : Int) (w : World) (h : bureauref06_Bounds.f k a0 a1 = some (r1, r2, r3)) :
  Calls Tryz.prog 53 #[.string a0, .int .i64 a1] w fun e w' => e = .returned (.tuple #[.int .i64 r1, .int .i64 r2, .int .i64 r3]) ∧ Below w.heap.size w w' := by
 have HB := aM (Below.refl w.heap.size w)
 have H : ((bureauref06_Ends.f k a0).bind fun t436 => (if a1 < 0 then (bureauref06_Bounds.j0 k a1 t436 true) else (bureauref06_Bounds.j0 k a1 t436 (decide (a1 ≥ (t436.length : Int)))))) = some (r1, r2, r3) := h
 clear h
 replace H := Option.bind_eq_some_iff.mp H
 obtain ⟨t436, A30, H⟩ := H
 replace H : (if a1 < 0 then (bureauref06_Bounds.j0 k a1 t436 true) else (bureauref06_Bounds.j0 k a1 t436 (decide (a1 ≥ (t436.length : Int))))) = some (r1, r2, r3) := H
 have A3 := aM A30
 clear A30
 have HC4 := aM H
 clear H
 go_enter Tryz.func53, Tryz.ntmps53
 go_upto_region 2 with (first | (go_at_call 110; (with_reducible refine (bureauref06_Ends.calls k a0 t436 _ A3.out).mono ?_); rintro e w5 ⟨v437, rfl, ho0, hb⟩; have HO438 := aM (rL ho0 (bZ (ey HB.out))); replace HB := yP w hb; clear hb; (try clear ho0)))
 repeat (go_quiet (first | (go_at_call 110; (with_reducible refine (bureauref06_Ends.calls k a0 t436 _ A3.out).mono ?_); rintro e w5 ⟨v437, rfl, ho0, hb⟩; have HO438 := aM (rL ho0 (bZ (ey HB.out))); replace HB := yP w hb; clear hb; (try clear ho0))); go_upto_region 2 with (first | (go_at_call 110; (with_reducible refine (bureauref06_Ends.calls k a0 t436 _ A3.out).mono ?_); rintro e w5 ⟨v437, rfl, ho0, hb⟩; have HO438 := aM (rL ho0 (bZ (ey HB.out))); replace HB := yP w hb; clear hb; (try clear ho0))))
 (try simp only [Act.put, sA, sZ, sS])
 go_cut [17] (fun v17 wc => ∃ (kq : Nat) (x17_3 : Bool), v17 = .bool x17_3 ∧ Aside0 (bureauref06_Bounds.j0 kq a1 t436 x17_3 = some (r1, r2, r3)) ∧ Aside0 (kq ≤ k) ∧ Aside0 (Kd.R (Kd.int .i64) 3 wc w.heap.size (fun _ => True) v437 t436) ∧ Aside0 (Below w.heap.size w wc))
 case first =>
  have H := HC4.out
  clear HC4
  by_cases c6 : a1 < 0
  ·rw [if_pos c6] at H
   have c6b0 : decide (a1 < 0) = true := decide_eq_true c6
   clear c6
   (first | rw [c6b0] | (simp only [i64_w, i32_w]; rw [c6b0]) | skip)
   have H' := aM H
   clear H
   go_wp2
   repeat (go_quiet (fail); try go_wp2)
   go_meet
   case rel => exact ⟨_, (true), (by first | rfl | (simp; done) | (simp [*]; done)), H', ⟨by first | omega | exact Nat.le_refl _⟩, ⟨by exact ry HO438.out⟩, ⟨by exact ey HB.out⟩⟩
  ·rw [if_neg c6] at H
   have c6b0 : decide (a1 < 0) = false := decide_eq_false c6
   clear c6
   (first | rw [c6b0] | (simp only [i64_w, i32_w]; rw [c6b0]) | skip)
   have H' := aM H
   clear H
   obtain ⟨Ao7, co7, eo7⟩ := Kd.R_slice HO438.out
   subst eo7
   go_wp2
   repeat (go_quiet (fail); try go_wp2)
   go_meet
   case rel => exact ⟨_, (decide (a1 ≥ (t436.length : Int))), (by first | rfl | (simp; done) | (simp [*]; done)), H', ⟨by first | omega | exact Nat.le_refl _⟩, ⟨by exact ry HO438.out⟩, ⟨by exact ey HB.out⟩⟩
 case rest =>
  clear HC4
  try clear p2
  try clear c5
  try clear c6
  try clear c6b0
  obtain ⟨kq, x17_3, rfl, HA, HJ3, HO_7, HB⟩ := hcut
  cases kq with
  | zero => exact absurd HA.out (by simp [bureauref06_Bounds.j0])
  | succ kj3 =>
   have H := HA.out
   clear HA
   simp only [bureauref06_Bounds.j0] at H
   by_cases c8 : x17_3 = true
   ·subst c8
    rw [if_pos rfl] at H
    simp only [Option.some.injEq, Prod.mk.injEq] at H
    obtain ⟨rfl, rfl, rfl⟩ := H
    go_wp2
    repeat (go_quiet (fail); try go_wp2)
    go_ret3
    exact ⟨ye, by exact ey HB.out⟩
   ·replace c8 := Bool.eq_false_iff.mpr c8
    subst c8
    rw [if_neg (show ¬ (false = true) by decide)] at H
    by_cases c9 : a1 = 0
    ·rw [if_pos c9] at H
     have c9b0 : (a1 == 0) = true := beq_iff_eq.mpr c9
     have c9b1 : (a1 != 0) = false := bne_eq_false_iff_eq.mpr c9
     clear c9
     by_cases c10 : 0 < (t436.length : Int)
     ·rw [if_pos c10] at H
      have c10b0 : decide (0 < (t436.length : Int)) = true := decide_eq_true c10
      have c10b1 : decide (0 < t436.length) = true := decide_eq_true (by omega)
      clear c10
      simp only [Option.some.injEq, Prod.mk.injEq] at H
      obtain ⟨rfl, rfl, rfl⟩ := H
      obtain ⟨Ao11, co11, eo11⟩ := Kd.R_slice HO_7.out
      subst eo11
      have p439 : 0 ≤ (0 : Int) := (by omega)
      have q439 : 0 < (t436.length : Int) := of_decide_eq_true (by first | (with_reducible assumption) | assumption)
      obtain ⟨ad439, e439, hx439_0⟩ := Kd.at_int (rR HO_7.out).2.2 0 p439 q439
      cases e439
      have qi439 : (0 < t436.length) = True := eq_true (by omega)
      (try rw [show ((0 : Int)).toNat = 0 from rfl] at hx439_0)
      (try rw [Addr.add_zero'] at hx439_0)
      replace p439 := eq_true p439
      replace q439 := eq_true q439
      go_wp2
      repeat (go_quiet (fail); try go_wp2)
      go_ret3
      exact ⟨ye, by exact ey HB.out⟩
     ·rw [if_neg c10] at H
      exact absurd H (by simp)
    ·rw [if_neg c9] at H
     have c9b0 : (a1 == 0) = false := beq_eq_false_iff_ne.mpr c9
     have c9b1 : (a1 != 0) = true := bne_iff_ne.mpr c9
     obtain ⟨ji12, hji12⟩ : ∃ j_ : Int, (wrap64 (a1 - 1)) = j_ := ⟨_, rfl⟩
     replace H : (if 0 ≤ (ji12) then (if (ji12) < (t436.length : Int) then (if 0 ≤ a1 then (if a1 < (t436.length : Int) then (some (wrap64 ((rd t436 (ji12)) + 1), rd t436 a1, 0)) else (none)) else (none)) else (none)) else (none)) = some (r1, r2, r3) := by first | (rw [hji12] at H; exact H) | (simp only [hji12] at H ⊢; exact H)
     have hji12w : (IntKind.i64.wrap (a1 - 1)) = ji12 := (i64_w _).trans hji12
     by_cases c13 : 0 ≤ (ji12)
     ·rw [if_pos c13] at H
      have c13b0 : decide (0 ≤ (ji12)) = true := decide_eq_true c13
      clear c13
      by_cases c14 : (ji12) < (t436.length : Int)
      ·rw [if_pos c14] at H
       have c14b0 : decide ((ji12) < (t436.length : Int)) = true := decide_eq_true c14
       clear c14
       by_cases c15 : 0 ≤ a1
       ·rw [if_pos c15] at H
        have c15b0 : decide (0 ≤ a1) = true := decide_eq_true c15
        clear c15
        by_cases c16 : a1 < (t436.length : Int)
        ·rw [if_pos c16] at H
         have c16b0 : decide (a1 < (t436.length : Int)) = true := decide_eq_true c16
         clear c16
         simp only [Option.some.injEq, Prod.mk.injEq] at H
         obtain ⟨rfl, rfl, rfl⟩ := H
         obtain ⟨Ao17, co17, eo17⟩ := Kd.R_slice HO_7.out
         subst eo17
         have p440 : 0 ≤ ((ji12) : Int) := of_decide_eq_true (by first | (with_reducible assumption) | assumption)
         have q440 : (ji12) < (t436.length : Int) := of_decide_eq_true (by first | (with_reducible assumption) | assumption)
         obtain ⟨ad440, e440, hx440_0⟩ := Kd.at_int (rR HO_7.out).2.2 (ji12) p440 q440
         cases e440
         replace p440 := eq_true p440
         replace q440 := eq_true q440
         have p441 : 0 ≤ (a1 : Int) := of_decide_eq_true (by first | (with_reducible assumption) | assumption)
         have q441 : a1 < (t436.length : Int) := of_decide_eq_true (by first | (with_reducible assumption) | assumption)
         obtain ⟨ad441, e441, hx441_0⟩ := Kd.at_int (rR HO_7.out).2.2 a1 p441 q441
         obtain rfl : ad440 = ad441 := (by injection e441)
         replace p441 := eq_true p441
         replace q441 := eq_true q441
         go_wp2
         repeat (go_quiet (fail); try go_wp2)
         go_ret3
         exact ⟨by first | rfl | (simp [errW_none, errW_some] <;> rfl) | (simp only [← hji12]; first | rfl | (simp [errW_none, errW_some] <;> rfl)) | (simp [*, errW_none, errW_some] <;> rfl), by exact ey HB.out⟩
        ·rw [if_neg c16] at H
         exact absurd H (by simp)
       ·rw [if_neg c15] at H
        exact absurd H (by simp)
      ·rw [if_neg c14] at H
       exact absurd H (by simp)
     ·rw [if_neg c13] at H
      exact absurd H (by simp)
end Go.Proofs.YtjkfkiebhgkolaaGreatDoor.PB
end

section
namespace Go.Proofs.YtjkfkiebhgkolaaGreatDoor.PB
open Go.RowKit Go.Proofs.YtjkfkiebhgkolaaGreatDoorW.PrintWords
set_option linter.unusedVariables false
theorem w1n {i n : Nat} (h : i < n) (hn : n ≤ 1000000000000000) : wrap64 ((i : Int) + 1) = ((i + 1 : Nat) : Int) := by unfold wrap64; omega
def lineEnds : List UInt8 → Nat → List Nat
 | [], i => [i]
 | x :: r, i => if x = 10 then i :: lineEnds r (i + 1) else lineEnds r (i + 1)
def ends (v : ByteArray) : List Nat := lineEnds v.data.toList 0
def lineFrom (v : ByteArray) (n : Nat) : Nat := if n = 0 then 0 else (ends v).getD (n - 1) 0 + 1
def lineTo (v : ByteArray) (n : Nat) : Nat := (ends v).getD n 0
theorem lineEnds_ne (l : List UInt8) (i : Nat) : 1 ≤ (lineEnds l i).length := by
 induction l generalizing i with
 | nil => simp [lineEnds]
 | cons x r ih => unfold lineEnds; split; simp; exact ih _
theorem lineEnds_len : ∀ (l : List UInt8) (i : Nat), (lineEnds l i).length = l.count 10 + 1
 | [], i => rfl
 | x :: r, i => by
  unfold lineEnds
  split
  ·rename_i h; rw [List.length_cons, lineEnds_len r, h, List.count_cons_self]
  ·rename_i h; rw [lineEnds_len r, List.count_cons_of_ne h]
theorem le_none : ∀ (l : List UInt8) (a : Nat), (∀ c ∈ l, c ≠ 10) → lineEnds l a = [a + l.length]
 | [], a, _ => rfl
 | x :: r, a, h => by
  rw [lineEnds, if_neg (h x List.mem_cons_self), le_none r (a + 1) (fun c hc => h c (List.mem_cons_of_mem _ hc)), List.length_cons]
  congr 1; omega
theorem le_some : ∀ (o : Nat) (l : List UInt8) (a : Nat), l[o]? = some 10 → (∀ k, k < o → l[k]? ≠ some 10) → lineEnds l a = (a + o) :: lineEnds (l.drop (o + 1)) (a + o + 1)
 | 0, [], a, h, _ => by simp at h
 | 0, x :: r, a, h, _ => by
  have : x = 10 := by simpa using h
  rw [lineEnds, if_pos this]; rfl
 | o + 1, [], a, h, _ => by simp at h
 | o + 1, x :: r, a, h, hn => by
  have hx : x ≠ 10 := by have := hn 0 (by omega); simpa using this
  rw [lineEnds, if_neg hx, le_some o r (a + 1) (by simpa using h) (fun k hk => by have := hn (k + 1) (by omega); simpa using this)]
  rw [show a + 1 + o = a + (o + 1) by omega]; rfl
theorem ib_cases (l : List UInt8) : (Lib.indexByte l 10 = -1 ∧ ∀ c ∈ l, c ≠ 10) ∨ ∃ o : Nat, Lib.indexByte l 10 = (o : Int) ∧ o < l.length ∧ l[o]? = some 10 ∧ ∀ k, k < o → l[k]? ≠ some 10 := by
 have := Lib.indexByte_ge l 10
 rcases Int.lt_or_le (Lib.indexByte l 10) 0 with h | h
 ·have h1 : Lib.indexByte l 10 = -1 := by omega
  refine .inl ⟨h1, fun c hc e => ?_⟩
  obtain ⟨k, hk⟩ := List.getElem?_of_mem hc
  exact Lib.indexByte_none h1 k (by rw [hk, e])
 ·have h1 : Lib.indexByte l 10 = ((Lib.indexByte l 10).toNat : Int) := by omega
  obtain ⟨a, b⟩ := Lib.indexByte_some h1
  exact .inr ⟨_, h1, (List.getElem?_eq_some_iff.1 a).1, a, b⟩
theorem ends_drop (v : ByteArray) : ∀ (i : Nat), i < (ends v).length → lineFrom v i ≤ v.size ∧ (ends v).drop i = lineEnds (v.data.toList.drop (lineFrom v i)) (lineFrom v i)
 | 0, _ => ⟨Nat.zero_le _, rfl⟩
 | i + 1, h => by
  obtain ⟨h1, h2⟩ := ends_drop v i (by omega)
  have hsz : v.data.toList.length = v.size := (Lib.size_eq v).symm
  have hlen : ((ends v).drop i).length = (ends v).length - i := List.length_drop
  rcases ib_cases (v.data.toList.drop (lineFrom v i)) with ⟨_, hno⟩ | ⟨o, _, ho, ha, hb⟩
  ·rw [le_none _ _ hno] at h2
   rw [h2] at hlen
   simp at hlen
   omega
  ·rw [le_some o _ _ ha hb] at h2
   rw [List.length_drop] at ho
   have hg : (ends v).getD i 0 = lineFrom v i + o := by
    have := congrArg (fun q : List Nat => q.getD 0 0) h2
    simpa [List.getD_eq_getElem?_getD] using this
   have hf : lineFrom v (i + 1) = lineFrom v i + o + 1 := by
    unfold lineFrom at hg ⊢
    rw [if_neg (by omega), Nat.add_sub_cancel, hg]
   refine ⟨by omega, ?_⟩
   rw [hf]
   have := congrArg (List.drop 1) h2
   rw [List.drop_drop, List.drop_one, List.tail_cons, List.drop_drop] at this
   rw [this]
   congr 2
theorem line_last (v : ByteArray) (n : Nat) (h : n < (ends v).length) : (Lib.indexByte (v.data.toList.drop (lineFrom v n)) 10 = -1 ∧ lineTo v n = v.size ∧ n + 1 = (ends v).length) ∨
  ∃ o : Nat, Lib.indexByte (v.data.toList.drop (lineFrom v n)) 10 = (o : Int) ∧ lineTo v n = lineFrom v n + o ∧ lineFrom v n + o < v.size ∧ lineFrom v (n + 1) = lineFrom v n + o + 1 ∧ n + 1 < (ends v).length := by
 obtain ⟨h1, h2⟩ := ends_drop v n h
 have hsz : v.data.toList.length = v.size := (Lib.size_eq v).symm
 have hlen : ((ends v).drop n).length = (ends v).length - n := List.length_drop
 have hg : (ends v).getD n 0 = ((ends v).drop n).getD 0 0 := by simp [List.getD_eq_getElem?_getD]
 rcases ib_cases (v.data.toList.drop (lineFrom v n)) with ⟨hi, hno⟩ | ⟨o, hi, ho, ha, hb⟩
 ·rw [le_none _ _ hno] at h2
  rw [h2] at hlen hg
  refine .inl ⟨hi, ?_, by simp at hlen; omega⟩
  unfold lineTo
  rw [hg, List.length_drop]
  simp
  omega
 ·rw [le_some o _ _ ha hb] at h2
  rw [h2] at hlen hg
  rw [List.length_drop] at ho
  have hne := lineEnds_ne ((v.data.toList.drop (lineFrom v n)).drop (o + 1)) (lineFrom v n + o + 1)
  have hto : lineTo v n = lineFrom v n + o := by unfold lineTo; rw [hg]; rfl
  refine .inr ⟨o, hi, hto, by omega, ?_, by simp only [List.length_cons] at hlen; omega⟩
  unfold lineTo at hto
  have : lineFrom v (n + 1) = (ends v).getD n 0 + 1 := by unfold lineFrom; rw [if_neg (by omega), Nat.add_sub_cancel]
  omega
theorem line_range (v : ByteArray) (n : Nat) (h : n < (ends v).length) : lineFrom v n ≤ lineTo v n ∧ lineTo v n ≤ v.size := by
 have := (ends_drop v n h).1
 rcases line_last v n h with ⟨_, h2, _⟩ | ⟨o, _, h2, h3, _, _⟩ <;> omega
theorem line_next (v : ByteArray) (n : Nat) (h : n + 1 < (ends v).length) : lineFrom v (n + 1) = lineTo v n + 1 := by
 unfold lineFrom lineTo; rw [if_neg (by omega), Nat.add_sub_cancel]
theorem ends_len_le (v : ByteArray) : (ends v).length ≤ v.size + 1 := by
 unfold ends
 rw [lineEnds_len, Lib.size_eq v]
 have := List.count_le_length (a := (10 : UInt8)) (l := v.data.toList)
 omega
theorem count_ev (v : ByteArray) (hv : v.size ≤ 100000) : line_Count.f v = some ((ends v).length : Int) := by
 unfold line_Count.f strings_Count.f
 rw [if_pos (show (⟨#[10]⟩ : ByteArray).size = 1 from rfl), Option.bind_some]
 have h : Lib.countByte v.data.toList ((⟨#[10]⟩ : ByteArray).data.toList.getD 0 0) = ((v.data.toList.count 10 : Nat) : Int) := rfl
 have hl := ends_len_le v
 have he : (ends v).length = v.data.toList.count 10 + 1 := lineEnds_len _ _
 rw [h]
 congr 1
 unfold wrap64
 omega
theorem extract_rest (v : ByteArray) (a : Nat) : (v.extract a v.size).data.toList = v.data.toList.drop a := by
 rw [Lib.extract_data]
 rw [List.take_of_length_le]
 rw [List.length_drop, ← Lib.size_eq]
 exact Nat.le_refl _
theorem bounds_ev (v : ByteArray) (hv : v.size ≤ 100000) (n : Nat) (h : n < (ends v).length) : Ev (fun k => line_Bounds.f k v (n : Int)) ((lineFrom v n : Int), (lineTo v n : Int), 0) := by
 have hl := ends_len_le v
 unfold line_Bounds.f
 refine Ev.neg (by omega) ?_
 rw [count_ev v hv]
 refine Ev.bind (Ev.now _) ?_
 rw [decide_eq_false (by omega)]
 refine Ev.step (fun k => by simp only [line_Bounds.j0]; rfl) ?_
 refine Ev.neg (by simp) ?_
 have loop : ∀ (d i : Nat), i + d = n → Ev (fun k => line_Bounds.l0 k v (lineFrom v i : Int) (n : Int) (i : Int)) ((lineFrom v n : Int), (lineTo v n : Int), 0) := by
  intro d
  induction d with
  | zero =>
   intro i hi
   obtain rfl : i = n := by omega
   have hf := (ends_drop v i h).1
   refine Ev.step (fun k => by simp only [line_Bounds.l0]; rfl) ?_
   refine Ev.neg (by omega) (Ev.pos (by omega) (Ev.pos (by omega) ?_))
   unfold strings_IndexByte.f
   rw [Int.toNat_natCast, extract_rest, show (10 : Int).toNat.toUInt8 = 10 from rfl]
   refine Ev.bind (Ev.now _) ?_
   rcases line_last v i h with ⟨h1, h2, _⟩ | ⟨o, h1, h2, h3, _, _⟩
   ·rw [h1]
    refine Ev.pos (by decide) (ev_val (Ev.now _) ?_)
    rw [h2]
   ·rw [h1]
    refine Ev.neg (by omega) (ev_val (Ev.now _) ?_)
    rw [h2, show wrap64 ((lineFrom v i : Int) + (o : Int)) = ((lineFrom v i + o : Nat) : Int) by unfold wrap64; omega]
  | succ d ih =>
   intro i hi
   have hin : i < (ends v).length := by omega
   have hf := (ends_drop v i hin).1
   refine Ev.step (fun k => by simp only [line_Bounds.l0]; rfl) ?_
   refine Ev.pos (by omega) (Ev.pos (by omega) (Ev.pos (by omega) ?_))
   unfold strings_IndexByte.f
   rw [Int.toNat_natCast, extract_rest, show (10 : Int).toNat.toUInt8 = 10 from rfl]
   refine Ev.bind (Ev.now _) ?_
   rcases line_last v i hin with ⟨h1, h2, h3⟩ | ⟨o, h1, h2, h3, h4, _⟩
   ·omega
   ·have e1 : wrap64 ((o : Int) + 1) = ((o + 1 : Nat) : Int) := by unfold wrap64; omega
    have e2 : wrap64 ((lineFrom v i : Int) + ((o + 1 : Nat) : Int)) = ((lineFrom v i + o + 1 : Nat) : Int) := by generalize lineFrom v i = z at *; unfold wrap64; omega
    have hi1 := ih (i + 1) (by omega)
    rw [h4] at hi1
    rw [h1, e1, e2, w1n (show i < n by omega) (by omega)]
    exact hi1
 have := loop n 0 (by omega)
 rw [show lineFrom v 0 = 0 from rfl] at this
 exact this
theorem bt_list (v : ByteArray) (i : Nat) (h : i < v.size) : bt v (i : Int) = ((v.data.toList.getD i 0).toNat : Int) := by
 unfold bt
 rw [dif_pos (by rw [Int.toNat_natCast]; exact h)]
 congr 2
 rw [List.getD_eq_getElem?_getD, List.getElem?_eq_getElem (by rw [← Lib.size_eq]; exact h)]
 rfl
theorem rends_ev (v : ByteArray) (hv : v.size ≤ 100000) : Ev (fun k => bureauref06_Ends.f k v) ((ends v).map (fun i : Nat => (i : Int))) := by
 have hsz : v.data.toList.length = v.size := (Lib.size_eq v).symm
 have loop : ∀ (d i : Nat) (acc : List Int), i + d = v.size → acc.length ≤ i → Ev (fun k => bureauref06_Ends.l0 k v acc (i : Int)) (acc ++ (lineEnds (v.data.toList.drop i) i).map (fun i : Nat => (i : Int))) := by
  intro d
  induction d with
  | zero =>
   intro i acc hi ha
   refine Ev.step (fun k => by simp only [bureauref06_Ends.l0]; rfl) ?_
   refine Ev.neg (by omega) (Ev.pos (by omega) ?_)
   rw [List.drop_eq_nil_of_le (by omega)]
   exact ev_val (Ev.now _) (by simp [lineEnds]; omega)
  | succ d ih =>
   intro i acc hi ha
   have hlt : i < v.size := by omega
   refine Ev.step (fun k => by simp only [bureauref06_Ends.l0]; rfl) ?_
   refine Ev.pos (by omega) (Ev.pos (by omega) ?_)
   rw [bt_list v i hlt, w1n hlt (by omega)]
   have hd : v.data.toList.drop i = v.data.toList.getD i 0 :: v.data.toList.drop (i + 1) := by
    rw [List.drop_eq_getElem_cons (by omega), List.getD_eq_getElem?_getD, List.getElem?_eq_getElem (by omega)]; rfl
   rw [hd]
   generalize v.data.toList.getD i 0 = x
   by_cases hx : x = 10
   ·refine Ev.pos (by rw [hx]; rfl) (Ev.pos (by omega) (ev_val (ih (i + 1) (acc ++ [(i : Int)]) (by omega) (by simp; omega)) ?_))
    rw [lineEnds, if_pos hx]
    simp
   ·refine Ev.neg ?_ (ev_val (ih (i + 1) acc (by omega) (by omega)) ?_)
    ·intro he
     exact hx (UInt8.toNat_inj.1 (by rw [show x.toNat = 10 by omega]; rfl))
    ·rw [lineEnds, if_neg hx]
 exact loop v.size 0 [] (by omega) (by simp)
theorem rd_map (l : List Nat) (i : Nat) : rd (l.map (fun i : Nat => (i : Int))) (i : Int) = ((l.getD i 0 : Nat) : Int) := by
 unfold rd
 rw [Int.toNat_natCast, List.getD_eq_getElem?_getD, List.getElem?_map, List.getD_eq_getElem?_getD]
 cases l[i]? <;> rfl
theorem rbounds_ev (v : ByteArray) (hv : v.size ≤ 100000) (n : Nat) (h : n < (ends v).length) : Ev (fun k => bureauref06_Bounds.f k v (n : Int)) ((lineFrom v n : Int), (lineTo v n : Int), 0) := by
 have hl := ends_len_le v
 unfold bureauref06_Bounds.f
 refine Ev.bind (rends_ev v hv) (Ev.neg (by omega) ?_)
 rw [List.length_map, decide_eq_false (by omega)]
 refine Ev.step (fun k => by simp only [bureauref06_Bounds.j0]; rfl) ?_
 refine Ev.neg (by simp) ?_
 have hr := line_range v n h
 by_cases hn : n = 0
 ·subst hn
  refine Ev.pos rfl (Ev.pos (by rw [List.length_map]; omega) (ev_val (Ev.now _) ?_))
  rw [show (0 : Int) = ((0 : Nat) : Int) from rfl, rd_map]
  rfl
 ·have e1 : wrap64 ((n : Int) - 1) = ((n - 1 : Nat) : Int) := by unfold wrap64; omega
  rw [e1]
  refine Ev.neg (by omega) (Ev.pos (by omega) (Ev.pos (by rw [List.length_map]; omega) (Ev.pos (by omega) (Ev.pos (by rw [List.length_map]; omega) (ev_val (Ev.now _) ?_)))))
  rw [rd_map, rd_map]
  have : lineFrom v n = (ends v).getD (n - 1) 0 + 1 := by unfold lineFrom; rw [if_neg hn]
  rw [this, show wrap64 ((((ends v).getD (n - 1) 0 : Nat) : Int) + 1) = (((ends v).getD (n - 1) 0 + 1 : Nat) : Int) by unfold wrap64; omega]
  rfl
end Go.Proofs.YtjkfkiebhgkolaaGreatDoor.PB
end

section
namespace Go.Proofs.YtjkfkiebhgkolaaGreatDoor.PB
set_option linter.unusedVariables false
def buildS {α : Type} (w r : List α) (m : Nat) : Nat → List Nat → Nat → List α
 | a, [], e => (w.take e).drop a
 | a, p :: ps, e => (w.take p).drop a ++ (r ++ buildS w r m (p + m) ps e)
def spaced (m : Nat) : Nat → List Nat → Nat → Prop
 | a, [], e => a ≤ e
 | a, p :: ps, e => a ≤ p ∧ spaced m (p + m) ps e
theorem spaced_le {m : Nat} : ∀ {ps : List Nat} {a e : Nat}, spaced m a ps e → a ≤ e
 | [], _, _, h => h
 | p :: ps, a, e, h => by have := spaced_le h.2; have := h.1; omega
theorem spaced_mem {m : Nat} : ∀ {ps : List Nat} {a e p : Nat}, spaced m a ps e → p ∈ ps → a ≤ p ∧ p + m ≤ e
 | [], _, _, _, _, h => absurd h (by simp)
 | q :: ps, a, e, p, h, hp => by
  rcases List.mem_cons.1 hp with rfl | hp
  ·exact ⟨h.1, spaced_le h.2⟩
  ·have := spaced_mem h.2 hp
   have := h.1
   omega
end Go.Proofs.YtjkfkiebhgkolaaGreatDoor.PB
end

section
namespace Go.Proofs.YtjkfkiebhgkolaaGreatDoor.PB
open Go.RowKit Go.Proofs.YtjkfkiebhgkolaaGreatDoorW.PrintWords
set_option linter.unusedVariables false
set_option maxHeartbeats 1000000
abbrev cnt (L : List UInt8) (p : Nat) : Nat := (L.take p).count 10
theorem cnt_ends (v : ByteArray) (p : Nat) : cnt v.data.toList p < (ends v).length := by
 have : (ends v).length = v.data.toList.count 10 + 1 := lineEnds_len _ _
 have h := (List.take_sublist p v.data.toList).count_le 10
 unfold cnt
 omega
theorem drop_take_drop' {α : Type} (l : List α) (a e p m : Nat) (h1 : a ≤ p) (h2 : p + m ≤ e) : ((((l.take e).drop a).drop (p - a)).take m) = (l.drop p).take m := by
 rw [List.drop_drop, show a + (p - a) = p by omega, List.drop_take, List.take_take, Nat.min_eq_left (by omega)]
theorem gap {α : Type} (w r : List α) (m n : Nat) (hr : 1 ≤ r.length) (hn : 1 ≤ n) : ∀ (ps : List Nat) (a e k : Nat), e ≤ w.length → spaced m a ps e → k + n ≤ (buildS w r m a ps e).length → (∀ x ∈ ((buildS w r m a ps e).drop k).take n, ¬ x ∈ r) →
  ∃ p, a ≤ p ∧ p + n ≤ e ∧ ((buildS w r m a ps e).drop k).take n = (w.drop p).take n ∧ ∀ q ∈ ps, q + m ≤ p ∨ p + n ≤ q
 | [], a, e, k, he, hs, hk, hx => by
  have hl : (buildS w r m a [] e).length = e - a := by rw [buildS, List.length_drop, List.length_take]; omega
  refine ⟨a + k, by omega, by omega, ?_, fun q hq => absurd hq (by simp)⟩
  have := drop_take_drop' w a e (a + k) n (by omega) (by omega)
  rw [Nat.add_sub_cancel_left] at this
  exact this
 | p :: ps, a, e, k, he, hs, hk, hx => by
  have hle := spaced_le hs.2
  have hap := hs.1
  have hG : ((w.take p).drop a).length = p - a := by rw [List.length_drop, List.length_take]; omega
  have eT : buildS w r m a (p :: ps) e = (w.take p).drop a ++ (r ++ buildS w r m (p + m) ps e) := rfl
  rw [eT] at hk hx ⊢
  rw [List.length_append, List.length_append, hG] at hk
  by_cases c1 : k + n ≤ p - a
  ·refine ⟨a + k, by omega, by omega, ?_, fun q hq => ?_⟩
   ·rw [List.drop_append_of_le_length (by omega), List.take_append_of_le_length (by rw [List.length_drop]; omega)]
    have := drop_take_drop' w a p (a + k) n (by omega) (by omega)
    rw [Nat.add_sub_cancel_left] at this
    exact this
   ·rcases List.mem_cons.1 hq with rfl | hq
    ·exact .inr (by omega)
    ·have := (spaced_mem hs.2 hq).1
     exact .inr (by omega)
  by_cases c2 : p - a + r.length ≤ k
  ·have e1 : ((w.take p).drop a ++ (r ++ buildS w r m (p + m) ps e)).drop k = (buildS w r m (p + m) ps e).drop (k - (p - a + r.length)) := by
    rw [← List.append_assoc, List.drop_append, List.drop_eq_nil_of_le (by rw [List.length_append]; omega), List.nil_append, List.length_append, hG]
   rw [e1] at hx ⊢
   obtain ⟨p', h1, h2, h3, h4⟩ := gap w r m n hr hn ps (p + m) e (k - (p - a + r.length)) he hs.2 (by omega) hx
   refine ⟨p', by omega, h2, h3, fun q hq => ?_⟩
   rcases List.mem_cons.1 hq with rfl | hq
   ·exact .inl h1
   ·exact h4 q hq
  ·exfalso
   obtain ⟨i, hi1, hi2, hi3, hi4⟩ : ∃ i, k ≤ i ∧ i < k + n ∧ p - a ≤ i ∧ i < p - a + r.length := ⟨max k (p - a), by omega, by omega, by omega, by omega⟩
   have hlen : i < ((w.take p).drop a ++ (r ++ buildS w r m (p + m) ps e)).length := by rw [List.length_append, List.length_append, hG]; omega
   have hm : ((w.take p).drop a ++ (r ++ buildS w r m (p + m) ps e))[i] ∈ (((w.take p).drop a ++ (r ++ buildS w r m (p + m) ps e)).drop k).take n := by
    rw [List.mem_take_iff_getElem]
    refine ⟨i - k, by rw [List.length_drop]; omega, ?_⟩
    rw [List.getElem_drop]
    congr 1
    omega
   refine hx _ hm ?_
   rw [List.getElem_append_right (by omega), List.getElem_append_left (by omega)]
   exact List.getElem_mem _
end Go.Proofs.YtjkfkiebhgkolaaGreatDoor.PB
end

section
namespace Go.Proofs.YtjkfkiebhgkolaaGreatDoor.PB
open Go.RowKit Go.Proofs.YtjkfkiebhgkolaaGreatDoorW.PrintWords Go.Proofs.YtjkfkiebhgkolaaGreatDoorW.PrintLast Go.Proofs.YtjkfkiebhgkolaaGreatDoorW.PrintMore
attribute [local go_sem] max2_int min2_int max_two min_two max_three min_three max_four min_four   
set_option linter.unusedVariables false
set_option linter.unusedSimpArgs false
def runs_Total.l0 : Nat → Int → List (S68) → Int → Int → Option (Int)
 | 0, _, _, _, _ => none
 | k + 1, x3, x6, x7, x8 => if x8 < x7 then (if 0 ≤ x8 then (if x8 < (x6.length : Int) then (if ((rd_T68 x6 x8).f1) > (wrap64 (4096 - x3)) then (some 4097) else (runs_Total.l0 k (wrap64 (x3 + (mx ((rd_T68 x6 x8).f1) 0))) x6 x7 (wrap64 (x8 + 1)))) else (none)) else (none)) else (some x3)
def runs_Total.f (k : Nat) (l0 : List (S68)) : Option (Int) := runs_Total.l0 k 0 l0 (l0.length : Int) 0
set_option maxHeartbeats 8000000 in
set_option maxRecDepth 100000 in
theorem runs_Total.calls (k : Nat) (A0 : Option Addr) (c0 : Nat) (l0 : List (S68)) (r : Int) (w : World) (hr0 : Kd.C k68 w A0 l0.length l0) (hc0 : l0.length ≤ c0) (h : runs_Total.f k l0 = some r) :
  Calls Tryz.prog 114 #[.slice A0 l0.length c0] w fun e w' => e = .returned (.int .i64 r) ∧ Below w.heap.size w w' := by
 have hu68 := Tryz.underlying68
 have HR0 := aM hr0
 have HC0 := aM hc0
 clear hr0 hc0
 have HB := aM (Below.refl w.heap.size w)
 have H : (runs_Total.l0 k 0 l0 (l0.length : Int) 0) = some r := h
 clear h
 have H' := aM H
 clear H
 go_enter Tryz.func114, Tryz.ntmps114
 go_wp2
 go_loopg [3, 8] k (fun kq v3 v8 w' => ∃ (x3_1 : Int) (x8_1 : Int), v3 = .int .i64 x3_1 ∧ v8 = .int .i64 x8_1 ∧ Aside0 (runs_Total.l0 kq x3_1 l0 (l0.length : Int) x8_1 = some r) ∧ Aside0 (kq ≤ k) ∧ Aside0 (Below w.heap.size w w'))
 case atStart => exact ⟨(0), (0), (by first | rfl | (simp; done) | (simp [*]; done)), (by first | rfl | (simp; done) | (simp [*]; done)), H', ⟨Nat.le_refl _⟩, ⟨by exact ey HB.out⟩⟩
 case round =>
  clear H'
  try clear c1
  obtain ⟨x3_1, x8_1, rfl, rfl, HA, HK1, HB⟩ := hrel
  cases gk with
  | zero => exact absurd HA.out (by simp [runs_Total.l0])
  | succ k1 =>
   have H := HA.out
   clear HA
   simp only [runs_Total.l0] at H
   by_cases c2 : x8_1 < (l0.length : Int)
   ·rw [if_pos c2] at H
    have c2b0 : decide (x8_1 < (l0.length : Int)) = true := decide_eq_true c2
    clear c2
    by_cases c3 : 0 ≤ x8_1
    ·rw [if_pos c3] at H
     have c3b0 : decide (0 ≤ x8_1) = true := decide_eq_true c3
     clear c3
     by_cases c4 : x8_1 < (l0.length : Int)
     ·rw [if_pos c4] at H
      have c4b0 : decide (x8_1 < (l0.length : Int)) = true := decide_eq_true c4
      clear c4
      by_cases c5 : ((rd_T68 l0 x8_1).f1) > (wrap64 (4096 - x3_1))
      ·rw [if_pos c5] at H
       have c5b0 : decide ((wrap64 (4096 - x3_1)) < ((rd_T68 l0 x8_1).f1)) = true := decide_eq_true c5
       clear c5
       obtain rfl := Option.some.inj H
       have p101 : 0 ≤ (x8_1 : Int) := of_decide_eq_true (by first | (with_reducible assumption) | assumption)
       have q101 : x8_1 < (l0.length : Int) := of_decide_eq_true (by first | (with_reducible assumption) | assumption)
       obtain ⟨ad101, e101, hx101_0, hx101_1⟩ := at_T68 HR0.out x8_1 p101 q101
       cases e101
       replace hx101_0 := (HB.out.cell (World.block_lt_of_cell? w _ hx101_0)).trans hx101_0
       replace hx101_1 := (HB.out.cell (World.block_lt_of_cell? w _ hx101_1)).trans hx101_1
       replace p101 := eq_true p101
       replace q101 := eq_true q101
       go_wp2_with (first | (refine yX 5 #[.int .u64 0, .int .i64 0] 68 (fun gb102 hg w6 hbox hb => ?_); have BK102 := hbox; have GW102 := yG w hg; have GE102 := GW102; replace HB := yP w hb; clear hb hbox hg; have hcz7_0 := zC BK102.out 0 (.int .u64 0); have hcz7_1 := zC BK102.out 1 (.int .i64 0); have hfz7_0 := bF BK102.out 0; have hfz7_1 := bF BK102.out 1))
       go_ret
       exact ⟨ye, yH⟩
      ·rw [if_neg c5] at H
       have c5b0 : decide ((wrap64 (4096 - x3_1)) < ((rd_T68 l0 x8_1).f1)) = false := decide_eq_false c5
       clear c5
       obtain ⟨ji8, hji8⟩ : ∃ j_ : Int, (mx ((rd_T68 l0 x8_1).f1) 0) = j_ := ⟨_, rfl⟩
       replace H : (runs_Total.l0 k1 (wrap64 (x3_1 + (ji8))) l0 (l0.length : Int) (wrap64 (x8_1 + 1))) = some r := by first | (rw [hji8] at H; exact H) | (simp only [hji8] at H ⊢; exact H)
       have hji8_ : (if ((rd_T68 l0 x8_1).f1) < 0 then 0 else ((rd_T68 l0 x8_1).f1)) = ji8 := hji8
       have H' := aM H
       clear H
       have p101 : 0 ≤ (x8_1 : Int) := of_decide_eq_true (by first | (with_reducible assumption) | assumption)
       have q101 : x8_1 < (l0.length : Int) := of_decide_eq_true (by first | (with_reducible assumption) | assumption)
       obtain ⟨ad101, e101, hx101_0, hx101_1⟩ := at_T68 HR0.out x8_1 p101 q101
       cases e101
       replace hx101_0 := (HB.out.cell (World.block_lt_of_cell? w _ hx101_0)).trans hx101_0
       replace hx101_1 := (HB.out.cell (World.block_lt_of_cell? w _ hx101_1)).trans hx101_1
       replace p101 := eq_true p101
       replace q101 := eq_true q101
       go_wp2_with (first | (refine yX 5 #[.int .u64 0, .int .i64 0] 68 (fun gb102 hg w9 hbox hb => ?_); have BK102 := hbox; have GW102 := yG w hg; have GE102 := GW102; replace HB := yP w hb; clear hb hbox hg; have hcz10_0 := zC BK102.out 0 (.int .u64 0); have hcz10_1 := zC BK102.out 1 (.int .i64 0); have hfz10_0 := bF BK102.out 0; have hfz10_1 := bF BK102.out 1))
       go_roundg k1
       case measure => have := HK1.out; omega
       case rel => exact ⟨(wrap64 (x3_1 + (ji8))), (wrap64 (x8_1 + 1)), (by first | rfl | (simp; done) | (simp only [← hji8] <;> (first | rfl | simp)) | (simp [*]; done)), (by first | rfl | (simp; done) | (simp [*]; done)), H', ⟨by have := HK1.out; omega⟩, ⟨yH⟩⟩
     ·rw [if_neg c4] at H
      exact absurd H (by simp)
    ·rw [if_neg c3] at H
     exact absurd H (by simp)
   ·rw [if_neg c2] at H
    have c2b0 : decide (x8_1 < (l0.length : Int)) = false := decide_eq_false c2
    clear c2
    obtain rfl := Option.some.inj H
    go_wp2
    go_ret
    exact ⟨ye, by exact ey HB.out⟩
def runs_Good.l0 : Nat → List (S68) → List (S68) → Int → Int → Option (Bool)
 | 0, _, _, _, _ => none
 | k + 1, x0, x5, x6, x7 => if x7 < x6 then (if 0 ≤ x7 then (if x7 < (x5.length : Int) then (if ((rd_T68 x5 x7).f1) < 1 then (some false) else (if x7 > 0 then (if 0 ≤ (wrap64 (x7 - 1)) then (if (wrap64 (x7 - 1)) < (x0.length : Int) then (if ((rd_T68 x0 (wrap64 (x7 - 1))).f0) = ((rd_T68 x5 x7).f0) then (some false) else (runs_Good.l0 k x0 x5 x6 (wrap64 (x7 + 1)))) else (none)) else (none)) else (runs_Good.l0 k x0 x5 x6 (wrap64 (x7 + 1))))) else (none)) else (none)) else ((runs_Total.f k x0).bind fun t106 => (some (decide (t106 ≤ 4096))))
def runs_Good.f (k : Nat) (l0 : List (S68)) : Option (Bool) := runs_Good.l0 k l0 l0 (l0.length : Int) 0
set_option maxHeartbeats 8000000 in
set_option maxRecDepth 100000 in
theorem runs_Good.calls (k : Nat) (A0 : Option Addr) (c0 : Nat) (l0 : List (S68)) (r : Bool) (w : World) (hr0 : Kd.C k68 w A0 l0.length l0) (hc0 : l0.length ≤ c0) (h : runs_Good.f k l0 = some r) :
  Calls Tryz.prog 113 #[.slice A0 l0.length c0] w fun e w' => e = .returned (.bool r) ∧ Below w.heap.size w w' := by
 have hu68 := Tryz.underlying68
 have HR0 := aM hr0
 have HC0 := aM hc0
 clear hr0 hc0
 have HB := aM (Below.refl w.heap.size w)
 have H : (runs_Good.l0 k l0 l0 (l0.length : Int) 0) = some r := h
 clear h
 have H' := aM H
 clear H
 go_enter Tryz.func113, Tryz.ntmps113
 go_wp2
 repeat (go_quiet (fail); try go_wp2)
 go_loopg [7] k (fun kq v7 w' => ∃ (x7_1 : Int), v7 = .int .i64 x7_1 ∧ Aside0 (runs_Good.l0 kq l0 l0 (l0.length : Int) x7_1 = some r) ∧ Aside0 (kq ≤ k) ∧ Aside0 (Below w.heap.size w w'))
 case atStart => exact ⟨(0), (by first | rfl | (simp; done) | (simp [*]; done)), H', ⟨Nat.le_refl _⟩, ⟨by exact ey HB.out⟩⟩
 case round =>
  clear H'
  try clear c1
  obtain ⟨x7_1, rfl, HA, HK1, HB⟩ := hrel
  cases gk with
  | zero => exact absurd HA.out (by simp [runs_Good.l0])
  | succ k1 =>
   have H := HA.out
   clear HA
   simp only [runs_Good.l0] at H
   by_cases c2 : x7_1 < (l0.length : Int)
   ·rw [if_pos c2] at H
    have c2b0 : decide (x7_1 < (l0.length : Int)) = true := decide_eq_true c2
    clear c2
    by_cases c3 : 0 ≤ x7_1
    ·rw [if_pos c3] at H
     have c3b0 : decide (0 ≤ x7_1) = true := decide_eq_true c3
     clear c3
     by_cases c4 : x7_1 < (l0.length : Int)
     ·rw [if_pos c4] at H
      have c4b0 : decide (x7_1 < (l0.length : Int)) = true := decide_eq_true c4
      clear c4
      by_cases c5 : ((rd_T68 l0 x7_1).f1) < 1
      ·rw [if_pos c5] at H
       have c5b0 : decide (((rd_T68 l0 x7_1).f1) < 1) = true := decide_eq_true c5
       clear c5
       obtain rfl := Option.some.inj H
       have p103 : 0 ≤ (x7_1 : Int) := of_decide_eq_true (by first | (with_reducible assumption) | assumption)
       have q103 : x7_1 < (l0.length : Int) := of_decide_eq_true (by first | (with_reducible assumption) | assumption)
       obtain ⟨ad103, e103, hx103_0, hx103_1⟩ := at_T68 HR0.out x7_1 p103 q103
       cases e103
       replace hx103_0 := (HB.out.cell (World.block_lt_of_cell? w _ hx103_0)).trans hx103_0
       replace hx103_1 := (HB.out.cell (World.block_lt_of_cell? w _ hx103_1)).trans hx103_1
       replace p103 := eq_true p103
       replace q103 := eq_true q103
       go_wp2_with (first | (refine yX 4 #[.int .u64 0, .int .i64 0] 68 (fun gb104 hg w6 hbox hb => ?_); have BK104 := hbox; have GW104 := yG w hg; have GE104 := GW104; replace HB := yP w hb; clear hb hbox hg; have hcz7_0 := zC BK104.out 0 (.int .u64 0); have hcz7_1 := zC BK104.out 1 (.int .i64 0); have hfz7_0 := bF BK104.out 0; have hfz7_1 := bF BK104.out 1))
       repeat (go_quiet (first | (refine yX 4 #[.int .u64 0, .int .i64 0] 68 (fun gb104 hg w6 hbox hb => ?_); have BK104 := hbox; have GW104 := yG w hg; have GE104 := GW104; replace HB := yP w hb; clear hb hbox hg; have hcz7_0 := zC BK104.out 0 (.int .u64 0); have hcz7_1 := zC BK104.out 1 (.int .i64 0); have hfz7_0 := bF BK104.out 0; have hfz7_1 := bF BK104.out 1)); try go_wp2_with (first | (refine yX 4 #[.int .u64 0, .int .i64 0] 68 (fun gb104 hg w6 hbox hb => ?_); have BK104 := hbox; have GW104 := yG w hg; have GE104 := GW104; replace HB := yP w hb; clear hb hbox hg; have hcz7_0 := zC BK104.out 0 (.int .u64 0); have hcz7_1 := zC BK104.out 1 (.int .i64 0); have hfz7_0 := bF BK104.out 0; have hfz7_1 := bF BK104.out 1)))
       go_ret
       exact ⟨ye, yH⟩
      ·rw [if_neg c5] at H
       have c5b0 : decide (((rd_T68 l0 x7_1).f1) < 1) = false := decide_eq_false c5
       clear c5
       by_cases c8 : x7_1 > 0
       ·rw [if_pos c8] at H
        have c8b0 : decide (0 < x7_1) = true := decide_eq_true c8
        clear c8
        obtain ⟨ji9, hji9⟩ : ∃ j_ : Int, (wrap64 (x7_1 - 1)) = j_ := ⟨_, rfl⟩
        replace H : (if 0 ≤ (ji9) then (if (ji9) < (l0.length : Int) then (if ((rd_T68 l0 (ji9)).f0) = ((rd_T68 l0 x7_1).f0) then (some false) else (runs_Good.l0 k1 l0 l0 (l0.length : Int) (wrap64 (x7_1 + 1)))) else (none)) else (none)) = some r := by first | (rw [hji9] at H; exact H) | (simp only [hji9] at H ⊢; exact H)
        have hji9w : (IntKind.i64.wrap (x7_1 - 1)) = ji9 := (i64_w _).trans hji9
        by_cases c10 : 0 ≤ (ji9)
        ·rw [if_pos c10] at H
         have c10b0 : decide (0 ≤ (ji9)) = true := decide_eq_true c10
         clear c10
         by_cases c11 : (ji9) < (l0.length : Int)
         ·rw [if_pos c11] at H
          have c11b0 : decide ((ji9) < (l0.length : Int)) = true := decide_eq_true c11
          clear c11
          by_cases c12 : ((rd_T68 l0 (ji9)).f0) = ((rd_T68 l0 x7_1).f0)
          ·rw [if_pos c12] at H
           have c12b0 : (((rd_T68 l0 (ji9)).f0) == ((rd_T68 l0 x7_1).f0)) = true := beq_iff_eq.mpr c12
           have c12b1 : (((rd_T68 l0 (ji9)).f0) != ((rd_T68 l0 x7_1).f0)) = false := bne_eq_false_iff_eq.mpr c12
           clear c12
           obtain rfl := Option.some.inj H
           have p103 : 0 ≤ (x7_1 : Int) := of_decide_eq_true (by first | (with_reducible assumption) | assumption)
           have q103 : x7_1 < (l0.length : Int) := of_decide_eq_true (by first | (with_reducible assumption) | assumption)
           obtain ⟨ad103, e103, hx103_0, hx103_1⟩ := at_T68 HR0.out x7_1 p103 q103
           cases e103
           replace hx103_0 := (HB.out.cell (World.block_lt_of_cell? w _ hx103_0)).trans hx103_0
           replace hx103_1 := (HB.out.cell (World.block_lt_of_cell? w _ hx103_1)).trans hx103_1
           replace p103 := eq_true p103
           replace q103 := eq_true q103
           go_wp2_with (first | (refine yX 4 #[.int .u64 0, .int .i64 0] 68 (fun gb104 hg w13 hbox hb => ?_); have BK104 := hbox; have GW104 := yG w hg; have GE104 := GW104; replace HB := yP w hb; clear hb hbox hg; have hcz14_0 := zC BK104.out 0 (.int .u64 0); have hcz14_1 := zC BK104.out 1 (.int .i64 0); have hfz14_0 := bF BK104.out 0; have hfz14_1 := bF BK104.out 1; have p105 : 0 ≤ ((ji9) : Int) := of_decide_eq_true (by first | (with_reducible assumption) | assumption); have q105 : (ji9) < (l0.length : Int) := of_decide_eq_true (by first | (with_reducible assumption) | assumption); obtain ⟨ad105, e105, hx105_0, hx105_1⟩ := at_T68 HR0.out (ji9) p105 q105; obtain rfl : ad103 = ad105 := (by injection e105); have hn105_0 : ad103.block ≠ gb104 := Nat.ne_of_lt (Nat.lt_of_lt_of_le (by have := World.block_lt_of_cell? _ _ hx105_0; first | rwa [add_block] at this | exact this) GW104.out); have hn105_1 : ad103.block ≠ gb104 := Nat.ne_of_lt (Nat.lt_of_lt_of_le (by have := World.block_lt_of_cell? _ _ hx105_0; first | rwa [add_block] at this | exact this) GW104.out); replace hx105_0 := (HB.out.cell (World.block_lt_of_cell? w _ hx105_0)).trans hx105_0; replace hx105_1 := (HB.out.cell (World.block_lt_of_cell? w _ hx105_1)).trans hx105_1; replace hx105_0 := (cell_far (p := ⟨gb104, 0, none⟩) (by first | (rw [add_block]; exact hn105_0) | (show (Addr.add _ _).block ≠ _; rw [add_block]; exact hn105_0) | exact hn105_0) (.int .u64 ((rd_T68 l0 x7_1).f0))).trans hx105_0; replace hx105_1 := (cell_far (p := ⟨gb104, 0, none⟩) (by first | (rw [add_block]; exact hn105_0) | (show (Addr.add _ _).block ≠ _; rw [add_block]; exact hn105_0) | exact hn105_0) (.int .u64 ((rd_T68 l0 x7_1).f0))).trans hx105_1; replace hx105_0 := (cell_far (p := ⟨gb104, 1, none⟩) (by first | (rw [add_block]; exact hn105_1) | (show (Addr.add _ _).block ≠ _; rw [add_block]; exact hn105_1) | exact hn105_1) (.int .i64 ((rd_T68 l0 x7_1).f1))).trans hx105_0; replace hx105_1 := (cell_far (p := ⟨gb104, 1, none⟩) (by first | (rw [add_block]; exact hn105_1) | (show (Addr.add _ _).block ≠ _; rw [add_block]; exact hn105_1) | exact hn105_1) (.int .i64 ((rd_T68 l0 x7_1).f1))).trans hx105_1; (try have hy105_0 := fun (n_ : Nat) => (show ((((w13.drewN n_).setCell ⟨gb104, 0, none⟩ (.int .u64 ((rd_T68 l0 x7_1).f0))).setCell ⟨gb104, 1, none⟩ (.int .i64 ((rd_T68 l0 x7_1).f1)))).cell? _ = some _ from hx105_0)); (try have hy105_1 := fun (n_ : Nat) => (show ((((w13.drewN n_).setCell ⟨gb104, 0, none⟩ (.int .u64 ((rd_T68 l0 x7_1).f0))).setCell ⟨gb104, 1, none⟩ (.int .i64 ((rd_T68 l0 x7_1).f1)))).cell? _ = some _ from hx105_1)); clear hn105_0 hn105_1; replace p105 := eq_true p105; replace q105 := eq_true q105))
           repeat (go_quiet (first | (refine yX 4 #[.int .u64 0, .int .i64 0] 68 (fun gb104 hg w13 hbox hb => ?_); have BK104 := hbox; have GW104 := yG w hg; have GE104 := GW104; replace HB := yP w hb; clear hb hbox hg; have hcz14_0 := zC BK104.out 0 (.int .u64 0); have hcz14_1 := zC BK104.out 1 (.int .i64 0); have hfz14_0 := bF BK104.out 0; have hfz14_1 := bF BK104.out 1; have p105 : 0 ≤ ((ji9) : Int) := of_decide_eq_true (by first | (with_reducible assumption) | assumption); have q105 : (ji9) < (l0.length : Int) := of_decide_eq_true (by first | (with_reducible assumption) | assumption); obtain ⟨ad105, e105, hx105_0, hx105_1⟩ := at_T68 HR0.out (ji9) p105 q105; obtain rfl : ad103 = ad105 := (by injection e105); have hn105_0 : ad103.block ≠ gb104 := Nat.ne_of_lt (Nat.lt_of_lt_of_le (by have := World.block_lt_of_cell? _ _ hx105_0; first | rwa [add_block] at this | exact this) GW104.out); have hn105_1 : ad103.block ≠ gb104 := Nat.ne_of_lt (Nat.lt_of_lt_of_le (by have := World.block_lt_of_cell? _ _ hx105_0; first | rwa [add_block] at this | exact this) GW104.out); replace hx105_0 := (HB.out.cell (World.block_lt_of_cell? w _ hx105_0)).trans hx105_0; replace hx105_1 := (HB.out.cell (World.block_lt_of_cell? w _ hx105_1)).trans hx105_1; replace hx105_0 := (cell_far (p := ⟨gb104, 0, none⟩) (by first | (rw [add_block]; exact hn105_0) | (show (Addr.add _ _).block ≠ _; rw [add_block]; exact hn105_0) | exact hn105_0) (.int .u64 ((rd_T68 l0 x7_1).f0))).trans hx105_0; replace hx105_1 := (cell_far (p := ⟨gb104, 0, none⟩) (by first | (rw [add_block]; exact hn105_0) | (show (Addr.add _ _).block ≠ _; rw [add_block]; exact hn105_0) | exact hn105_0) (.int .u64 ((rd_T68 l0 x7_1).f0))).trans hx105_1; replace hx105_0 := (cell_far (p := ⟨gb104, 1, none⟩) (by first | (rw [add_block]; exact hn105_1) | (show (Addr.add _ _).block ≠ _; rw [add_block]; exact hn105_1) | exact hn105_1) (.int .i64 ((rd_T68 l0 x7_1).f1))).trans hx105_0; replace hx105_1 := (cell_far (p := ⟨gb104, 1, none⟩) (by first | (rw [add_block]; exact hn105_1) | (show (Addr.add _ _).block ≠ _; rw [add_block]; exact hn105_1) | exact hn105_1) (.int .i64 ((rd_T68 l0 x7_1).f1))).trans hx105_1; (try have hy105_0 := fun (n_ : Nat) => (show ((((w13.drewN n_).setCell ⟨gb104, 0, none⟩ (.int .u64 ((rd_T68 l0 x7_1).f0))).setCell ⟨gb104, 1, none⟩ (.int .i64 ((rd_T68 l0 x7_1).f1)))).cell? _ = some _ from hx105_0)); (try have hy105_1 := fun (n_ : Nat) => (show ((((w13.drewN n_).setCell ⟨gb104, 0, none⟩ (.int .u64 ((rd_T68 l0 x7_1).f0))).setCell ⟨gb104, 1, none⟩ (.int .i64 ((rd_T68 l0 x7_1).f1)))).cell? _ = some _ from hx105_1)); clear hn105_0 hn105_1; replace p105 := eq_true p105; replace q105 := eq_true q105)); try go_wp2_with (first | (refine yX 4 #[.int .u64 0, .int .i64 0] 68 (fun gb104 hg w13 hbox hb => ?_); have BK104 := hbox; have GW104 := yG w hg; have GE104 := GW104; replace HB := yP w hb; clear hb hbox hg; have hcz14_0 := zC BK104.out 0 (.int .u64 0); have hcz14_1 := zC BK104.out 1 (.int .i64 0); have hfz14_0 := bF BK104.out 0; have hfz14_1 := bF BK104.out 1; have p105 : 0 ≤ ((ji9) : Int) := of_decide_eq_true (by first | (with_reducible assumption) | assumption); have q105 : (ji9) < (l0.length : Int) := of_decide_eq_true (by first | (with_reducible assumption) | assumption); obtain ⟨ad105, e105, hx105_0, hx105_1⟩ := at_T68 HR0.out (ji9) p105 q105; obtain rfl : ad103 = ad105 := (by injection e105); have hn105_0 : ad103.block ≠ gb104 := Nat.ne_of_lt (Nat.lt_of_lt_of_le (by have := World.block_lt_of_cell? _ _ hx105_0; first | rwa [add_block] at this | exact this) GW104.out); have hn105_1 : ad103.block ≠ gb104 := Nat.ne_of_lt (Nat.lt_of_lt_of_le (by have := World.block_lt_of_cell? _ _ hx105_0; first | rwa [add_block] at this | exact this) GW104.out); replace hx105_0 := (HB.out.cell (World.block_lt_of_cell? w _ hx105_0)).trans hx105_0; replace hx105_1 := (HB.out.cell (World.block_lt_of_cell? w _ hx105_1)).trans hx105_1; replace hx105_0 := (cell_far (p := ⟨gb104, 0, none⟩) (by first | (rw [add_block]; exact hn105_0) | (show (Addr.add _ _).block ≠ _; rw [add_block]; exact hn105_0) | exact hn105_0) (.int .u64 ((rd_T68 l0 x7_1).f0))).trans hx105_0; replace hx105_1 := (cell_far (p := ⟨gb104, 0, none⟩) (by first | (rw [add_block]; exact hn105_0) | (show (Addr.add _ _).block ≠ _; rw [add_block]; exact hn105_0) | exact hn105_0) (.int .u64 ((rd_T68 l0 x7_1).f0))).trans hx105_1; replace hx105_0 := (cell_far (p := ⟨gb104, 1, none⟩) (by first | (rw [add_block]; exact hn105_1) | (show (Addr.add _ _).block ≠ _; rw [add_block]; exact hn105_1) | exact hn105_1) (.int .i64 ((rd_T68 l0 x7_1).f1))).trans hx105_0; replace hx105_1 := (cell_far (p := ⟨gb104, 1, none⟩) (by first | (rw [add_block]; exact hn105_1) | (show (Addr.add _ _).block ≠ _; rw [add_block]; exact hn105_1) | exact hn105_1) (.int .i64 ((rd_T68 l0 x7_1).f1))).trans hx105_1; (try have hy105_0 := fun (n_ : Nat) => (show ((((w13.drewN n_).setCell ⟨gb104, 0, none⟩ (.int .u64 ((rd_T68 l0 x7_1).f0))).setCell ⟨gb104, 1, none⟩ (.int .i64 ((rd_T68 l0 x7_1).f1)))).cell? _ = some _ from hx105_0)); (try have hy105_1 := fun (n_ : Nat) => (show ((((w13.drewN n_).setCell ⟨gb104, 0, none⟩ (.int .u64 ((rd_T68 l0 x7_1).f0))).setCell ⟨gb104, 1, none⟩ (.int .i64 ((rd_T68 l0 x7_1).f1)))).cell? _ = some _ from hx105_1)); clear hn105_0 hn105_1; replace p105 := eq_true p105; replace q105 := eq_true q105)))
           go_ret
           exact ⟨by first | rfl | (simp [errW_none, errW_some] <;> rfl) | (simp only [← hji9]; first | rfl | (simp [errW_none, errW_some] <;> rfl)) | (simp [*, errW_none, errW_some] <;> rfl), yH⟩
          ·rw [if_neg c12] at H
           have c12b0 : (((rd_T68 l0 (ji9)).f0) == ((rd_T68 l0 x7_1).f0)) = false := beq_eq_false_iff_ne.mpr c12
           have c12b1 : (((rd_T68 l0 (ji9)).f0) != ((rd_T68 l0 x7_1).f0)) = true := bne_iff_ne.mpr c12
           have H' := aM H
           clear H
           have p103 : 0 ≤ (x7_1 : Int) := of_decide_eq_true (by first | (with_reducible assumption) | assumption)
           have q103 : x7_1 < (l0.length : Int) := of_decide_eq_true (by first | (with_reducible assumption) | assumption)
           obtain ⟨ad103, e103, hx103_0, hx103_1⟩ := at_T68 HR0.out x7_1 p103 q103
           cases e103
           replace hx103_0 := (HB.out.cell (World.block_lt_of_cell? w _ hx103_0)).trans hx103_0
           replace hx103_1 := (HB.out.cell (World.block_lt_of_cell? w _ hx103_1)).trans hx103_1
           replace p103 := eq_true p103
           replace q103 := eq_true q103
           go_wp2_with (first | (refine yX 4 #[.int .u64 0, .int .i64 0] 68 (fun gb104 hg w15 hbox hb => ?_); have BK104 := hbox; have GW104 := yG w hg; have GE104 := GW104; replace HB := yP w hb; clear hb hbox hg; have hcz16_0 := zC BK104.out 0 (.int .u64 0); have hcz16_1 := zC BK104.out 1 (.int .i64 0); have hfz16_0 := bF BK104.out 0; have hfz16_1 := bF BK104.out 1; have p105 : 0 ≤ ((ji9) : Int) := of_decide_eq_true (by first | (with_reducible assumption) | assumption); have q105 : (ji9) < (l0.length : Int) := of_decide_eq_true (by first | (with_reducible assumption) | assumption); obtain ⟨ad105, e105, hx105_0, hx105_1⟩ := at_T68 HR0.out (ji9) p105 q105; obtain rfl : ad103 = ad105 := (by injection e105); have hn105_0 : ad103.block ≠ gb104 := Nat.ne_of_lt (Nat.lt_of_lt_of_le (by have := World.block_lt_of_cell? _ _ hx105_0; first | rwa [add_block] at this | exact this) GW104.out); have hn105_1 : ad103.block ≠ gb104 := Nat.ne_of_lt (Nat.lt_of_lt_of_le (by have := World.block_lt_of_cell? _ _ hx105_0; first | rwa [add_block] at this | exact this) GW104.out); replace hx105_0 := (HB.out.cell (World.block_lt_of_cell? w _ hx105_0)).trans hx105_0; replace hx105_1 := (HB.out.cell (World.block_lt_of_cell? w _ hx105_1)).trans hx105_1; replace hx105_0 := (cell_far (p := ⟨gb104, 0, none⟩) (by first | (rw [add_block]; exact hn105_0) | (show (Addr.add _ _).block ≠ _; rw [add_block]; exact hn105_0) | exact hn105_0) (.int .u64 ((rd_T68 l0 x7_1).f0))).trans hx105_0; replace hx105_1 := (cell_far (p := ⟨gb104, 0, none⟩) (by first | (rw [add_block]; exact hn105_0) | (show (Addr.add _ _).block ≠ _; rw [add_block]; exact hn105_0) | exact hn105_0) (.int .u64 ((rd_T68 l0 x7_1).f0))).trans hx105_1; replace hx105_0 := (cell_far (p := ⟨gb104, 1, none⟩) (by first | (rw [add_block]; exact hn105_1) | (show (Addr.add _ _).block ≠ _; rw [add_block]; exact hn105_1) | exact hn105_1) (.int .i64 ((rd_T68 l0 x7_1).f1))).trans hx105_0; replace hx105_1 := (cell_far (p := ⟨gb104, 1, none⟩) (by first | (rw [add_block]; exact hn105_1) | (show (Addr.add _ _).block ≠ _; rw [add_block]; exact hn105_1) | exact hn105_1) (.int .i64 ((rd_T68 l0 x7_1).f1))).trans hx105_1; (try have hy105_0 := fun (n_ : Nat) => (show ((((w15.drewN n_).setCell ⟨gb104, 0, none⟩ (.int .u64 ((rd_T68 l0 x7_1).f0))).setCell ⟨gb104, 1, none⟩ (.int .i64 ((rd_T68 l0 x7_1).f1)))).cell? _ = some _ from hx105_0)); (try have hy105_1 := fun (n_ : Nat) => (show ((((w15.drewN n_).setCell ⟨gb104, 0, none⟩ (.int .u64 ((rd_T68 l0 x7_1).f0))).setCell ⟨gb104, 1, none⟩ (.int .i64 ((rd_T68 l0 x7_1).f1)))).cell? _ = some _ from hx105_1)); clear hn105_0 hn105_1; replace p105 := eq_true p105; replace q105 := eq_true q105))
           repeat (go_quiet (first | (refine yX 4 #[.int .u64 0, .int .i64 0] 68 (fun gb104 hg w15 hbox hb => ?_); have BK104 := hbox; have GW104 := yG w hg; have GE104 := GW104; replace HB := yP w hb; clear hb hbox hg; have hcz16_0 := zC BK104.out 0 (.int .u64 0); have hcz16_1 := zC BK104.out 1 (.int .i64 0); have hfz16_0 := bF BK104.out 0; have hfz16_1 := bF BK104.out 1; have p105 : 0 ≤ ((ji9) : Int) := of_decide_eq_true (by first | (with_reducible assumption) | assumption); have q105 : (ji9) < (l0.length : Int) := of_decide_eq_true (by first | (with_reducible assumption) | assumption); obtain ⟨ad105, e105, hx105_0, hx105_1⟩ := at_T68 HR0.out (ji9) p105 q105; obtain rfl : ad103 = ad105 := (by injection e105); have hn105_0 : ad103.block ≠ gb104 := Nat.ne_of_lt (Nat.lt_of_lt_of_le (by have := World.block_lt_of_cell? _ _ hx105_0; first | rwa [add_block] at this | exact this) GW104.out); have hn105_1 : ad103.block ≠ gb104 := Nat.ne_of_lt (Nat.lt_of_lt_of_le (by have := World.block_lt_of_cell? _ _ hx105_0; first | rwa [add_block] at this | exact this) GW104.out); replace hx105_0 := (HB.out.cell (World.block_lt_of_cell? w _ hx105_0)).trans hx105_0; replace hx105_1 := (HB.out.cell (World.block_lt_of_cell? w _ hx105_1)).trans hx105_1; replace hx105_0 := (cell_far (p := ⟨gb104, 0, none⟩) (by first | (rw [add_block]; exact hn105_0) | (show (Addr.add _ _).block ≠ _; rw [add_block]; exact hn105_0) | exact hn105_0) (.int .u64 ((rd_T68 l0 x7_1).f0))).trans hx105_0; replace hx105_1 := (cell_far (p := ⟨gb104, 0, none⟩) (by first | (rw [add_block]; exact hn105_0) | (show (Addr.add _ _).block ≠ _; rw [add_block]; exact hn105_0) | exact hn105_0) (.int .u64 ((rd_T68 l0 x7_1).f0))).trans hx105_1; replace hx105_0 := (cell_far (p := ⟨gb104, 1, none⟩) (by first | (rw [add_block]; exact hn105_1) | (show (Addr.add _ _).block ≠ _; rw [add_block]; exact hn105_1) | exact hn105_1) (.int .i64 ((rd_T68 l0 x7_1).f1))).trans hx105_0; replace hx105_1 := (cell_far (p := ⟨gb104, 1, none⟩) (by first | (rw [add_block]; exact hn105_1) | (show (Addr.add _ _).block ≠ _; rw [add_block]; exact hn105_1) | exact hn105_1) (.int .i64 ((rd_T68 l0 x7_1).f1))).trans hx105_1; (try have hy105_0 := fun (n_ : Nat) => (show ((((w15.drewN n_).setCell ⟨gb104, 0, none⟩ (.int .u64 ((rd_T68 l0 x7_1).f0))).setCell ⟨gb104, 1, none⟩ (.int .i64 ((rd_T68 l0 x7_1).f1)))).cell? _ = some _ from hx105_0)); (try have hy105_1 := fun (n_ : Nat) => (show ((((w15.drewN n_).setCell ⟨gb104, 0, none⟩ (.int .u64 ((rd_T68 l0 x7_1).f0))).setCell ⟨gb104, 1, none⟩ (.int .i64 ((rd_T68 l0 x7_1).f1)))).cell? _ = some _ from hx105_1)); clear hn105_0 hn105_1; replace p105 := eq_true p105; replace q105 := eq_true q105)); try go_wp2_with (first | (refine yX 4 #[.int .u64 0, .int .i64 0] 68 (fun gb104 hg w15 hbox hb => ?_); have BK104 := hbox; have GW104 := yG w hg; have GE104 := GW104; replace HB := yP w hb; clear hb hbox hg; have hcz16_0 := zC BK104.out 0 (.int .u64 0); have hcz16_1 := zC BK104.out 1 (.int .i64 0); have hfz16_0 := bF BK104.out 0; have hfz16_1 := bF BK104.out 1; have p105 : 0 ≤ ((ji9) : Int) := of_decide_eq_true (by first | (with_reducible assumption) | assumption); have q105 : (ji9) < (l0.length : Int) := of_decide_eq_true (by first | (with_reducible assumption) | assumption); obtain ⟨ad105, e105, hx105_0, hx105_1⟩ := at_T68 HR0.out (ji9) p105 q105; obtain rfl : ad103 = ad105 := (by injection e105); have hn105_0 : ad103.block ≠ gb104 := Nat.ne_of_lt (Nat.lt_of_lt_of_le (by have := World.block_lt_of_cell? _ _ hx105_0; first | rwa [add_block] at this | exact this) GW104.out); have hn105_1 : ad103.block ≠ gb104 := Nat.ne_of_lt (Nat.lt_of_lt_of_le (by have := World.block_lt_of_cell? _ _ hx105_0; first | rwa [add_block] at this | exact this) GW104.out); replace hx105_0 := (HB.out.cell (World.block_lt_of_cell? w _ hx105_0)).trans hx105_0; replace hx105_1 := (HB.out.cell (World.block_lt_of_cell? w _ hx105_1)).trans hx105_1; replace hx105_0 := (cell_far (p := ⟨gb104, 0, none⟩) (by first | (rw [add_block]; exact hn105_0) | (show (Addr.add _ _).block ≠ _; rw [add_block]; exact hn105_0) | exact hn105_0) (.int .u64 ((rd_T68 l0 x7_1).f0))).trans hx105_0; replace hx105_1 := (cell_far (p := ⟨gb104, 0, none⟩) (by first | (rw [add_block]; exact hn105_0) | (show (Addr.add _ _).block ≠ _; rw [add_block]; exact hn105_0) | exact hn105_0) (.int .u64 ((rd_T68 l0 x7_1).f0))).trans hx105_1; replace hx105_0 := (cell_far (p := ⟨gb104, 1, none⟩) (by first | (rw [add_block]; exact hn105_1) | (show (Addr.add _ _).block ≠ _; rw [add_block]; exact hn105_1) | exact hn105_1) (.int .i64 ((rd_T68 l0 x7_1).f1))).trans hx105_0; replace hx105_1 := (cell_far (p := ⟨gb104, 1, none⟩) (by first | (rw [add_block]; exact hn105_1) | (show (Addr.add _ _).block ≠ _; rw [add_block]; exact hn105_1) | exact hn105_1) (.int .i64 ((rd_T68 l0 x7_1).f1))).trans hx105_1; (try have hy105_0 := fun (n_ : Nat) => (show ((((w15.drewN n_).setCell ⟨gb104, 0, none⟩ (.int .u64 ((rd_T68 l0 x7_1).f0))).setCell ⟨gb104, 1, none⟩ (.int .i64 ((rd_T68 l0 x7_1).f1)))).cell? _ = some _ from hx105_0)); (try have hy105_1 := fun (n_ : Nat) => (show ((((w15.drewN n_).setCell ⟨gb104, 0, none⟩ (.int .u64 ((rd_T68 l0 x7_1).f0))).setCell ⟨gb104, 1, none⟩ (.int .i64 ((rd_T68 l0 x7_1).f1)))).cell? _ = some _ from hx105_1)); clear hn105_0 hn105_1; replace p105 := eq_true p105; replace q105 := eq_true q105)))
           go_roundg k1
           case measure => have := HK1.out; omega
           case rel => exact ⟨(wrap64 (x7_1 + 1)), (by first | rfl | (simp; done) | (simp [*]; done)), H', ⟨by have := HK1.out; omega⟩, ⟨yH⟩⟩
         ·rw [if_neg c11] at H
          exact absurd H (by simp)
        ·rw [if_neg c10] at H
         exact absurd H (by simp)
       ·rw [if_neg c8] at H
        have c8b0 : decide (0 < x7_1) = false := decide_eq_false c8
        clear c8
        have H' := aM H
        clear H
        have p103 : 0 ≤ (x7_1 : Int) := of_decide_eq_true (by first | (with_reducible assumption) | assumption)
        have q103 : x7_1 < (l0.length : Int) := of_decide_eq_true (by first | (with_reducible assumption) | assumption)
        obtain ⟨ad103, e103, hx103_0, hx103_1⟩ := at_T68 HR0.out x7_1 p103 q103
        cases e103
        replace hx103_0 := (HB.out.cell (World.block_lt_of_cell? w _ hx103_0)).trans hx103_0
        replace hx103_1 := (HB.out.cell (World.block_lt_of_cell? w _ hx103_1)).trans hx103_1
        replace p103 := eq_true p103
        replace q103 := eq_true q103
        go_wp2_with (first | (refine yX 4 #[.int .u64 0, .int .i64 0] 68 (fun gb104 hg w17 hbox hb => ?_); have BK104 := hbox; have GW104 := yG w hg; have GE104 := GW104; replace HB := yP w hb; clear hb hbox hg; have hcz18_0 := zC BK104.out 0 (.int .u64 0); have hcz18_1 := zC BK104.out 1 (.int .i64 0); have hfz18_0 := bF BK104.out 0; have hfz18_1 := bF BK104.out 1))
        repeat (go_quiet (first | (refine yX 4 #[.int .u64 0, .int .i64 0] 68 (fun gb104 hg w17 hbox hb => ?_); have BK104 := hbox; have GW104 := yG w hg; have GE104 := GW104; replace HB := yP w hb; clear hb hbox hg; have hcz18_0 := zC BK104.out 0 (.int .u64 0); have hcz18_1 := zC BK104.out 1 (.int .i64 0); have hfz18_0 := bF BK104.out 0; have hfz18_1 := bF BK104.out 1)); try go_wp2_with (first | (refine yX 4 #[.int .u64 0, .int .i64 0] 68 (fun gb104 hg w17 hbox hb => ?_); have BK104 := hbox; have GW104 := yG w hg; have GE104 := GW104; replace HB := yP w hb; clear hb hbox hg; have hcz18_0 := zC BK104.out 0 (.int .u64 0); have hcz18_1 := zC BK104.out 1 (.int .i64 0); have hfz18_0 := bF BK104.out 0; have hfz18_1 := bF BK104.out 1)))
        go_roundg k1
        case measure => have := HK1.out; omega
        case rel => exact ⟨(wrap64 (x7_1 + 1)), (by first | rfl | (simp; done) | (simp [*]; done)), H', ⟨by have := HK1.out; omega⟩, ⟨yH⟩⟩
     ·rw [if_neg c4] at H
      exact absurd H (by simp)
    ·rw [if_neg c3] at H
     exact absurd H (by simp)
   ·rw [if_neg c2] at H
    have c2b0 : decide (x7_1 < (l0.length : Int)) = false := decide_eq_false c2
    clear c2
    replace H := Option.bind_eq_some_iff.mp H
    obtain ⟨t106, A190, H⟩ := H
    replace H : (some (decide (t106 ≤ 4096))) = some r := H
    have A19 := aM A190
    clear A190
    obtain rfl := Option.some.inj H
    go_wp2_with (first | (go_at_call 114; (with_reducible refine (runs_Total.calls k1 _ _ l0 t106 _ ?side1 ?side2 A19.out).mono ?_); (case side1 => exact yR HR0); (case side2 => exact HC0.out); rintro e w20 ⟨rfl, hb⟩; replace HB := yP w hb; clear hb))
    repeat (go_quiet (first | (go_at_call 114; (with_reducible refine (runs_Total.calls k1 _ _ l0 t106 _ ?side1 ?side2 A19.out).mono ?_); (case side1 => exact yR HR0); (case side2 => exact HC0.out); rintro e w20 ⟨rfl, hb⟩; replace HB := yP w hb; clear hb)); try go_wp2_with (first | (go_at_call 114; (with_reducible refine (runs_Total.calls k1 _ _ l0 t106 _ ?side1 ?side2 A19.out).mono ?_); (case side1 => exact yR HR0); (case side2 => exact HC0.out); rintro e w20 ⟨rfl, hb⟩; replace HB := yP w hb; clear hb)))
    go_ret
    exact ⟨ye, by exact ey HB.out⟩
def runs_within.f (k : Nat) (l0 : List (S68)) (a1 : Int) (a2 : Int) : Option (Bool) := (runs_Good.f k l0).bind fun t113 => (if t113 = true then (if a1 ≥ 0 then (if a1 ≤ a2 then ((runs_Total.f k l0).bind fun t114 => (some (decide (a2 ≤ t114)))) else (some false)) else (some false)) else (some false))
set_option maxHeartbeats 8000000 in
set_option maxRecDepth 100000 in
theorem runs_within.calls (k : Nat) (A0 : Option Addr) (c0 : Nat) (l0 : List (S68)) (a1 : Int) (a2 : Int) (r : Bool) (w : World) (hr0 : Kd.C k68 w A0 l0.length l0) (hc0 : l0.length ≤ c0) (h : runs_within.f k l0 a1 a2 = some r) :
  Calls Tryz.prog 152 #[.slice A0 l0.length c0, .int .i64 a1, .int .i64 a2] w fun e w' => e = .returned (.bool r) ∧ Below w.heap.size w w' := by
 have HR0 := aM hr0
 have HC0 := aM hc0
 clear hr0 hc0
 have HB := aM (Below.refl w.heap.size w)
 have H : ((runs_Good.f k l0).bind fun t113 => (if t113 = true then (if a1 ≥ 0 then (if a1 ≤ a2 then ((runs_Total.f k l0).bind fun t114 => (some (decide (a2 ≤ t114)))) else (some false)) else (some false)) else (some false))) = some r := h
 clear h
 replace H := Option.bind_eq_some_iff.mp H
 obtain ⟨t113, A40, H⟩ := H
 replace H : (if t113 = true then (if a1 ≥ 0 then (if a1 ≤ a2 then ((runs_Total.f k l0).bind fun t114 => (some (decide (a2 ≤ t114)))) else (some false)) else (some false)) else (some false)) = some r := H
 have A4 := aM A40
 clear A40
 by_cases c5 : t113 = true
 ·subst c5
  rw [if_pos rfl] at H
  by_cases c6 : a1 ≥ 0
  ·rw [if_pos c6] at H
   have c6b0 : decide (0 ≤ a1) = true := decide_eq_true c6
   clear c6
   by_cases c7 : a1 ≤ a2
   ·rw [if_pos c7] at H
    have c7b0 : decide (a1 ≤ a2) = true := decide_eq_true c7
    clear c7
    replace H := Option.bind_eq_some_iff.mp H
    obtain ⟨t114, A80, H⟩ := H
    replace H : (some (decide (a2 ≤ t114))) = some r := H
    have A8 := aM A80
    clear A80
    obtain rfl := Option.some.inj H
    go_enter Tryz.func152, Tryz.ntmps152
    go_wp2_with (first | (refine yC (some 8) Tryz.func113 #[.slice A0 l0.length c0] ?_; (with_reducible refine (runs_Good.calls k _ _ l0 true _ ?side1 ?side2 A4.out).mono ?_); (case side1 => repeat (first | exact HR0.out | (with_reducible refine Kd.C_alloc ?_ _) | (with_reducible refine Kd.C_drewN ?_ _) | (with_reducible refine Kd.C_drew ?_))); (case side2 => exact HC0.out); rintro e w9 ⟨rfl, hb⟩; refine ⟨_, rfl, ?_⟩; replace HB := yP w hb; clear hb) | (go_at_call 114; (with_reducible refine (runs_Total.calls k _ _ l0 t114 _ ?side1 ?side2 A8.out).mono ?_); (case side1 => exact yR HR0); (case side2 => exact HC0.out); rintro e w10 ⟨rfl, hb⟩; replace HB := yP w hb; clear hb))
    go_ret
    exact ⟨ye, by exact ey HB.out⟩
   ·rw [if_neg c7] at H
    have c7b0 : decide (a1 ≤ a2) = false := decide_eq_false c7
    clear c7
    obtain rfl := Option.some.inj H
    go_enter Tryz.func152, Tryz.ntmps152
    go_wp2_with (first | (refine yC (some 8) Tryz.func113 #[.slice A0 l0.length c0] ?_; (with_reducible refine (runs_Good.calls k _ _ l0 true _ ?side1 ?side2 A4.out).mono ?_); (case side1 => repeat (first | exact HR0.out | (with_reducible refine Kd.C_alloc ?_ _) | (with_reducible refine Kd.C_drewN ?_ _) | (with_reducible refine Kd.C_drew ?_))); (case side2 => exact HC0.out); rintro e w11 ⟨rfl, hb⟩; refine ⟨_, rfl, ?_⟩; replace HB := yP w hb; clear hb))
    go_ret
    exact ⟨ye, by exact ey HB.out⟩
  ·rw [if_neg c6] at H
   have c6b0 : decide (0 ≤ a1) = false := decide_eq_false c6
   clear c6
   obtain rfl := Option.some.inj H
   go_enter Tryz.func152, Tryz.ntmps152
   go_wp2_with (first | (refine yC (some 8) Tryz.func113 #[.slice A0 l0.length c0] ?_; (with_reducible refine (runs_Good.calls k _ _ l0 true _ ?side1 ?side2 A4.out).mono ?_); (case side1 => repeat (first | exact HR0.out | (with_reducible refine Kd.C_alloc ?_ _) | (with_reducible refine Kd.C_drewN ?_ _) | (with_reducible refine Kd.C_drew ?_))); (case side2 => exact HC0.out); rintro e w12 ⟨rfl, hb⟩; refine ⟨_, rfl, ?_⟩; replace HB := yP w hb; clear hb))
   go_ret
   exact ⟨ye, by exact ey HB.out⟩
 ·replace c5 := Bool.eq_false_iff.mpr c5
  subst c5
  rw [if_neg (show ¬ (false = true) by decide)] at H
  obtain rfl := Option.some.inj H
  go_enter Tryz.func152, Tryz.ntmps152
  go_wp2_with (first | (refine yC (some 8) Tryz.func113 #[.slice A0 l0.length c0] ?_; (with_reducible refine (runs_Good.calls k _ _ l0 false _ ?side1 ?side2 A4.out).mono ?_); (case side1 => repeat (first | exact HR0.out | (with_reducible refine Kd.C_alloc ?_ _) | (with_reducible refine Kd.C_drewN ?_ _) | (with_reducible refine Kd.C_drew ?_))); (case side2 => exact HC0.out); rintro e w13 ⟨rfl, hb⟩; refine ⟨_, rfl, ?_⟩; replace HB := yP w hb; clear hb))
  go_ret
  exact ⟨ye, by exact ey HB.out⟩
end Go.Proofs.YtjkfkiebhgkolaaGreatDoor.PB
end

section
namespace Go.Proofs.YtjkfkiebhgkolaaGreatDoor.PB
open Go.RowKit Go.Proofs.YtjkfkiebhgkolaaGreatDoorW.PrintWords Go.Proofs.YtjkfkiebhgkolaaGreatDoorW.PrintLast Go.Proofs.YtjkfkiebhgkolaaGreatDoorW.PrintMore
attribute [local go_sem] max2_int min2_int max_two min_two max_three min_three max_four min_four
set_option linter.unusedVariables false
set_option linter.unusedSimpArgs false
structure GFrame (B g : Nat) (w w' : World) : Prop where
  below : Below B w w'
  typ : ∀ i cs t fr, i ≠ g → t ≠ 68 → w.heap[i]? = some (.cells cs t fr) → w'.heap[i]? = some (.cells cs t fr)
theorem GFrame.refl (B g : Nat) (w : World) : GFrame B g w w := ⟨Below.refl _ _, fun _ _ _ _ _ _ h => h⟩
theorem GFrame.trans {B g : Nat} {a b c : World} (h : GFrame B g a b) (k : GFrame B g b c) : GFrame B g a c :=
  ⟨h.below.trans k.below, fun i cs t fr h1 h2 h3 => k.typ i cs t fr h1 h2 (h.typ i cs t fr h1 h2 h3)⟩
theorem GFrame.alloc {B g : Nat} {a w : World} (h : GFrame B g a w) (hB : B ≤ w.heap.size) (o : Obj) : GFrame B g a (w.alloc o) :=
  h.trans ⟨(Below.refl _ _).alloc hB o, fun i cs t fr _ _ h3 => by rw [Below.heap_alloc _ _ _ (Array.getElem?_eq_some_iff.1 h3).1]; exact h3⟩
theorem GFrame.drewN {B g : Nat} {a w : World} (h : GFrame B g a w) (n : Nat) : GFrame B g a (w.drewN n) :=
  h.trans ⟨pw_below_drewN (Below.refl _ _) n, fun i cs t fr _ _ h3 => h3⟩
theorem GFrame.drew {B g : Nat} {a w : World} (h : GFrame B g a w) : GFrame B g a w.drew :=
  h.trans ⟨(Below.refl _ _).drew, fun i cs t fr _ _ h3 => h3⟩
theorem GFrame.setg {B g : Nat} {a w : World} (h : GFrame B g a w) (hB : B ≤ g) (j : Nat) (u : Value) : GFrame B g a (w.setCell ⟨g, j, none⟩ u) :=
  h.trans ⟨(Below.refl _ _).setCell hB u, fun i cs t fr h1 _ h3 => by rw [Below.heap_setCell _ _ _ _ h1]; exact h3⟩
theorem GFrame.grown {B g : Nat} {a w w' : World} {row : Option Nat} (h : GFrame B g a w) (hg : w.grownBy w' row) (hB : B ≤ w.heap.size) (hr : ∀ k, row = some k → B ≤ k ∧ ∃ cells fr, w.heap[k]? = some (.cells cells 68 fr)) : GFrame B g a w' :=
  h.trans ⟨(Below.refl _ _).grown hg hB (fun k hk => (hr k hk).1), fun i cs t fr _ h2 h3 => by
    rw [hg.block i (Array.getElem?_eq_some_iff.1 h3).1 (fun e => by
      obtain ⟨_, cells, fr', hc⟩ := hr i e.symm
      rw [hc] at h3
      injection h3 with h3
      injection h3 with _ h3
      exact h2 h3.symm)]
    exact h3⟩
def GS (B g : Nat) (w : World) (xs : List S68) : Prop := ∃ v, w.heap[g]? = some (.cells #[v] 22 (0, 0)) ∧ Kd.R k68 68 w B (fun _ => True) v xs
def addRun (xs : List S68) (r : S68) : List S68 :=
  if r.f1 < 1 then xs else if 0 < xs.length then (if (xs.getD (xs.length - 1) z68).f0 = r.f0 then xs.set (xs.length - 1) ⟨(xs.getD (xs.length - 1) z68).f0, wrap64 ((xs.getD (xs.length - 1) z68).f1 + r.f1)⟩ else xs ++ [r]) else xs ++ [r]
theorem R_typed' {B : Nat} {w : World} {v : Value} {xs : List S68} (h : Kd.R k68 68 w B (fun _ => True) v xs) : ∀ k, v.ownBlock = some k → B ≤ k ∧ ∃ cells fr, w.heap[k]? = some (.cells cells 68 fr) := fun k hk => by
  obtain ⟨cells, hc⟩ := Kd.R_typed h k hk
  exact ⟨Kd.R_base h k hk, cells, _, hc⟩
set_option maxHeartbeats 4000000 in
theorem gather1_small (L N : Int) (g : Nat) (w : World) (hN : N < 1) :
    Calls Tryz.prog 167 #[.agg #[.int .u64 L, .int .i64 N], .pointer (some ⟨g, 0, none⟩)] w fun e w' => e = .returned (.tuple #[]) ∧ w' = w.alloc (.cells #[.int .u64 L, .int .i64 N] 68) := by
  have hu68 := Tryz.underlying68
  have hN' : decide (N < 1) = true := by simpa using hN
  go_enter Tryz.func167, Tryz.ntmps167
  go_wp2
  exact bodyPost_ret (results_none rfl _ _ _) rfl ⟨rfl, rfl⟩
theorem notype : ∀ q, q ∈ 68 :: k68.E → q ≠ 22 := by
  intro q hq
  have : q = 68 := by simpa [k68, Kd.iso, Kd.pair, Kd.int, Kd.scalar] using hq
  omega
theorem GS_grown {B g : Nat} {w w1 W : World} {v : Value} {xs : List S68} (hB : B ≤ g) (hg : W.heap[g]? = some (.cells #[v] 22 (0, 0))) (hR : Kd.R k68 68 W B (fun _ => True) v xs) (hF : GFrame B g w W)
    (hg1 : W.grownBy w1 v.ownBlock) : w1.heap[g]? = some (.cells #[v] 22 (0, 0)) ∧ GFrame B g w w1 :=
  ⟨blk_grown hg hg1 (Kd.R_ne hR hg (by decide)), hF.grown hg1 (Nat.le_trans hB (Nat.le_of_lt (blk_lt hg))) (R_typed' hR)⟩
theorem GS_put {B g : Nat} {w w1 : World} {v v1 : Value} {ys : List S68} (hB : B ≤ g) (hg : w1.heap[g]? = some (.cells #[v] 22 (0, 0))) (hR : Kd.R k68 68 w1 B (fun _ => True) v1 ys) (hF : GFrame B g w w1) :
    GS B g (w1.setCell ⟨g, 0, none⟩ v1) ys ∧ GFrame B g w (w1.setCell ⟨g, 0, none⟩ v1) :=
  ⟨⟨v1, blk_set hg 0 v1, Kd.R_set hR hg notype 0 v1⟩, hF.setg hB 0 v1⟩
theorem GFrame.box {B g : Nat} {w : World} (hB : B ≤ w.heap.size) (o : Obj) (n : Nat) : GFrame B g w ((w.alloc o).drewN n) := ((GFrame.refl B g w).alloc hB o).drewN n
theorem box_heap {g : Nat} {w : World} {x : Obj} (o : Obj) (n : Nat) (h : w.heap[g]? = some x) : ((w.alloc o).drewN n).heap[g]? = some x := by
  show (w.alloc o).heap[g]? = some x
  rw [Below.heap_alloc _ _ _ (blk_lt h)]; exact h
theorem GS_same {B g n b c : Nat} {w W : World} {xs : List S68} (hB : B ≤ g) (hg : W.heap[g]? = some (.cells #[.slice (some ⟨b, 0, none⟩) (n + 1) c] 22 (0, 0))) (hR : Kd.R k68 68 W B (fun _ => True) (.slice (some ⟨b, 0, none⟩) (n + 1) c) xs)
    (hF : GFrame B g w W) (hn : xs.length = n + 1) (x : Int) :
    GS B g (W.setCell ⟨b, n * 2 + 1, none⟩ (.int .i64 x)) (xs.set n ⟨(xs.getD n z68).f0, x⟩) ∧ GFrame B g w (W.setCell ⟨b, n * 2 + 1, none⟩ (.int .i64 x)) := by
  obtain ⟨ce, hcl, hM, hcc, hfr⟩ := Kd.R_elem hR z68 (n : Int) (by omega) (by omega)
  obtain rfl := k68_openM hM
  obtain ⟨h1, h2⟩ := Kd.R_seg hR (n : Int) (by omega) (by omega) (seg := [.int .i64 x]) (j := 1) hcl hcc (show 2 ≤ 2 from by decide) (x' := (⟨(xs.getD (n : Int).toNat z68).f0, x⟩ : S68)) (k68_mkM _ _ _ (⟨(xs.getD (n : Int).toNat z68).f0, x⟩ : S68)) (fun _ hk => hk)
  have h3 : some g ≠ some b := Kd.R_ne hR hg (by decide)
  exact ⟨⟨_, blk_grown hg h2 h3, h1⟩, hF.grown h2 (Nat.le_trans hB (Nat.le_of_lt (blk_lt hg))) (R_typed' hR)⟩
set_option maxHeartbeats 4000000 in
set_option maxRecDepth 100000 in
theorem gather1_first (L N : Int) (B g : Nat) (A : Option Addr) (c : Nat) (w : World) (hN : ¬ N < 1) (hB : B ≤ g) (hg : w.heap[g]? = some (.cells #[.slice A 0 c] 22 (0, 0))) (hR : Kd.R k68 68 w B (fun _ => True) (.slice A 0 c) []) :
    Calls Tryz.prog 167 #[.agg #[.int .u64 L, .int .i64 N], .pointer (some ⟨g, 0, none⟩)] w fun e w' => e = .returned (.tuple #[]) ∧ GS B g w' [⟨L, N⟩] ∧ GFrame B g w w' := by
  have hu68 := Tryz.underlying68
  have hN' : decide (N < 1) = false := by simpa using hN
  have hc : w.cell? ⟨g, 0, none⟩ = some (.slice A 0 c) := by rw [bC hg]; rfl
  have hlt := World.block_lt_of_cell? w _ hc
  have HR := aM hR
  have HG := aM hg
  clear hR hg
  go_enter Tryz.func167, Tryz.ntmps167
  go_wp2
  go_quiet (fail)
  go_wp2_with (at_builtin; go_loud (refine Kd.R_append k68 (w0 := w) B rfl (.tmp 33) (.tmp 35) 22 68 (.agg #[(.int .u64 0), (.int .i64 0)]) 16 rfl Tryz.underlying22 info68 rfl (by decide) (by omega) (.slice A 0 c) [] (⟨L, N⟩ : S68) [.int .u64 L, .int .i64 N] (fun _ => True) (fun _ => False) rfl ?aX ?aP (fun _ hk => hk.elim) ?aF ?aO ?aB ?aS ?aL ?_); (case aX => simp [Act.eval, go_sem]); (case aP => exact k68_mkM _ _ _ (⟨L, N⟩ : S68)); (case aB => exact pw_below_drewN ((Below.refl _ _).alloc (by omega) _) _); (case aF => exact (fun _ _ => trivial)); (case aO => exact (by (with_reducible repeat (first | apply ra | apply rn | apply rd_)); exact HR.out)); (case aS => simp; omega); (case aL => simp); intro v1 w1 ho hb hg1 hat; obtain ⟨A1, c1, rfl⟩ := Kd.R_slice ho; go_loud (have HF := aM (GS_grown hB (box_heap _ _ HG.out) (Kd.R_drewN (Kd.R_alloc HR.out _) _) (GFrame.box (by omega) _ _) hg1)); have HO := aM ho; clear ho hb hg1 hat; have hcg := bC HF.out.1 0; have hfg := bF HF.out.1 0)
  go_end0
  exact ⟨rfl, GS_put hB HF.out.1 HO.out HF.out.2⟩
set_option maxHeartbeats 4000000 in
set_option maxRecDepth 100000 in
theorem gather1_other (L N : Int) (B g : Nat) (v : Value) (xs : List S68) (w : World) (hN : ¬ N < 1) (hB : B ≤ g) (hg : w.heap[g]? = some (.cells #[v] 22 (0, 0))) (hR : Kd.R k68 68 w B (fun _ => True) v xs)
    (hp : 0 < xs.length) (hne : ¬ (xs.getD (xs.length - 1) z68).f0 = L) (hlen : (xs.length + 1) * 16 ≤ 140737488355328) :
    Calls Tryz.prog 167 #[.agg #[.int .u64 L, .int .i64 N], .pointer (some ⟨g, 0, none⟩)] w fun e w' => e = .returned (.tuple #[]) ∧ GS B g w' (xs ++ [⟨L, N⟩]) ∧ GFrame B g w w' := by
  have hu68 := Tryz.underlying68
  obtain ⟨b, c, rfl, hbb, hbl, _⟩ := Kd.R_form hR hp
  have hmax := (rR hR).2.2.2.1
  obtain ⟨ce, hcl, hM, hcc, hfr⟩ := Kd.R_elem hR z68 ((xs.length : Int) - 1) (by omega) (by omega)
  obtain rfl := k68_openM hM
  obtain ⟨n, hn⟩ : ∃ n, xs.length = n + 1 := ⟨xs.length - 1, by omega⟩
  have en : ((xs.length : Int) - 1).toNat = n := by omega
  have hx0 : w.cell? ⟨b, n * 2, none⟩ = some (.int .u64 (xs.getD n z68).f0) := by have := hcc 0 _ rfl; rw [en] at this; exact this
  have hx1 : w.cell? ⟨b, n * 2 + 1, none⟩ = some (.int .i64 (xs.getD n z68).f1) := by have := hcc 1 _ rfl; rw [en] at this; exact this
  rw [show xs.length - 1 = n by omega] at hne
  have hb : ((xs.getD n z68).f0 == L) = false := by simpa using hne
  have hN' : decide (N < 1) = false := by simpa using hN
  rw [hn] at hg hR
  have HL := aM hlen
  clear hlen
  have hc : w.cell? ⟨g, 0, none⟩ = some (.slice (some ⟨b, 0, none⟩) (n + 1) c) := by rw [bC hg]; rfl
  have hlt := World.block_lt_of_cell? w _ hc
  have HR := aM hR
  have HG := aM hg
  have HN := aM hn
  have hn2 : n ≤ 9223372036854775806 := by omega
  generalize (xs.getD n z68).f0 = L1 at *
  generalize (xs.getD n z68).f1 = N1 at *
  clear hR hg hn hne hM hcc hcl hfr en hp hmax
  go_enter Tryz.func167, Tryz.ntmps167
  go_wp2
  go_quiet (fail)
  go_wp2_with (at_builtin; go_loud (refine Kd.R_append k68 (w0 := w) B rfl (.tmp 33) (.tmp 35) 22 68 (.agg #[(.int .u64 0), (.int .i64 0)]) 16 rfl Tryz.underlying22 info68 rfl (by decide) (by omega) (.slice (some ⟨b, 0, none⟩) (n + 1) c) xs (⟨L, N⟩ : S68) [.int .u64 L, .int .i64 N] (fun _ => True) (fun _ => False) rfl ?aX ?aP (fun _ hk => hk.elim) ?aF ?aO ?aB ?aS ?aL ?_); (case aX => simp [Act.eval, go_sem]); (case aP => exact k68_mkM _ _ _ (⟨L, N⟩ : S68)); (case aB => exact pw_below_drewN ((Below.refl _ _).alloc (by omega) _) _); (case aF => exact (fun _ _ => trivial)); (case aO => exact (by (with_reducible repeat (first | apply ra | apply rn | apply rd_)); exact HR.out)); (case aS => simp; omega); (case aL => exact HL.out); intro v1 w1 ho hb hg1 hat; obtain ⟨A1, c1, rfl⟩ := Kd.R_slice ho; go_loud (have HF := aM (GS_grown hB (box_heap _ _ HG.out) (Kd.R_drewN (Kd.R_alloc HR.out _) _) (GFrame.box (by omega) _ _) hg1)); have HO := aM ho; clear ho hb hg1 hat; have hcg := bC HF.out.1 0; have hfg := bF HF.out.1 0)
  go_end0
  exact ⟨rfl, GS_put hB HF.out.1 (by have h := HO.out; rw [List.length_append] at h; exact h) HF.out.2⟩
set_option maxHeartbeats 4000000 in
set_option maxRecDepth 100000 in
theorem gather1_same (L N : Int) (B g : Nat) (v : Value) (xs : List S68) (w : World) (hN : ¬ N < 1) (hB : B ≤ g) (hg : w.heap[g]? = some (.cells #[v] 22 (0, 0))) (hR : Kd.R k68 68 w B (fun _ => True) v xs)
    (hp : 0 < xs.length) (hne : (xs.getD (xs.length - 1) z68).f0 = L) :
    Calls Tryz.prog 167 #[.agg #[.int .u64 L, .int .i64 N], .pointer (some ⟨g, 0, none⟩)] w fun e w' => e = .returned (.tuple #[]) ∧ GS B g w' (xs.set (xs.length - 1) ⟨(xs.getD (xs.length - 1) z68).f0, wrap64 ((xs.getD (xs.length - 1) z68).f1 + N)⟩) ∧ GFrame B g w w' := by
  have hu68 := Tryz.underlying68
  obtain ⟨b, c, rfl, hbb, hbl, _⟩ := Kd.R_form hR hp
  have hmax := (rR hR).2.2.2.1
  obtain ⟨ce, hcl, hM, hcc, hfr⟩ := Kd.R_elem hR z68 ((xs.length : Int) - 1) (by omega) (by omega)
  obtain rfl := k68_openM hM
  obtain ⟨n, hn⟩ : ∃ n, xs.length = n + 1 := ⟨xs.length - 1, by omega⟩
  have en : ((xs.length : Int) - 1).toNat = n := by omega
  rw [en] at hcc hfr
  have hx0 : w.cell? ⟨b, n * 2, none⟩ = some (.int .u64 (xs.getD n z68).f0) := hcc 0 _ rfl
  have hx1 : w.cell? ⟨b, n * 2 + 1, none⟩ = some (.int .i64 (xs.getD n z68).f1) := hcc 1 _ rfl
  have hf1 : w.frozen? ⟨b, n * 2 + 1, none⟩ = false := hfr 1
  rw [show xs.length - 1 = n by omega] at hne ⊢
  have hb : ((xs.getD n z68).f0 == L) = true := by simpa using hne
  have hN' : decide (N < 1) = false := by simpa using hN
  rw [hn] at hg hR
  have hc : w.cell? ⟨g, 0, none⟩ = some (.slice (some ⟨b, 0, none⟩) (n + 1) c) := by rw [bC hg]; rfl
  have hlt := World.block_lt_of_cell? w _ hc
  have HR := aM hR
  have HG := aM hg
  have HN := aM hn
  have hn2 : n ≤ 9223372036854775806 := by omega
  generalize hL1 : (xs.getD n z68).f0 = L1 at *
  have HL1 := aM hL1
  clear hL1
  generalize (xs.getD n z68).f1 = N1 at *
  clear hR hg hn hne hM hcc hcl hfr en hp hmax
  go_enter Tryz.func167, Tryz.ntmps167
  go_wp2
  go_quiet (fail)
  go_wp2
  go_region
  go_wp2
  refine bodyPost_ret (results_none rfl _ _ _) rfl ⟨rfl, ?_⟩
  obtain rfl := HL1.out
  exact GS_same hB (box_heap _ _ HG.out) (Kd.R_drewN (Kd.R_alloc HR.out _) _) (GFrame.box (by omega) _ _) HN.out (wrap64 (N1 + N))
theorem gather1 (L N : Int) (B g : Nat) (xs : List S68) (w : World) (hB : B ≤ g) (hS : GS B g w xs) (hlen : (xs.length + 1) * 16 ≤ 140737488355328) :
    Calls Tryz.prog 167 #[.agg #[.int .u64 L, .int .i64 N], .pointer (some ⟨g, 0, none⟩)] w fun e w' => e = .returned (.tuple #[]) ∧ GS B g w' (addRun xs ⟨L, N⟩) ∧ GFrame B g w w' := by
  obtain ⟨v, hg, hR⟩ := hS
  unfold addRun
  by_cases hN : N < 1
  · rw [if_pos hN]
    refine (gather1_small L N g w hN).mono ?_
    rintro e w' ⟨rfl, rfl⟩
    exact ⟨rfl, ⟨v, box_heap _ 0 hg, Kd.R_alloc hR _⟩, GFrame.box (Nat.le_trans hB (Nat.le_of_lt (blk_lt hg))) _ 0⟩
  rw [if_neg hN]
  by_cases hp : 0 < xs.length
  · rw [if_pos hp]
    by_cases he : (xs.getD (xs.length - 1) z68).f0 = L
    · rw [if_pos he]
      exact gather1_same L N B g v xs w hN hB hg hR hp he
    · rw [if_neg he]
      exact gather1_other L N B g v xs w hN hB hg hR hp he hlen
  · rw [if_neg hp]
    obtain rfl : xs = [] := List.eq_nil_of_length_eq_zero (by omega)
    obtain ⟨A, c, rfl⟩ := Kd.R_slice hR
    exact gather1_first L N B g A c w hN hB hg hR
def someTo (step : List S68 → S68 → List S68) (a b : Int) : List S68 → Int → List S68 → List S68
  | [], _, acc => acc
  | r :: l, p, acc => someTo step a b l (wrap64 (p + r.f1)) (step acc ⟨r.f0, wrap64 ((if b < wrap64 (p + r.f1) then b else wrap64 (p + r.f1)) - (if p < a then a else p))⟩)
theorem GS_alloc {B g : Nat} {w : World} {xs : List S68} (h : GS B g w xs) (o : Obj) : GS B g (w.alloc o) xs := by
  obtain ⟨v, hg, hR⟩ := h
  exact ⟨v, box_heap o 0 hg, Kd.R_alloc hR o⟩
theorem someTo_snoc {step : List S68 → S68 → List S68} {a b : Int} {l : List S68} {k : Nat} (hk : k < l.length) (p : Int) (acc : List S68) :
    someTo step a b (l.drop k) p acc = someTo step a b (l.drop (k + 1)) (wrap64 (p + (rd_T68 l (k : Int)).f1)) (step acc ⟨(rd_T68 l (k : Int)).f0, wrap64 ((if b < wrap64 (p + (rd_T68 l (k : Int)).f1) then b else wrap64 (p + (rd_T68 l (k : Int)).f1)) - (if p < a then a else p))⟩) := by
  rw [List.drop_eq_getElem_cons hk]
  unfold rd_T68
  rw [Int.toNat_natCast, List.getD_eq_getElem?_getD, List.getElem?_eq_getElem hk]
  rfl
set_option maxHeartbeats 4000000 in
set_option maxRecDepth 100000 in
theorem some_any (step : List S68 → S68 → List S68) (hstep : ∀ acc r, (step acc r).length ≤ acc.length + 1) (fid : Nat) (caps : Array Value)
    (hcf : ∀ (args : Array Value) (w : World), Sem.run Tryz.prog (callFunc fid args) w = .ok (.enter fid args) w)
    (A : Option Addr) (c : Nat) (l : List S68) (a b : Int) (g : Nat) (acc0 : List S68) (w0 w : World) (hB : w0.heap.size ≤ g)
    (hr : Kd.C k68 w0 A l.length l) (hw : Below w0.heap.size w0 w) (hS : GS w0.heap.size g w acc0) (hlen : (acc0.length + l.length) * 16 ≤ 140737488355328)
    (hadd : ∀ acc L N w1, (acc.length + 1) * 16 ≤ 140737488355328 → GS w0.heap.size g w1 acc → GFrame w0.heap.size g w w1 →
      Calls Tryz.prog fid (#[.agg #[.int .u64 L, .int .i64 N]] ++ caps) w1 fun e w' => e = .returned (.tuple #[]) ∧ GS w0.heap.size g w' (step acc ⟨L, N⟩) ∧ GFrame w0.heap.size g w1 w') :
    Calls Tryz.prog 155 #[.slice A l.length c, .int .i64 a, .int .i64 b, .func (.func fid) #[] caps] w fun e w' => e = .returned (.tuple #[]) ∧ GS w0.heap.size g w' (someTo step a b l 0 acc0) ∧ GFrame w0.heap.size g w w' := by
  have hu68 := Tryz.underlying68
  have hmax : l.length ≤ 9223372036854775807 := hr.2.1
  have HR := aM hr
  have HW := aM hw
  have HS := aM hS
  have HA := aM hadd
  have HL := aM hlen
  have HP := aM hstep
  clear hr hw hS hadd hlen hstep
  go_enter Tryz.func155, Tryz.ntmps155
  go_wp2
  go_loopw [8, 14] (fun p i wr => ∃ (k : Nat) (pz : Int) (acc : List S68), k ≤ l.length ∧ i = .int .i64 k ∧ p = .int .i64 pz ∧ Aside0 (GS w0.heap.size g wr acc) ∧ Aside0 (GFrame w0.heap.size g w wr) ∧ Aside0 (acc.length ≤ acc0.length + k) ∧ Aside0 (someTo step a b (l.drop k) pz acc = someTo step a b l 0 acc0)) (fun _ i _ => l.length - (intOf i).toNat)
  case atStart => exact ⟨0, 0, acc0, Nat.zero_le _, rfl, rfl, HS, ⟨GFrame.refl _ _ _⟩, ⟨by omega⟩, ⟨rfl⟩⟩
  case round =>
    obtain ⟨k, pz, acc, hk, rfl, rfl, HG, HF, HAL, HE⟩ := hrel
    by_cases hlt : k < l.length
    · obtain ⟨ad, rfl, hx0, hx1⟩ := at_T68 HR.out (k : Int) (by omega) (by omega)
      have hb1 : Below w0.heap.size w0 wr := HW.out.trans HF.out.below
      replace hx0 := (hb1.cell (World.block_lt_of_cell? w0 _ hx0)).trans hx0
      replace hx1 := (hb1.cell (World.block_lt_of_cell? w0 _ hx1)).trans hx1
      simp only [Int.toNat_natCast] at hx0 hx1
      have hsn := someTo_snoc (step := step) (a := a) (b := b) hlt pz acc
      generalize (rd_T68 l (k : Int)).f0 = e0 at *
      generalize (rd_T68 l (k : Int)).f1 = e1 at *
      have HB1 := aM hb1
      have HSN := aM hsn
      clear hsn
      clear hb1
      go_wp2_with ((with_reducible refine (HA.out acc _ _ _ ?h1 ?h2 ?h3).mono ?_); (case h1 => have h1 := HL.out; have h2 := HAL.out; omega); (case h2 => exact GS_alloc HG.out _); (case h3 => exact HF.out.alloc (by have := HB1.out.size; omega) _); rintro e w2 ⟨rfl, hg2, hf2⟩; have HG2 := aM hg2; have HF2 := aM hf2; clear hg2 hf2)
      go_roundw
      case rel => exact ⟨k + 1, wrap64 (pz + e1), _, by omega, by go_num, rfl, HG2, ⟨(HF.out.alloc (by have := HB1.out.size; omega) _).trans HF2.out⟩, ⟨by have h1 := HP.out acc; have h2 := HAL.out; exact Nat.le_trans (h1 _) (by omega)⟩, ⟨HSN.out.symm.trans HE.out⟩⟩
      case measure => simp [intOf]; omega
    · have hkl : k = l.length := by omega
      subst hkl
      go_wp2
      exact bodyPost_end (results_none rfl _ _ _) rfl ⟨rfl, by have h := HE.out; rw [List.drop_length] at h; rw [← h]; exact HG.out, HF.out⟩
theorem run_enter {P : Program} {f : FuncId} {fn : Func} {c : Code} (hf : P.funcs[f]? = some fn) (hname : (fn.name == "runtime.NumGoroutine") = false) (hb : fn.body = some c) (args : Array Value) (w : World) :
    Sem.run P (callFunc f args) w = .ok (.enter f args) w := by
  have h1 : fn.name ≠ "runtime.NumGoroutine" := by simpa using hname
  simp [callFunc, hf, h1, hb]
theorem hcf103 : ∀ (args : Array Value) (w : World), Sem.run Tryz.prog (callFunc 167 args) w = .ok (.enter 167 args) w := fun args w => run_enter Tryz.func167 rfl rfl args w
theorem addRun_len (acc : List S68) (r : S68) : (addRun acc r).length ≤ acc.length + 1 := by
  unfold addRun
  repeat' split
  all_goals simp
theorem some_add (A : Option Addr) (c : Nat) (l : List S68) (a b : Int) (g : Nat) (acc0 : List S68) (w0 w : World) (hB : w0.heap.size ≤ g)
    (hr : Kd.C k68 w0 A l.length l) (hw : Below w0.heap.size w0 w) (hS : GS w0.heap.size g w acc0) (hlen : (acc0.length + l.length) * 16 ≤ 140737488355328) :
    Calls Tryz.prog 155 #[.slice A l.length c, .int .i64 a, .int .i64 b, .func (.func 167) #[] #[.pointer (some ⟨g, 0, none⟩)]] w fun e w' => e = .returned (.tuple #[]) ∧ GS w0.heap.size g w' (someTo addRun a b l 0 acc0) ∧ GFrame w0.heap.size g w w' :=
  some_any addRun addRun_len 167 _ hcf103 A c l a b g acc0 w0 w hB hr hw hS hlen (fun acc L N w1 h1 h2 _ => gather1 L N _ g acc w1 hB h2 h1)
set_option maxHeartbeats 4000000 in
set_option maxRecDepth 100000 in
theorem gather_any (lid : Nat) (caps : Array Value) (args : Nat → Array Value) (hargs : ∀ g, #[.func (.func 167) #[] #[.pointer (some ⟨g, 0, none⟩)]] ++ caps = args g) (hcf : ∀ (args : Array Value) (w : World), Sem.run Tryz.prog (callFunc lid args) w = .ok (.enter lid args) w) (R : List S68) (w : World)
    (hlay : ∀ g w1, w.heap.size ≤ g → GS w.heap.size g w1 [] → Below w.heap.size w w1 →
      Calls Tryz.prog lid (args g) w1 fun e w' => e = .returned (.tuple #[]) ∧ GS w.heap.size g w' R ∧ GFrame w.heap.size g w1 w') :
    Calls Tryz.prog 153 #[.func (.func lid) #[] caps] w fun e w' => ∃ v, e = .returned v ∧ Kd.R k68 68 w' w.heap.size (fun _ => True) v R ∧ Below w.heap.size w w' := by
  have hmf : ∀ (fn : Fn) (first cap : Array Value) (w : World), (Instr.makeFunc fn first cap).run Tryz.prog w = .ok (.func fn first cap) w := fun _ _ _ _ => rfl
  have HY := aM hlay
  have hargs' := hargs w.heap.size
  clear hlay hargs
  go_enter Tryz.func153, Tryz.ntmps153
  go_wp2_with ((with_reducible refine (HY.out w.heap.size _ ?h1 ?h2 ?h3).mono ?_); (case h1 => omega); (case h2 => exact ⟨_, blk_new _ _, Kd.R_nil _ _ _ _ _⟩); (case h3 => exact (Below.refl _ _).alloc (Nat.le_refl _) _); rintro e w2 ⟨rfl, hg2, hf2⟩; obtain ⟨v, hgv, hRv⟩ := hg2; have hcv : w2.cell? ⟨w.heap.size, 0, none⟩ = some v := (by rw [bC hgv]; rfl); have HG2 := aM hgv; have HR2 := aM hRv; have HF2 := aM hf2; clear hgv hRv hf2)
  go_ret
  exact ⟨v, rfl, HR2.out, ((Below.refl _ _).alloc (Nat.le_refl _) _).trans HF2.out.below⟩
theorem hcf81 : ∀ (args : Array Value) (w : World), Sem.run Tryz.prog (callFunc 161 args) w = .ok (.enter 161 args) w := fun args w => run_enter Tryz.func161 rfl rfl args w
theorem hcf86 : ∀ (args : Array Value) (w : World), Sem.run Tryz.prog (callFunc 154 args) w = .ok (.enter 154 args) w := fun args w => run_enter Tryz.func154 rfl rfl args w
theorem hcf93 : ∀ (args : Array Value) (w : World), Sem.run Tryz.prog (callFunc 172 args) w = .ok (.enter 172 args) w := fun args w => run_enter Tryz.func172 rfl rfl args w
theorem cell_later' {w0 w : World} (h : Below w0.heap.size w0 w) {p : Addr} {v : Value} (hc : w0.cell? p = some v) : w.cell? p = some v := (h.cell (World.block_lt_of_cell? w0 _ hc)).trans hc
set_option maxHeartbeats 4000000 in
set_option maxRecDepth 100000 in
theorem lay_normal (A : Option Addr) (c : Nat) (l : List S68) (bl g : Nat) (w0 w : World) (hB : w0.heap.size ≤ g) (hr : Kd.C k68 w0 A l.length l) (hbx : w0.cell? ⟨bl, 0, none⟩ = some (.slice A l.length c))
    (hw : Below w0.heap.size w0 w) (hS : GS w0.heap.size g w []) (hlen : l.length * 16 ≤ 140737488355328) :
    Calls Tryz.prog 161 #[.func (.func 167) #[] #[.pointer (some ⟨g, 0, none⟩)], .pointer (some ⟨bl, 0, none⟩)] w fun e w' => e = .returned (.tuple #[]) ∧ GS w0.heap.size g w' (someTo addRun 0 4096 l 0 []) ∧ GFrame w0.heap.size g w w' := by
  have hb := cell_later' hw hbx
  have HC := some_add A c l 0 4096 g [] w0 w hB hr hw hS (by simpa using hlen)
  have HC := aM HC
  clear hr hw hS hlen hbx
  go_enter Tryz.func161, Tryz.ntmps161
  go_wp2_with ((with_reducible refine HC.out.mono ?_); rintro e w2 ⟨rfl, hg2, hf2⟩; have HG2 := aM hg2; have HF2 := aM hf2; clear hg2 hf2)
  go_end0
  exact ⟨rfl, HG2.out, HF2.out⟩
set_option maxHeartbeats 4000000 in
set_option maxRecDepth 100000 in
theorem lay_slice (A : Option Addr) (c : Nat) (l : List S68) (a b : Int) (bl ba bb g : Nat) (w0 w : World) (hB : w0.heap.size ≤ g) (hr : Kd.C k68 w0 A l.length l) (hbx : w0.cell? ⟨bl, 0, none⟩ = some (.slice A l.length c))
    (hba : w0.cell? ⟨ba, 0, none⟩ = some (.int .i64 a)) (hbb : w0.cell? ⟨bb, 0, none⟩ = some (.int .i64 b))
    (hw : Below w0.heap.size w0 w) (hS : GS w0.heap.size g w []) (hlen : l.length * 16 ≤ 140737488355328) :
    Calls Tryz.prog 154 #[.func (.func 167) #[] #[.pointer (some ⟨g, 0, none⟩)], .pointer (some ⟨bl, 0, none⟩), .pointer (some ⟨ba, 0, none⟩), .pointer (some ⟨bb, 0, none⟩)] w fun e w' => e = .returned (.tuple #[]) ∧ GS w0.heap.size g w' (someTo addRun a b l 0 []) ∧ GFrame w0.heap.size g w w' := by
  have hb := cell_later' hw hbx
  have hb1 := cell_later' hw hba
  have hb2 := cell_later' hw hbb
  have HC := some_add A c l a b g [] w0 w hB hr hw hS (by simpa using hlen)
  have HC := aM HC
  clear hr hw hS hlen hbx hba hbb
  go_enter Tryz.func154, Tryz.ntmps154
  go_wp2_with ((with_reducible refine HC.out.mono ?_); rintro e w2 ⟨rfl, hg2, hf2⟩; have HG2 := aM hg2; have HF2 := aM hf2; clear hg2 hf2)
  go_end0
  exact ⟨rfl, HG2.out, HF2.out⟩
theorem someTo_len {step : List S68 → S68 → List S68} (hstep : ∀ acc r, (step acc r).length ≤ acc.length + 1) (a b : Int) (l : List S68) : ∀ p acc, (someTo step a b l p acc).length ≤ acc.length + l.length := by
  induction l with
  | nil => intro p acc; simp [someTo]
  | cons r l ih => intro p acc; have := ih (wrap64 (p + r.f1)) (step acc ⟨r.f0, wrap64 ((if b < wrap64 (p + r.f1) then b else wrap64 (p + r.f1)) - (if p < a then a else p))⟩); have h2 := hstep acc ⟨r.f0, wrap64 ((if b < wrap64 (p + r.f1) then b else wrap64 (p + r.f1)) - (if p < a then a else p))⟩; simp only [someTo, List.length_cons]; omega
def spliceRuns (l : List S68) (a b : Int) (m : List S68) : List S68 := someTo addRun b 4096 l 0 (someTo addRun 0 4096 m 0 (someTo addRun 0 a l 0 []))
set_option maxHeartbeats 4000000 in
set_option maxRecDepth 100000 in
theorem lay_splice (A : Option Addr) (c : Nat) (l : List S68) (a b : Int) (A2 : Option Addr) (c2 : Nat) (m : List S68) (bl ba bb bm g : Nat) (w0 w : World) (hB : w0.heap.size ≤ g) (hr : Kd.C k68 w0 A l.length l) (hrm : Kd.C k68 w0 A2 m.length m)
    (hbx : w0.cell? ⟨bl, 0, none⟩ = some (.slice A l.length c)) (hbm : w0.cell? ⟨bm, 0, none⟩ = some (.slice A2 m.length c2))
    (hba : w0.cell? ⟨ba, 0, none⟩ = some (.int .i64 a)) (hbb : w0.cell? ⟨bb, 0, none⟩ = some (.int .i64 b))
    (hw : Below w0.heap.size w0 w) (hS : GS w0.heap.size g w []) (hlen : (l.length + m.length + l.length) * 16 ≤ 140737488355328) :
    Calls Tryz.prog 172 #[.func (.func 167) #[] #[.pointer (some ⟨g, 0, none⟩)], .pointer (some ⟨bl, 0, none⟩), .pointer (some ⟨ba, 0, none⟩), .pointer (some ⟨bm, 0, none⟩), .pointer (some ⟨bb, 0, none⟩)] w fun e w' => e = .returned (.tuple #[]) ∧ GS w0.heap.size g w' (spliceRuns l a b m) ∧ GFrame w0.heap.size g w w' := by
  have hb := cell_later' hw hbx
  have hb1 := cell_later' hw hba
  have l1 := someTo_len addRun_len 0 a l 0 []
  have l2 := someTo_len addRun_len 0 4096 m 0 (someTo addRun 0 a l 0 [])
  simp only [List.length_nil] at l1
  have HC := some_add A c l 0 a g [] w0 w hB hr hw hS (by simp only [List.length_nil]; omega)
  have HC2 := fun W (h : Below w0.heap.size w0 W) hs => some_add A2 c2 m 0 4096 g (someTo addRun 0 a l 0 []) w0 W hB hrm h hs (by omega)
  have HC3 := fun W (h : Below w0.heap.size w0 W) hs => some_add A c l b 4096 g (someTo addRun 0 4096 m 0 (someTo addRun 0 a l 0 [])) w0 W hB hr h hs (by omega)
  have HC := aM HC
  have HC2 := aM HC2
  have HC3 := aM HC3
  have HW := aM hw
  have HBX := aM hbx
  have HBM := aM hbm
  have HBB := aM hbb
  clear hr hrm hw hS hlen hbx hbm hbb hba l1 l2
  go_enter Tryz.func172, Tryz.ntmps172
  go_wp2_with fail
  refine HC.out.mono ?_
  rintro e w1 ⟨rfl, hg2, hf2⟩
  have HG2 := aM hg2
  have HF2 := aM hf2
  have hw1 := HW.out.trans hf2.below
  have hc1 := cell_later' hw1 HBM.out
  have hc2 := cell_later' hw1 HBX.out
  have hc3 := cell_later' hw1 HBB.out
  have HW1 := aM hw1
  clear hg2 hf2 hw1
  go_wp2_with fail
  refine (HC2.out _ HW1.out HG2.out).mono ?_
  rintro e w2 ⟨rfl, hg2, hf2⟩
  have HG3 := aM hg2
  have HF3 := aM (HF2.out.trans hf2)
  have hw1 := HW1.out.trans hf2.below
  have hc4 := cell_later' hw1 HBX.out
  have hc5 := cell_later' hw1 HBB.out
  have HW2 := aM hw1
  clear hg2 hf2 hw1
  go_wp2_with fail
  refine (HC3.out _ HW2.out HG3.out).mono ?_
  rintro e w3 ⟨rfl, hg2, hf2⟩
  have HG4 := aM hg2
  have HF4 := aM (HF3.out.trans hf2)
  clear hg2 hf2
  go_wp2
  go_end0
  exact ⟨rfl, HG4.out, HF4.out⟩
def runs_Slice.f (k : Nat) (l0 : List S68) (a1 : Int) (a2 : Int) : Option (List S68 × Int) :=
  (runs_within.f k l0 a1 a2).bind fun t => if t = true then (if l0.length * 16 ≤ 140737488355328 then some (someTo addRun a1 a2 l0 0 [], 0) else none) else some ([], 2)
set_option maxHeartbeats 4000000 in
set_option maxRecDepth 100000 in
theorem runs_Slice.calls (k : Nat) (A0 : Option Addr) (c0 : Nat) (l0 : List S68) (a1 : Int) (a2 : Int) (r1 : List S68) (r2 : Int) (w : World) (hr0 : Kd.C k68 w A0 l0.length l0) (hc0 : l0.length ≤ c0) (h : runs_Slice.f k l0 a1 a2 = some (r1, r2)) :
    Calls Tryz.prog 124 #[.slice A0 l0.length c0, .int .i64 a1, .int .i64 a2] w fun e w' => ∃ v0_ : Value, e = .returned (.tuple #[v0_, .int .i64 r2]) ∧ Kd.R k68 68 w' w.heap.size (fun _ => True) v0_ r1 ∧ Below w.heap.size w w' := by
  have hmf : ∀ (fn : Fn) (first cap : Array Value) (w : World), (Instr.makeFunc fn first cap).run Tryz.prog w = .ok (.func fn first cap) w := fun _ _ _ _ => rfl
  unfold runs_Slice.f at h
  obtain ⟨t, ht, h⟩ := Option.bind_eq_some_iff.1 h
  have HC := aM (fun W (hw : Below w.heap.size w W) => runs_within.calls k A0 c0 l0 a1 a2 t W (cB_ hr0 hw) hc0 ht)
  have HR := aM hr0
  clear hr0 ht
  cases t with
  | false =>
    simp only [Bool.false_eq_true, if_false] at h
    injection h with h
    injection h with h1 h2
    subst h1; subst h2
    go_enter Tryz.func124, Tryz.ntmps124
    go_wp2_with fail
    refine (HC.out _ (((Below.refl _ _).alloc (Nat.le_refl _) _).alloc (by simp) _ |>.alloc (by simp; omega) _)).mono ?_
    rintro e w1 ⟨rfl, hb⟩
    have HB := aM hb
    clear hb
    go_wp2
    go_ret2
    exact ⟨_, rfl, Kd.R_nil _ _ _ _ _, ((((Below.refl _ _).alloc (Nat.le_refl _) _).alloc (by simp) _).alloc (by simp; omega) _).trans (HB.out.mono (by simp; omega))⟩
  | true =>
    simp only [if_true] at h
    by_cases hl : l0.length * 16 ≤ 140737488355328
    case neg => rw [if_neg hl] at h; cases h
    rw [if_pos hl] at h
    injection h with h
    injection h with h1 h2
    subst h1; subst h2
    have HL := aM hl
    clear hl
    go_enter Tryz.func124, Tryz.ntmps124
    go_wp2_with fail
    have hb3 := (((Below.refl w.heap.size w).alloc (Nat.le_refl _) (.cells #[.slice A0 l0.length c0] 22)).alloc (by simp) (.cells #[.int .i64 a1] 3) |>.alloc (by simp; omega) (.cells #[.int .i64 a2] 3))
    refine (HC.out _ hb3).mono ?_
    rintro e w1 ⟨rfl, hb⟩
    have HB := aM hb
    have HB3 := aM hb3
    have c1 : w1.cell? ⟨w.heap.size, 0, none⟩ = some (.slice A0 l0.length c0) := cell_later' hb (by simp [go_sem])
    have c2 : w1.cell? ⟨w.heap.size + 1, 0, none⟩ = some (.int .i64 a1) := cell_later' hb (by simp [go_sem])
    have c3 : w1.cell? ⟨w.heap.size + 1 + 1, 0, none⟩ = some (.int .i64 a2) := cell_later' hb (by simp [go_sem])
    clear hb hb3
    have HG := aM (gather_any 154 #[.pointer (some ⟨w.heap.size, 0, none⟩), .pointer (some ⟨w.heap.size + 1, 0, none⟩), .pointer (some ⟨w.heap.size + 1 + 1, 0, none⟩)] _ (fun g => rfl) hcf86 (someTo addRun a1 a2 l0 0 []) w1 (fun g w2 h1 h2 h3 => lay_slice A0 c0 l0 a1 a2 _ _ _ g w1 w2 h1 (cB_ HR.out ((HB3.out.trans (HB.out.mono (by simp; omega))))) c1 c2 c3 h3 h2 HL.out))
    go_wp2_with ((with_reducible refine HG.out.mono ?_); rintro e w3 ⟨v, rfl, hRv, hBv⟩; have HV := aM hRv; have HBV := aM hBv; clear hRv hBv)
    go_ret2
    exact ⟨_, rfl, rL HV.out (by have := HB.out.size; simp at this; omega), (HB3.out.trans (HB.out.mono (by simp; omega))).trans (HBV.out.mono (by have := HB.out.size; simp at this; omega))⟩
def runs_Normal.f (k : Nat) (l0 : List S68) : Option (List S68 × Int) :=
  if (∃ j : Nat, j < l0.length ∧ (rd_T68 l0 (j : Int)).f1 < 0) then some ([], 2) else (runs_Total.f k l0).bind fun t => if t > 4096 then some ([], 3) else if l0.length * 16 ≤ 140737488355328 then some (someTo addRun 0 4096 l0 0 [], 0) else none
set_option maxHeartbeats 4000000 in
set_option maxRecDepth 100000 in
theorem runs_Normal.neg (A0 : Option Addr) (c0 : Nat) (l0 : List S68) (j : Nat) (w : World) (hr0 : Kd.C k68 w A0 l0.length l0) (hj : j < l0.length) (hn : (rd_T68 l0 (j : Int)).f1 < 0) :
    Calls Tryz.prog 141 #[.slice A0 l0.length c0] w fun e w' => ∃ v0_ : Value, e = .returned (.tuple #[v0_, .int .i64 2]) ∧ Kd.R k68 68 w' w.heap.size (fun _ => True) v0_ [] ∧ Below w.heap.size w w' := by
  have hmf : ∀ (fn : Fn) (first cap : Array Value) (w : World), (Instr.makeFunc fn first cap).run Tryz.prog w = .ok (.func fn first cap) w := fun _ _ _ _ => rfl
  have hu68 := Tryz.underlying68
  have hmax : l0.length ≤ 9223372036854775807 := hr0.2.1
  have HR := aM hr0
  have HN := aM hn
  clear hr0 hn
  go_enter Tryz.func141, Tryz.ntmps141
  go_wp2
  go_loopw [8] (fun i wr => ∃ (k : Nat), k ≤ j ∧ i = .int .i64 k ∧ Aside0 (Below w.heap.size w wr)) (fun i _ => l0.length - (intOf i).toNat)
  case atStart => exact ⟨0, Nat.zero_le _, rfl, ⟨(Below.refl _ _).alloc (Nat.le_refl _) _⟩⟩
  case round =>
    obtain ⟨k, hk, rfl, HB⟩ := hrel
    have hlt : k < l0.length := by omega
    obtain ⟨ad, rfl, hx0, hx1⟩ := at_T68 HR.out (k : Int) (by omega) (by omega)
    replace hx0 := (HB.out.cell (World.block_lt_of_cell? w _ hx0)).trans hx0
    replace hx1 := (HB.out.cell (World.block_lt_of_cell? w _ hx1)).trans hx1
    simp only [Int.toNat_natCast] at hx0 hx1
    by_cases hneg : (rd_T68 l0 (k : Int)).f1 < 0
    · generalize (rd_T68 l0 (k : Int)).f0 = e0 at *
      generalize (rd_T68 l0 (k : Int)).f1 = e1 at *
      have hd : decide (e1 < 0) = true := by simpa using hneg
      go_wp2
      go_ret2
      exact ⟨_, rfl, Kd.R_nil _ _ _ _ _, HB.out.alloc HB.out.size _⟩
    · have hkj : k < j := by
        rcases Nat.lt_or_ge k j with h | h
        · exact h
        · obtain rfl : k = j := by omega
          exact absurd HN.out hneg
      generalize (rd_T68 l0 (k : Int)).f0 = e0 at *
      generalize (rd_T68 l0 (k : Int)).f1 = e1 at *
      have hd : decide (e1 < 0) = false := by simpa using hneg
      go_wp2
      go_roundw
      case rel => exact ⟨k + 1, by omega, by go_num, ⟨HB.out.alloc HB.out.size _⟩⟩
      case measure => simp [intOf]; omega
set_option maxHeartbeats 4000000 in
set_option maxRecDepth 100000 in
theorem runs_Normal.pos (k : Nat) (A0 : Option Addr) (c0 : Nat) (l0 : List S68) (r1 : List S68) (r2 : Int) (w : World) (hr0 : Kd.C k68 w A0 l0.length l0) (hc0 : l0.length ≤ c0)
    (hn : ∀ j : Nat, j < l0.length → ¬ (rd_T68 l0 (j : Int)).f1 < 0) (t : Int) (ht : runs_Total.f k l0 = some t)
    (h : (if t > 4096 then some ([], 3) else if l0.length * 16 ≤ 140737488355328 then some (someTo addRun 0 4096 l0 0 [], 0) else none) = some (r1, r2)) :
    Calls Tryz.prog 141 #[.slice A0 l0.length c0] w fun e w' => ∃ v0_ : Value, e = .returned (.tuple #[v0_, .int .i64 r2]) ∧ Kd.R k68 68 w' w.heap.size (fun _ => True) v0_ r1 ∧ Below w.heap.size w w' := by
  have hmf : ∀ (fn : Fn) (first cap : Array Value) (w : World), (Instr.makeFunc fn first cap).run Tryz.prog w = .ok (.func fn first cap) w := fun _ _ _ _ => rfl
  have hu68 := Tryz.underlying68
  have hmax : l0.length ≤ 9223372036854775807 := hr0.2.1
  have HR := aM hr0
  have HN := aM hn
  have HC := aM (fun W (hw : Below w.heap.size w W) => runs_Total.calls k A0 c0 l0 t W (cB_ hr0 hw) hc0 ht)
  have HH := aM h
  clear hr0 hn h ht
  go_enter Tryz.func141, Tryz.ntmps141
  go_wp2
  go_loopw [8] (fun i wr => ∃ (k : Nat), k ≤ l0.length ∧ i = .int .i64 k ∧ Aside0 (Below w.heap.size w wr) ∧ Aside0 (w.heap.size + 1 ≤ wr.heap.size) ∧ wr.cell? ⟨w.heap.size, 0, none⟩ = some (.slice A0 l0.length c0)) (fun i _ => l0.length - (intOf i).toNat)
  case atStart => exact ⟨0, Nat.zero_le _, rfl, ⟨(Below.refl _ _).alloc (Nat.le_refl _) _⟩, ⟨by simp⟩, by simp [go_sem]⟩
  case round =>
    obtain ⟨k, hk, rfl, HB, HZ, hcl⟩ := hrel
    have hcl2 := World.block_lt_of_cell? wr _ hcl
    by_cases hlt : k < l0.length
    · obtain ⟨ad, rfl, hx0, hx1⟩ := at_T68 HR.out (k : Int) (by omega) (by omega)
      replace hx0 := (HB.out.cell (World.block_lt_of_cell? w _ hx0)).trans hx0
      replace hx1 := (HB.out.cell (World.block_lt_of_cell? w _ hx1)).trans hx1
      simp only [Int.toNat_natCast] at hx0 hx1
      have hneg := HN.out k hlt
      generalize (rd_T68 l0 (k : Int)).f0 = e0 at *
      generalize (rd_T68 l0 (k : Int)).f1 = e1 at *
      have hd : decide (e1 < 0) = false := by simpa using hneg
      go_wp2
      go_roundw
      case rel => exact ⟨k + 1, by omega, by go_num, ⟨HB.out.alloc HB.out.size _⟩, ⟨by have := HZ.out; simp; omega⟩, (by first | exact cell_later' ((Below.refl _ _).alloc (Nat.le_refl _) _) hcl | simp [go_sem, hcl])⟩
      case measure => simp [intOf]; omega
    · have hkl : k = l0.length := by omega
      subst hkl
      go_wp2_with fail
      refine (HC.out _ HB.out).mono ?_
      rintro e w1 ⟨rfl, hb⟩
      have c1 := cell_later' hb hcl
      have HB1 := aM hb
      have HH1 := HH.out
      clear hb
      by_cases h4 : t > 4096
      · have hd : decide (4096 < t) = true := by simpa using h4
        rw [if_pos h4] at HH1
        injection HH1 with h
        injection h with h1 h2
        subst h1; subst h2
        clear h4
        go_wp2
        go_ret2
        exact ⟨_, rfl, Kd.R_nil _ _ _ _ _, HB.out.trans (HB1.out.mono HB.out.size)⟩
      · have hd : decide (4096 < t) = false := by simpa using h4
        rw [if_neg h4] at HH1
        by_cases hl : l0.length * 16 ≤ 140737488355328
        case neg => rw [if_neg hl] at HH1; cases HH1
        rw [if_pos hl] at HH1
        injection HH1 with h
        injection h with h1 h2
        subst h1; subst h2
        have HL := aM hl
        clear hl h4
        have HG := aM (gather_any 161 #[.pointer (some ⟨w.heap.size, 0, none⟩)] _ (fun g => rfl) hcf81 (someTo addRun 0 4096 l0 0 []) w1 (fun g w2 h1 h2 h3 => lay_normal A0 c0 l0 _ g w1 w2 h1 (cB_ HR.out (HB.out.trans (HB1.out.mono HB.out.size))) c1 h3 h2 HL.out))
        go_wp2_with ((with_reducible refine HG.out.mono ?_); rintro e w3 ⟨v, rfl, hRv, hBv⟩; have HV := aM hRv; have HBV := aM hBv; clear hRv hBv)
        go_ret2
        exact ⟨_, rfl, rL HV.out (Nat.le_trans HB.out.size HB1.out.size), (HB.out.trans (HB1.out.mono HB.out.size)).trans (HBV.out.mono (Nat.le_trans HB.out.size HB1.out.size))⟩
theorem runs_Normal.calls (k : Nat) (A0 : Option Addr) (c0 : Nat) (l0 : List S68) (r1 : List S68) (r2 : Int) (w : World) (hr0 : Kd.C k68 w A0 l0.length l0) (hc0 : l0.length ≤ c0) (h : runs_Normal.f k l0 = some (r1, r2)) :
    Calls Tryz.prog 141 #[.slice A0 l0.length c0] w fun e w' => ∃ v0_ : Value, e = .returned (.tuple #[v0_, .int .i64 r2]) ∧ Kd.R k68 68 w' w.heap.size (fun _ => True) v0_ r1 ∧ Below w.heap.size w w' := by
  unfold runs_Normal.f at h
  by_cases hn : ∃ j : Nat, j < l0.length ∧ (rd_T68 l0 (j : Int)).f1 < 0
  · rw [if_pos hn] at h
    injection h with h
    injection h with h1 h2
    subst h1; subst h2
    obtain ⟨j, hj, hn⟩ := hn
    exact runs_Normal.neg A0 c0 l0 j w hr0 hj hn
  · rw [if_neg hn] at h
    obtain ⟨t, ht, h⟩ := Option.bind_eq_some_iff.1 h
    exact runs_Normal.pos k A0 c0 l0 r1 r2 w hr0 hc0 (fun j hj hh => hn ⟨j, hj, hh⟩) t ht h
def runs_Splice.f (k : Nat) (l0 : List S68) (a1 : Int) (a2 : Int) (l3 : List S68) : Option (List S68 × Int) :=
  (runs_within.f k l0 a1 a2).bind fun t => if t = true then ((runs_Good.f k l3).bind fun u => if u = true then ((runs_Total.f k l0).bind fun p => (runs_Total.f k l3).bind fun q =>
    if wrap64 (wrap64 (p - wrap64 (a2 - a1)) + q) > 4096 then some ([], 3) else if (l0.length + l3.length + l0.length) * 16 ≤ 140737488355328 then some (spliceRuns l0 a1 a2 l3, 0) else none) else some ([], 2)) else some ([], 2)
theorem splice_boxes {w w1 : World} {x0 x1 x2 x3 : Value} (hb : Below ((((w.alloc (.cells #[x0] 22)).alloc (.cells #[x1] 3)).alloc (.cells #[x2] 3)).alloc (.cells #[x3] 22)).heap.size ((((w.alloc (.cells #[x0] 22)).alloc (.cells #[x1] 3)).alloc (.cells #[x2] 3)).alloc (.cells #[x3] 22)) w1) :
    Below w.heap.size w w1 ∧ w1.cell? ⟨w.heap.size, 0, none⟩ = some x0 ∧ w1.cell? ⟨w.heap.size + 1, 0, none⟩ = some x1 ∧ w1.cell? ⟨w.heap.size + 1 + 1, 0, none⟩ = some x2 ∧ w1.cell? ⟨w.heap.size + 1 + 1 + 1, 0, none⟩ = some x3 ∧ w.heap.size + 1 + 1 + 1 + 1 ≤ w1.heap.size :=
  ⟨((((Below.refl _ _).alloc (Nat.le_refl _) _).alloc (by simp) _).alloc (by simp; omega) _ |>.alloc (by simp; omega) _).trans (hb.mono (by simp; omega)),
   cell_later' hb (by simp [go_sem]), cell_later' hb (by simp [go_sem]), cell_later' hb (by simp [go_sem]), cell_later' hb (by simp [go_sem]), by have := hb.size; simpa using this⟩
set_option maxHeartbeats 4000000 in
set_option maxRecDepth 100000 in
theorem runs_Splice.out (k : Nat) (A0 : Option Addr) (c0 : Nat) (l0 : List S68) (a1 : Int) (a2 : Int) (A3 : Option Addr) (c3 : Nat) (l3 : List S68) (w : World) (hr0 : Kd.C k68 w A0 l0.length l0) (hc0 : l0.length ≤ c0) (ht : runs_within.f k l0 a1 a2 = some false) :
    Calls Tryz.prog 164 #[.slice A0 l0.length c0, .int .i64 a1, .int .i64 a2, .slice A3 l3.length c3] w fun e w' => ∃ v0_ : Value, e = .returned (.tuple #[v0_, .int .i64 2]) ∧ Kd.R k68 68 w' w.heap.size (fun _ => True) v0_ [] ∧ Below w.heap.size w w' := by
  have hmf : ∀ (fn : Fn) (first cap : Array Value) (w : World), (Instr.makeFunc fn first cap).run Tryz.prog w = .ok (.func fn first cap) w := fun _ _ _ _ => rfl
  have HC := aM (fun W (hw : Below w.heap.size w W) => runs_within.calls k A0 c0 l0 a1 a2 false W (cB_ hr0 hw) hc0 ht)
  clear hr0 ht
  go_enter Tryz.func164, Tryz.ntmps164
  go_wp2_with fail
  refine (HC.out _ (splice_boxes (Below.refl _ _)).1).mono ?_
  rintro e w1 ⟨rfl, hb⟩
  have HB := aM (splice_boxes hb)
  clear hb
  go_wp2
  go_ret2
  exact ⟨_, rfl, Kd.R_nil _ _ _ _ _, HB.out.1⟩
set_option maxHeartbeats 4000000 in
set_option maxRecDepth 100000 in
theorem runs_Splice.bad (k : Nat) (A0 : Option Addr) (c0 : Nat) (l0 : List S68) (a1 : Int) (a2 : Int) (A3 : Option Addr) (c3 : Nat) (l3 : List S68) (w : World) (hr0 : Kd.C k68 w A0 l0.length l0) (hc0 : l0.length ≤ c0) (hr3 : Kd.C k68 w A3 l3.length l3) (hc3 : l3.length ≤ c3)
    (ht : runs_within.f k l0 a1 a2 = some true) (hu : runs_Good.f k l3 = some false) :
    Calls Tryz.prog 164 #[.slice A0 l0.length c0, .int .i64 a1, .int .i64 a2, .slice A3 l3.length c3] w fun e w' => ∃ v0_ : Value, e = .returned (.tuple #[v0_, .int .i64 2]) ∧ Kd.R k68 68 w' w.heap.size (fun _ => True) v0_ [] ∧ Below w.heap.size w w' := by
  have hmf : ∀ (fn : Fn) (first cap : Array Value) (w : World), (Instr.makeFunc fn first cap).run Tryz.prog w = .ok (.func fn first cap) w := fun _ _ _ _ => rfl
  have HC := aM (fun W (hw : Below w.heap.size w W) => runs_within.calls k A0 c0 l0 a1 a2 true W (cB_ hr0 hw) hc0 ht)
  have HG := aM (fun W (hw : Below w.heap.size w W) => runs_Good.calls k A3 c3 l3 false W (cB_ hr3 hw) hc3 hu)
  clear hr0 ht hr3 hu
  go_enter Tryz.func164, Tryz.ntmps164
  go_wp2_with fail
  refine (HC.out _ (splice_boxes (Below.refl _ _)).1).mono ?_
  rintro e w1 ⟨rfl, hb⟩
  have HB := aM (splice_boxes hb)
  have hc4 := (splice_boxes hb).2.2.2.2.1
  clear hb
  go_wp2_with fail
  refine (HG.out _ HB.out.1).mono ?_
  rintro e w2 ⟨rfl, hb⟩
  have HB2 := aM (HB.out.1.trans (hb.mono (by have := HB.out.2.2.2.2.2; omega)))
  clear hb
  go_wp2
  go_ret2
  exact ⟨_, rfl, Kd.R_nil _ _ _ _ _, HB2.out⟩
set_option maxHeartbeats 4000000 in
set_option maxRecDepth 100000 in
theorem runs_Splice.rest (k : Nat) (A0 : Option Addr) (c0 : Nat) (l0 : List S68) (a1 : Int) (a2 : Int) (A3 : Option Addr) (c3 : Nat) (l3 : List S68) (r1 : List S68) (r2 : Int) (w : World) (hr0 : Kd.C k68 w A0 l0.length l0) (hc0 : l0.length ≤ c0) (hr3 : Kd.C k68 w A3 l3.length l3) (hc3 : l3.length ≤ c3)
    (ht : runs_within.f k l0 a1 a2 = some true) (hu : runs_Good.f k l3 = some true) (p q : Int) (hp : runs_Total.f k l0 = some p) (hq : runs_Total.f k l3 = some q)
    (h : (if wrap64 (wrap64 (p - wrap64 (a2 - a1)) + q) > 4096 then some ([], 3) else if (l0.length + l3.length + l0.length) * 16 ≤ 140737488355328 then some (spliceRuns l0 a1 a2 l3, 0) else none) = some (r1, r2)) :
    Calls Tryz.prog 164 #[.slice A0 l0.length c0, .int .i64 a1, .int .i64 a2, .slice A3 l3.length c3] w fun e w' => ∃ v0_ : Value, e = .returned (.tuple #[v0_, .int .i64 r2]) ∧ Kd.R k68 68 w' w.heap.size (fun _ => True) v0_ r1 ∧ Below w.heap.size w w' := by
  have hmf : ∀ (fn : Fn) (first cap : Array Value) (w : World), (Instr.makeFunc fn first cap).run Tryz.prog w = .ok (.func fn first cap) w := fun _ _ _ _ => rfl
  have HC := aM (fun W (hw : Below w.heap.size w W) => runs_within.calls k A0 c0 l0 a1 a2 true W (cB_ hr0 hw) hc0 ht)
  have HG := aM (fun W (hw : Below w.heap.size w W) => runs_Good.calls k A3 c3 l3 true W (cB_ hr3 hw) hc3 hu)
  have HT1 := aM (fun W (hw : Below w.heap.size w W) => runs_Total.calls k A0 c0 l0 p W (cB_ hr0 hw) hc0 hp)
  have HT2 := aM (fun W (hw : Below w.heap.size w W) => runs_Total.calls k A3 c3 l3 q W (cB_ hr3 hw) hc3 hq)
  have HR0 := aM hr0
  have HR3 := aM hr3
  have HH := aM h
  clear hr0 ht hr3 hu hp hq h
  go_enter Tryz.func164, Tryz.ntmps164
  go_wp2_with fail
  refine (HC.out _ (splice_boxes (Below.refl _ _)).1).mono ?_
  rintro e w1 ⟨rfl, hb⟩
  have HB := aM hb
  have hc4 := (splice_boxes hb).2.2.2.2.1
  clear hb
  go_wp2_with fail
  refine (HG.out _ (splice_boxes HB.out).1).mono ?_
  rintro e w2 ⟨rfl, hb⟩
  have HB2 := aM (HB.out.trans (hb.mono (by have := (splice_boxes HB.out).2.2.2.2.2; simp; omega)))
  clear hb hc4
  obtain ⟨hc1, hc2, hc3', hc4, hc5⟩ := (splice_boxes HB2.out).2
  have HZ := aM hc5
  clear hc5
  go_wp2_with fail
  go_region_held3 (fun w' => w'.cell? ⟨w.heap.size, 0, none⟩ = some (.slice A0 l0.length c0) ∧ w'.cell? ⟨w.heap.size + 1, 0, none⟩ = some (.int .i64 a1) ∧ w'.cell? ⟨w.heap.size + 1 + 1, 0, none⟩ = some (.int .i64 a2) ∧ w'.cell? ⟨w.heap.size + 1 + 1 + 1, 0, none⟩ = some (.slice A3 l3.length c3) ∧ Aside0 (Below w2.heap.size w2 w'))
    (first
      | exact ⟨hc1, hc2, hc3', hc4, ⟨below_drew (Below.refl _ _)⟩⟩
      | (go_split_ands; exact ⟨cell_later' hb (by assumption), cell_later' hb (by assumption), cell_later' hb (by assumption), cell_later' hb (by assumption), ⟨(fun (g5 : Aside0 (Below w2.heap.size w2 _)) => g5.out.trans (hb.mono g5.out.size)) (by assumption)⟩⟩))
    (first
      | (go_at_call 114; first | ((with_reducible refine (HT1.out _ ?hw).mono ?_); (case hw => go_split_ands; exact (splice_boxes HB2.out).1.trans ((by assumption : Aside0 (Below w2.heap.size w2 _)).out.mono (by have := HZ.out; omega))); rintro e w3 ⟨rfl, hb⟩) | ((with_reducible refine (HT2.out _ ?hw).mono ?_); (case hw => go_split_ands; exact (splice_boxes HB2.out).1.trans ((by assumption : Aside0 (Below w2.heap.size w2 _)).out.mono (by have := HZ.out; omega))); rintro e w3 ⟨rfl, hb⟩)))
  clear hc1 hc2 hc3' hc4
  obtain ⟨hc1, hc2, hc3', hc4, hB3⟩ := ‹_ ∧ _›
  have HB3 := aM (HB2.out.trans (hB3.out.mono (by have := HZ.out; simp; omega)))
  clear hB3
  have HH1 := HH.out
  rw [← i64_w, ← i64_w, ← i64_w] at HH1
  generalize IntKind.i64.wrap (IntKind.i64.wrap (p - IntKind.i64.wrap (a2 - a1)) + q) = z at HH1 ⊢
  by_cases h4 : z > 4096
  · have hd : decide (4096 < z) = true := by simpa using h4
    rw [if_pos h4] at HH1
    injection HH1 with h
    injection h with h1 h2
    subst h1; subst h2
    have h4' : 4096 < z := h4
    go_wp2
    go_ret2
    exact ⟨_, rfl, Kd.R_nil _ _ _ _ _, (splice_boxes HB3.out).1⟩
  · have hd : decide (4096 < z) = false := by simpa using h4
    rw [if_neg h4] at HH1
    by_cases hl : (l0.length + l3.length + l0.length) * 16 ≤ 140737488355328
    case neg => rw [if_neg hl] at HH1; cases HH1
    rw [if_pos hl] at HH1
    injection HH1 with h
    injection h with h1 h2
    subst h1; subst h2
    have HL := aM hl
    have h4' : ¬ 4096 < z := h4
    clear hl
    have HG := aM (gather_any 172 #[.pointer (some ⟨w.heap.size, 0, none⟩), .pointer (some ⟨w.heap.size + 1, 0, none⟩), .pointer (some ⟨w.heap.size + 1 + 1 + 1, 0, none⟩), .pointer (some ⟨w.heap.size + 1 + 1, 0, none⟩)] _ (fun g => rfl) hcf93 (spliceRuns l0 a1 a2 l3) w3 (fun g w4 h1 h2 h3 => lay_splice A0 c0 l0 a1 a2 A3 c3 l3 _ _ _ _ g w3 w4 h1 (cB_ HR0.out (splice_boxes HB3.out).1) (cB_ HR3.out (splice_boxes HB3.out).1) hc1 hc4 hc2 hc3' h3 h2 HL.out))
    go_wp2_with ((with_reducible refine HG.out.mono ?_); rintro e w5 ⟨v, rfl, hRv, hBv⟩; have HV := aM hRv; have HBV := aM hBv; clear hRv hBv)
    go_ret2
    exact ⟨_, rfl, rL HV.out (by have := (splice_boxes HB3.out).1.size; omega), (splice_boxes HB3.out).1.trans (HBV.out.mono (by have := (splice_boxes HB3.out).1.size; omega))⟩
theorem runs_Splice.calls (k : Nat) (A0 : Option Addr) (c0 : Nat) (l0 : List S68) (a1 : Int) (a2 : Int) (A3 : Option Addr) (c3 : Nat) (l3 : List S68) (r1 : List S68) (r2 : Int) (w : World) (hr0 : Kd.C k68 w A0 l0.length l0) (hc0 : l0.length ≤ c0) (hr3 : Kd.C k68 w A3 l3.length l3) (hc3 : l3.length ≤ c3) (h : runs_Splice.f k l0 a1 a2 l3 = some (r1, r2)) :
    Calls Tryz.prog 164 #[.slice A0 l0.length c0, .int .i64 a1, .int .i64 a2, .slice A3 l3.length c3] w fun e w' => ∃ v0_ : Value, e = .returned (.tuple #[v0_, .int .i64 r2]) ∧ Kd.R k68 68 w' w.heap.size (fun _ => True) v0_ r1 ∧ Below w.heap.size w w' := by
  unfold runs_Splice.f at h
  obtain ⟨t, ht, h⟩ := Option.bind_eq_some_iff.1 h
  cases t with
  | false =>
    simp only [Bool.false_eq_true, if_false] at h
    injection h with h
    injection h with h1 h2
    subst h1; subst h2
    exact runs_Splice.out k A0 c0 l0 a1 a2 A3 c3 l3 w hr0 hc0 ht
  | true =>
    simp only [if_true] at h
    obtain ⟨u, hu, h⟩ := Option.bind_eq_some_iff.1 h
    cases u with
    | false =>
      simp only [Bool.false_eq_true, if_false] at h
      injection h with h
      injection h with h1 h2
      subst h1; subst h2
      exact runs_Splice.bad k A0 c0 l0 a1 a2 A3 c3 l3 w hr0 hc0 hr3 hc3 ht hu
    | true =>
      simp only [if_true] at h
      obtain ⟨p, hp, h⟩ := Option.bind_eq_some_iff.1 h
      obtain ⟨q, hq, h⟩ := Option.bind_eq_some_iff.1 h
      exact runs_Splice.rest k A0 c0 l0 a1 a2 A3 c3 l3 r1 r2 w hr0 hc0 hr3 hc3 ht hu p q hp hq h
end Go.Proofs.YtjkfkiebhgkolaaGreatDoor.PB
end

section
namespace Go.Proofs.YtjkfkiebhgkolaaGreatDoor.PB
open Go.RowKit Go.Proofs.YtjkfkiebhgkolaaGreatDoorW.PrintWords
set_option linter.unusedVariables false
def totF : List S68 → Int → Int
 | [], n => n
 | r :: l, n => if r.f1 > 4096 - n then 4097 else totF l (n + (if r.f1 < 0 then 0 else r.f1))
def tot (l : List S68) : Int := totF l 0
def bytes (l : List S68) : List Int := l.flatMap fun r => List.replicate r.f1.toNat r.f0
def step1 (acc : List S68) (x : Int) : List S68 :=
 if 0 < acc.length ∧ (acc.getD (acc.length - 1) z68).f0 = x then acc.set (acc.length - 1) ⟨x, (acc.getD (acc.length - 1) z68).f1 + 1⟩ else acc ++ [⟨x, 1⟩]
def packTo (acc : List S68) (b : List Int) : List S68 := b.foldl step1 acc
def pack (b : List Int) : List S68 := packTo [] b
theorem packTo_append (acc : List S68) (a b : List Int) : packTo acc (a ++ b) = packTo (packTo acc a) b := List.foldl_append
theorem snoc_cases (acc : List S68) : acc = [] ∨ ∃ pre q, acc = pre ++ [q] := by
 rcases List.eq_nil_or_concat acc with h | ⟨pre, q, h⟩
 ·exact .inl h
 ·exact .inr ⟨pre, q, by rw [h, List.concat_eq_append]⟩
theorem getD_snoc (pre : List S68) (q : S68) : (pre ++ [q]).getD ((pre ++ [q]).length - 1) z68 = q := by
 simp [List.getD_eq_getElem?_getD]
theorem set_snoc (pre : List S68) (q r : S68) : (pre ++ [q]).set ((pre ++ [q]).length - 1) r = pre ++ [r] := by
 simp
theorem step1_nil (x : Int) : step1 [] x = [⟨x, 1⟩] := by simp [step1]
theorem step1_same (pre : List S68) (q : S68) : step1 (pre ++ [q]) q.f0 = pre ++ [⟨q.f0, q.f1 + 1⟩] := by
 unfold step1
 rw [getD_snoc, set_snoc, if_pos ⟨by simp, rfl⟩]
theorem step1_other (pre : List S68) (q : S68) (x : Int) (h : q.f0 ≠ x) : step1 (pre ++ [q]) x = pre ++ [q] ++ [⟨x, 1⟩] := by
 unfold step1
 rw [getD_snoc, if_neg (fun hh => h hh.2)]
theorem addRun_small (acc : List S68) (r : S68) (h : r.f1 < 1) : addRun acc r = acc := by simp [addRun, h]
theorem addRun_nil (r : S68) (h : ¬ r.f1 < 1) : addRun [] r = [r] := by simp [addRun, h]
theorem addRun_same (pre : List S68) (q r : S68) (h : ¬ r.f1 < 1) (he : q.f0 = r.f0) : addRun (pre ++ [q]) r = pre ++ [⟨q.f0, wrap64 (q.f1 + r.f1)⟩] := by
 unfold addRun
 rw [if_neg h, getD_snoc, set_snoc, if_pos (by simp), if_pos he]
theorem addRun_other (pre : List S68) (q r : S68) (h : ¬ r.f1 < 1) (he : ¬ q.f0 = r.f0) : addRun (pre ++ [q]) r = pre ++ [q] ++ [r] := by
 unfold addRun
 rw [if_neg h, getD_snoc, if_pos (by simp), if_neg he]
theorem packTo_rep_same (pre : List S68) (x : Int) : ∀ (n : Nat) (m : Int), packTo (pre ++ [⟨x, m⟩]) (List.replicate n x) = pre ++ [⟨x, m + n⟩]
 | 0, m => by simp [packTo]
 | n + 1, m => by
  rw [List.replicate_succ]
  show packTo (step1 (pre ++ [⟨x, m⟩]) x) _ = _
  rw [show step1 (pre ++ [(⟨x, m⟩ : S68)]) x = pre ++ [⟨x, m + 1⟩] from step1_same pre ⟨x, m⟩, packTo_rep_same pre x n (m + 1)]
  congr 3
  push_cast
  omega
def capped (B : Int) (acc : List S68) : Prop := ∀ r ∈ acc, 0 ≤ r.f1 ∧ r.f1 ≤ B
theorem addRun_pack (acc : List S68) (L : Int) (N : Nat) (B : Int) (hc : capped B acc) (hB : B + N ≤ 9223372036854775807) : addRun acc ⟨L, N⟩ = packTo acc (List.replicate N L) := by
 cases N with
 | zero => rw [addRun_small _ _ (by show ((0 : Nat) : Int) < 1; omega)]; rfl
 | succ n =>
  have h1 : ¬ ((⟨L, ((n + 1 : Nat) : Int)⟩ : S68).f1 < 1) := by show ¬ ((n + 1 : Nat) : Int) < 1; omega
  rw [List.replicate_succ]
  rcases snoc_cases acc with rfl | ⟨pre, q, rfl⟩
  ·rw [addRun_nil _ h1]
   show _ = packTo (step1 [] L) _
   rw [step1_nil, ← List.nil_append [(⟨L, 1⟩ : S68)], packTo_rep_same]
   simp
   omega
  ·show _ = packTo (step1 (pre ++ [q]) L) _
   by_cases he : q.f0 = L
   ·subst he
    have hq := hc q (by simp)
    rw [addRun_same pre q ⟨q.f0, ((n + 1 : Nat) : Int)⟩ h1 rfl, step1_same, packTo_rep_same]
    congr 3
    show wrap64 (q.f1 + ((n + 1 : Nat) : Int)) = _
    unfold wrap64
    omega
   ·rw [addRun_other _ _ _ h1 he, step1_other _ _ _ he, packTo_rep_same]
    simp
    omega
theorem capped_mono {B B' : Int} {acc : List S68} (h : capped B acc) (hB : B ≤ B') : capped B' acc := fun r hr => ⟨(h r hr).1, by have := (h r hr).2; omega⟩
theorem step1_capped {B : Int} {acc : List S68} (h : capped B acc) (hB : 0 ≤ B) (x : Int) : capped (B + 1) (step1 acc x) := by
 rcases snoc_cases acc with rfl | ⟨pre, q, rfl⟩
 ·rw [step1_nil]
  intro r hr
  obtain rfl := List.mem_singleton.1 hr
  exact ⟨by show (0 : Int) ≤ 1; omega, by show (1 : Int) ≤ B + 1; omega⟩
 ·by_cases he : q.f0 = x
  ·subst he
   rw [step1_same]
   intro r hr
   rcases List.mem_append.1 hr with hr | hr
   ·have := h r (List.mem_append_left _ hr); omega
   ·obtain rfl := List.mem_singleton.1 hr
    have := h q (by simp)
    exact ⟨by show 0 ≤ q.f1 + 1; omega, by show q.f1 + 1 ≤ B + 1; omega⟩
  ·rw [step1_other _ _ _ he]
   intro r hr
   rcases List.mem_append.1 hr with hr | hr
   ·have := h r hr; omega
   ·obtain rfl := List.mem_singleton.1 hr
    exact ⟨by show (0 : Int) ≤ 1; omega, by show (1 : Int) ≤ B + 1; omega⟩
theorem packTo_capped (b : List Int) : ∀ {B : Int} {acc : List S68}, capped B acc → 0 ≤ B → capped (B + b.length) (packTo acc b) := by
 induction b with
 | nil => intro B acc h hB; simpa [packTo] using h
 | cons x b ih =>
  intro B acc h hB
  have := ih (step1_capped h hB x) (by omega)
  show capped _ (packTo (step1 acc x) b)
  refine capped_mono this ?_
  rw [List.length_cons]
  push_cast
  omega
theorem bytes_cons (r : S68) (l : List S68) : bytes (r :: l) = List.replicate r.f1.toNat r.f0 ++ bytes l := by simp [bytes]
theorem bytes_append (a b : List S68) : bytes (a ++ b) = bytes a ++ bytes b := by simp [bytes]
theorem someTo_pack (a b : Nat) (l : List S68) : ∀ (p : Nat) (acc : List S68) (B : Int), (∀ r ∈ l, 0 ≤ r.f1) → capped B acc → 0 ≤ B → B + (bytes l).length ≤ 1000000 → p + (bytes l).length ≤ 1000000 → a ≤ 1000000 → b ≤ 1000000 →
  someTo addRun (a : Int) (b : Int) l (p : Int) acc = packTo acc (((bytes l).take (b - p)).drop (a - p)) := by
 induction l with
 | nil => intro p acc B _ _ _ _ _ _ _; simp [someTo, bytes, packTo]
 | cons r l ih =>
  intro p acc B h0 hc hB hlen hp ha hb
  obtain ⟨n, hn⟩ := Int.eq_ofNat_of_zero_le (h0 r List.mem_cons_self)
  have hn' : r.f1.toNat = n := by omega
  rw [bytes_cons, hn'] at hlen hp ⊢
  rw [List.length_append, List.length_replicate] at hlen hp
  push_cast at hlen hp
  have hw : wrap64 ((p : Int) + r.f1) = ((p + n : Nat) : Int) := by unfold wrap64; omega
  simp only [someTo]
  rw [hw]
  
  have hN : wrap64 ((if (b : Int) < ((p + n : Nat) : Int) then (b : Int) else ((p + n : Nat) : Int)) - (if (p : Int) < (a : Int) then (a : Int) else (p : Int))) = (min b (p + n) : Nat) - (max p a : Nat) := by
   unfold wrap64
   split <;> split <;> omega
  rw [hN]
  have hsplit : (((List.replicate n r.f0) ++ bytes l).take (b - p)).drop (a - p) = List.replicate (min b (p + n) - max p a) r.f0 ++ ((bytes l).take (b - (p + n))).drop (a - (p + n)) := by
   rw [List.take_append, List.drop_append, List.length_take, List.length_replicate, List.take_replicate, List.drop_replicate]
   congr 1
   ·congr 1; omega
   ·by_cases hbp : b ≤ p + n
    ·rw [show b - p - n = 0 by omega, show b - (p + n) = 0 by omega]; simp
    ·rw [show b - p - n = b - (p + n) by omega, show a - p - min (b - p) n = a - (p + n) by omega]
  rw [hsplit, packTo_append]
  by_cases hle : max p a ≤ min b (p + n)
  ·rw [show ((min b (p + n) : Nat) : Int) - ((max p a : Nat) : Int) = ((min b (p + n) - max p a : Nat) : Int) by omega]
   rw [addRun_pack acc r.f0 _ B hc (by omega)]
   have hc2 := packTo_capped (List.replicate (min b (p + n) - max p a) r.f0) hc hB
   rw [List.length_replicate] at hc2
   exact ih (p + n) _ _ (fun r hr => h0 r (List.mem_cons_of_mem _ hr)) hc2 (by omega) (by omega) (by push_cast; omega) ha hb
  ·rw [addRun_small _ _ (by show ((min b (p + n) : Nat) : Int) - ((max p a : Nat) : Int) < 1; omega), show min b (p + n) - max p a = 0 by omega]
   exact ih (p + n) acc B (fun r hr => h0 r (List.mem_cons_of_mem _ hr)) hc hB (by omega) (by push_cast; omega) ha hb
theorem totF_bytes (l : List S68) : ∀ n : Int, 0 ≤ n → totF l n ≤ 4096 → totF l n = n + (bytes l).length := by
 induction l with
 | nil => intro n _ h; simp [totF, bytes]
 | cons r l ih =>
  intro n h0 h
  simp only [totF] at h ⊢
  split at h
  ·omega
  ·rename_i hc
   rw [if_neg hc]
   rw [ih _ (by split <;> omega) h, bytes_cons, List.length_append, List.length_replicate]
   push_cast
   split <;> omega
theorem tot_bytes {l : List S68} (h : tot l ≤ 4096) : tot l = (bytes l).length := by
 have := totF_bytes l 0 (by omega) h
 unfold tot
 omega
theorem tot_of_bytes {l : List S68} (h0 : ∀ r ∈ l, 0 ≤ r.f1) (h : (bytes l).length ≤ 4096) : tot l = (bytes l).length := by
 have : ∀ (l : List S68) (n : Int), 0 ≤ n → (∀ r ∈ l, 0 ≤ r.f1) → n + (bytes l).length ≤ 4096 → totF l n = n + (bytes l).length := by
  intro l
  induction l with
  | nil => intro n _ _ _; simp [totF, bytes]
  | cons r l ih =>
   intro n hn h0 h
   have hr := h0 r List.mem_cons_self
   rw [bytes_cons, List.length_append, List.length_replicate] at h ⊢
   push_cast at h ⊢
   simp only [totF]
   rw [if_neg (by omega), if_neg (by omega), ih _ (by omega) (fun r hr => h0 r (List.mem_cons_of_mem _ hr)) (by omega)]
   omega
 have := this l 0 (by omega) h0 (by omega)
 unfold tot
 omega
def nrm : List S68 → Prop
 | [] => True
 | [r] => 1 ≤ r.f1
 | r :: s :: l => 1 ≤ r.f1 ∧ r.f0 ≠ s.f0 ∧ nrm (s :: l)
theorem nrm_tail {r : S68} {l : List S68} (h : nrm (r :: l)) : nrm l := by
 cases l with
 | nil => trivial
 | cons s l => exact h.2.2
theorem nrm_head {r : S68} {l : List S68} (h : nrm (r :: l)) : 1 ≤ r.f1 := by
 cases l with
 | nil => exact h
 | cons s l => exact h.1
theorem nrm_pos {l : List S68} (h : nrm l) : ∀ r ∈ l, 1 ≤ r.f1 := by
 induction l with
 | nil => intro r hr; cases hr
 | cons s l ih =>
  intro r hr
  rcases List.mem_cons.1 hr with rfl | hr
  ·exact nrm_head h
  ·exact ih (nrm_tail h) r hr
theorem nrm_snoc {pre : List S68} {q r : S68} : nrm (pre ++ [q]) → q.f0 ≠ r.f0 → 1 ≤ r.f1 → nrm (pre ++ [q] ++ [r]) := by
 induction pre with
 | nil => intro h h1 h2; exact ⟨h, h1, h2⟩
 | cons p pre ih =>
  intro h h1 h2
  cases pre with
  | nil => exact ⟨h.1, h.2.1, ih h.2.2 h1 h2⟩
  | cons s pre => exact ⟨h.1, h.2.1, ih h.2.2 h1 h2⟩
theorem nrm_last {pre : List S68} {q q' : S68} : nrm (pre ++ [q]) → q'.f0 = q.f0 → 1 ≤ q'.f1 → nrm (pre ++ [q']) := by
 induction pre with
 | nil => intro h h1 h2; exact h2
 | cons p pre ih =>
  intro h h1 h2
  cases pre with
  | nil => exact ⟨h.1, by rw [h1]; exact h.2.1, h2⟩
  | cons s pre => exact ⟨h.1, h.2.1, ih h.2.2 h1 h2⟩
theorem step1_nrm {acc : List S68} (h : nrm acc) (x : Int) : nrm (step1 acc x) := by
 rcases snoc_cases acc with rfl | ⟨pre, q, rfl⟩
 ·rw [step1_nil]; show (1 : Int) ≤ 1; omega
 ·by_cases he : q.f0 = x
  ·subst he
   rw [step1_same]
   exact nrm_last h rfl (by have := nrm_pos h q (by simp); show 1 ≤ q.f1 + 1; omega)
  ·rw [step1_other _ _ _ he]
   exact nrm_snoc h he (by show (1 : Int) ≤ 1; omega)
theorem packTo_nrm (b : List Int) : ∀ {acc : List S68}, nrm acc → nrm (packTo acc b) := by
 induction b with
 | nil => intro acc h; exact h
 | cons x b ih => intro acc h; exact ih (step1_nrm h x)
theorem pack_nrm (b : List Int) : nrm (pack b) := packTo_nrm b trivial
theorem step1_bytes {acc : List S68} (h : nrm acc) (x : Int) : bytes (step1 acc x) = bytes acc ++ [x] := by
 rcases snoc_cases acc with rfl | ⟨pre, q, rfl⟩
 ·rw [step1_nil]; simp [bytes]
 ·by_cases he : q.f0 = x
  ·subst he
   have := nrm_pos h q (by simp)
   rw [step1_same, bytes_append, bytes_append, List.append_assoc]
   congr 1
   simp only [bytes, List.flatMap_cons, List.flatMap_nil, List.append_nil]
   rw [show (q.f1 + 1).toNat = q.f1.toNat + 1 by omega, List.replicate_succ']
  ·rw [step1_other _ _ _ he, bytes_append]
   congr 1
theorem packTo_bytes (b : List Int) : ∀ {acc : List S68}, nrm acc → bytes (packTo acc b) = bytes acc ++ b := by
 induction b with
 | nil => intro acc h; simp [packTo]
 | cons x b ih =>
  intro acc h
  show bytes (packTo (step1 acc x) b) = _
  rw [ih (step1_nrm h x), step1_bytes h, List.append_assoc]
  rfl
theorem pack_bytes (b : List Int) : bytes (pack b) = b := by
 unfold pack
 rw [packTo_bytes b (acc := []) trivial]
 simp [bytes]
theorem packTo_normal (l : List S68) : ∀ (pre : List S68) (q : S68), nrm (q :: l) → packTo (pre ++ [q]) (bytes l) = pre ++ q :: l := by
 induction l with
 | nil => intro pre q _; simp [bytes, packTo]
 | cons s l ih =>
  intro pre q h
  have hs := nrm_head (nrm_tail h)
  obtain ⟨n, hn⟩ : ∃ n : Nat, s.f1 = ((n + 1 : Nat) : Int) := ⟨(s.f1 - 1).toNat, by omega⟩
  rw [bytes_cons, packTo_append, hn, Int.toNat_natCast, List.replicate_succ]
  show packTo (packTo (step1 (pre ++ [q]) s.f0) _) _ = _
  rw [step1_other _ _ _ h.2.1, packTo_rep_same]
  have e : (⟨s.f0, 1 + (n : Int)⟩ : S68) = s := by
   cases s
   simp only at hn
   subst hn
   congr 1
   push_cast
   omega
  rw [e, ih (pre ++ [q]) s (nrm_tail h)]
  simp
theorem pack_of_nrm {l : List S68} (h : nrm l) : pack (bytes l) = l := by
 cases l with
 | nil => rfl
 | cons s l =>
  have hs := nrm_head h
  obtain ⟨n, hn⟩ : ∃ n : Nat, s.f1 = ((n + 1 : Nat) : Int) := ⟨(s.f1 - 1).toNat, by omega⟩
  unfold pack
  rw [bytes_cons, packTo_append, hn, Int.toNat_natCast, List.replicate_succ]
  show packTo (packTo (step1 [] s.f0) _) _ = _
  rw [step1_nil, ← List.nil_append [(⟨s.f0, 1⟩ : S68)], packTo_rep_same]
  have e : (⟨s.f0, 1 + (n : Int)⟩ : S68) = s := by
   cases s
   simp only at hn
   subst hn
   congr 1
   push_cast
   omega
  rw [e, packTo_normal l [] s h]
  rfl
instance nrmDec : (l : List S68) → Decidable (nrm l)
 | [] => isTrue trivial
 | [r] => inferInstanceAs (Decidable (1 ≤ r.f1))
 | r :: s :: l => by
  have := nrmDec (s :: l)
  exact inferInstanceAs (Decidable (1 ≤ r.f1 ∧ r.f0 ≠ s.f0 ∧ nrm (s :: l)))
theorem nrm_iff {l : List S68} : nrm l ↔ l = pack (bytes l) := ⟨fun h => (pack_of_nrm h).symm, fun h => by rw [h]; exact pack_nrm _⟩
def good (l : List S68) : Bool := decide (nrm l) && decide (tot l ≤ 4096)
end Go.Proofs.YtjkfkiebhgkolaaGreatDoor.PB
end

section
namespace Go.Proofs.YtjkfkiebhgkolaaGreatDoor.PB
open Go.RowKit Go.Proofs.YtjkfkiebhgkolaaGreatDoorW.PrintWords Go.Proofs.YtjkfkiebhgkolaaGreatDoorW.PrintLast Go.Proofs.YtjkfkiebhgkolaaGreatDoorW.PrintMore
attribute [local go_sem] max2_int min2_int max_two min_two max_three min_three max_four min_four   
set_option linter.unusedVariables false
set_option linter.unusedSimpArgs false
def bureauref03_Total.l0 : Nat → List (S68) → Int → Int → Option (Int)
 | 0, _, _, _ => none
 | k + 1, x0, x3, x4 => if x4 < (x0.length : Int) then (if 0 ≤ x4 then (if ((rd_T68 x0 x4).f1) > (wrap64 (4096 - x3)) then (some 4097) else (if ((rd_T68 x0 x4).f1) > 0 then (bureauref03_Total.l0 k x0 (wrap64 (x3 + ((rd_T68 x0 x4).f1))) (wrap64 (x4 + 1))) else (bureauref03_Total.l0 k x0 x3 (wrap64 (x4 + 1))))) else (none)) else (some x3)
def bureauref03_Total.f (k : Nat) (l0 : List (S68)) : Option (Int) := bureauref03_Total.l0 k l0 0 0
set_option maxHeartbeats 8000000 in
set_option maxRecDepth 100000 in
theorem bureauref03_Total.calls (k : Nat) (A0 : Option Addr) (c0 : Nat) (l0 : List (S68)) (r : Int) (w : World) (hr0 : Kd.C k68 w A0 l0.length l0) (hc0 : l0.length ≤ c0) (h : bureauref03_Total.f k l0 = some r) :
  Calls Tryz.prog 117 #[.slice A0 l0.length c0] w fun e w' => e = .returned (.int .i64 r) ∧ Drawn0 w w' := by
 have HR0 := aM hr0
 have HC0 := aM hc0
 clear hr0 hc0
 have H : (bureauref03_Total.l0 k l0 0 0) = some r := h
 clear h
 have H' := aM H
 clear H
 go_enter Tryz.func117, Tryz.ntmps117
 go_wp2
 go_loopg [3, 4] k (fun kq v3 v4 w' => ∃ (x3_1 : Int) (x4_1 : Int), v3 = .int .i64 x3_1 ∧ v4 = .int .i64 x4_1 ∧ Aside0 (bureauref03_Total.l0 kq l0 x3_1 x4_1 = some r) ∧ Aside0 (kq ≤ k) ∧ Drawn0 w w')
 case atStart => exact ⟨(0), (0), (by first | rfl | (simp; done) | (simp [*]; done)), (by first | rfl | (simp; done) | (simp [*]; done)), H', ⟨Nat.le_refl _⟩, by repeat (first | exact Drawn0.refl _ | apply Drawn0.step)⟩
 case round =>
  clear H'
  try clear c1
  obtain ⟨x3_1, x4_1, rfl, rfl, HA, HK1, ⟨m1, rfl⟩⟩ := hrel
  cases gk with
  | zero => exact absurd HA.out (by simp [bureauref03_Total.l0])
  | succ k1 =>
   have H := HA.out
   clear HA
   simp only [bureauref03_Total.l0] at H
   by_cases c2 : x4_1 < (l0.length : Int)
   ·rw [if_pos c2] at H
    have c2b0 : decide (x4_1 < (l0.length : Int)) = true := decide_eq_true c2
    clear c2
    by_cases c3 : 0 ≤ x4_1
    ·rw [if_pos c3] at H
     have c3b0 : decide (0 ≤ x4_1) = true := decide_eq_true c3
     clear c3
     by_cases c4 : ((rd_T68 l0 x4_1).f1) > (wrap64 (4096 - x3_1))
     ·rw [if_pos c4] at H
      have c4b0 : decide ((wrap64 (4096 - x3_1)) < ((rd_T68 l0 x4_1).f1)) = true := decide_eq_true c4
      clear c4
      obtain rfl := Option.some.inj H
      have p287 : 0 ≤ (x4_1 : Int) := of_decide_eq_true (by first | (with_reducible assumption) | assumption)
      have q287 : x4_1 < (l0.length : Int) := of_decide_eq_true (by first | (with_reducible assumption) | assumption)
      obtain ⟨ad287, e287, hx287_0, hx287_1⟩ := at_T68 HR0.out x4_1 p287 q287
      cases e287
      replace p287 := eq_true p287
      replace q287 := eq_true q287
      go_wp2
      go_ret
      exact ⟨by first | rfl | (simp; done) | (simp [*]; done), by repeat (first | exact Drawn0.refl _ | apply Drawn0.step)⟩
     ·rw [if_neg c4] at H
      have c4b0 : decide ((wrap64 (4096 - x3_1)) < ((rd_T68 l0 x4_1).f1)) = false := decide_eq_false c4
      clear c4
      by_cases c5 : ((rd_T68 l0 x4_1).f1) > 0
      ·rw [if_pos c5] at H
       have c5b0 : decide (0 < ((rd_T68 l0 x4_1).f1)) = true := decide_eq_true c5
       clear c5
       have H' := aM H
       clear H
       have p287 : 0 ≤ (x4_1 : Int) := of_decide_eq_true (by first | (with_reducible assumption) | assumption)
       have q287 : x4_1 < (l0.length : Int) := of_decide_eq_true (by first | (with_reducible assumption) | assumption)
       obtain ⟨ad287, e287, hx287_0, hx287_1⟩ := at_T68 HR0.out x4_1 p287 q287
       cases e287
       replace p287 := eq_true p287
       replace q287 := eq_true q287
       have p288 : 0 ≤ (x4_1 : Int) := of_decide_eq_true (by first | (with_reducible assumption) | assumption)
       have q288 : x4_1 < (l0.length : Int) := of_decide_eq_true (by first | (with_reducible assumption) | assumption)
       obtain ⟨ad288, e288, hx288_0, hx288_1⟩ := at_T68 HR0.out x4_1 p288 q288
       obtain rfl : ad287 = ad288 := (by injection e288)
       replace p288 := eq_true p288
       replace q288 := eq_true q288
       have p289 : 0 ≤ (x4_1 : Int) := of_decide_eq_true (by first | (with_reducible assumption) | assumption)
       have q289 : x4_1 < (l0.length : Int) := of_decide_eq_true (by first | (with_reducible assumption) | assumption)
       obtain ⟨ad289, e289, hx289_0, hx289_1⟩ := at_T68 HR0.out x4_1 p289 q289
       obtain rfl : ad287 = ad289 := (by injection e289)
       replace p289 := eq_true p289
       replace q289 := eq_true q289
       go_wp2
       go_roundg k1
       case measure => have := HK1.out; omega
       case rel => exact ⟨(wrap64 (x3_1 + ((rd_T68 l0 x4_1).f1))), (wrap64 (x4_1 + 1)), (by first | rfl | (simp; done) | (simp [*]; done)), (by first | rfl | (simp; done) | (simp [*]; done)), H', ⟨by have := HK1.out; omega⟩, by repeat (first | exact Drawn0.refl _ | apply Drawn0.step)⟩
      ·rw [if_neg c5] at H
       have c5b0 : decide (0 < ((rd_T68 l0 x4_1).f1)) = false := decide_eq_false c5
       clear c5
       have H' := aM H
       clear H
       have p287 : 0 ≤ (x4_1 : Int) := of_decide_eq_true (by first | (with_reducible assumption) | assumption)
       have q287 : x4_1 < (l0.length : Int) := of_decide_eq_true (by first | (with_reducible assumption) | assumption)
       obtain ⟨ad287, e287, hx287_0, hx287_1⟩ := at_T68 HR0.out x4_1 p287 q287
       cases e287
       replace p287 := eq_true p287
       replace q287 := eq_true q287
       have p288 : 0 ≤ (x4_1 : Int) := of_decide_eq_true (by first | (with_reducible assumption) | assumption)
       have q288 : x4_1 < (l0.length : Int) := of_decide_eq_true (by first | (with_reducible assumption) | assumption)
       obtain ⟨ad288, e288, hx288_0, hx288_1⟩ := at_T68 HR0.out x4_1 p288 q288
       obtain rfl : ad287 = ad288 := (by injection e288)
       replace p288 := eq_true p288
       replace q288 := eq_true q288
       go_wp2
       go_roundg k1
       case measure => have := HK1.out; omega
       case rel => exact ⟨(x3_1), (wrap64 (x4_1 + 1)), (by first | rfl | (simp; done) | (simp [*]; done)), (by first | rfl | (simp; done) | (simp [*]; done)), H', ⟨by have := HK1.out; omega⟩, by repeat (first | exact Drawn0.refl _ | apply Drawn0.step)⟩
    ·rw [if_neg c3] at H
     exact absurd H (by simp)
   ·rw [if_neg c2] at H
    have c2b0 : decide (x4_1 < (l0.length : Int)) = false := decide_eq_false c2
    clear c2
    obtain rfl := Option.some.inj H
    go_wp2
    go_ret
    exact ⟨by first | rfl | (simp; done) | (simp [*]; done), by repeat (first | exact Drawn0.refl _ | apply Drawn0.step)⟩
theorem eqA68 (d : Nat) (w : World) (x0 y0 : Int) (x1 y1 : Int) :
  (Op.equalIn (d + 2) 68 (.agg #[.int .u64 x0, .int .i64 x1]) (.agg #[.int .u64 y0, .int .i64 y1])).run Tryz.prog w = .ok (x0 == y0 && (x1 == y1)) w := by
 refine eqA_of Tryz.underlying68 (by kernel_rfl) ?_
 refine eqf_cons (by rfl) (by go_simp; rfl) (by go_simp; rfl) (by go_simp) ?_
 exact eqf_last (by rfl) (by go_simp; rfl) (by go_simp; rfl) (by go_simp)
end Go.Proofs.YtjkfkiebhgkolaaGreatDoor.PB
end

section
namespace Go.Proofs.YtjkfkiebhgkolaaGreatDoor.PB
open Go.RowKit Go.Proofs.YtjkfkiebhgkolaaGreatDoorW.PrintWords Go.Proofs.YtjkfkiebhgkolaaGreatDoorW.PrintLast Go.Proofs.YtjkfkiebhgkolaaGreatDoorW.PrintMore
attribute [local go_sem] max2_int min2_int max_two min_two max_three min_three max_four min_four   
set_option linter.unusedVariables false
set_option linter.unusedSimpArgs false
attribute [local go_sem high] eqA68
def bureauref03_Same.l0 : Nat → List (S68) → List (S68) → Int → Option (Bool)
 | 0, _, _, _ => none
 | k + 1, x0, x1, x5 => if x5 < (x0.length : Int) then (if 0 ≤ x5 then (if x5 < (x1.length : Int) then (if (!(((rd_T68 x0 x5).f0) == ((rd_T68 x1 x5).f0)) || (!(((rd_T68 x0 x5).f1) == ((rd_T68 x1 x5).f1)))) = true then (some false) else (bureauref03_Same.l0 k x0 x1 (wrap64 (x5 + 1)))) else (none)) else (none)) else (some true)
def bureauref03_Same.f (k : Nat) (l0 : List (S68)) (l1 : List (S68)) : Option (Bool) := if (l0.length : Int) = (l1.length : Int) then (bureauref03_Same.l0 k l0 l1 0) else (some false)
set_option maxHeartbeats 8000000 in
set_option maxRecDepth 100000 in
theorem bureauref03_Same.calls (k : Nat) (A0 : Option Addr) (c0 : Nat) (l0 : List (S68)) (A1 : Option Addr) (c1 : Nat) (l1 : List (S68)) (r : Bool) (w : World) (hr0 : Kd.C k68 w A0 l0.length l0) (hc0 : l0.length ≤ c0) (hr1 : Kd.C k68 w A1 l1.length l1) (hc1 : l1.length ≤ c1) (h : bureauref03_Same.f k l0 l1 = some r) :
  Calls Tryz.prog 67 #[.slice A0 l0.length c0, .slice A1 l1.length c1] w fun e w' => e = .returned (.bool r) ∧ Drawn0 w w' := by
 have hu68 := Tryz.underlying68
 have HR0 := aM hr0
 have HC0 := aM hc0
 clear hr0 hc0
 have HR1 := aM hr1
 have HC1 := aM hc1
 clear hr1 hc1
 have H : (if (l0.length : Int) = (l1.length : Int) then (bureauref03_Same.l0 k l0 l1 0) else (some false)) = some r := h
 clear h
 by_cases c3 : (l0.length : Int) = (l1.length : Int)
 ·rw [if_pos c3] at H
  have c3b0 : ((l0.length : Int) == (l1.length : Int)) = true := beq_iff_eq.mpr c3
  have c3b1 : ((l0.length : Int) != (l1.length : Int)) = false := bne_eq_false_iff_eq.mpr c3
  have c3b2 : (l0.length == l1.length) = true := by first | simpa using c3 | (simp at c3 ⊢; omega)
  clear c3
  have H' := aM H
  clear H
  go_enter Tryz.func67, Tryz.ntmps67
  go_wp2
  repeat (go_quiet (fail); try go_wp2)
  go_loopg [5] k (fun kq v5 w' => ∃ (x5_1 : Int), v5 = .int .i64 x5_1 ∧ Aside0 (bureauref03_Same.l0 kq l0 l1 x5_1 = some r) ∧ Aside0 (kq ≤ k) ∧ Drawn0 w w')
  case atStart => exact ⟨(0), (by first | rfl | (simp; done) | (simp [*]; done)), H', ⟨Nat.le_refl _⟩, by repeat (first | exact Drawn0.refl _ | apply Drawn0.step)⟩
  case round =>
   clear H'
   try clear c1
   try clear p2
   try clear c3
   try clear c3b0
   try clear c3b1
   try clear c3b2
   obtain ⟨x5_1, rfl, HA, HK1, ⟨m1, rfl⟩⟩ := hrel
   cases gk with
   | zero => exact absurd HA.out (by simp [bureauref03_Same.l0])
   | succ k1 =>
    have H := HA.out
    clear HA
    simp only [bureauref03_Same.l0] at H
    by_cases c4 : x5_1 < (l0.length : Int)
    ·rw [if_pos c4] at H
     have c4b0 : decide (x5_1 < (l0.length : Int)) = true := decide_eq_true c4
     clear c4
     by_cases c5 : 0 ≤ x5_1
     ·rw [if_pos c5] at H
      have c5b0 : decide (0 ≤ x5_1) = true := decide_eq_true c5
      clear c5
      by_cases c6 : x5_1 < (l1.length : Int)
      ·rw [if_pos c6] at H
       have c6b0 : decide (x5_1 < (l1.length : Int)) = true := decide_eq_true c6
       clear c6
       by_cases c7 : (!(((rd_T68 l0 x5_1).f0) == ((rd_T68 l1 x5_1).f0)) || (!(((rd_T68 l0 x5_1).f1) == ((rd_T68 l1 x5_1).f1)))) = true
       ·rw [if_pos c7] at H
        have c7b0 : (!(((rd_T68 l0 x5_1).f0) == ((rd_T68 l1 x5_1).f0)) || (!(((rd_T68 l0 x5_1).f1) == ((rd_T68 l1 x5_1).f1)))) = true := c7
        clear c7
        obtain rfl := Option.some.inj H
        have p280 : 0 ≤ (x5_1 : Int) := of_decide_eq_true (by first | (with_reducible assumption) | assumption)
        have q280 : x5_1 < (l0.length : Int) := of_decide_eq_true (by first | (with_reducible assumption) | assumption)
        obtain ⟨ad280, e280, hx280_0, hx280_1⟩ := at_T68 HR0.out x5_1 p280 q280
        cases e280
        replace p280 := eq_true p280
        replace q280 := eq_true q280
        have p281 : 0 ≤ (x5_1 : Int) := of_decide_eq_true (by first | (with_reducible assumption) | assumption)
        have q281 : x5_1 < (l1.length : Int) := of_decide_eq_true (by first | (with_reducible assumption) | assumption)
        obtain ⟨ad281, e281, hx281_0, hx281_1⟩ := at_T68 HR1.out x5_1 p281 q281
        cases e281
        replace p281 := eq_true p281
        replace q281 := eq_true q281
        go_wp2
        repeat (go_quiet (fail); try go_wp2)
        go_ret
        exact ⟨by first | rfl | (simp; done) | (simp [*]; done), by repeat (first | exact Drawn0.refl _ | apply Drawn0.step)⟩
       ·rw [if_neg c7] at H
        have c7b0 : (!(((rd_T68 l0 x5_1).f0) == ((rd_T68 l1 x5_1).f0)) || (!(((rd_T68 l0 x5_1).f1) == ((rd_T68 l1 x5_1).f1)))) = false := by simpa using c7
        clear c7
        have H' := aM H
        clear H
        have p280 : 0 ≤ (x5_1 : Int) := of_decide_eq_true (by first | (with_reducible assumption) | assumption)
        have q280 : x5_1 < (l0.length : Int) := of_decide_eq_true (by first | (with_reducible assumption) | assumption)
        obtain ⟨ad280, e280, hx280_0, hx280_1⟩ := at_T68 HR0.out x5_1 p280 q280
        cases e280
        replace p280 := eq_true p280
        replace q280 := eq_true q280
        have p281 : 0 ≤ (x5_1 : Int) := of_decide_eq_true (by first | (with_reducible assumption) | assumption)
        have q281 : x5_1 < (l1.length : Int) := of_decide_eq_true (by first | (with_reducible assumption) | assumption)
        obtain ⟨ad281, e281, hx281_0, hx281_1⟩ := at_T68 HR1.out x5_1 p281 q281
        cases e281
        replace p281 := eq_true p281
        replace q281 := eq_true q281
        go_wp2
        repeat (go_quiet (fail); try go_wp2)
        go_roundg k1
        case measure => have := HK1.out; omega
        case rel => exact ⟨(wrap64 (x5_1 + 1)), (by first | rfl | (simp; done) | (simp [*]; done)), H', ⟨by have := HK1.out; omega⟩, by repeat (first | exact Drawn0.refl _ | apply Drawn0.step)⟩
      ·rw [if_neg c6] at H
       exact absurd H (by simp)
     ·rw [if_neg c5] at H
      exact absurd H (by simp)
    ·rw [if_neg c4] at H
     have c4b0 : decide (x5_1 < (l0.length : Int)) = false := decide_eq_false c4
     clear c4
     obtain rfl := Option.some.inj H
     go_wp2
     repeat (go_quiet (fail); try go_wp2)
     go_ret
     exact ⟨by first | rfl | (simp; done) | (simp [*]; done), by repeat (first | exact Drawn0.refl _ | apply Drawn0.step)⟩
 ·rw [if_neg c3] at H
  have c3b0 : ((l0.length : Int) == (l1.length : Int)) = false := beq_eq_false_iff_ne.mpr c3
  have c3b1 : ((l0.length : Int) != (l1.length : Int)) = true := bne_iff_ne.mpr c3
  have c3b2 : (l0.length == l1.length) = false := by first | simpa using c3 | (simp at c3 ⊢; omega)
  obtain rfl := Option.some.inj H
  go_enter Tryz.func67, Tryz.ntmps67
  go_wp2
  repeat (go_quiet (fail); try go_wp2)
  go_ret
  exact ⟨by first | rfl | (simp; done) | (simp [*]; done), by repeat (first | exact Drawn0.refl _ | apply Drawn0.step)⟩
end Go.Proofs.YtjkfkiebhgkolaaGreatDoor.PB
end

section
namespace Go.Proofs.YtjkfkiebhgkolaaGreatDoor.PB
open Go.RowKit Go.Proofs.YtjkfkiebhgkolaaGreatDoorW.PrintWords Go.Proofs.YtjkfkiebhgkolaaGreatDoorW.PrintLast Go.Proofs.YtjkfkiebhgkolaaGreatDoorW.PrintMore
attribute [local go_sem] max2_int min2_int max_two min_two max_three min_three max_four min_four   
set_option linter.unusedVariables false
set_option linter.unusedSimpArgs false
def bureauref03_Pack.l0 : Nat → List Int → List (S68) → Int → Option ((List (S68)))
 | 0, _, _, _ => none
 | k + 1, x0, x3, x4 => if x4 < (x0.length : Int) then (if (x3.length : Int) > 0 then (if 0 ≤ (wrap64 ((x3.length : Int) - 1)) then (if (wrap64 ((x3.length : Int) - 1)) < (x3.length : Int) then (if 0 ≤ x4 then (if ((rd_T68 x3 (wrap64 ((x3.length : Int) - 1))).f0) = (rd x0 x4) then (bureauref03_Pack.l0 k x0 (x3.set ((wrap64 ((x3.length : Int) - 1)) : Int).toNat (⟨(rd_T68 x3 (wrap64 ((x3.length : Int) - 1))).f0, wrap64 (((rd_T68 x3 (wrap64 ((x3.length : Int) - 1))).f1) + 1)⟩ : S68)) (wrap64 (x4 + 1))) else (if x3.length < 8796093022208 then (bureauref03_Pack.l0 k x0 (x3 ++ [(⟨rd x0 x4, 1⟩ : S68)]) (wrap64 (x4 + 1))) else (none))) else (none)) else (none)) else (none)) else (if 0 ≤ x4 then (if x3.length < 8796093022208 then (bureauref03_Pack.l0 k x0 (x3 ++ [(⟨rd x0 x4, 1⟩ : S68)]) (wrap64 (x4 + 1))) else (none)) else (none))) else (some x3)
def bureauref03_Pack.f (k : Nat) (l0 : List Int) : Option ((List (S68))) := bureauref03_Pack.l0 k l0 ([] : List (S68)) 0
set_option maxHeartbeats 8000000 in
set_option maxRecDepth 100000 in
theorem bureauref03_Pack.calls (k : Nat) (A0 : Option Addr) (c0 : Nat) (l0 : List Int) (r : List (S68)) (w : World) (hr0 : Kd.C (Kd.int .u64) w A0 l0.length l0) (hc0 : l0.length ≤ c0) (h : bureauref03_Pack.f k l0 = some r) :
  Calls Tryz.prog 120 #[.slice A0 l0.length c0] w fun e w' => ∃ v0_ : Value, e = .returned (v0_) ∧ Kd.R k68 68 w' w.heap.size (fun _ => True) v0_ r ∧ Below w.heap.size w w' := by
 have hu68 := Tryz.underlying68
 have HR0 := aM hr0
 have HC0 := aM hc0
 clear hr0 hc0
 have HB := aM (Below.refl w.heap.size w)
 have H : (bureauref03_Pack.l0 k l0 ([] : List (S68)) 0) = some r := h
 clear h
 have H' := aM H
 clear H
 go_enter Tryz.func120, Tryz.ntmps120
 go_wp2
 repeat (go_quiet (fail); try go_wp2)
 go_loopg [3, 4] k (fun kq v3 v4 w' => ∃ (x3_1 : List (S68)) (x4_1 : Int), v4 = .int .i64 x4_1 ∧ Aside0 (bureauref03_Pack.l0 kq l0 x3_1 x4_1 = some r) ∧ Aside0 (kq ≤ k) ∧ Aside0 (Kd.R k68 68 w' w.heap.size (fun _ => True) v3 x3_1) ∧ Aside0 (Below w.heap.size w w'))
 case atStart => exact ⟨(([] : List (S68))), (0), (by first | rfl | (simp; done) | (simp [*]; done)), H', ⟨Nat.le_refl _⟩, ⟨yn⟩, ⟨by exact ey HB.out⟩⟩
 case round =>
  clear H'
  try clear c1
  obtain ⟨x3_1, x4_1, rfl, HA, HK1, HO_3, HB⟩ := hrel
  cases gk with
  | zero => exact absurd HA.out (by simp [bureauref03_Pack.l0])
  | succ k1 =>
   have H := HA.out
   clear HA
   simp only [bureauref03_Pack.l0] at H
   by_cases c2 : x4_1 < (l0.length : Int)
   ·rw [if_pos c2] at H
    have c2b0 : decide (x4_1 < (l0.length : Int)) = true := decide_eq_true c2
    clear c2
    by_cases c3 : (x3_1.length : Int) > 0
    ·rw [if_pos c3] at H
     have c3b0 : decide (0 < (x3_1.length : Int)) = true := decide_eq_true c3
     have c3b1 : decide (0 < x3_1.length) = true := decide_eq_true (by omega)
     clear c3
     obtain ⟨ji4, hji4⟩ : ∃ j_ : Int, (wrap64 ((x3_1.length : Int) - 1)) = j_ := ⟨_, rfl⟩
     replace H : (if 0 ≤ (ji4) then (if (ji4) < (x3_1.length : Int) then (if 0 ≤ x4_1 then (if ((rd_T68 x3_1 (ji4)).f0) = (rd l0 x4_1) then (bureauref03_Pack.l0 k1 l0 (x3_1.set ((ji4) : Int).toNat (⟨(rd_T68 x3_1 (ji4)).f0, wrap64 (((rd_T68 x3_1 (ji4)).f1) + 1)⟩ : S68)) (wrap64 (x4_1 + 1))) else (if x3_1.length < 8796093022208 then (bureauref03_Pack.l0 k1 l0 (x3_1 ++ [(⟨rd l0 x4_1, 1⟩ : S68)]) (wrap64 (x4_1 + 1))) else (none))) else (none)) else (none)) else (none)) = some r := by first | (rw [hji4] at H; exact H) | (simp only [hji4] at H ⊢; exact H)
     have hji4w : (IntKind.i64.wrap ((x3_1.length : Int) - 1)) = ji4 := (i64_w _).trans hji4
     by_cases c5 : 0 ≤ (ji4)
     ·rw [if_pos c5] at H
      have c5b0 : decide (0 ≤ (ji4)) = true := decide_eq_true c5
      clear c5
      by_cases c6 : (ji4) < (x3_1.length : Int)
      ·rw [if_pos c6] at H
       have c6b0 : decide ((ji4) < (x3_1.length : Int)) = true := decide_eq_true c6
       clear c6
       by_cases c7 : 0 ≤ x4_1
       ·rw [if_pos c7] at H
        have c7b0 : decide (0 ≤ x4_1) = true := decide_eq_true c7
        clear c7
        by_cases c8 : ((rd_T68 x3_1 (ji4)).f0) = (rd l0 x4_1)
        ·rw [if_pos c8] at H
         have c8b0 : (((rd_T68 x3_1 (ji4)).f0) == (rd l0 x4_1)) = true := beq_iff_eq.mpr c8
         have c8b1 : (((rd_T68 x3_1 (ji4)).f0) != (rd l0 x4_1)) = false := bne_eq_false_iff_eq.mpr c8
         clear c8
         obtain ⟨y293, hy293⟩ : ∃ y_ : List (S68), y_ = (x3_1.set ((ji4) : Int).toNat (⟨(rd_T68 x3_1 (ji4)).f0, wrap64 (((rd_T68 x3_1 (ji4)).f1) + 1)⟩ : S68)) := ⟨_, rfl⟩
         replace H : (bureauref03_Pack.l0 k1 l0 y293 (wrap64 (x4_1 + 1))) = some r := by first | (rw [hy293]; with_reducible exact H) | (have H2_ := (Option.bind_some _ _).symm.trans H; rw [hy293]; with_reducible exact H2_) | (have H2_ := (Option.bind_some _ _).symm.trans H; with_reducible exact H2_) | with_reducible exact H | (rw [hy293]; exact H) | exact H
         have Ny293 := aM hy293
         clear hy293
         have H' := aM H
         clear H
         obtain ⟨Ao10, co10, eo10⟩ := Kd.R_slice HO_3.out
         subst eo10
         have p290 : 0 ≤ ((ji4) : Int) := of_decide_eq_true (by first | (with_reducible assumption) | assumption)
         have q290 : (ji4) < (x3_1.length : Int) := of_decide_eq_true (by first | (with_reducible assumption) | assumption)
         obtain ⟨ad290, e290, hx290_0, hx290_1⟩ := at_T68 (rR HO_3.out).2.2 (ji4) p290 q290
         cases e290
         replace p290 := eq_true p290
         replace q290 := eq_true q290
         have p291 : 0 ≤ (x4_1 : Int) := of_decide_eq_true (by first | (with_reducible assumption) | assumption)
         have q291 : x4_1 < (l0.length : Int) := of_decide_eq_true (by first | (with_reducible assumption) | assumption)
         obtain ⟨ad291, e291, hx291_0⟩ := Kd.at_int HR0.out x4_1 p291 q291
         cases e291
         replace hx291_0 := (HB.out.cell (World.block_lt_of_cell? w _ hx291_0)).trans hx291_0
         replace p291 := eq_true p291
         replace q291 := eq_true q291
         have p292 : 0 ≤ ((ji4) : Int) := of_decide_eq_true (by first | (with_reducible assumption) | assumption)
         have q292 : (ji4) < (x3_1.length : Int) := of_decide_eq_true (by first | (with_reducible assumption) | assumption)
         obtain ⟨ad292, e292, hx292_0, hx292_1⟩ := at_T68 (rR HO_3.out).2.2 (ji4) p292 q292
         obtain rfl : ad290 = ad292 := (by injection e292)
         replace p292 := eq_true p292
         replace q292 := eq_true q292
         have p9 : 0 ≤ ((ji4) : Int) := of_decide_eq_true (by first | (with_reducible assumption) | assumption)
         have q9 : ((ji4) : Int) < ((x3_1.length : Int) : Int) := of_decide_eq_true (by first | (with_reducible assumption) | assumption)
         obtain ⟨go9, co9, eo9, gb9, gl9, cl9, HG9⟩ := Kd.R_form HO_3.out (by omega)
         (first | cases eo9 | (injection eo9 with ea_ en_ ec_; (first | subst ea_ | (injection ea_ with ea_; subst ea_)); subst ec_; clear en_))
         have GB9 := aM gb9
         have GG9 := aM HG9
         clear gb9 gl9 HG9
         (first | simp only [add_plain] at hx290_0 | skip)
         (first | simp only [add_plain] at hx290_1 | skip)
         (first | simp only [add_plain] at hx292_0 | skip)
         (first | simp only [add_plain] at hx292_1 | skip)
         obtain ⟨ce9, hcl9, hM9, hcc9, hfr9⟩ := Kd.R_elem HO_3.out z68 ((ji4) : Int) p9 q9
         obtain rfl := k68_openM hM9
         have hx9_0 : wr.cell? ⟨go9, ((ji4) : Int).toNat * 2, none⟩ = some (.int .u64 ((rd_T68 x3_1 (ji4)).f0)) := hcc9 0 _ rfl
         have hx9_1 : wr.cell? ⟨go9, ((ji4) : Int).toNat * 2 + 1, none⟩ = some (.int .i64 ((rd_T68 x3_1 (ji4)).f1)) := hcc9 1 _ rfl
         have hf9_0 : wr.frozen? ⟨go9, ((ji4) : Int).toNat * 2, none⟩ = false := hfr9 0
         have hf9_1 : wr.frozen? ⟨go9, ((ji4) : Int).toNat * 2 + 1, none⟩ = false := hfr9 1
         clear hcl9 hcc9 hfr9 hM9
         replace p9 := eq_true p9
         replace q9 := eq_true q9
         have HX11 := aM (show Kd.R k68 68 wr w.heap.size (fun _ => True) (.slice (some ⟨go9, 0, none⟩) x3_1.length co10) x3_1 from (ry HO_3.out))
         obtain ⟨ce11, hcl11, hM11, hcc11, hfr11⟩ := Kd.R_elem HX11.out z68 ((ji4) : Int) (of_decide_eq_true (by first | (with_reducible assumption) | assumption)) (by have h_ : ((ji4) : Int) < ((x3_1.length : Int) : Int) := of_decide_eq_true (by first | (with_reducible assumption) | assumption); first | exact h_ | (have e_ := (rR HO_3.out).1; omega) | simpa using h_)
         obtain rfl := k68_openM hM11
         have HP11 := Kd.R_seg HX11.out ((ji4) : Int) (of_decide_eq_true (by first | (with_reducible assumption) | assumption)) (by have h_ : ((ji4) : Int) < ((x3_1.length : Int) : Int) := of_decide_eq_true (by first | (with_reducible assumption) | assumption); first | exact h_ | (have e_ := (rR HO_3.out).1; omega) | simpa using h_) (seg := [.int .i64 (wrap64 (((rd_T68 x3_1 (ji4)).f1) + 1))]) (j := 1) hcl11 hcc11 (show 2 ≤ 2 from by decide) (x' := (⟨(rd_T68 x3_1 (ji4)).f0, wrap64 (((rd_T68 x3_1 (ji4)).f1) + 1)⟩ : S68)) (k68_mkM _ _ _ (⟨(rd_T68 x3_1 (ji4)).f0, wrap64 (((rd_T68 x3_1 (ji4)).f1) + 1)⟩ : S68) ) (fun _ hk => hk)
         have hx11_1 := hcc11 1 _ rfl
         (try simp only [show (k68).sz = 2 from rfl, Nat.mul_one, Nat.add_zero] at hx11_1)
         have hf11_1 := hfr11 1
         (try simp only [show (k68).sz = 2 from rfl, Nat.mul_one, Nat.add_zero] at hf11_1)
         clear hcl11 hcc11 hfr11 hM11
         go_wp2_with (first | ((with_reducible refine gate_store (t := 3) (p := 37) rfl ?_); (try (rw [drewN_self wr]; generalize hq_ : World.drewN wr _ = wr; replace HO_3 := aM (Kd.R_at hq_ HO_3.out); replace HB := aM (below_at hq_ HB.out); clear hq_; (try (have HX11 := aM (show Kd.R k68 68 wr w.heap.size (fun _ => True) (.slice (some ⟨go9, 0, none⟩) x3_1.length co10) x3_1 from (ry HO_3.out)))); (try (obtain ⟨ce11, hcl11, hM11, hcc11, hfr11⟩ := Kd.R_elem HX11.out z68 ((ji4) : Int) (of_decide_eq_true (by first | (with_reducible assumption) | assumption)) (by have h_ : ((ji4) : Int) < ((x3_1.length : Int) : Int) := of_decide_eq_true (by first | (with_reducible assumption) | assumption); first | exact h_ | (have e_ := (rR HO_3.out).1; omega) | simpa using h_))); (try (obtain rfl := k68_openM hM11)); (try (have HP11 := Kd.R_seg HX11.out ((ji4) : Int) (of_decide_eq_true (by first | (with_reducible assumption) | assumption)) (by have h_ : ((ji4) : Int) < ((x3_1.length : Int) : Int) := of_decide_eq_true (by first | (with_reducible assumption) | assumption); first | exact h_ | (have e_ := (rR HO_3.out).1; omega) | simpa using h_) (seg := [.int .i64 (wrap64 (((rd_T68 x3_1 (ji4)).f1) + 1))]) (j := 1) hcl11 hcc11 (show 2 ≤ 2 from by decide) (x' := (⟨(rd_T68 x3_1 (ji4)).f0, wrap64 (((rd_T68 x3_1 (ji4)).f1) + 1)⟩ : S68)) (k68_mkM _ _ _ (⟨(rd_T68 x3_1 (ji4)).f0, wrap64 (((rd_T68 x3_1 (ji4)).f1) + 1)⟩ : S68) ) (fun _ hk => hk))); (try (have hx11_1 := hcc11 1 _ rfl)); (try (try simp only [show (k68).sz = 2 from rfl, Nat.mul_one, Nat.add_zero] at hx11_1)); (try (have hf11_1 := hfr11 1)); (try (try simp only [show (k68).sz = 2 from rfl, Nat.mul_one, Nat.add_zero] at hf11_1)); (try (clear hcl11 hcc11 hfr11 hM11)))); refine store_event (t := 3) (p := 37) (v := ?vo_w12) (w1 := (wr.setCell ⟨go9, ((ji4) : Int).toNat * 2 + 1, none⟩ (.int .i64 (wrap64 (((rd_T68 x3_1 (ji4)).f1) + 1))))) ?hg ?ho ?hn ?hr ?_; (case ho => rfl); (case hg => rfl); (case hn => rfl); (case hr => first | (go_simp; done) | (go_simp; rfl)); intro w12 hw; have hg : wr.grownBy w12 (some go9) := (by rw [hw]; exact HP11.2); have hp_ : Kd.R k68 68 w12 w.heap.size (fun _ => True) (.slice (some ⟨go9, 0, none⟩) x3_1.length co10) y293 := (by rw [hw, Ny293.out]; exact HP11.1); clear HP11; replace HO_3 := aM (hp_); replace HB := aM ((by rw [hw]; exact below_set (HB.out) GB9.out : Below w.heap.size w w12)); clear hg hw hp_))
         repeat (go_quiet (first | ((with_reducible refine gate_store (t := 3) (p := 37) rfl ?_); (try (rw [drewN_self wr]; generalize hq_ : World.drewN wr _ = wr; replace HO_3 := aM (Kd.R_at hq_ HO_3.out); replace HB := aM (below_at hq_ HB.out); clear hq_; (try (have HX11 := aM (show Kd.R k68 68 wr w.heap.size (fun _ => True) (.slice (some ⟨go9, 0, none⟩) x3_1.length co10) x3_1 from (ry HO_3.out)))); (try (obtain ⟨ce11, hcl11, hM11, hcc11, hfr11⟩ := Kd.R_elem HX11.out z68 ((ji4) : Int) (of_decide_eq_true (by first | (with_reducible assumption) | assumption)) (by have h_ : ((ji4) : Int) < ((x3_1.length : Int) : Int) := of_decide_eq_true (by first | (with_reducible assumption) | assumption); first | exact h_ | (have e_ := (rR HO_3.out).1; omega) | simpa using h_))); (try (obtain rfl := k68_openM hM11)); (try (have HP11 := Kd.R_seg HX11.out ((ji4) : Int) (of_decide_eq_true (by first | (with_reducible assumption) | assumption)) (by have h_ : ((ji4) : Int) < ((x3_1.length : Int) : Int) := of_decide_eq_true (by first | (with_reducible assumption) | assumption); first | exact h_ | (have e_ := (rR HO_3.out).1; omega) | simpa using h_) (seg := [.int .i64 (wrap64 (((rd_T68 x3_1 (ji4)).f1) + 1))]) (j := 1) hcl11 hcc11 (show 2 ≤ 2 from by decide) (x' := (⟨(rd_T68 x3_1 (ji4)).f0, wrap64 (((rd_T68 x3_1 (ji4)).f1) + 1)⟩ : S68)) (k68_mkM _ _ _ (⟨(rd_T68 x3_1 (ji4)).f0, wrap64 (((rd_T68 x3_1 (ji4)).f1) + 1)⟩ : S68) ) (fun _ hk => hk))); (try (have hx11_1 := hcc11 1 _ rfl)); (try (try simp only [show (k68).sz = 2 from rfl, Nat.mul_one, Nat.add_zero] at hx11_1)); (try (have hf11_1 := hfr11 1)); (try (try simp only [show (k68).sz = 2 from rfl, Nat.mul_one, Nat.add_zero] at hf11_1)); (try (clear hcl11 hcc11 hfr11 hM11)))); refine store_event (t := 3) (p := 37) (v := ?vo_w12) (w1 := (wr.setCell ⟨go9, ((ji4) : Int).toNat * 2 + 1, none⟩ (.int .i64 (wrap64 (((rd_T68 x3_1 (ji4)).f1) + 1))))) ?hg ?ho ?hn ?hr ?_; (case ho => rfl); (case hg => rfl); (case hn => rfl); (case hr => first | (go_simp; done) | (go_simp; rfl)); intro w12 hw; have hg : wr.grownBy w12 (some go9) := (by rw [hw]; exact HP11.2); have hp_ : Kd.R k68 68 w12 w.heap.size (fun _ => True) (.slice (some ⟨go9, 0, none⟩) x3_1.length co10) y293 := (by rw [hw, Ny293.out]; exact HP11.1); clear HP11; replace HO_3 := aM (hp_); replace HB := aM ((by rw [hw]; exact below_set (HB.out) GB9.out : Below w.heap.size w w12)); clear hg hw hp_)); try go_wp2_with (first | ((with_reducible refine gate_store (t := 3) (p := 37) rfl ?_); (try (rw [drewN_self wr]; generalize hq_ : World.drewN wr _ = wr; replace HO_3 := aM (Kd.R_at hq_ HO_3.out); replace HB := aM (below_at hq_ HB.out); clear hq_; (try (have HX11 := aM (show Kd.R k68 68 wr w.heap.size (fun _ => True) (.slice (some ⟨go9, 0, none⟩) x3_1.length co10) x3_1 from (ry HO_3.out)))); (try (obtain ⟨ce11, hcl11, hM11, hcc11, hfr11⟩ := Kd.R_elem HX11.out z68 ((ji4) : Int) (of_decide_eq_true (by first | (with_reducible assumption) | assumption)) (by have h_ : ((ji4) : Int) < ((x3_1.length : Int) : Int) := of_decide_eq_true (by first | (with_reducible assumption) | assumption); first | exact h_ | (have e_ := (rR HO_3.out).1; omega) | simpa using h_))); (try (obtain rfl := k68_openM hM11)); (try (have HP11 := Kd.R_seg HX11.out ((ji4) : Int) (of_decide_eq_true (by first | (with_reducible assumption) | assumption)) (by have h_ : ((ji4) : Int) < ((x3_1.length : Int) : Int) := of_decide_eq_true (by first | (with_reducible assumption) | assumption); first | exact h_ | (have e_ := (rR HO_3.out).1; omega) | simpa using h_) (seg := [.int .i64 (wrap64 (((rd_T68 x3_1 (ji4)).f1) + 1))]) (j := 1) hcl11 hcc11 (show 2 ≤ 2 from by decide) (x' := (⟨(rd_T68 x3_1 (ji4)).f0, wrap64 (((rd_T68 x3_1 (ji4)).f1) + 1)⟩ : S68)) (k68_mkM _ _ _ (⟨(rd_T68 x3_1 (ji4)).f0, wrap64 (((rd_T68 x3_1 (ji4)).f1) + 1)⟩ : S68) ) (fun _ hk => hk))); (try (have hx11_1 := hcc11 1 _ rfl)); (try (try simp only [show (k68).sz = 2 from rfl, Nat.mul_one, Nat.add_zero] at hx11_1)); (try (have hf11_1 := hfr11 1)); (try (try simp only [show (k68).sz = 2 from rfl, Nat.mul_one, Nat.add_zero] at hf11_1)); (try (clear hcl11 hcc11 hfr11 hM11)))); refine store_event (t := 3) (p := 37) (v := ?vo_w12) (w1 := (wr.setCell ⟨go9, ((ji4) : Int).toNat * 2 + 1, none⟩ (.int .i64 (wrap64 (((rd_T68 x3_1 (ji4)).f1) + 1))))) ?hg ?ho ?hn ?hr ?_; (case ho => rfl); (case hg => rfl); (case hn => rfl); (case hr => first | (go_simp; done) | (go_simp; rfl)); intro w12 hw; have hg : wr.grownBy w12 (some go9) := (by rw [hw]; exact HP11.2); have hp_ : Kd.R k68 68 w12 w.heap.size (fun _ => True) (.slice (some ⟨go9, 0, none⟩) x3_1.length co10) y293 := (by rw [hw, Ny293.out]; exact HP11.1); clear HP11; replace HO_3 := aM (hp_); replace HB := aM ((by rw [hw]; exact below_set (HB.out) GB9.out : Below w.heap.size w w12)); clear hg hw hp_)))
         go_roundg k1
         case measure => have := HK1.out; omega
         case rel => exact ⟨(y293), (wrap64 (x4_1 + 1)), (by first | rfl | (simp; done) | (simp [*]; done)), H', ⟨by have := HK1.out; omega⟩, ⟨by exact ry HO_3.out⟩, ⟨by exact ey HB.out⟩⟩
        ·rw [if_neg c8] at H
         have c8b0 : (((rd_T68 x3_1 (ji4)).f0) == (rd l0 x4_1)) = false := beq_eq_false_iff_ne.mpr c8
         have c8b1 : (((rd_T68 x3_1 (ji4)).f0) != (rd l0 x4_1)) = true := bne_iff_ne.mpr c8
         by_cases c13 : x3_1.length < 8796093022208
         ·rw [if_pos c13] at H
          have LMc13 := aM c13
          clear c13
          obtain ⟨y295, hy295⟩ : ∃ y_ : List (S68), y_ = (x3_1 ++ [(⟨rd l0 x4_1, 1⟩ : S68)]) := ⟨_, rfl⟩
          replace H : (bureauref03_Pack.l0 k1 l0 y295 (wrap64 (x4_1 + 1))) = some r := by first | (rw [hy295]; with_reducible exact H) | (have H2_ := (Option.bind_some _ _).symm.trans H; rw [hy295]; with_reducible exact H2_) | (have H2_ := (Option.bind_some _ _).symm.trans H; with_reducible exact H2_) | with_reducible exact H | (rw [hy295]; exact H) | exact H
          have Ny295 := aM hy295
          clear hy295
          have H' := aM H
          clear H
          obtain ⟨Ao14, co14, eo14⟩ := Kd.R_slice HO_3.out
          subst eo14
          have p290 : 0 ≤ ((ji4) : Int) := of_decide_eq_true (by first | (with_reducible assumption) | assumption)
          have q290 : (ji4) < (x3_1.length : Int) := of_decide_eq_true (by first | (with_reducible assumption) | assumption)
          obtain ⟨ad290, e290, hx290_0, hx290_1⟩ := at_T68 (rR HO_3.out).2.2 (ji4) p290 q290
          cases e290
          replace p290 := eq_true p290
          replace q290 := eq_true q290
          have p291 : 0 ≤ (x4_1 : Int) := of_decide_eq_true (by first | (with_reducible assumption) | assumption)
          have q291 : x4_1 < (l0.length : Int) := of_decide_eq_true (by first | (with_reducible assumption) | assumption)
          obtain ⟨ad291, e291, hx291_0⟩ := Kd.at_int HR0.out x4_1 p291 q291
          cases e291
          replace hx291_0 := (HB.out.cell (World.block_lt_of_cell? w _ hx291_0)).trans hx291_0
          replace p291 := eq_true p291
          replace q291 := eq_true q291
          have p294 : 0 ≤ (x4_1 : Int) := of_decide_eq_true (by first | (with_reducible assumption) | assumption)
          have q294 : x4_1 < (l0.length : Int) := of_decide_eq_true (by first | (with_reducible assumption) | assumption)
          obtain ⟨ad294, e294, hx294_0⟩ := Kd.at_int HR0.out x4_1 p294 q294
          obtain rfl : ad291 = ad294 := (by injection e294)
          replace hx294_0 := (HB.out.cell (World.block_lt_of_cell? w _ hx294_0)).trans hx294_0
          replace p294 := eq_true p294
          replace q294 := eq_true q294
          go_wp2_with (first | ((with_reducible refine gate_builtin (b := .append) (xs := #[.tmp 38, .tmp 44]) rfl ?_); at_builtin; refine Kd.R_append k68 (w0 := w) w.heap.size rfl (.tmp 38) (.tmp 44) 22 68 (.agg #[(.int .u64 0), (.int .i64 0)]) 16 rfl Tryz.underlying22 info68 rfl (by decide) (by omega) (.slice (some ad290) x3_1.length co14) x3_1 (⟨rd l0 x4_1, 1⟩ : S68) [.int .u64 (rd l0 x4_1), .int .i64 1] (fun _ => True) (fun _ => False) rfl rfl ?aP (fun _ hk => hk.elim) ?aF ?aO ?aB ?aS ?aL ?_; (case aP => exact k68_mkM _ _ _ (⟨rd l0 x4_1, 1⟩ : S68)); (case aB => exact (ey HB.out)); (case aF => exact (fun _ _ => trivial)); (case aO => exact (ry HO_3.out)); (case aS => exact (bZ (ey HB.out))); (case aL => have := LMc13.out; omega); intro v296 w15 ho hb hg hat; rw [← Ny295.out] at ho; have HO297 := aM (ho); replace HB := aM (hb); clear HO_3; clear ho hb hg hat))
          repeat (go_quiet (first | ((with_reducible refine gate_builtin (b := .append) (xs := #[.tmp 38, .tmp 44]) rfl ?_); at_builtin; refine Kd.R_append k68 (w0 := w) w.heap.size rfl (.tmp 38) (.tmp 44) 22 68 (.agg #[(.int .u64 0), (.int .i64 0)]) 16 rfl Tryz.underlying22 info68 rfl (by decide) (by omega) (.slice (some ad290) x3_1.length co14) x3_1 (⟨rd l0 x4_1, 1⟩ : S68) [.int .u64 (rd l0 x4_1), .int .i64 1] (fun _ => True) (fun _ => False) rfl rfl ?aP (fun _ hk => hk.elim) ?aF ?aO ?aB ?aS ?aL ?_; (case aP => exact k68_mkM _ _ _ (⟨rd l0 x4_1, 1⟩ : S68)); (case aB => exact (ey HB.out)); (case aF => exact (fun _ _ => trivial)); (case aO => exact (ry HO_3.out)); (case aS => exact (bZ (ey HB.out))); (case aL => have := LMc13.out; omega); intro v296 w15 ho hb hg hat; rw [← Ny295.out] at ho; have HO297 := aM (ho); replace HB := aM (hb); clear HO_3; clear ho hb hg hat)); try go_wp2_with (first | ((with_reducible refine gate_builtin (b := .append) (xs := #[.tmp 38, .tmp 44]) rfl ?_); at_builtin; refine Kd.R_append k68 (w0 := w) w.heap.size rfl (.tmp 38) (.tmp 44) 22 68 (.agg #[(.int .u64 0), (.int .i64 0)]) 16 rfl Tryz.underlying22 info68 rfl (by decide) (by omega) (.slice (some ad290) x3_1.length co14) x3_1 (⟨rd l0 x4_1, 1⟩ : S68) [.int .u64 (rd l0 x4_1), .int .i64 1] (fun _ => True) (fun _ => False) rfl rfl ?aP (fun _ hk => hk.elim) ?aF ?aO ?aB ?aS ?aL ?_; (case aP => exact k68_mkM _ _ _ (⟨rd l0 x4_1, 1⟩ : S68)); (case aB => exact (ey HB.out)); (case aF => exact (fun _ _ => trivial)); (case aO => exact (ry HO_3.out)); (case aS => exact (bZ (ey HB.out))); (case aL => have := LMc13.out; omega); intro v296 w15 ho hb hg hat; rw [← Ny295.out] at ho; have HO297 := aM (ho); replace HB := aM (hb); clear HO_3; clear ho hb hg hat)))
          go_roundg k1
          case measure => have := HK1.out; omega
          case rel => exact ⟨(y295), (wrap64 (x4_1 + 1)), (by first | rfl | (simp; done) | (simp [*]; done)), H', ⟨by have := HK1.out; omega⟩, ⟨by exact ry HO297.out⟩, ⟨by exact ey HB.out⟩⟩
         ·rw [if_neg c13] at H
          exact absurd H (by simp)
       ·rw [if_neg c7] at H
        exact absurd H (by simp)
      ·rw [if_neg c6] at H
       exact absurd H (by simp)
     ·rw [if_neg c5] at H
      exact absurd H (by simp)
    ·rw [if_neg c3] at H
     have c3b0 : decide (0 < (x3_1.length : Int)) = false := decide_eq_false c3
     have c3b1 : decide (0 < x3_1.length) = false := decide_eq_false (by omega)
     clear c3
     by_cases c16 : 0 ≤ x4_1
     ·rw [if_pos c16] at H
      have c16b0 : decide (0 ≤ x4_1) = true := decide_eq_true c16
      clear c16
      by_cases c17 : x3_1.length < 8796093022208
      ·rw [if_pos c17] at H
       have LMc17 := aM c17
       clear c17
       obtain ⟨y299, hy299⟩ : ∃ y_ : List (S68), y_ = (x3_1 ++ [(⟨rd l0 x4_1, 1⟩ : S68)]) := ⟨_, rfl⟩
       replace H : (bureauref03_Pack.l0 k1 l0 y299 (wrap64 (x4_1 + 1))) = some r := by first | (rw [hy299]; with_reducible exact H) | (have H2_ := (Option.bind_some _ _).symm.trans H; rw [hy299]; with_reducible exact H2_) | (have H2_ := (Option.bind_some _ _).symm.trans H; with_reducible exact H2_) | with_reducible exact H | (rw [hy299]; exact H) | exact H
       have Ny299 := aM hy299
       clear hy299
       have H' := aM H
       clear H
       obtain ⟨Ao18, co18, eo18⟩ := Kd.R_slice HO_3.out
       subst eo18
       have p298 : 0 ≤ (x4_1 : Int) := of_decide_eq_true (by first | (with_reducible assumption) | assumption)
       have q298 : x4_1 < (l0.length : Int) := of_decide_eq_true (by first | (with_reducible assumption) | assumption)
       obtain ⟨ad298, e298, hx298_0⟩ := Kd.at_int HR0.out x4_1 p298 q298
       cases e298
       replace hx298_0 := (HB.out.cell (World.block_lt_of_cell? w _ hx298_0)).trans hx298_0
       replace p298 := eq_true p298
       replace q298 := eq_true q298
       go_wp2_with (first | ((with_reducible refine gate_builtin (b := .append) (xs := #[.tmp 38, .tmp 44]) rfl ?_); at_builtin; refine Kd.R_append k68 (w0 := w) w.heap.size rfl (.tmp 38) (.tmp 44) 22 68 (.agg #[(.int .u64 0), (.int .i64 0)]) 16 rfl Tryz.underlying22 info68 rfl (by decide) (by omega) (.slice Ao18 x3_1.length co18) x3_1 (⟨rd l0 x4_1, 1⟩ : S68) [.int .u64 (rd l0 x4_1), .int .i64 1] (fun _ => True) (fun _ => False) rfl rfl ?aP (fun _ hk => hk.elim) ?aF ?aO ?aB ?aS ?aL ?_; (case aP => exact k68_mkM _ _ _ (⟨rd l0 x4_1, 1⟩ : S68)); (case aB => exact (ey HB.out)); (case aF => exact (fun _ _ => trivial)); (case aO => exact (ry HO_3.out)); (case aS => exact (bZ (ey HB.out))); (case aL => have := LMc17.out; omega); intro v300 w19 ho hb hg hat; rw [← Ny299.out] at ho; have HO301 := aM (ho); replace HB := aM (hb); clear HO_3; clear ho hb hg hat))
       repeat (go_quiet (first | ((with_reducible refine gate_builtin (b := .append) (xs := #[.tmp 38, .tmp 44]) rfl ?_); at_builtin; refine Kd.R_append k68 (w0 := w) w.heap.size rfl (.tmp 38) (.tmp 44) 22 68 (.agg #[(.int .u64 0), (.int .i64 0)]) 16 rfl Tryz.underlying22 info68 rfl (by decide) (by omega) (.slice Ao18 x3_1.length co18) x3_1 (⟨rd l0 x4_1, 1⟩ : S68) [.int .u64 (rd l0 x4_1), .int .i64 1] (fun _ => True) (fun _ => False) rfl rfl ?aP (fun _ hk => hk.elim) ?aF ?aO ?aB ?aS ?aL ?_; (case aP => exact k68_mkM _ _ _ (⟨rd l0 x4_1, 1⟩ : S68)); (case aB => exact (ey HB.out)); (case aF => exact (fun _ _ => trivial)); (case aO => exact (ry HO_3.out)); (case aS => exact (bZ (ey HB.out))); (case aL => have := LMc17.out; omega); intro v300 w19 ho hb hg hat; rw [← Ny299.out] at ho; have HO301 := aM (ho); replace HB := aM (hb); clear HO_3; clear ho hb hg hat)); try go_wp2_with (first | ((with_reducible refine gate_builtin (b := .append) (xs := #[.tmp 38, .tmp 44]) rfl ?_); at_builtin; refine Kd.R_append k68 (w0 := w) w.heap.size rfl (.tmp 38) (.tmp 44) 22 68 (.agg #[(.int .u64 0), (.int .i64 0)]) 16 rfl Tryz.underlying22 info68 rfl (by decide) (by omega) (.slice Ao18 x3_1.length co18) x3_1 (⟨rd l0 x4_1, 1⟩ : S68) [.int .u64 (rd l0 x4_1), .int .i64 1] (fun _ => True) (fun _ => False) rfl rfl ?aP (fun _ hk => hk.elim) ?aF ?aO ?aB ?aS ?aL ?_; (case aP => exact k68_mkM _ _ _ (⟨rd l0 x4_1, 1⟩ : S68)); (case aB => exact (ey HB.out)); (case aF => exact (fun _ _ => trivial)); (case aO => exact (ry HO_3.out)); (case aS => exact (bZ (ey HB.out))); (case aL => have := LMc17.out; omega); intro v300 w19 ho hb hg hat; rw [← Ny299.out] at ho; have HO301 := aM (ho); replace HB := aM (hb); clear HO_3; clear ho hb hg hat)))
       go_roundg k1
       case measure => have := HK1.out; omega
       case rel => exact ⟨(y299), (wrap64 (x4_1 + 1)), (by first | rfl | (simp; done) | (simp [*]; done)), H', ⟨by have := HK1.out; omega⟩, ⟨by exact ry HO301.out⟩, ⟨by exact ey HB.out⟩⟩
      ·rw [if_neg c17] at H
       exact absurd H (by simp)
     ·rw [if_neg c16] at H
      exact absurd H (by simp)
   ·rw [if_neg c2] at H
    have c2b0 : decide (x4_1 < (l0.length : Int)) = false := decide_eq_false c2
    clear c2
    obtain rfl := Option.some.inj H
    go_wp2
    repeat (go_quiet (fail); try go_wp2)
    go_ret
    exact ⟨_, ye, by exact ry HO_3.out, by exact ey HB.out⟩
mutual
def bureauref03_Bytes.l0 : Nat → List (S68) → List Int → Int → Option (List Int)
 | 0, _, _, _ => none
 | k + 1, x0, x3, x4 => if x4 < (x0.length : Int) then (bureauref03_Bytes.l1 k x0 x3 x4 0) else (some x3)
def bureauref03_Bytes.l1 : Nat → List (S68) → List Int → Int → Int → Option (List Int)
 | 0, _, _, _, _ => none
 | k + 1, x0, x3, x4, x5 => if 0 ≤ x4 then (if x4 < (x0.length : Int) then (if x5 < ((rd_T68 x0 x4).f1) then (if x3.length < 17592186044416 then (bureauref03_Bytes.l1 k x0 (x3 ++ [(rd_T68 x0 x4).f0]) x4 (wrap64 (x5 + 1))) else (none)) else (bureauref03_Bytes.l0 k x0 x3 (wrap64 (x4 + 1)))) else (none)) else (none)
end
def bureauref03_Bytes.f (k : Nat) (l0 : List (S68)) : Option (List Int) := bureauref03_Bytes.l0 k l0 ([] : List Int) 0
set_option maxHeartbeats 8000000 in
set_option maxRecDepth 100000 in
theorem bureauref03_Bytes.calls (k : Nat) (A0 : Option Addr) (c0 : Nat) (l0 : List (S68)) (r : List Int) (w : World) (hr0 : Kd.C k68 w A0 l0.length l0) (hc0 : l0.length ≤ c0) (h : bureauref03_Bytes.f k l0 = some r) :
  Calls Tryz.prog 68 #[.slice A0 l0.length c0] w fun e w' => ∃ v0_ : Value, e = .returned (v0_) ∧ Kd.R (Kd.int .u64) 26 w' w.heap.size (fun _ => True) v0_ r ∧ Below w.heap.size w w' := by
 have HR0 := aM hr0
 have HC0 := aM hc0
 clear hr0 hc0
 have HB := aM (Below.refl w.heap.size w)
 have H : (bureauref03_Bytes.l0 k l0 ([] : List Int) 0) = some r := h
 clear h
 have H' := aM H
 clear H
 go_enter Tryz.func68, Tryz.ntmps68
 go_wp2
 go_loopg [3, 4] k (fun kq v3 v4 w' => ∃ (x3_1 : List Int) (x4_1 : Int), v4 = .int .i64 x4_1 ∧ Aside0 (bureauref03_Bytes.l0 kq l0 x3_1 x4_1 = some r) ∧ Aside0 (kq ≤ k) ∧ Aside0 (Kd.R (Kd.int .u64) 26 w' w.heap.size (fun _ => True) v3 x3_1) ∧ Aside0 (Below w.heap.size w w'))
 case atStart => exact ⟨(([] : List Int)), (0), (by first | rfl | (simp; done) | (simp [*]; done)), H', ⟨Nat.le_refl _⟩, ⟨yn⟩, ⟨by exact ey HB.out⟩⟩
 case round =>
  clear H'
  obtain ⟨x3_1, x4_1, rfl, HA, HK1, HO_3, HB⟩ := hrel
  cases gk with
  | zero => exact absurd HA.out (by simp [bureauref03_Bytes.l0])
  | succ k1 =>
   have H := HA.out
   clear HA
   simp only [bureauref03_Bytes.l0] at H
   by_cases c2 : x4_1 < (l0.length : Int)
   ·rw [if_pos c2] at H
    have c2b0 : decide (x4_1 < (l0.length : Int)) = true := decide_eq_true c2
    clear c2
    have H' := aM H
    clear H
    go_wp2
    go_loopg [3, 5] k1 (fun kq v3 v5 w' => ∃ (x3_2 : List Int) (x5_2 : Int), v5 = .int .i64 x5_2 ∧ Aside0 (bureauref03_Bytes.l1 kq l0 x3_2 x4_1 x5_2 = some r) ∧ Aside0 (kq ≤ k1) ∧ Aside0 (Kd.R (Kd.int .u64) 26 w' w.heap.size (fun _ => True) v3 x3_2) ∧ Aside0 (Below w.heap.size w w'))
    case atStart => exact ⟨(x3_1), (0), (by first | rfl | (simp; done) | (simp [*]; done)), H', ⟨Nat.le_refl _⟩, ⟨by exact ry HO_3.out⟩, ⟨by exact ey HB.out⟩⟩
    case round =>
     clear H'
     try clear c2
     try clear c2b0
     try clear p2
     obtain ⟨x3_2, x5_2, rfl, HA, HK2, HO_3, HB⟩ := hrel
     cases gk with
     | zero => exact absurd HA.out (by simp [bureauref03_Bytes.l1])
     | succ k2 =>
      have H := HA.out
      clear HA
      simp only [bureauref03_Bytes.l1] at H
      by_cases c3 : 0 ≤ x4_1
      ·rw [if_pos c3] at H
       have c3b0 : decide (0 ≤ x4_1) = true := decide_eq_true c3
       clear c3
       by_cases c4 : x4_1 < (l0.length : Int)
       ·rw [if_pos c4] at H
        have c4b0 : decide (x4_1 < (l0.length : Int)) = true := decide_eq_true c4
        clear c4
        by_cases c5 : x5_2 < ((rd_T68 l0 x4_1).f1)
        ·rw [if_pos c5] at H
         have c5b0 : decide (x5_2 < ((rd_T68 l0 x4_1).f1)) = true := decide_eq_true c5
         clear c5
         by_cases c6 : x3_2.length < 17592186044416
         ·rw [if_pos c6] at H
          have LMc6 := aM c6
          clear c6
          obtain ⟨y284, hy284⟩ : ∃ y_ : List Int, y_ = (x3_2 ++ [(rd_T68 l0 x4_1).f0]) := ⟨_, rfl⟩
          replace H : (bureauref03_Bytes.l1 k2 l0 y284 x4_1 (wrap64 (x5_2 + 1))) = some r := by first | (rw [hy284]; with_reducible exact H) | (have H2_ := (Option.bind_some _ _).symm.trans H; rw [hy284]; with_reducible exact H2_) | (have H2_ := (Option.bind_some _ _).symm.trans H; with_reducible exact H2_) | with_reducible exact H | (rw [hy284]; exact H) | exact H
          have Ny284 := aM hy284
          clear hy284
          have H' := aM H
          clear H
          have p282 : 0 ≤ (x4_1 : Int) := of_decide_eq_true (by first | (with_reducible assumption) | assumption)
          have q282 : x4_1 < (l0.length : Int) := of_decide_eq_true (by first | (with_reducible assumption) | assumption)
          obtain ⟨ad282, e282, hx282_0, hx282_1⟩ := at_T68 HR0.out x4_1 p282 q282
          cases e282
          replace hx282_0 := (HB.out.cell (World.block_lt_of_cell? w _ hx282_0)).trans hx282_0
          replace hx282_1 := (HB.out.cell (World.block_lt_of_cell? w _ hx282_1)).trans hx282_1
          replace p282 := eq_true p282
          replace q282 := eq_true q282
          have p283 : 0 ≤ (x4_1 : Int) := of_decide_eq_true (by first | (with_reducible assumption) | assumption)
          have q283 : x4_1 < (l0.length : Int) := of_decide_eq_true (by first | (with_reducible assumption) | assumption)
          obtain ⟨ad283, e283, hx283_0, hx283_1⟩ := at_T68 HR0.out x4_1 p283 q283
          obtain rfl : ad282 = ad283 := (by injection e283)
          replace hx283_0 := (HB.out.cell (World.block_lt_of_cell? w _ hx283_0)).trans hx283_0
          replace hx283_1 := (HB.out.cell (World.block_lt_of_cell? w _ hx283_1)).trans hx283_1
          replace p283 := eq_true p283
          replace q283 := eq_true q283
          go_wp2_with (first | ((with_reducible refine gate_builtin (b := .append) (xs := #[.tmp 21, .tmp 27]) rfl ?_); at_builtin; refine Kd.R_append (Kd.int .u64) (w0 := w) w.heap.size rfl (.tmp 21) (.tmp 27) 109 26 (.int .u64 0) 8 rfl Tryz.underlying109 info26 rfl (by decide) (by omega) u3 x3_2 ((rd_T68 l0 x4_1).f0) [.int .u64 ((rd_T68 l0 x4_1).f0)] (fun _ => True) (fun _ => False) rfl rfl ?aP (fun _ hk => hk.elim) ?aF ?aO ?aB ?aS ?aL ?_; (case aP => exact rfl); (case aB => exact (ey HB.out)); (case aF => exact (fun _ _ => trivial)); (case aO => exact (ry HO_3.out)); (case aS => exact (bZ (ey HB.out))); (case aL => have := LMc6.out; omega); intro v285 w7 ho hb hg hat; rw [← Ny284.out] at ho; have HO286 := aM (ho); replace HB := aM (hb); clear HO_3; clear ho hb hg hat))
          go_roundg k2
          case measure => have := HK1.out; have := HK2.out; omega
          case rel => exact ⟨(y284), (wrap64 (x5_2 + 1)), (by first | rfl | (simp; done) | (simp [*]; done)), H', ⟨by have := HK1.out; have := HK2.out; omega⟩, ⟨by exact ry HO286.out⟩, ⟨by exact ey HB.out⟩⟩
         ·rw [if_neg c6] at H
          exact absurd H (by simp)
        ·rw [if_neg c5] at H
         have c5b0 : decide (x5_2 < ((rd_T68 l0 x4_1).f1)) = false := decide_eq_false c5
         clear c5
         have H' := aM H
         clear H
         have p282 : 0 ≤ (x4_1 : Int) := of_decide_eq_true (by first | (with_reducible assumption) | assumption)
         have q282 : x4_1 < (l0.length : Int) := of_decide_eq_true (by first | (with_reducible assumption) | assumption)
         obtain ⟨ad282, e282, hx282_0, hx282_1⟩ := at_T68 HR0.out x4_1 p282 q282
         cases e282
         replace hx282_0 := (HB.out.cell (World.block_lt_of_cell? w _ hx282_0)).trans hx282_0
         replace hx282_1 := (HB.out.cell (World.block_lt_of_cell? w _ hx282_1)).trans hx282_1
         replace p282 := eq_true p282
         replace q282 := eq_true q282
         go_wp2
         go_roundg k2
         case measure => have := HK1.out; have := HK2.out; omega
         case rel => exact ⟨(x3_2), (wrap64 (x4_1 + 1)), (by first | rfl | (simp; done) | (simp [*]; done)), H', ⟨by have := HK1.out; have := HK2.out; omega⟩, ⟨by exact ry HO_3.out⟩, ⟨by exact ey HB.out⟩⟩
       ·rw [if_neg c4] at H
        exact absurd H (by simp)
      ·rw [if_neg c3] at H
       exact absurd H (by simp)
   ·rw [if_neg c2] at H
    have c2b0 : decide (x4_1 < (l0.length : Int)) = false := decide_eq_false c2
    clear c2
    obtain rfl := Option.some.inj H
    go_wp2
    go_ret
    exact ⟨_, ye, by exact ry HO_3.out, by exact ey HB.out⟩
def bureauref03_Good.f (k : Nat) (l0 : List (S68)) : Option (Bool) := (bureauref03_Total.f k l0).bind fun t302 => (if t302 > 4096 then (some false) else ((bureauref03_Bytes.f k l0).bind fun t303 => ((bureauref03_Pack.f k t303).bind fun t306 => ((bureauref03_Same.f k l0 t306).bind fun t309 => (some t309)))))
set_option maxHeartbeats 8000000 in
set_option maxRecDepth 100000 in
theorem bureauref03_Good.calls (k : Nat) (A0 : Option Addr) (c0 : Nat) (l0 : List (S68)) (r : Bool) (w : World) (hr0 : Kd.C k68 w A0 l0.length l0) (hc0 : l0.length ≤ c0) (h : bureauref03_Good.f k l0 = some r) :
  Calls Tryz.prog 116 #[.slice A0 l0.length c0] w fun e w' => e = .returned (.bool r) ∧ Below w.heap.size w w' := by
 have HR0 := aM hr0
 have HC0 := aM hc0
 clear hr0 hc0
 have HB := aM (Below.refl w.heap.size w)
 have H : ((bureauref03_Total.f k l0).bind fun t302 => (if t302 > 4096 then (some false) else ((bureauref03_Bytes.f k l0).bind fun t303 => ((bureauref03_Pack.f k t303).bind fun t306 => ((bureauref03_Same.f k l0 t306).bind fun t309 => (some t309)))))) = some r := h
 clear h
 replace H := Option.bind_eq_some_iff.mp H
 obtain ⟨t302, A20, H⟩ := H
 replace H : (if t302 > 4096 then (some false) else ((bureauref03_Bytes.f k l0).bind fun t303 => ((bureauref03_Pack.f k t303).bind fun t306 => ((bureauref03_Same.f k l0 t306).bind fun t309 => (some t309))))) = some r := H
 have A2 := aM A20
 clear A20
 by_cases c3 : t302 > 4096
 ·rw [if_pos c3] at H
  have c3b0 : decide (4096 < t302) = true := decide_eq_true c3
  clear c3
  obtain rfl := Option.some.inj H
  go_enter Tryz.func116, Tryz.ntmps116
  go_wp2_with (first | (refine yC (some 4) Tryz.func117 #[.slice A0 l0.length c0] ?_; (with_reducible refine (bureauref03_Total.calls k _ _ l0 t302 _ ?side1 ?side2 A2.out).mono ?_); (case side1 => repeat (first | exact HR0.out | (with_reducible refine Kd.C_alloc ?_ _) | (with_reducible refine Kd.C_drewN ?_ _) | (with_reducible refine Kd.C_drew ?_))); (case side2 => exact HC0.out); rintro e w' ⟨rfl, ⟨nd, rfl⟩⟩; refine ⟨_, rfl, ?_⟩))
  go_ret
  exact ⟨ye, by exact ey HB.out⟩
 ·rw [if_neg c3] at H
  have c3b0 : decide (4096 < t302) = false := decide_eq_false c3
  clear c3
  replace H := Option.bind_eq_some_iff.mp H
  obtain ⟨t303, A40, H⟩ := H
  replace H : ((bureauref03_Pack.f k t303).bind fun t306 => ((bureauref03_Same.f k l0 t306).bind fun t309 => (some t309))) = some r := H
  have A4 := aM A40
  clear A40
  replace H := Option.bind_eq_some_iff.mp H
  obtain ⟨t306, A50, H⟩ := H
  replace H : ((bureauref03_Same.f k l0 t306).bind fun t309 => (some t309)) = some r := H
  have A5 := aM A50
  clear A50
  replace H := Option.bind_eq_some_iff.mp H
  obtain ⟨t309, A60, H⟩ := H
  replace H : (some t309) = some r := H
  have A6 := aM A60
  clear A60
  obtain rfl := Option.some.inj H
  go_enter Tryz.func116, Tryz.ntmps116
  go_wp2_with (first | (refine yC (some 4) Tryz.func117 #[.slice A0 l0.length c0] ?_; (with_reducible refine (bureauref03_Total.calls k _ _ l0 t302 _ ?side1 ?side2 A2.out).mono ?_); (case side1 => repeat (first | exact HR0.out | (with_reducible refine Kd.C_alloc ?_ _) | (with_reducible refine Kd.C_drewN ?_ _) | (with_reducible refine Kd.C_drew ?_))); (case side2 => exact HC0.out); rintro e w' ⟨rfl, ⟨nd, rfl⟩⟩; refine ⟨_, rfl, ?_⟩) | (refine yC (some 8) Tryz.func68 #[.slice A0 l0.length c0] ?_; (with_reducible refine (bureauref03_Bytes.calls k _ _ l0 t303 _ ?side1 ?side2 A4.out).mono ?_); (case side1 => repeat (first | exact HR0.out | (with_reducible refine Kd.C_alloc ?_ _) | (with_reducible refine Kd.C_drewN ?_ _) | (with_reducible refine Kd.C_drew ?_))); (case side2 => exact HC0.out); rintro e w7 ⟨v304, rfl, ho0, hb⟩; refine ⟨_, rfl, ?_⟩; have HO305 := aM (rL ho0 (bZ (ey HB.out))); replace HB := yP w hb; clear hb; (try clear ho0); obtain ⟨Ao8, co8, eo8⟩ := Kd.R_slice HO305.out; subst eo8) | (refine yC (some 9) Tryz.func120 #[.slice Ao8 t303.length co8] ?_; (with_reducible refine (bureauref03_Pack.calls k _ _ t303 t306 _ ?side1 ?side2 A5.out).mono ?_); (case side1 => repeat (first | exact (rR HO305.out).2.2 | (with_reducible refine Kd.C_alloc ?_ _) | (with_reducible refine Kd.C_drewN ?_ _) | (with_reducible refine Kd.C_drew ?_))); (case side2 => exact (rR HO305.out).2.1); rintro e w9 ⟨v307, rfl, ho0, hb⟩; refine ⟨_, rfl, ?_⟩; have HO308 := aM (rL ho0 (bZ (ey HB.out))); replace HO305 := aM (Kd.R_below (ry HO305.out) hb); replace HB := yP w hb; clear hb; (try clear ho0); obtain ⟨Ao10, co10, eo10⟩ := Kd.R_slice HO308.out; subst eo10) | (refine yC (some 10) Tryz.func67 #[.slice A0 l0.length c0, .slice Ao10 t306.length co10] ?_; (with_reducible refine (bureauref03_Same.calls k _ _ l0 _ _ t306 t309 _ ?side1 ?side2 ?side3 ?side4 A6.out).mono ?_); (case side1 => exact yR HR0); (case side2 => exact HC0.out); (case side3 => repeat (first | exact (rR HO308.out).2.2 | (with_reducible refine Kd.C_alloc ?_ _) | (with_reducible refine Kd.C_drewN ?_ _) | (with_reducible refine Kd.C_drew ?_))); (case side4 => exact (rR HO308.out).2.1); rintro e w' ⟨rfl, ⟨nd, rfl⟩⟩; refine ⟨_, rfl, ?_⟩))
  go_ret
  exact ⟨ye, by exact ey HB.out⟩
end Go.Proofs.YtjkfkiebhgkolaaGreatDoor.PB
end

section
namespace Go.Proofs.YtjkfkiebhgkolaaGreatDoor.PB
open Go.RowKit Go.Proofs.YtjkfkiebhgkolaaGreatDoorW.PrintWords
set_option linter.unusedVariables false
instance : DecidableEq S68 := fun a b => decidable_of_iff (a.f0 = b.f0 ∧ a.f1 = b.f1) (by cases a; cases b; simp)
theorem rdT (l : List S68) (i : Nat) : rd_T68 l (i : Int) = l.getD i z68 := by unfold rd_T68; rw [Int.toNat_natCast]
theorem dropT {l : List S68} {i : Nat} (h : i < l.length) : l.drop i = l.getD i z68 :: l.drop (i + 1) := by
 rw [List.drop_eq_getElem_cons h, List.getD_eq_getElem?_getD, List.getElem?_eq_getElem h]; rfl
theorem dropI {l : List Int} {i : Nat} (h : i < l.length) : l.drop i = l.getD i 0 :: l.drop (i + 1) := by
 rw [List.drop_eq_getElem_cons h, List.getD_eq_getElem?_getD, List.getElem?_eq_getElem h]; rfl
theorem w1 {i n : Nat} (h : i < n) (hn : n ≤ 1000000000000000) : wrap64 ((i : Int) + 1) = ((i + 1 : Nat) : Int) := by unfold wrap64; omega
abbrev big : Nat := 1000000000000
theorem total_ev (l : List S68) (hl : l.length ≤ big) : Ev (fun k => runs_Total.f k l) (tot l) := by
 unfold big at hl
 have loop : ∀ (d i : Nat) (n : Int), i + d = l.length → 0 ≤ n → n ≤ 4096 → Ev (fun k => runs_Total.l0 k n l (l.length : Int) (i : Int)) (totF (l.drop i) n) := by
  intro d
  induction d with
  | zero =>
   intro i n hi h0 h1
   refine Ev.step (fun k => by simp only [runs_Total.l0]; rfl) ?_
   refine Ev.neg (by omega) ?_
   rw [List.drop_eq_nil_of_le (by omega)]
   exact Ev.now _
  | succ d ih =>
   intro i n hi h0 h1
   have hlt : i < l.length := by omega
   refine Ev.step (fun k => by simp only [runs_Total.l0]; rfl) ?_
   refine Ev.pos (by omega) (Ev.pos (by omega) (Ev.pos (by omega) ?_))
   rw [dropT hlt, rdT]
   simp only [totF]
   rw [show wrap64 (4096 - n) = 4096 - n by unfold wrap64; omega]
   refine Ev.ite (fun _ => Ev.now _) (fun hc => ?_)
   have hm : wrap64 (n + mx (l.getD i z68).f1 0) = n + (if (l.getD i z68).f1 < 0 then 0 else (l.getD i z68).f1) := by
    unfold mx wrap64
    split <;> omega
   rw [hm, w1 hlt (by omega)]
   exact ih (i + 1) _ (by omega) (by split <;> omega) (by split <;> omega)
 exact loop l.length 0 0 (by omega) (by omega) (by omega)
theorem rtotal_ev (l : List S68) (hl : l.length ≤ big) : Ev (fun k => bureauref03_Total.f k l) (tot l) := by
 unfold big at hl
 have loop : ∀ (d i : Nat) (n : Int), i + d = l.length → 0 ≤ n → n ≤ 4096 → Ev (fun k => bureauref03_Total.l0 k l n (i : Int)) (totF (l.drop i) n) := by
  intro d
  induction d with
  | zero =>
   intro i n hi h0 h1
   refine Ev.step (fun k => by simp only [bureauref03_Total.l0]; rfl) ?_
   refine Ev.neg (by omega) ?_
   rw [List.drop_eq_nil_of_le (by omega)]
   exact Ev.now _
  | succ d ih =>
   intro i n hi h0 h1
   have hlt : i < l.length := by omega
   refine Ev.step (fun k => by simp only [bureauref03_Total.l0]; rfl) ?_
   refine Ev.pos (by omega) (Ev.pos (by omega) ?_)
   rw [dropT hlt, rdT]
   simp only [totF]
   rw [show wrap64 (4096 - n) = 4096 - n by unfold wrap64; omega]
   refine Ev.ite (fun _ => Ev.now _) (fun hc => ?_)
   rw [w1 hlt (by omega)]
   by_cases hp : (l.getD i z68).f1 > 0
   ·refine Ev.pos hp ?_
    rw [show wrap64 (n + (l.getD i z68).f1) = n + (if (l.getD i z68).f1 < 0 then 0 else (l.getD i z68).f1) by rw [if_neg (by omega)]; unfold wrap64; omega]
    exact ih (i + 1) _ (by omega) (by split <;> omega) (by split <;> omega)
   ·refine Ev.neg hp ?_
    have : n = n + (if (l.getD i z68).f1 < 0 then 0 else (l.getD i z68).f1) := by split <;> omega
    rw [← this]
    exact ih (i + 1) _ (by omega) (by omega) (by omega)
 exact loop l.length 0 0 (by omega) (by omega) (by omega)
theorem same_ev (a b : List S68) (hl : a.length ≤ big) : Ev (fun k => bureauref03_Same.f k a b) (decide (a = b)) := by
 unfold big at hl
 unfold bureauref03_Same.f
 by_cases hab : a.length = b.length
 ·refine Ev.pos (by omega) ?_
  have loop : ∀ (d i : Nat), i + d = a.length → Ev (fun k => bureauref03_Same.l0 k a b (i : Int)) (decide (a.drop i = b.drop i)) := by
   intro d
   induction d with
   | zero =>
    intro i hi
    refine Ev.step (fun k => by simp only [bureauref03_Same.l0]; rfl) ?_
    refine Ev.neg (by omega) ?_
    rw [List.drop_eq_nil_of_le (by omega), List.drop_eq_nil_of_le (by omega)]
    exact Ev.now _
   | succ d ih =>
    intro i hi
    have hlt : i < a.length := by omega
    refine Ev.step (fun k => by simp only [bureauref03_Same.l0]; rfl) ?_
    refine Ev.pos (by omega) (Ev.pos (by omega) (Ev.pos (by omega) ?_))
    rw [dropT hlt, dropT (show i < b.length by omega), rdT, rdT, w1 hlt (by omega)]
    by_cases he : a.getD i z68 = b.getD i z68
    ·rw [he]
     refine Ev.neg (by simp) ?_
     exact ev_val (ih (i + 1) (by omega)) (by simp)
    ·refine Ev.pos ?_ ?_
     ·have : ¬ ((a.getD i z68).f0 = (b.getD i z68).f0 ∧ (a.getD i z68).f1 = (b.getD i z68).f1) := fun h => he (by
       cases hx : a.getD i z68; cases hy : b.getD i z68; rw [hx, hy] at h; simp at h; rw [h.1, h.2])
      simp only [Bool.or_eq_true, Bool.not_eq_true', beq_eq_false_iff_ne]
      by_cases h1 : (a.getD i z68).f0 = (b.getD i z68).f0
      ·exact .inr (fun h2 => this ⟨h1, h2⟩)
      ·exact .inl h1
     ·exact ev_val (Ev.now _) (by simp; intro h; exact absurd h he)
  exact loop a.length 0 (by omega)
 ·refine Ev.neg (by omega) ?_
  exact ev_val (Ev.now _) (by simp; intro h; exact hab (by rw [h]))
theorem pack_ev (b : List Int) (hb : b.length ≤ 1000000000000) : Ev (fun k => bureauref03_Pack.f k b) (pack b) := by
 have loop : ∀ (d i : Nat) (acc : List S68), i + d = b.length → acc.length ≤ i → (∀ r ∈ acc, r.f1 ≤ i) → (∀ r ∈ acc, 0 ≤ r.f1) → Ev (fun k => bureauref03_Pack.l0 k b acc (i : Int)) (packTo acc (b.drop i)) := by
  intro d
  induction d with
  | zero =>
   intro i acc hi _ _ _
   refine Ev.step (fun k => by simp only [bureauref03_Pack.l0]; rfl) ?_
   refine Ev.neg (by omega) ?_
   rw [List.drop_eq_nil_of_le (by omega)]
   exact Ev.now _
  | succ d ih =>
   intro i acc hi ha hc h0
   have hlt : i < b.length := by omega
   have hstep : step1 acc (b.getD i 0) = step1 acc (b.getD i 0) := rfl
   refine Ev.step (fun k => by simp only [bureauref03_Pack.l0]; rfl) ?_
   refine Ev.pos (by omega) ?_
   have hrd : rd b (i : Int) = b.getD i 0 := by unfold rd; rw [Int.toNat_natCast]
   rw [hrd, dropI hlt, w1 hlt (by omega)]
   have happ : ∀ x : Int, Ev (fun k => if acc.length < 8796093022208 then bureauref03_Pack.l0 k b (acc ++ [(⟨x, 1⟩ : S68)]) ((i + 1 : Nat) : Int) else none) (packTo (acc ++ [⟨x, 1⟩]) (b.drop (i + 1))) := fun x => by
    refine Ev.pos (by omega) (ih (i + 1) _ (by omega) (by simp; omega) ?_ ?_)
    ·intro r hr
     rcases List.mem_append.1 hr with hr | hr
     ·have := hc r hr; omega
     ·obtain rfl := List.mem_singleton.1 hr; show (1 : Int) ≤ ((i + 1 : Nat) : Int); omega
    ·intro r hr
     rcases List.mem_append.1 hr with hr | hr
     ·exact h0 r hr
     ·obtain rfl := List.mem_singleton.1 hr; show (0 : Int) ≤ 1; omega
   show Ev _ (packTo (step1 acc (b.getD i 0)) (b.drop (i + 1)))
   rcases snoc_cases acc with rfl | ⟨pre, q, rfl⟩
   ·refine Ev.neg (by simp) (Ev.pos (by omega) ?_)
    rw [step1_nil]
    exact happ _
   ·have hlen : (pre ++ [q]).length = pre.length + 1 := by simp
    have hidx : wrap64 (((pre ++ [q]).length : Int) - 1) = ((pre.length : Nat) : Int) := by rw [hlen]; unfold wrap64; omega
    have hget : rd_T68 (pre ++ [q]) ((pre.length : Nat) : Int) = q := by rw [rdT]; simp [List.getD_eq_getElem?_getD]
    refine Ev.pos (by omega) ?_
    rw [hidx, hget]
    refine Ev.pos (by omega) (Ev.pos (by omega) (Ev.pos (by omega) ?_))
    by_cases he : q.f0 = b.getD i 0
    ·refine Ev.pos he ?_
     rw [← he, step1_same]
     have hq := hc q (by simp)
     have hq0 := h0 q (by simp)
     rw [Int.toNat_natCast, show (pre ++ [q]).set pre.length (⟨q.f0, wrap64 (q.f1 + 1)⟩ : S68) = pre ++ [⟨q.f0, q.f1 + 1⟩] by
      rw [show wrap64 (q.f1 + 1) = q.f1 + 1 by unfold wrap64; omega]; simp]
     refine ih (i + 1) _ (by omega) (by simp at ha ⊢; omega) ?_ ?_
     ·intro r hr
      rcases List.mem_append.1 hr with hr | hr
      ·have := hc r (List.mem_append_left _ hr); omega
      ·obtain rfl := List.mem_singleton.1 hr; show q.f1 + 1 ≤ ((i + 1 : Nat) : Int); omega
     ·intro r hr
      rcases List.mem_append.1 hr with hr | hr
      ·exact h0 r (List.mem_append_left _ hr)
      ·obtain rfl := List.mem_singleton.1 hr; show 0 ≤ q.f1 + 1; omega
    ·refine Ev.neg he ?_
     rw [step1_other _ _ _ he]
     exact happ _
 exact loop b.length 0 [] (by omega) (by simp) (by intro r hr; cases hr) (by intro r hr; cases hr)
theorem bytes_ev (l : List S68) (hl : l.length ≤ big) (hb : (bytes l).length ≤ 1000000000000) : Ev (fun k => bureauref03_Bytes.f k l) (bytes l) := by
 unfold big at hl
 have loop : ∀ (d i : Nat) (acc : List Int), i + d = l.length → acc.length + (bytes (l.drop i)).length ≤ 1000000000000 → Ev (fun k => bureauref03_Bytes.l0 k l acc (i : Int)) (acc ++ bytes (l.drop i)) := by
  intro d
  induction d with
  | zero =>
   intro i acc hi _
   refine Ev.step (fun k => by simp only [bureauref03_Bytes.l0]; rfl) ?_
   refine Ev.neg (by omega) ?_
   rw [List.drop_eq_nil_of_le (by omega)]
   exact ev_val (Ev.now _) (by simp [bytes])
  | succ d ih =>
   intro i acc hi hlen
   have hlt : i < l.length := by omega
   rw [dropT hlt, bytes_cons] at hlen ⊢
   rw [List.length_append, List.length_replicate] at hlen
   refine Ev.step (fun k => by simp only [bureauref03_Bytes.l0]; rfl) ?_
   refine Ev.pos (by omega) ?_
   have inner : ∀ (e j : Nat) (acc' : List Int), j + e = (l.getD i z68).f1.toNat → acc' = acc ++ List.replicate j (l.getD i z68).f0 → Ev (fun k => bureauref03_Bytes.l1 k l acc' (i : Int) (j : Int)) (acc ++ (List.replicate (l.getD i z68).f1.toNat (l.getD i z68).f0 ++ bytes (l.drop (i + 1)))) := by
    intro e
    induction e with
    | zero =>
     intro j acc' hj ha
     refine Ev.step (fun k => by simp only [bureauref03_Bytes.l1]; rfl) ?_
     refine Ev.pos (by omega) (Ev.pos (by omega) ?_)
     rw [rdT, w1 hlt (by omega)]
     refine Ev.neg (by omega) ?_
     have := ih (i + 1) acc' (by omega) (by rw [ha, List.length_append, List.length_replicate]; omega)
     refine ev_val this ?_
     rw [ha, List.append_assoc]
     rw [Nat.add_zero] at hj
     rw [hj]
    | succ e ihe =>
     intro j acc' hj ha
     refine Ev.step (fun k => by simp only [bureauref03_Bytes.l1]; rfl) ?_
     refine Ev.pos (by omega) (Ev.pos (by omega) ?_)
     rw [rdT]
     refine Ev.pos (by omega) (Ev.pos (by have hz := congrArg List.length ha; rw [List.length_append, List.length_replicate] at hz; omega) ?_)
     rw [show wrap64 ((j : Int) + 1) = ((j + 1 : Nat) : Int) by unfold wrap64; omega]
     exact ihe (j + 1) _ (by omega) (by rw [ha, List.replicate_succ', List.append_assoc])
   exact inner (l.getD i z68).f1.toNat 0 acc (by omega) (by simp)
 exact ev_val (loop l.length 0 [] (by omega) (by simpa using hb)) (by simp)
theorem good_ev (l : List S68) (hl : l.length ≤ big) : Ev (fun k => runs_Good.f k l) (good l) := by
 have ht := total_ev l hl
 unfold big at hl
 have loop : ∀ (d i : Nat), i + d = l.length → ∀ b : Bool, (b = true ↔ ((0 < i → i < l.length → (l.getD (i - 1) z68).f0 ≠ (l.getD i z68).f0) ∧ nrm (l.drop i) ∧ tot l ≤ 4096)) → Ev (fun k => runs_Good.l0 k l l (l.length : Int) (i : Int)) b := by
  intro d
  induction d with
  | zero =>
   intro i hi b hb
   refine Ev.step (fun k => by simp only [runs_Good.l0]; rfl) ?_
   refine Ev.neg (by omega) ?_
   rw [List.drop_eq_nil_of_le (by omega)] at hb
   refine Ev.bind ht (ev_val (Ev.now _) ?_)
   rw [Bool.eq_iff_iff, hb, decide_eq_true_iff]
   exact ⟨fun h => ⟨fun _ h2 => absurd h2 (by omega), trivial, h⟩, fun h => h.2.2⟩
  | succ d ih =>
   intro i hi b hb
   have hlt : i < l.length := by omega
   have hn : nrm (l.drop i) ↔ 1 ≤ (l.getD i z68).f1 ∧ (i + 1 < l.length → (l.getD i z68).f0 ≠ (l.getD (i + 1) z68).f0) ∧ nrm (l.drop (i + 1)) := by
    rw [dropT hlt]
    by_cases h2 : i + 1 < l.length
    ·rw [dropT h2]
     exact ⟨fun h => ⟨h.1, fun _ => h.2.1, h.2.2⟩, fun h => ⟨h.1, h.2.1 h2, h.2.2⟩⟩
    ·rw [List.drop_eq_nil_of_le (show l.length ≤ i + 1 by omega)]
     exact ⟨fun h => ⟨h, fun h3 => absurd h3 h2, trivial⟩, fun h => h.1⟩
   refine Ev.step (fun k => by simp only [runs_Good.l0]; rfl) ?_
   refine Ev.pos (by omega) (Ev.pos (by omega) (Ev.pos (by omega) ?_))
   rw [rdT, w1 hlt (by omega)]
   by_cases h1 : (l.getD i z68).f1 < 1
   ·refine Ev.pos h1 (ev_val (Ev.now _) ?_)
    rw [Bool.eq_iff_iff, hb, hn]
    exact ⟨fun h => (by cases h), fun h => (by have := h.2.1.1; omega)⟩
   ·refine Ev.neg h1 ?_
    have hrest : ∀ b' : Bool, (b' = true ↔ (nrm (l.drop i) ∧ tot l ≤ 4096)) → Ev (fun k => runs_Good.l0 k l l (l.length : Int) ((i + 1 : Nat) : Int)) b' := fun b' hb' => ih (i + 1) (by omega) b' (by
     rw [hb', hn, show i + 1 - 1 = i by omega]
     exact ⟨fun h => ⟨fun _ => h.1.2.1, h.1.2.2, h.2⟩, fun h => ⟨⟨by omega, h.1 (by omega), h.2.1⟩, h.2.2⟩⟩)
    by_cases h0 : 0 < i
    ·refine Ev.pos (by omega) ?_
     rw [show wrap64 ((i : Int) - 1) = ((i - 1 : Nat) : Int) by unfold wrap64; omega]
     refine Ev.pos (by omega) (Ev.pos (by omega) ?_)
     rw [rdT]
     by_cases he : (l.getD (i - 1) z68).f0 = (l.getD i z68).f0
     ·refine Ev.pos he (ev_val (Ev.now _) ?_)
      rw [Bool.eq_iff_iff, hb]
      exact ⟨fun h => (by cases h), fun h => absurd he (h.1 h0 hlt)⟩
     ·refine Ev.neg he (hrest b ?_)
      rw [hb]
      exact ⟨fun h => h.2, fun h => ⟨fun _ _ => he, h⟩⟩
    ·refine Ev.neg (by omega) (hrest b ?_)
     rw [hb]
     exact ⟨fun h => h.2, fun h => ⟨fun h3 => absurd h3 h0, h⟩⟩
 refine loop l.length 0 (by omega) (good l) ?_
 simp [good]
theorem rgood_ev (l : List S68) (hl : l.length ≤ big) : Ev (fun k => bureauref03_Good.f k l) (good l) := by
 unfold bureauref03_Good.f
 refine Ev.bind (rtotal_ev l hl) ?_
 by_cases ht : tot l > 4096
 ·exact Ev.pos ht (ev_val (Ev.now _) (by simp [good]; intro _; omega))
 ·refine Ev.neg ht ?_
  have hb : (bytes l).length ≤ 4096 := by have := tot_bytes (l := l) (by omega); omega
  refine Ev.bind (bytes_ev l hl (by omega)) (Ev.bind (pack_ev _ (by omega)) (Ev.bind (same_ev _ _ hl) ?_))
  refine ev_val (Ev.now _) ?_
  rw [good, show decide (tot l ≤ 4096) = true by simp; omega, Bool.and_true]
  exact decide_eq_decide.2 nrm_iff.symm
end Go.Proofs.YtjkfkiebhgkolaaGreatDoor.PB
end
