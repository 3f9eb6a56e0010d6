/- What the row hangs on, part 2. -/
import Derived.Test.YtcbiilbmldinhaaDoorProg
import Derived.Maps.OwnSet
import Derived.StillTailTactics
import Derived.Laws.BitsAllLaws
import Derived.Laws.Bits128
import Derived.Shelf.Strings.Builder1
import Derived.Shelf.Strings.Builder2
import Derived.Shelf.Strings.OnBuilder
import Derived.Shelf.Strings.BuilderF
import Derived.Shelf.Strings.BuilderK
import Derived.Shelf.Strings.Builder2Cap
import Derived.Shelf.Strconv.Itoa0
import Derived.Shelf.Strconv.Itoa1
import Derived.Shelf.LaysM
import Derived.Shelf.Strconv.Itoa2
import Derived.Shelf.Strconv.Itoa3
import Derived.Shelf.Strings.Search1
import Derived.Shelf.Strings.Search2
import Derived.Shelf.Strings.Search3
import Derived.Shelf.Strings.Count
import Derived.Shelf.Strings.Shaped
import Derived.Shelf.Strings.Split
import Derived.Shelf.Strings.RuneCount
import Derived.Shelf.Unicode.DecodeSlow
import Derived.Test.YtcbiilbmldinhaaDoorProg
import Derived.Shelf.Strings.SplitCore
import Derived.Deep.MidRow
import Derived.Laws.BitsAllLaws
import Derived.Laws.BitsAllLaws
import Derived.Test.YtcbiilbmldinhaaDoorQAuditActs1
section
namespace Go.Proofs.YtcbiilbmldinhaaDoor.PB
open Go.RowKit Go.Proofs.YtcbiilbmldinhaaDoorW.PrintWords Go.Proofs.YtcbiilbmldinhaaDoorW.PrintLast Go.Proofs.YtcbiilbmldinhaaDoorW.PrintMore
theorem qn : type_of% @blk_drewN := @blk_drewN
theorem qd : type_of% @blk_drew := @blk_drew
theorem qa : type_of% @blk_alloc := @blk_alloc
theorem ra : type_of% @Kd.R_alloc := @Kd.R_alloc
theorem rn : type_of% @Kd.R_drewN := @Kd.R_drewN
theorem rd_ : type_of% @Kd.R_drew := @Kd.R_drew
theorem va : type_of% @Kd.V_alloc := @Kd.V_alloc
theorem vn : type_of% @Kd.V_drewN := @Kd.V_drewN
theorem vd : type_of% @Kd.V_drew := @Kd.V_drew
theorem ea : type_of% @below_alloc := @below_alloc
theorem en : type_of% @pw_below_drewN := @pw_below_drewN
theorem ed : type_of% @below_drew1 := @below_drew1
theorem es : type_of% @below_set := @below_set
theorem aM : type_of% @Aside0.mk := @Aside0.mk
theorem bC : type_of% @blk_cell := @blk_cell
theorem bF : type_of% @blk_frozen := @blk_frozen
theorem rF : type_of% @Kd.R_far := @Kd.R_far
theorem bZ : type_of% @below_size := @below_size
theorem bB : type_of% @blk_below := @blk_below
theorem bP : type_of% @below_step := @below_step
theorem rT : type_of% @Kd.R_types := @Kd.R_types
theorem rM : type_of% @Kd.R_mono := @Kd.R_mono
theorem rR : type_of% @Kd.R_reads' := @Kd.R_reads'
theorem cB_ : type_of% @Kd.C_below := @Kd.C_below
theorem rL : type_of% @Kd.R_lower := @Kd.R_lower
theorem rE : type_of% @Kd.R_elder' := @Kd.R_elder'
theorem bR : type_of% @blk_far := @blk_far
theorem bU : type_of% @blk_put := @blk_put
theorem sA : type_of% @List.setIfInBounds_toArray := @List.setIfInBounds_toArray
theorem sZ : type_of% @List.set_cons_zero := @List.set_cons_zero
theorem sS : type_of% @List.set_cons_succ := @List.set_cons_succ
theorem mT : type_of% @List.map_toArray := @List.map_toArray
theorem mC : type_of% @List.map_cons := @List.map_cons
theorem mN : type_of% @List.map_nil := @List.map_nil
theorem lD : type_of% @List.length_drop := @List.length_drop
theorem lT : type_of% @List.length_take := @List.length_take
class Up (W w : World) : Prop where
  b : Below w.heap.size w W
instance (w : World) : Up w w := ⟨Below.refl _ _⟩
instance {W w : World} (o : Obj) [u : Up W w] : Up (W.alloc o) w := ⟨below_alloc u.b o⟩
instance {W w : World} [u : Up W w] : Up W.drew w := ⟨below_drew1 u.b⟩
instance {W w : World} (n : Nat) [u : Up W w] : Up (W.drewN n) w := ⟨pw_below_drewN u.b n⟩
theorem qy {W w : World} {g : Nat} {o : Obj} [u : Up W w] (h : w.heap[g]? = some o) : W.heap[g]? = some o := blk_below h u.b
theorem ry {α : Type} {d : Kd α} {e : TypeId} {W w : World} {base : Nat} {ok : Nat → Prop} {v : Value} {xs : List α} [u : Up W w] (h : d.R e w base ok v xs) : d.R e W base ok v xs := Kd.R_below h u.b
theorem ey {W w v : World} [u : Up W w] (h : Below v.heap.size v w) : Below v.heap.size v W := below_then h h.size u.b
section
variable {P : Program} {ops : Array Oper} {Q : Exit → Act → World → Prop} {md : Region.Mode} {S : World → Prop} {ds : List Nat} {oi : Oper} {v : Value} {fuel : Nat} {l : Array Bool} {a : Act} {w : World} {T : Bool × List (List Nat × List Nat)} {B : List Nat} {a' : Act}
theorem pv (i n : Nat) (l' : Array Bool) (HT : Aside0 (rtab md ops = T)) (h : wpAnyLast P md ops Q S ds fuel l' a' w) (hi : ops[i]? = some oi := by rfl) (hN : oi.dst = some n := by rfl) (hc : anyT T l.toList l'.toList i = true := by kernel_rfl) (hQ : ∀ (c : List PanicEntry) (a : Act) (w : World), Q (.panic c) (a.put oi.dst v) w → Q (.panic c) a w := by exact fun _ _ _ h => h) (hy : Yields P ops oi v a := by exact Or.inl ⟨by rfl, fun w' => by go_simp; with_reducible rfl⟩) (ha : a.put (some n) v = a' := by simp only [Act.put, sA, sZ, sS, i64_w, i32_w]; rfl) : wpAnyLast P md ops Q S ds (fuel + 1) l a w := pure_ l' hi hN (any_of HT.out hc) hQ hy ha h
theorem pu (i n : Nat) (l' : Array Bool) (HT : Aside0 (rtab md ops = T)) (h : wpAnyLast P md ops Q S ds fuel l' a' w) (hi : ops[i]? = some oi := by rfl) (hN : oi.dst = some n := by rfl) (hc : anyT T l.toList l'.toList i = true := by kernel_rfl) (hQ : ∀ (c : List PanicEntry) (a : Act) (w : World), Q (.panic c) (a.put oi.dst undef) w → Q (.panic c) a w := by exact fun _ _ _ h => h) (hy : Yields P ops oi undef a := by exact Or.inr ⟨by rfl, rfl⟩) (ha : a.put (some n) undef = a' := by simp only [Act.put, sA, sZ, sS, i64_w, i32_w]; rfl) : wpAnyLast P md ops Q S ds (fuel + 1) l a w := pure_ l' hi hN (any_of HT.out hc) hQ hy ha h
theorem pt (i n : Nat) (l' : Array Bool) (HT : Aside0 (rtab md ops = T)) (HW : Aside0 (waitsOk T.2 B = true)) (hS : S w) (h : wpAnyLast P md ops Q S ds fuel l' a' w) (hi : ops[i]? = some oi := by rfl) (hN : oi.dst = some n := by rfl) (hc : takeW T B ds l.toList l'.toList i = true := by kernel_rfl) (hQ : ∀ (c : List PanicEntry) (a : Act) (w : World), Q (.panic c) (a.put oi.dst v) w → Q (.panic c) a w := by exact fun _ _ _ h => h) (hy : YieldsIf P ops S oi v a := by exact Or.inl ⟨by rfl, fun w' hs => by (repeat obtain ⟨_, hs⟩ := hs); go_simp; with_reducible rfl⟩) (ha : a.put (some n) v = a' := by simp only [Act.put, sA, sZ, sS, i64_w, i32_w]; rfl) : wpAnyLast P md ops Q S ds (fuel + 1) l a w := take_ l' hi hN (take_ofW HT.out HW.out hc) hQ hy hS ha h
theorem p1 (i : Nat) (N : Option Tmp) (l' : Array Bool) (HT : Aside0 (rtab md ops = T)) (h : ∀ (K : Act → World → Prop), Shut (∀ (a' : Act) (w' : World), S w' → (S w' → wpAnyLast P md ops Q S ds fuel l' a' w') → K a' w') → if Region.wanted oi (yielded ops a.tmps) = true then Oper.wp P oi a w K Q else K (a.put N undef) w) (hi : ops[i]? = some oi := by rfl) (hN : oi.dst = N := by rfl) (hc : (readyT T.snd l.toList == [i] && l.toList.set i true == l'.toList) = true := by kernel_rfl) (hd : i ∉ ds := by decide) : wpAnyLast P md ops Q S ds (fuel + 1) l a w := one_ l' hi hN (one_of HT.out hc) hd h
end
theorem zC {w : World} {g : Nat} {t : TypeId} {cs : Array Value} (h : w.heap[g]? = some (.cells cs t (0, 0))) (i : Nat) (v : Value) (e : cs[i]? = some v := by rfl) : w.cell? ⟨g, i, none⟩ = some v := (bC h i).trans e
abbrev I := true
abbrev O := false
abbrev b0_ : Array Bool := #[O,O,O,O,O,O,O,O,O,O,O,O,O,O,O,O,O,O,O]
abbrev b1_ : Array Bool := #[I,O,O,O,O,O,O,O,O,O,O,O,O,O,O,O,O,O,O]
abbrev b2_ : Array Bool := #[I,O,O,I,O,O,O,O,O,O,O,O,O,O,O,O,O,O,O]
abbrev b3_ : Array Bool := #[I,O,O,I,O,O,I,O,O,O,O,O,O,O,O,O,O,O,O]
abbrev b4_ : Array Bool := #[I,O,O,I,O,O,I,O,O,I,O,O,O,O,O,O,O,O,O]
abbrev b5_ : Array Bool := #[I,O,O,I,O,O,I,O,O,I,O,O,I,O,O,O,O,O,O]
abbrev b6_ : Array Bool := #[I,I,O,I,O,O,I,O,O,I,O,O,I,O,O,O,O,O,O]
abbrev b7_ : Array Bool := #[I,I,O,I,I,O,I,O,O,I,O,O,I,O,O,O,O,O,O]
abbrev b8_ : Array Bool := #[I,I,O,I,I,O,I,I,O,I,O,O,I,O,O,O,O,O,O]
abbrev b9_ : Array Bool := #[I,I,O,I,I,O,I,I,O,I,I,O,I,O,O,O,O,O,O]
abbrev b10_ : Array Bool := #[I,I,O,I,I,O,I,I,O,I,I,O,I,I,O,O,O,O,O]
abbrev b11_ : Array Bool := #[I,I,I,I,I,O,I,I,O,I,I,O,I,I,O,O,O,O,O]
abbrev b12_ : Array Bool := #[I,I,I,I,I,I,I,I,O,I,I,O,I,I,O,O,O,O,O]
abbrev b13_ : Array Bool := #[I,I,I,I,I,I,I,I,I,I,I,O,I,I,O,O,O,O,O]
abbrev b14_ : Array Bool := #[I,I,I,I,I,I,I,I,I,I,I,I,I,I,O,O,O,O,O]
abbrev b15_ : Array Bool := #[I,I,I,I,I,I,I,I,I,I,I,I,I,I,I,O,O,O,O]
abbrev b16_ : Array Bool := #[I,I,I,I,I,I,I,I,I,I,I,I,I,I,I,I,O,O,O]
abbrev b17_ : Array Bool := #[I,I,I,I,I,I,I,I,I,I,I,I,I,I,I,I,I,O,O]
abbrev b18_ : Array Bool := #[I,I,I,I,I,I,I,I,I,I,I,I,I,I,I,I,I,I,O]
abbrev b19_ : Array Bool := #[I,I,I,I,I,I,I,I,I,I,I,I,I,I,I,I,I,I,I]
attribute [local go_sem] max2_int min2_int max_two min_two max_three min_three max_four min_four   
set_option linter.unusedVariables false
set_option linter.unusedSimpArgs false
def errW : Option Int → Value
 | none => .nilIface
 | some c => .iface 109 (.int .i64 c)
theorem errW_none : errW none = .nilIface := rfl
theorem errW_some (c : Int) : errW (some c) = .iface 109 (.int .i64 c) := rfl
theorem info3 : (Tryd.prog.info? 3).map (fun i => (i.zero, i.size, i.bytes)) = some (some (.int .i64 0), 1, 8) := by kernel_rfl
theorem info9 : (Tryd.prog.info? 9).map (fun i => (i.zero, i.size, i.bytes)) = some (some (.string ⟨#[]⟩), 1, 16) := by kernel_rfl
theorem info36 : (Tryd.prog.info? 36).map (fun i => (i.zero, i.size, i.bytes)) = some (some (.agg #[(.int .u64 0), (.int .i64 0), (.int .i64 0), (.int .i64 0), (.int .i64 0)]), 5, 40) := by kernel_rfl
theorem info38 : (Tryd.prog.info? 38).map (fun i => (i.zero, i.size, i.bytes)) = some (some (.agg #[(.int .u64 0), (.int .i64 0), (.int .i64 0), (.int .i64 0), (.int .i64 0)]), 5, 40) := by kernel_rfl
structure S36 where
 f0 : Int
 f1 : Int
 f2 : Int
 f3 : Int
 f4 : Int
def z36 : S36 := ⟨(0 : Int), (0 : Int), (0 : Int), (0 : Int), (0 : Int)⟩
def k36 : Kd S36 := Kd.iso (Kd.pair (Kd.int .u64) (Kd.pair (Kd.int .i64) (Kd.pair (Kd.int .i64) (Kd.pair (Kd.int .i64) (Kd.int .i64))))) (fun x : S36 => (x.f0, x.f1, x.f2, x.f3, x.f4))
theorem k36_open {w : World} {x : S36} {cs : List Value} (h : k36.K w x cs) : cs = [.int .u64 x.f0, .int .i64 x.f1, .int .i64 x.f2, .int .i64 x.f3, .int .i64 x.f4] := by
 obtain ⟨_, _, rfl, rfl, ⟨_, _, rfl, rfl, ⟨_, _, rfl, rfl, ⟨_, _, rfl, rfl, rfl⟩⟩⟩⟩ := h
 exact rfl
theorem k36_mkM (w : World) (base : Nat) (ok : Nat → Prop) (x : S36)  : k36.M w base ok x [.int .u64 x.f0, .int .i64 x.f1, .int .i64 x.f2, .int .i64 x.f3, .int .i64 x.f4] := ⟨[.int .u64 x.f0], [.int .i64 x.f1, .int .i64 x.f2, .int .i64 x.f3, .int .i64 x.f4], rfl, rfl, ⟨[.int .i64 x.f1], [.int .i64 x.f2, .int .i64 x.f3, .int .i64 x.f4], rfl, rfl, ⟨[.int .i64 x.f2], [.int .i64 x.f3, .int .i64 x.f4], rfl, rfl, ⟨[.int .i64 x.f3], [.int .i64 x.f4], rfl, rfl, rfl⟩⟩⟩⟩
def rd_T36 (xs : List S36) (i : Int) : S36 := xs.getD i.toNat z36
theorem at_T36 {w : World} {A : Option Addr} {n : Nat} {xs : List S36} (h : Kd.C k36 w A n xs) (i : Int) (h0 : 0 ≤ i) (h1 : i < n) : ∃ ad , A = some ad ∧ w.cell? (ad.add (i.toNat * 5)) = some (.int .u64 (rd_T36 xs i).f0) ∧ w.cell? ⟨(ad.add (i.toNat * 5)).block, (ad.add (i.toNat * 5)).off + 1, none⟩ = some (.int .i64 (rd_T36 xs i).f1) ∧ w.cell? ⟨(ad.add (i.toNat * 5)).block, (ad.add (i.toNat * 5)).off + 2, none⟩ = some (.int .i64 (rd_T36 xs i).f2) ∧ w.cell? ⟨(ad.add (i.toNat * 5)).block, (ad.add (i.toNat * 5)).off + 3, none⟩ = some (.int .i64 (rd_T36 xs i).f3) ∧ w.cell? ⟨(ad.add (i.toNat * 5)).block, (ad.add (i.toNat * 5)).off + 4, none⟩ = some (.int .i64 (rd_T36 xs i).f4) := by
 obtain ⟨ad, c, e, _, hK, hc0⟩ := Kd.C_get h z36 i h0 h1
 have hc : ∀ j u, c[j]? = some u → w.cell? (ad.add (i.toNat * 5 + j)) = some u := hc0
 obtain rfl := k36_open hK
 exact ⟨ad, e, hc 0 _ rfl, by rw [← add_field _ _ 1 (by omega)]; exact hc 1 _ rfl, by rw [← add_field _ _ 2 (by omega)]; exact hc 2 _ rfl, by rw [← add_field _ _ 3 (by omega)]; exact hc 3 _ rfl, by rw [← add_field _ _ 4 (by omega)]; exact hc 4 _ rfl⟩
structure S38 where
 f0 : Int
 f1 : Int
 f2 : Int
 f3 : Int
 f4 : Int
def z38 : S38 := ⟨(0 : Int), (0 : Int), (0 : Int), (0 : Int), (0 : Int)⟩
def k38 : Kd S38 := Kd.iso (Kd.pair (Kd.int .u64) (Kd.pair (Kd.int .i64) (Kd.pair (Kd.int .i64) (Kd.pair (Kd.int .i64) (Kd.int .i64))))) (fun x : S38 => (x.f0, x.f1, x.f2, x.f3, x.f4))
theorem k38_open {w : World} {x : S38} {cs : List Value} (h : k38.K w x cs) : cs = [.int .u64 x.f0, .int .i64 x.f1, .int .i64 x.f2, .int .i64 x.f3, .int .i64 x.f4] := by
 obtain ⟨_, _, rfl, rfl, ⟨_, _, rfl, rfl, ⟨_, _, rfl, rfl, ⟨_, _, rfl, rfl, rfl⟩⟩⟩⟩ := h
 exact rfl
theorem k38_mkM (w : World) (base : Nat) (ok : Nat → Prop) (x : S38)  : k38.M w base ok x [.int .u64 x.f0, .int .i64 x.f1, .int .i64 x.f2, .int .i64 x.f3, .int .i64 x.f4] := ⟨[.int .u64 x.f0], [.int .i64 x.f1, .int .i64 x.f2, .int .i64 x.f3, .int .i64 x.f4], rfl, rfl, ⟨[.int .i64 x.f1], [.int .i64 x.f2, .int .i64 x.f3, .int .i64 x.f4], rfl, rfl, ⟨[.int .i64 x.f2], [.int .i64 x.f3, .int .i64 x.f4], rfl, rfl, ⟨[.int .i64 x.f3], [.int .i64 x.f4], rfl, rfl, rfl⟩⟩⟩⟩
def rd_T38 (xs : List S38) (i : Int) : S38 := xs.getD i.toNat z38
theorem at_T38 {w : World} {A : Option Addr} {n : Nat} {xs : List S38} (h : Kd.C k38 w A n xs) (i : Int) (h0 : 0 ≤ i) (h1 : i < n) : ∃ ad , A = some ad ∧ w.cell? (ad.add (i.toNat * 5)) = some (.int .u64 (rd_T38 xs i).f0) ∧ w.cell? ⟨(ad.add (i.toNat * 5)).block, (ad.add (i.toNat * 5)).off + 1, none⟩ = some (.int .i64 (rd_T38 xs i).f1) ∧ w.cell? ⟨(ad.add (i.toNat * 5)).block, (ad.add (i.toNat * 5)).off + 2, none⟩ = some (.int .i64 (rd_T38 xs i).f2) ∧ w.cell? ⟨(ad.add (i.toNat * 5)).block, (ad.add (i.toNat * 5)).off + 3, none⟩ = some (.int .i64 (rd_T38 xs i).f3) ∧ w.cell? ⟨(ad.add (i.toNat * 5)).block, (ad.add (i.toNat * 5)).off + 4, none⟩ = some (.int .i64 (rd_T38 xs i).f4) := by
 obtain ⟨ad, c, e, _, hK, hc0⟩ := Kd.C_get h z38 i h0 h1
 have hc : ∀ j u, c[j]? = some u → w.cell? (ad.add (i.toNat * 5 + j)) = some u := hc0
 obtain rfl := k38_open hK
 exact ⟨ad, e, hc 0 _ rfl, by rw [← add_field _ _ 1 (by omega)]; exact hc 1 _ rfl, by rw [← add_field _ _ 2 (by omega)]; exact hc 2 _ rfl, by rw [← add_field _ _ 3 (by omega)]; exact hc 3 _ rfl, by rw [← add_field _ _ 4 (by omega)]; exact hc 4 _ rfl⟩
end Go.Proofs.YtcbiilbmldinhaaDoor.PB
end

section
namespace Go.Proofs.YtcbiilbmldinhaaDoor.PB
open Go.RowKit Go.Proofs.YtcbiilbmldinhaaDoorW.PrintWords Go.Proofs.YtcbiilbmldinhaaDoorW.PrintLast Go.Proofs.YtcbiilbmldinhaaDoorW.PrintMore
attribute [local go_sem] max2_int min2_int max_two min_two max_three min_three max_four min_four   
set_option linter.unusedVariables false
set_option linter.unusedSimpArgs false
def audit_word.f (a0 : Int) : Option (ByteArray) := if a0 = 1 then (some (⟨#[103, 114, 97, 110, 116]⟩ : ByteArray)) else (if a0 = 2 then (some (⟨#[114, 101, 118, 111, 107, 101]⟩ : ByteArray)) else (if a0 = 3 then (some (⟨#[114, 101, 108, 101, 97, 115, 101]⟩ : ByteArray)) else (if a0 = 4 then (some (⟨#[100, 101, 110, 121]⟩ : ByteArray)) else (some (⟨#[]⟩ : ByteArray)))))
set_option maxHeartbeats 8000000 in
set_option maxRecDepth 100000 in
theorem audit_word.calls (a0 : Int) (r : ByteArray) (w : World) (h : audit_word.f a0 = some r) :
  Calls Tryd.prog 39 #[.int .i64 a0] w fun e w' => e = .returned (.string r) ∧ Drawn0 w w' := by
 have H : (if a0 = 1 then (some (⟨#[103, 114, 97, 110, 116]⟩ : ByteArray)) else (if a0 = 2 then (some (⟨#[114, 101, 118, 111, 107, 101]⟩ : ByteArray)) else (if a0 = 3 then (some (⟨#[114, 101, 108, 101, 97, 115, 101]⟩ : ByteArray)) else (if a0 = 4 then (some (⟨#[100, 101, 110, 121]⟩ : ByteArray)) else (some (⟨#[]⟩ : ByteArray)))))) = some r := h
 clear h
 by_cases c2 : a0 = 1
 ·rw [if_pos c2] at H
  have c2b0 : (a0 == 1) = true := beq_iff_eq.mpr c2
  have c2b1 : (a0 != 1) = false := bne_eq_false_iff_eq.mpr c2
  clear c2
  obtain rfl := Option.some.inj H
  go_enter Tryd.func39, Tryd.ntmps39
  go_wp2
  go_ret
  exact ⟨by first | rfl | (simp; done) | (simp [*]; done), by repeat (first | exact Drawn0.refl _ | apply Drawn0.step)⟩
 ·rw [if_neg c2] at H
  have c2b0 : (a0 == 1) = false := beq_eq_false_iff_ne.mpr c2
  have c2b1 : (a0 != 1) = true := bne_iff_ne.mpr c2
  by_cases c3 : a0 = 2
  ·rw [if_pos c3] at H
   have c3b0 : (a0 == 2) = true := beq_iff_eq.mpr c3
   have c3b1 : (a0 != 2) = false := bne_eq_false_iff_eq.mpr c3
   clear c3
   obtain rfl := Option.some.inj H
   go_enter Tryd.func39, Tryd.ntmps39
   go_wp2
   go_ret
   exact ⟨by first | rfl | (simp; done) | (simp [*]; done), by repeat (first | exact Drawn0.refl _ | apply Drawn0.step)⟩
  ·rw [if_neg c3] at H
   have c3b0 : (a0 == 2) = false := beq_eq_false_iff_ne.mpr c3
   have c3b1 : (a0 != 2) = true := bne_iff_ne.mpr c3
   by_cases c4 : a0 = 3
   ·rw [if_pos c4] at H
    have c4b0 : (a0 == 3) = true := beq_iff_eq.mpr c4
    have c4b1 : (a0 != 3) = false := bne_eq_false_iff_eq.mpr c4
    clear c4
    obtain rfl := Option.some.inj H
    go_enter Tryd.func39, Tryd.ntmps39
    go_wp2
    go_ret
    exact ⟨by first | rfl | (simp; done) | (simp [*]; done), by repeat (first | exact Drawn0.refl _ | apply Drawn0.step)⟩
   ·rw [if_neg c4] at H
    have c4b0 : (a0 == 3) = false := beq_eq_false_iff_ne.mpr c4
    have c4b1 : (a0 != 3) = true := bne_iff_ne.mpr c4
    by_cases c5 : a0 = 4
    ·rw [if_pos c5] at H
     have c5b0 : (a0 == 4) = true := beq_iff_eq.mpr c5
     have c5b1 : (a0 != 4) = false := bne_eq_false_iff_eq.mpr c5
     clear c5
     obtain rfl := Option.some.inj H
     go_enter Tryd.func39, Tryd.ntmps39
     go_wp2
     go_ret
     exact ⟨by first | rfl | (simp; done) | (simp [*]; done), by repeat (first | exact Drawn0.refl _ | apply Drawn0.step)⟩
    ·rw [if_neg c5] at H
     have c5b0 : (a0 == 4) = false := beq_eq_false_iff_ne.mpr c5
     have c5b1 : (a0 != 4) = true := bne_iff_ne.mpr c5
     obtain rfl := Option.some.inj H
     go_enter Tryd.func39, Tryd.ntmps39
     go_wp2
     go_ret
     exact ⟨by first | rfl | (simp; done) | (simp [*]; done), by repeat (first | exact Drawn0.refl _ | apply Drawn0.step)⟩
end Go.Proofs.YtcbiilbmldinhaaDoor.PB
end

section
namespace Go.Proofs.YtcbiilbmldinhaaDoor.PB
open Go.RowKit Go.Proofs.YtcbiilbmldinhaaDoorW.PrintWords Go.Proofs.YtcbiilbmldinhaaDoorW.PrintLast Go.Proofs.YtcbiilbmldinhaaDoorW.PrintMore
attribute [local go_sem] max2_int min2_int max_two min_two max_three min_three max_four min_four   
set_option linter.unusedVariables false
set_option linter.unusedSimpArgs false
def audit_Record_may.l0 : Nat → List Int → Int → Int → Int → Int → Int → Int → Int → Option (Bool)
 | 0, _, _, _, _, _, _, _, _ => none
 | k + 1, x11, x12, x13, x102000, x102001, x102002, x102003, x102004 => if x13 < x12 then (if 0 ≤ x13 then (if x13 < (x11.length : Int) then (if (rd x11 x13) < 0 then (some false) else (if (rd x11 x13) > 65535 then (some false) else (audit_Record_may.l0 k x11 x12 (wrap64 (x13 + 1)) x102000 x102001 x102002 x102003 x102004))) else (none)) else (none)) else ((audit_word.f x102001).bind fun t106 => (some (t106.toList != ([] : List UInt8))))
def audit_Record_may.f (k : Nat) (a0_0 : Int) (a0_1 : Int) (a0_2 : Int) (a0_3 : Int) (a0_4 : Int) : Option (Bool) := (some (([a0_2, a0_3, a0_4] : List Int) : List Int)).bind fun y102 => (audit_Record_may.l0 k y102 (y102.length : Int) 0 a0_0 a0_1 a0_2 a0_3 a0_4)
set_option maxHeartbeats 8000000 in
set_option maxRecDepth 100000 in
theorem audit_Record_may.calls (k : Nat) (a0_0 : Int) (a0_1 : Int) (a0_2 : Int) (a0_3 : Int) (a0_4 : Int) (r : Bool) (w : World) (h : audit_Record_may.f k a0_0 a0_1 a0_2 a0_3 a0_4 = some r) :
  Calls Tryd.prog 33 #[.agg #[.int .u64 a0_0, .int .i64 a0_1, .int .i64 a0_2, .int .i64 a0_3, .int .i64 a0_4]] w fun e w' => e = .returned (.bool r) ∧ Below w.heap.size w w' := by
 have hu36 := Tryd.underlying36
 have HB := aM (Below.refl w.heap.size w)
 have H : ((some (([a0_2, a0_3, a0_4] : List Int) : List Int)).bind fun y102 => (audit_Record_may.l0 k y102 (y102.length : Int) 0 a0_0 a0_1 a0_2 a0_3 a0_4)) = some r := h
 clear h
 obtain ⟨y102, hy102⟩ : ∃ y_ : List Int, y_ = (([a0_2, a0_3, a0_4] : List Int)) := ⟨_, rfl⟩
 replace H : (audit_Record_may.l0 k y102 (y102.length : Int) 0 a0_0 a0_1 a0_2 a0_3 a0_4) = some r := by first | (rw [hy102]; with_reducible exact H) | (have H2_ := (Option.bind_some _ _).symm.trans H; rw [hy102]; with_reducible exact H2_) | (have H2_ := (Option.bind_some _ _).symm.trans H; with_reducible exact H2_) | with_reducible exact H | (rw [hy102]; exact H) | exact H
 have Ny102 := aM hy102
 clear hy102
 have H' := aM H
 clear H
 go_enter Tryd.func33, Tryd.ntmps33
 go_wp2_with (first | ((with_reducible refine gate_dst (N := 1) rfl ?_); refine box_event ?hg (N := 1) ?hd (cs := #[.int .u64 a0_0, .int .i64 a0_1, .int .i64 a0_2, .int .i64 a0_3, .int .i64 a0_4]) (t := 36) ?hr ?_; (case hd | hg => rfl); (case hr => first | (go_simp; done) | (go_simp; rfl)); intro gb101 hg w2 hbox hb; have n0_ := aM (bP (ey HB.out) hb); have n1_ := aM (hbox); have n2_ := aM ((by rw [hg]; exact (bZ (ey HB.out)) : w.heap.size ≤ gb101)); have n3_ := n2_; clear HB; have HB := n0_; have BK101 := n1_; have GW101 := n2_; have GE101 := n3_; clear n0_ n1_ n2_ n3_; clear hb hbox hg; have hcz3_0 := zC BK101.out 0 (.int .u64 a0_0); have hcz3_1 := zC BK101.out 1 (.int .i64 a0_1); have hcz3_2 := zC BK101.out 2 (.int .i64 a0_2); have hcz3_3 := zC BK101.out 3 (.int .i64 a0_3); have hcz3_4 := zC BK101.out 4 (.int .i64 a0_4); have hfz3_0 := bF BK101.out 0; have hfz3_1 := bF BK101.out 1; have hfz3_2 := bF BK101.out 2; have hfz3_3 := bF BK101.out 3; have hfz3_4 := bF BK101.out 4) | ((with_reducible refine gate_dst (N := 11) rfl ?_); refine Kd.R_lit (Kd.int .i64) _ 3 ?hg (N := 11) ?hd (xs := ([a0_2, a0_3, a0_4] : List Int)) (inner := [.int .i64 a0_2, .int .i64 a0_3, .int .i64 a0_4]) (ok := fun _ => True) (okp := fun _ => True) ?hr ?hp (fun _ hk => hk) trivial (Below.refl _ _) (Nat.le_refl _) (by simp) ?_; (case hd | hg => rfl); (case hr => first | (go_simp; done) | (go_simp; rfl)); (case hp => exact (Reps.one (show Kd.M (Kd.int .i64) _ _ _ a0_2 [.int .i64 a0_2] from rfl) (Reps.one (show Kd.M (Kd.int .i64) _ _ _ a0_3 [.int .i64 a0_3] from rfl) (Reps.one (show Kd.M (Kd.int .i64) _ _ _ a0_4 [.int .i64 a0_4] from rfl) (Reps.none _ _))))); intro v103 w4 ho5 hb hg_ hnew_; clear hg_ hnew_; (first | rw [← Ny102.out] at ho5 | (simp only [Int.reduceToNat] at ho5; rw [← Ny102.out] at ho5)); have n0_ := aM (rL ho5 (bZ (by repeat (first | (with_reducible first | exact HB.out | apply ea | apply en | apply ed | refine es ?_ GE101.out) | exact HB.out)))); have n1_ := aM (bB (g := gb101) (qy BK101.out) hb); have n2_ := aM (bP (by repeat (first | (with_reducible first | exact HB.out | apply ea | apply en | apply ed | refine es ?_ GE101.out) | exact HB.out)) hb); clear BK101 HB; have HO104 := n0_; have BK101 := n1_; have HB := n2_; clear n0_ n1_ n2_; clear hb ho5; obtain ⟨Ao6, co6, eo6⟩ := Kd.R_slice HO104.out; subst eo6))
 go_loopg [13] k (fun kq v13 w' => ∃ (x13_1 : Int), v13 = .int .i64 x13_1 ∧ Aside0 (audit_Record_may.l0 kq y102 (y102.length : Int) x13_1 a0_0 a0_1 a0_2 a0_3 a0_4 = some r) ∧ Aside0 (kq ≤ k) ∧ Aside0 (Kd.R (Kd.int .i64) 3 w' w.heap.size (fun _ => True) (.slice Ao6 y102.length co6) y102) ∧ Aside0 (w'.heap[gb101]? = some (.cells #[.int .u64 a0_0, .int .i64 a0_1, .int .i64 a0_2, .int .i64 a0_3, .int .i64 a0_4] 36 (0, 0))) ∧ Aside0 (Below w.heap.size w w'))
 case atStart => exact ⟨(0), (by first | rfl | (simp; done) | (simp [*]; done)), H', ⟨Nat.le_refl _⟩, ⟨by exact ry HO104.out⟩, ⟨by exact qy BK101.out⟩, ⟨by repeat (first | (with_reducible first | exact HB.out | apply ea | apply en | apply ed | refine es ?_ GE101.out) | exact HB.out)⟩⟩
 case round =>
  clear H'
  try clear p2
  try clear c3
  try clear hcz3_0
  try clear hcz3_1
  try clear hcz3_2
  try clear hcz3_3
  try clear hcz3_4
  try clear hfz3_0
  try clear hfz3_1
  try clear hfz3_2
  try clear hfz3_3
  try clear hfz3_4
  obtain ⟨x13_1, rfl, HA, HK1, HO_11, BK101, HB⟩ := hrel
  cases gk with
  | zero => exact absurd HA.out (by simp [audit_Record_may.l0])
  | succ k1 =>
   have H := HA.out
   clear HA
   simp only [audit_Record_may.l0] at H
   by_cases c7 : x13_1 < (y102.length : Int)
   ·rw [if_pos c7] at H
    have c7b0 : decide (x13_1 < (y102.length : Int)) = true := decide_eq_true c7
    clear c7
    by_cases c8 : 0 ≤ x13_1
    ·rw [if_pos c8] at H
     have c8b0 : decide (0 ≤ x13_1) = true := decide_eq_true c8
     clear c8
     by_cases c9 : x13_1 < (y102.length : Int)
     ·rw [if_pos c9] at H
      have c9b0 : decide (x13_1 < (y102.length : Int)) = true := decide_eq_true c9
      clear c9
      by_cases c10 : (rd y102 x13_1) < 0
      ·rw [if_pos c10] at H
       have c10b0 : decide ((rd y102 x13_1) < 0) = true := decide_eq_true c10
       clear c10
       obtain rfl := Option.some.inj H
       have p105 : 0 ≤ (x13_1 : Int) := of_decide_eq_true (by first | (with_reducible assumption) | assumption)
       have q105 : x13_1 < (y102.length : Int) := of_decide_eq_true (by first | (with_reducible assumption) | assumption)
       obtain ⟨ad105, e105, hx105_0⟩ := Kd.at_int (rR HO_11.out).2.2 x13_1 p105 q105
       cases e105
       replace p105 := eq_true p105
       replace q105 := eq_true q105
       go_wp2
       go_ret
       exact ⟨by first | rfl | (simp [errW_none, errW_some] <;> rfl) | (simp [*, errW_none, errW_some] <;> rfl), by repeat (first | (with_reducible first | exact HB.out | apply ea | apply en | apply ed | refine es ?_ GE101.out) | exact HB.out)⟩
      ·rw [if_neg c10] at H
       have c10b0 : decide ((rd y102 x13_1) < 0) = false := decide_eq_false c10
       clear c10
       by_cases c11 : (rd y102 x13_1) > 65535
       ·rw [if_pos c11] at H
        have c11b0 : decide (65535 < (rd y102 x13_1)) = true := decide_eq_true c11
        clear c11
        obtain rfl := Option.some.inj H
        have p105 : 0 ≤ (x13_1 : Int) := of_decide_eq_true (by first | (with_reducible assumption) | assumption)
        have q105 : x13_1 < (y102.length : Int) := of_decide_eq_true (by first | (with_reducible assumption) | assumption)
        obtain ⟨ad105, e105, hx105_0⟩ := Kd.at_int (rR HO_11.out).2.2 x13_1 p105 q105
        cases e105
        replace p105 := eq_true p105
        replace q105 := eq_true q105
        go_wp2
        go_ret
        exact ⟨by first | rfl | (simp [errW_none, errW_some] <;> rfl) | (simp [*, errW_none, errW_some] <;> rfl), by repeat (first | (with_reducible first | exact HB.out | apply ea | apply en | apply ed | refine es ?_ GE101.out) | exact HB.out)⟩
       ·rw [if_neg c11] at H
        have c11b0 : decide (65535 < (rd y102 x13_1)) = false := decide_eq_false c11
        clear c11
        have H' := aM H
        clear H
        have p105 : 0 ≤ (x13_1 : Int) := of_decide_eq_true (by first | (with_reducible assumption) | assumption)
        have q105 : x13_1 < (y102.length : Int) := of_decide_eq_true (by first | (with_reducible assumption) | assumption)
        obtain ⟨ad105, e105, hx105_0⟩ := Kd.at_int (rR HO_11.out).2.2 x13_1 p105 q105
        cases e105
        replace p105 := eq_true p105
        replace q105 := eq_true q105
        go_wp2
        go_roundg k1
        case measure => have := HK1.out; omega
        case rel => exact ⟨(wrap64 (x13_1 + 1)), (by first | rfl | (simp; done) | (simp [*]; done)), H', ⟨by have := HK1.out; omega⟩, ⟨by exact ry HO_11.out⟩, ⟨by exact qy BK101.out⟩, ⟨by repeat (first | (with_reducible first | exact HB.out | apply ea | apply en | apply ed | refine es ?_ GE101.out) | exact HB.out)⟩⟩
     ·rw [if_neg c9] at H
      exact absurd H (by simp)
    ·rw [if_neg c8] at H
     exact absurd H (by simp)
   ·rw [if_neg c7] at H
    have c7b0 : decide (x13_1 < (y102.length : Int)) = false := decide_eq_false c7
    clear c7
    replace H := Option.bind_eq_some_iff.mp H
    obtain ⟨t106, A120, H⟩ := H
    replace H : (some (t106.toList != ([] : List UInt8))) = some r := H
    have A12 := aM A120
    clear A120
    obtain rfl := Option.some.inj H
    have hcz13_0 := zC BK101.out 0 (.int .u64 a0_0)
    have hcz13_1 := zC BK101.out 1 (.int .i64 a0_1)
    have hcz13_2 := zC BK101.out 2 (.int .i64 a0_2)
    have hcz13_3 := zC BK101.out 3 (.int .i64 a0_3)
    have hcz13_4 := zC BK101.out 4 (.int .i64 a0_4)
    have hfz13_0 := bF BK101.out 0
    have hfz13_1 := bF BK101.out 1
    have hfz13_2 := bF BK101.out 2
    have hfz13_3 := bF BK101.out 3
    have hfz13_4 := bF BK101.out 4
    go_wp2_with (first | ((with_reducible refine gate_callee (f := 39) rfl ?_); refine goesL_ (some 26) rfl rfl Tryd.func39 (by kernel_rfl) rfl #[.int .i64 a0_1] rfl (by (try simp only [mT, mC, mN]); first | done | rfl | (simp only [lD, lT]; rfl)) ?_; (with_reducible refine (audit_word.calls a0_1 t106 _ A12.out).mono ?_); rintro e w' ⟨rfl, ⟨nd, rfl⟩⟩; refine ⟨_, rfl, ?_⟩))
    go_ret
    exact ⟨by first | rfl | (simp [errW_none, errW_some]; cases t106.toList <;> rfl) | (simp [errW_none, errW_some] <;> rfl) | (simp [*, errW_none, errW_some] <;> rfl), by repeat (first | (with_reducible first | exact HB.out | apply ea | apply en | apply ed | refine es ?_ GE101.out) | exact HB.out)⟩
end Go.Proofs.YtcbiilbmldinhaaDoor.PB
end

section
namespace Go.Proofs.YtcbiilbmldinhaaDoor.PB
open Go.RowKit Go.Maps Go.Proofs.YtcbiilbmldinhaaDoorW.PrintWords Go.Proofs.YtcbiilbmldinhaaDoorW.PrintLast Go.Proofs.YtcbiilbmldinhaaDoorW.PrintMore
set_option maxRecDepth 100000
set_option linter.unusedVariables false
set_option linter.unusedSimpArgs false
abbrev iL (a : Int) : DataW Unit := .lit (.int .i64 a)
abbrev kL (L : Int) : Lit := .int .u64 L
theorem lawK : Keyed Tryd.prog 34 := int_keyed Tryd.underlying34
theorem zeroE (w : World) : (zeroValue 3).run Tryd.prog w = .ok (.int .i64 0) w := by kernel_rfl
theorem mapne (b : Nat) (w : World) : (binOp BinOp.neq 53 (.map (some b)) (.map none)).run Tryd.prog w = .ok (.bool true) w := by kernel_rfl
structure LogAt (B g bm : Nat) (v : Value) (w : World) (D : DataW Unit) (xs : List S36) : Prop where
  hg : w.heap[g]? = some (.cells #[.map (some bm), v] 55 (0, 0))
  hm : w.ownsMap Tryd.prog 34 (plainElem Tryd.prog 3) bm 8 D
  hR : Kd.R k36 36 w B (fun _ => True) v xs
  hB : B ≤ g
  hb : B ≤ bm
theorem LogAt.below {B g bm : Nat} {v : Value} {w W : World} {D : DataW Unit} {xs : List S36} (h : LogAt B g bm v w D xs) (hb : Below w.heap.size w W) : LogAt B g bm v W D xs :=
  ⟨bB h.hg hb, h.hm.kept (grown_of_below hb none) (by simp), Kd.R_below h.hR hb, h.hB, h.hb⟩
theorem LogAt.ne {B g bm : Nat} {v : Value} {w : World} {D : DataW Unit} {xs : List S36} (h : LogAt B g bm v w D xs) {i : Nat} {cs : Array Value} {t : TypeId} {fr : Nat × Nat} (hi : w.heap[i]? = some (.cells cs t fr)) : i ≠ bm := by
  rintro rfl
  obtain ⟨es, clock, hb, _⟩ := h.hm
  rw [hi] at hb
  cases hb
section
variable {P : Program} {ops : Array Oper} {Q : Exit → Act → World → Prop} {md : Region.Mode} {S : World → Prop} {ds : List Nat} {oi : Oper} {v : Value} {fuel : Nat} {l : Array Bool} {a : Act} {w : World} {a' : Act}
theorem sv (i n : Nat) (l' : Array Bool) (h : wpAnyLast P md ops Q S ds fuel l' a' w) (hi : ops[i]? = some oi := by rfl) (hN : oi.dst = some n := by rfl) (hc : anyB md ops l l' i = true := by kernel_rfl) (hQ : ∀ (c : List PanicEntry) (a : Act) (w : World), Q (.panic c) (a.put oi.dst v) w → Q (.panic c) a w := by exact fun _ _ _ h => h) (hy : Yields P ops oi v a := by exact Or.inl ⟨by rfl, fun w' => by go_simp; with_reducible rfl⟩) (ha : a.put (some n) v = a' := by simp only [Act.put, List.setIfInBounds_toArray, List.set_cons_zero, List.set_cons_succ, i64_w, i32_w]; rfl) : wpAnyLast P md ops Q S ds (fuel + 1) l a w := pure_ l' hi hN hc hQ hy ha h
theorem st (i n : Nat) (l' : Array Bool) (hS : S w) (h : wpAnyLast P md ops Q S ds fuel l' a' w) (hi : ops[i]? = some oi := by rfl) (hN : oi.dst = some n := by rfl) (hc : takeB md ops ds l l' i = true := by kernel_rfl) (hQ : ∀ (c : List PanicEntry) (a : Act) (w : World), Q (.panic c) (a.put oi.dst v) w → Q (.panic c) a w := by exact fun _ _ _ h => h) (hy : YieldsIf P ops S oi v a := by exact Or.inl ⟨by rfl, fun w' hs => by (repeat obtain ⟨_, hs⟩ := hs); go_simp; with_reducible rfl⟩) (ha : a.put (some n) v = a' := by simp only [Act.put, List.setIfInBounds_toArray, List.set_cons_zero, List.set_cons_succ, i64_w, i32_w]; rfl) : wpAnyLast P md ops Q S ds (fuel + 1) l a w := take_ l' hi hN hc hQ hy hS ha h
end
abbrev tT := true
abbrev tF := false
theorem w1n {i n : Nat} (h : i < n) (hn : n ≤ 1000000000000000) : wrap64 ((i : Int) + 1) = ((i + 1 : Nat) : Int) := by unfold wrap64; omega
theorem wlen {n : Nat} (h : n ≤ 1000000000000000) : wrap64 (n : Int) = (n : Int) := by
  unfold wrap64
  omega
theorem ownsMap_tight {P : Program} {kt : TypeId} {R : Value → Option (DataW Unit × List MemPlace)} {w : World} {b n m : Nat} {D : DataW Unit} (K : Keyed P kt) (h : w.ownsMap P kt R b n D) (hm : Maps.size D ≤ m) : w.ownsMap P kt R b m D := by
  obtain ⟨es, clock, hb, F, _, rfl⟩ := h
  refine ⟨es, clock, hb, F, ?_, rfl⟩
  rwa [Maps.size_eq, length_read] at hm
theorem good_ok {g bm : Nat} {v : Value} {w : World} (hg : w.heap[g]? = some (.cells #[.map (some bm), v] 55 (0, 0))) :
    Calls Tryd.prog 32 #[.pointer (some ⟨g, 0, none⟩)] w fun e w' => e = .returned (.bool true) ∧ w' = w := by
  have c0 : w.cell? ⟨g, 0, none⟩ = some (.map (some bm)) := (bC hg 0).trans rfl
  have hne := mapne bm
  go_enter Tryd.func32, Tryd.ntmps32
  go_wp2
  go_ret
  exact ⟨rfl, rfl⟩
theorem room_ok {B g bm : Nat} {v : Value} {w : World} {D : DataW Unit} {xs : List S36} (h : LogAt B g bm v w D xs) (L : Int) (hL : (kL L).wf = true) :
    Calls Tryd.prog 21 #[.pointer (some ⟨g, 0, none⟩), .int .u64 L] w fun e w' => ∃ c, e = .returned (.int .i64 c) ∧ D.atKey (kL L) (iL 0) = iL c ∧ w' = w := by
  have c0 : w.cell? ⟨g, 0, none⟩ = some (.map (some bm)) := (bC h.hg 0).trans rfl
  have hkey := keyOf_int_mk Tryd.underlying34 hL
  go_enter Tryd.func21, Tryd.ntmps21
  go_wp2_with (first
    | ((with_reducible refine gate_callee (f := 32) rfl ?_); refine goesL_ (some 6) rfl rfl Tryd.func32 (by kernel_rfl) rfl #[.pointer (some ⟨g, 0, none⟩)] rfl (by (try simp only [List.map_toArray, List.map_cons, List.map_nil]); first | done | rfl) ?_; (with_reducible refine (good_ok h.hg).mono ?_); rintro e w3 ⟨rfl, hw⟩; subst w3; refine ⟨_, rfl, ?_⟩)
    | (at_lookup; refine wpList_lookup_own_int _ rfl _ _ 53 rfl 34 3 .i64 lawK Tryd.underlying53 Tryd.underlying3 (zeroE _) bm 8 D rfl h.hm _ _ rfl hkey ?_; intro c hat hwc)
    )
  go_ret
  exact ⟨c, rfl, hat, rfl⟩
theorem add_ok (k : Nat) {B g bm : Nat} {v : Value} {w : World} {D : DataW Unit} {xs : List S36} (h : LogAt B g bm v w D xs) (hBw : B ≤ w.heap.size)
    (a0 a1 a2 a3 a4 : Int) (hL : (kL a0).wf = true) (hmay : audit_Record_may.f k a0 a1 a2 a3 a4 = some true) (hhas : Maps.has D (kL a0) = true) (c : Int) (hc : D.atKey (kL a0) (iL 0) = iL c) (hroom : ¬ c < 1) (hlen : (xs.length + 1) * 40 ≤ 140737488355328) :
    Calls Tryd.prog 13 #[.pointer (some ⟨g, 0, none⟩), .agg #[.int .u64 a0, .int .i64 a1, .int .i64 a2, .int .i64 a3, .int .i64 a4]] w fun e w' =>
      e = .returned (.tuple #[.int .i64 xs.length, .int .i64 0]) ∧ ∃ v', LogAt B g bm v' w' (D.put (kL a0) (iL (wrap64 (c - 1)))) (xs ++ [⟨a0, a1, a2, a3, a4⟩]) ∧ Below B w w' ∧ Kept w w' (fun k => k = g ∨ k = bm ∨ some k = v.ownBlock) ∧ ∀ k, v'.ownBlock = some k → v.ownBlock = some k ∨ w.heap.size ≤ k := by
  have hu36 := Tryd.underlying36
  have hkey := keyOf_int_mk Tryd.underlying34 hL
  have hcr : decide (c < 1) = false := decide_eq_false hroom
  have HL := aM hlen
  have HH := aM h
  clear hlen h
  go_enter Tryd.func13, Tryd.ntmps13
  go_wp2_with (first
    | ((with_reducible refine gate_dst (N := 3) rfl ?_); (try (refine gate_guard (by rfl) ?_; dsimp only)); refine box_event ?hg (N := 3) ?hd (cs := #[.int .u64 a0, .int .i64 a1, .int .i64 a2, .int .i64 a3, .int .i64 a4]) (t := 36) ?hr ?_; (case hd => rfl); (case hg => rfl); (case hr => first | (go_simp; done) | (go_simp; rfl)); intro gb hg w4 hbox hb; have HA := aM (HH.out.below hb); have BK := aM hbox; have HW := aM hb; have GE := aM (show w.heap.size ≤ gb by omega); clear hb hbox hg)
    | ((with_reducible refine gate_callee (f := 32) rfl ?_); refine goesL_ (some 9) rfl rfl Tryd.func32 (by kernel_rfl) rfl #[.pointer (some ⟨g, 0, none⟩)] rfl (by (try simp only [List.map_toArray, List.map_cons, List.map_nil]); first | done | rfl) ?_; (with_reducible refine (good_ok HA.out.hg).mono ?_); rintro e w3 ⟨rfl, hw⟩; subst w3; refine ⟨_, rfl, ?_⟩)
    )
  have c0 : w4.cell? ⟨g, 0, none⟩ = some (.map (some bm)) := (bC HA.out.hg 0).trans rfl
  have hx0 : w4.cell? ⟨gb, 0, none⟩ = some (.int .u64 a0) := (bC BK.out 0).trans rfl
  obtain ⟨v0, ps0, hv0, hrun⟩ : ∃ v0 ps0, plainElem Tryd.prog 3 v0 = some (D.atKey (kL a0) (iL 0), ps0) ∧ ∀ n, (Instr.lookup 53 (.map (some bm)) (.int .u64 a0) true).run Tryd.prog (w4.drewN n) = .ok (.tuple #[v0, .bool (Maps.has D (kL a0))]) (w4.drewN n) := by
    obtain ⟨v0, ps0, hr0, hv0⟩ := HA.out.hm.look_ok lawK Tryd.underlying53 (zeroE _) (plainElem_int Tryd.underlying3 (by decide)) hkey
    refine ⟨v0, ps0, hv0, fun n => ?_⟩
    obtain ⟨v1, ps1, hr1, hv1⟩ := World.ownsMap.look_ok (w := w4.drewN n) HA.out.hm lawK Tryd.underlying53 (zeroE _) (plainElem_int Tryd.underlying3 (by decide)) hkey
    obtain ⟨x0, rfl, e0, _⟩ := plainElem_int_inv Tryd.underlying3 hv0
    obtain ⟨x1, rfl, e1, _⟩ := plainElem_int_inv Tryd.underlying3 hv1
    rw [hr1]
    have h0 := congrArg Prod.fst e0
    have h1 := congrArg Prod.fst e1
    have h2 : (iL x0 : DataW Unit) = iL x1 := h0.symm.trans h1
    injection h2 with h2
    injection h2 with _ h2
    rw [h2]
  obtain ⟨x0, rfl, e0, _⟩ := plainElem_int_inv Tryd.underlying3 hv0
  obtain rfl : x0 = c := by rw [hc] at e0; simpa using (congrArg Prod.fst e0).symm
  rw [hhas] at hrun
  clear hv0 e0
  go_quiet (fail)
  have HA5 := aM (HA.out.below (pw_below_drewN (Below.refl _ _) nq : Below w4.heap.size w4 (w4.drewN nq)))
  have BK5 := aM (blk_drewN BK.out nq)
  have hsz5 : w.heap.size ≤ (w4.drewN nq).heap.size := Nat.le_of_lt (Nat.lt_of_le_of_lt GE.out (blk_lt BK5.out))
  have HW5 := aM (pw_below_drewN HW.out nq)
  generalize w4.drewN nq = w5 at *
  clear HA BK HW c0 hx0 hrun
  have HA := HA5
  have BK := BK5
  have HW := HW5
  clear HA5 BK5 HW5
  have hy0 : w5.cell? ⟨gb, 0, none⟩ = some (.int .u64 a0) := (bC BK.out 0).trans rfl
  have hy1 : w5.cell? ⟨gb, 1, none⟩ = some (.int .i64 a1) := (bC BK.out 1).trans rfl
  have hy2 : w5.cell? ⟨gb, 2, none⟩ = some (.int .i64 a2) := (bC BK.out 2).trans rfl
  have hy3 : w5.cell? ⟨gb, 3, none⟩ = some (.int .i64 a3) := (bC BK.out 3).trans rfl
  have hy4 : w5.cell? ⟨gb, 4, none⟩ = some (.int .i64 a4) := (bC BK.out 4).trans rfl
  go_wp2_with (first
    | ((with_reducible refine gate_callee (f := 33) rfl ?_); refine goesL_ (some 23) rfl rfl Tryd.func33 (by kernel_rfl) rfl #[.agg #[.int .u64 a0, .int .i64 a1, .int .i64 a2, .int .i64 a3, .int .i64 a4]] rfl (by (try simp only [List.map_toArray, List.map_cons, List.map_nil]); first | done | rfl) ?_; (with_reducible refine (audit_Record_may.calls k a0 a1 a2 a3 a4 true _ hmay).mono ?_); rintro e w6 ⟨rfl, hb⟩; refine ⟨_, rfl, ?_⟩; have HA6 := aM (HA.out.below hb); have BK6 := aM (bB BK.out hb); have HW6 := aM (bP HW.out hb); have hsz6 := Nat.le_trans hsz5 hb.size; clear hb)
    )
  clear hy0 hy1 hy2 hy3 hy4 HA BK HW hsz5
  have hz0 : w6.cell? ⟨g, 0, none⟩ = some (.map (some bm)) := (bC HA6.out.hg 0).trans rfl
  have hy0 : w6.cell? ⟨gb, 0, none⟩ = some (.int .u64 a0) := (bC BK6.out 0).trans rfl
  go_still_tail 8, (by kernel_rfl)
  have HA7 := aM (HA6.out.below ((Below.refl _ _).drew : Below w6.heap.size w6 w6.drew))
  have BK7 := aM (blk_drew BK6.out)
  have HW7 := aM (HW6.out.drew)
  have hsz7 : w.heap.size ≤ w6.drew.heap.size := hsz6
  clear HA6 BK6 HW6 hz0 hy0
  change wpList _ _ _ _ _ w6.drew
  generalize w6.drew = w7 at *
  simp only [i64_w]
  go_wp2_with (first
    | (at_mapUpdate; refine wpList_mapUpdate_in _ rfl _ _ _ 53 rfl 34 3 lawK Tryd.underlying53 _ bm 8 D rfl HA7.out.hm (by decide) _ _ _ rfl rfl hkey _ [] (plainElem_int Tryd.underlying3 (wrap64_wf _)) ?_; intro w8 hown8 hturn8)
    )
  have hvb := Kd.R_lt HH.out.hR
  have hgbm := HA7.out.ne HA7.out.hg
  have hbb := HA7.out.ne BK7.out
  have HG8 := aM (blk_grown HA7.out.hg hturn8.grown (by simpa using hgbm))
  have BK8 := aM (blk_grown BK7.out hturn8.grown (by simpa using hbb))
  have HR8 := aM (Kd.R_grown2 HA7.out.hR rfl hturn8.grown (fun k hk e => by
    obtain ⟨cells, hc⟩ := Kd.R_typed HA7.out.hR k e.symm
    cases hk
    exact HA7.out.ne hc rfl))
  have hsz8 : w.heap.size ≤ w8.heap.size := Nat.le_trans hsz7 hturn8.grown.size
  refine start_ (n := 11) (S := fun w' => w'.cell? ⟨g, 1, none⟩ = some v ∧ w'.cell? ⟨gb, 0, none⟩ = some (.int .u64 a0) ∧ w'.cell? ⟨gb, 1, none⟩ = some (.int .i64 a1) ∧ w'.cell? ⟨gb, 2, none⟩ = some (.int .i64 a2) ∧ w'.cell? ⟨gb, 3, none⟩ = some (.int .i64 a3) ∧ w'.cell? ⟨gb, 4, none⟩ = some (.int .i64 a4)) (ds := [10]) #[tF,tF,tF,tF,tF,tF,tF,tF,tF,tF,tF] (by kernel_rfl) rfl rfl ⟨(bC HG8.out 1).trans rfl, (bC BK8.out 0).trans rfl, (bC BK8.out 1).trans rfl, (bC BK8.out 2).trans rfl, (bC BK8.out 3).trans rfl, (bC BK8.out 4).trans rfl⟩ (fun hHeld => ?_)
  refine sv 0 39 #[tT,tF,tF,tF,tF,tF,tF,tF,tF,tF,tF] ?_
  refine sv 1 40 #[tT,tT,tF,tF,tF,tF,tF,tF,tF,tF,tF] ?_
  refine sv 2 41 #[tT,tT,tT,tF,tF,tF,tF,tF,tF,tF,tF] ?_
  refine sv 3 42 #[tT,tT,tT,tT,tF,tF,tF,tF,tF,tF,tF] ?_
  refine st 5 44 #[tT,tT,tT,tT,tF,tT,tF,tF,tF,tF,tF] hHeld ?_
  refine st 4 43 #[tT,tT,tT,tT,tT,tT,tF,tF,tF,tF,tF] hHeld ?_
  have HB9 := aM (((HW7.out.mono hBw).grown hturn8.grown (Nat.le_trans hBw hsz7) (fun k hk => by cases hk; exact HH.out.hb)).drew)
  have HK9 := aM ((Kept.of_grown hturn8.grown (Kept.of_below HW7.out (fun k => k = g ∨ k = bm ∨ some k = v.ownBlock)) (fun k hk => .inl (.inr (.inl (by cases hk; rfl))))).drew)
  have HG9 := aM (blk_drew HG8.out)
  have BK9 := aM (blk_drew BK8.out)
  have HR9 := aM (Kd.R_drew HR8.out)
  have hsz9 : w.heap.size ≤ w8.drew.heap.size := hsz8
  have hm9 : w8.drew.ownsMap Tryd.prog 34 (plainElem Tryd.prog 3) bm (8 + 1) (D.put (kL a0) (iL (wrap64 (x0 - 1)))) := hown8
  generalize w8.drew = w9 at HG9 BK9 HR9 hsz9 hHeld hm9 HB9 HK9 ⊢
  have HM9 := aM hm9
  clear HG8 BK8 HR8 hsz8 hm9 hown8 hturn8 HA7 BK7 HW7 hsz7
  have HB0 := aM hBw
  refine one_ (i := 6) (N := some 45) #[tT,tT,tT,tT,tT,tT,tT,tF,tF,tF,tF] rfl rfl (by kernel_rfl) (by decide) (fun K hK => ?_)
  refine value_ (v := .slice (some ⟨w9.heap.size, 0, none⟩) 1 1) (w1 := w9.alloc (.cells #[.int .u64 a0, .int .i64 a1, .int .i64 a2, .int .i64 a3, .int .i64 a4] 36)) (by rfl) rfl ?_ ?_
  · go_simp
  have HG' := aM (blk_alloc HG9.out (.cells #[.int .u64 a0, .int .i64 a1, .int .i64 a2, .int .i64 a3, .int .i64 a4] 36))
  have BK' := aM (blk_alloc BK9.out (.cells #[.int .u64 a0, .int .i64 a1, .int .i64 a2, .int .i64 a3, .int .i64 a4] 36))
  refine hK.out _ _ ⟨(bC HG'.out 1).trans rfl, (bC BK'.out 0).trans rfl, (bC BK'.out 1).trans rfl, (bC BK'.out 2).trans rfl, (bC BK'.out 3).trans rfl, (bC BK'.out 4).trans rfl⟩ (fun hHeld => ?_)
  clear hK K HG' BK'
  refine norm_ (a' := ?_) ?_ ?_
  rotate_left
  · show Act.put _ (some 45) _ = _
    simp only [Act.put, List.setIfInBounds_toArray, List.set_cons_zero, List.set_cons_succ]
    rfl
  refine one_ (i := 7) (N := some 46) #[tT,tT,tT,tT,tT,tT,tT,tT,tF,tF,tF] rfl rfl (by kernel_rfl) (by decide) (fun K hK => ?_)
  refine Kd.R_append_step k36 (w0 := w) B (by rfl) (.tmp 43) (.tmp 45) 43 36 (.agg #[(.int .u64 0), (.int .i64 0), (.int .i64 0), (.int .i64 0), (.int .i64 0)]) 40 rfl Tryd.underlying43 info36 rfl (by decide) (by omega) v xs (⟨a0, a1, a2, a3, a4⟩ : S36) [.int .u64 a0, .int .i64 a1, .int .i64 a2, .int .i64 a3, .int .i64 a4] (fun _ => True) (fun _ => False) rfl rfl (k36_mkM _ _ _ _) (fun _ h => h.elim) (fun _ _ => trivial) HR9.out HB9.out (Nat.le_trans HB0.out hsz9) HL.out ?_
  intro v1 w10 ho hb hg1 hat
  obtain ⟨A1, c1, e1⟩ := Kd.R_slice ho
  rw [List.length_append, List.length_singleton] at e1
  subst e1
  have hgv := Kd.R_ne HR9.out HG9.out (by decide)
  have hgbv : some gb ≠ v.ownBlock := fun e => by have := hvb gb e.symm; have := GE.out; omega
  have hbmv : some bm ≠ v.ownBlock := fun e => by
    obtain ⟨cells, hc⟩ := Kd.R_typed HR9.out bm e.symm
    obtain ⟨es, clock, h2, _⟩ := HM9.out
    rw [h2] at hc
    cases hc
  have HG := aM (blk_grown HG9.out hg1 hgv)
  have BK := aM (blk_grown BK9.out hg1 hgbv)
  have HM := aM (HM9.out.kept hg1 hbmv)
  have HB := aM hb
  have HK := aM (Kept.of_grown hg1 HK9.out (fun k hk => .inl (.inr (.inr hk.symm))))
  have HO := aM ho
  have HQ := aM (show ∀ k, (Value.slice A1 (xs.length + 1) c1).ownBlock = some k → v.ownBlock = some k ∨ w.heap.size ≤ k from fun k hk => hat.elim (fun h => .inl (h ▸ hk)) (fun ⟨b, hb, hle⟩ => .inr (by rw [hb] at hk; cases hk; exact Nat.le_trans hsz9 hle)))
  clear ho hb hg1 hat HG9 BK9 HM9 HB9 HK9 HR9 hsz9
  refine hK.out _ _ ⟨(bC HG.out 1).trans rfl, (bC BK.out 0).trans rfl, (bC BK.out 1).trans rfl, (bC BK.out 2).trans rfl, (bC BK.out 3).trans rfl, (bC BK.out 4).trans rfl⟩ (fun hHeld => ?_)
  clear hK K
  refine norm_ (a' := ?_) ?_ ?_
  rotate_left
  · show Act.put _ (some 46) _ = _
    simp only [Act.put, List.setIfInBounds_toArray, List.set_cons_zero, List.set_cons_succ]
    rfl
  refine sv 8 47 #[tT,tT,tT,tT,tT,tT,tT,tT,tT,tF,tF] ?_
  refine sv 9 48 #[tT,tT,tT,tT,tT,tT,tT,tT,tT,tT,tF] ?_
  refine last_ (i := 10) (N := none) #[tT,tT,tT,tT,tT,tT,tT,tT,tT,tT,tT] rfl rfl (by kernel_rfl) (by decide) (fun K hK => ?_)
  have hs1 : w10.cell? ⟨g, 1, none⟩ = some v := (bC HG.out 1).trans rfl
  have hf1 := bF HG.out 1
  refine skip_ (w1 := ?_) (by rfl) rfl ?_ ?_
  rotate_left
  · go_simp
    rfl
  refine hK.out _ _ (done_ (by kernel_rfl) ?_)
  clear hK K
  have HG2 := aM (bU (cs' := #[.map (some bm), .slice A1 (xs.length + 1) c1]) HG.out 1 (.slice A1 (xs.length + 1) c1) rfl)
  have hq1 := (bC HG2.out 1).trans (rfl : _ = some (Value.slice A1 (xs.length + 1) c1))
  go_wp2
  go_ret2
  refine ⟨?_, _, ⟨HG2.out, ?_, Kd.R_set HO.out HG.out (by decide) _ _, HH.out.hB, HH.out.hb⟩, HB.out.setCell HH.out.hB _, HK.out.setCell (.inl (.inl rfl)) _, HQ.out⟩
  · rw [wlen (by have := HL.out; omega)]
    rfl
  · refine ownsMap_tight lawK (HM.out.setCell (hgbm.symm) _) ?_
    rw [Maps.size_put (HH.out.hm.tidy lawK), if_pos hhas]
    exact HH.out.hm.size_le
end Go.Proofs.YtcbiilbmldinhaaDoor.PB
end

section
namespace Go.Proofs.YtcbiilbmldinhaaDoor.PB
open Go.RowKit Go.Proofs.YtcbiilbmldinhaaDoorW.PrintWords Go.Proofs.YtcbiilbmldinhaaDoorW.PrintLast Go.Proofs.YtcbiilbmldinhaaDoorW.PrintMore
attribute [local go_sem] max2_int min2_int max_two min_two max_three min_three max_four min_four   
set_option linter.unusedVariables false
set_option linter.unusedSimpArgs false
def label_Below.f (a0 : Int) (a1 : Int) : Option (Bool) := some ((Go.bits .andNot .u64 a0 a1) == 0)
set_option maxHeartbeats 8000000 in
set_option maxRecDepth 100000 in
theorem label_Below.calls (a0 : Int) (a1 : Int) (r : Bool) (w : World) (h : label_Below.f a0 a1 = some r) :
  Calls Tryd.prog 35 #[.int .u64 a0, .int .u64 a1] w fun e w' => e = .returned (.bool r) ∧ Drawn0 w w' := by
 have H : (some ((Go.bits .andNot .u64 a0 a1) == 0)) = some r := h
 clear h
 obtain rfl := Option.some.inj H
 go_enter Tryd.func35, Tryd.ntmps35
 go_wp2
 go_ret
 exact ⟨by first | rfl | (simp; done) | (simp [*]; done), by repeat (first | exact Drawn0.refl _ | apply Drawn0.step)⟩
end Go.Proofs.YtcbiilbmldinhaaDoor.PB
end

section
namespace Go.Proofs.YtcbiilbmldinhaaDoor.PB
open Go.RowKit Go.Maps Go.Proofs.YtcbiilbmldinhaaDoorW.PrintWords Go.Proofs.YtcbiilbmldinhaaDoorW.PrintLast Go.Proofs.YtcbiilbmldinhaaDoorW.PrintMore
set_option maxRecDepth 100000
set_option linter.unusedVariables false
set_option linter.unusedSimpArgs false
def newD (l : List Int) (q : Int) : DataW Unit := l.foldl (fun D x => D.put (kL x) (iL q)) (.map [])
theorem newD_snoc (l : List Int) (q x : Int) : newD (l ++ [x]) q = (newD l q).put (kL x) (iL q) := by simp [newD, List.foldl_append]
theorem keyL (x : Int) : WideAt.IsKeyLit (kL x) := by trivial
theorem newD_tidy (q : Int) (l : List Int) : Maps.Tidy (newD l q) ∧ Maps.size (newD l q) ≤ l.length := by
  suffices h : ∀ (l r : List Int), Maps.Tidy (newD r q) ∧ Maps.size (newD r q) ≤ r.length → Maps.Tidy (newD (r ++ l) q) ∧ Maps.size (newD (r ++ l) q) ≤ (r ++ l).length from h l [] ⟨Maps.tidy_empty, by simp [newD, Maps.size]⟩
  intro l
  induction l with
  | nil => intro r h; simpa using h
  | cons x l ih =>
    intro r h
    have := ih (r ++ [x]) (by
      rw [newD_snoc]
      refine ⟨h.1.put (keyL x) _, ?_⟩
      rw [Maps.size_put h.1]
      simp only [List.length_append, List.length_singleton]
      split <;> omega)
    simpa using this
theorem new_ok {A0 : Option Addr} {c0 : Nat} {l0 : List Int} {q : Int} {w : World} (hr0 : Kd.C (Kd.int .u64) w A0 l0.length l0) (hc0 : l0.length ≤ c0) (hwf : ∀ x ∈ l0, (kL x).wf = true) (h1 : 1 ≤ l0.length) (h8 : l0.length ≤ 8) (hq1 : 1 ≤ q) (hq2 : q ≤ 1024) (b : Bool) (hsz : (Maps.size (newD l0 q) = l0.length) ↔ b = true) :
    Calls Tryd.prog 11 #[.slice A0 l0.length c0, .int .i64 q] w fun e w' => ∃ g bm, e = .returned (.pointer (if b then some ⟨g, 0, none⟩ else none)) ∧ LogAt w.heap.size g bm (.slice none 0 0) w' (newD l0 q) [] ∧ Below w.heap.size w w' := by
  have hu55 := Tryd.underlying55
  have d1 : decide ((l0.length : Int) < 1) = false := decide_eq_false (by omega)
  have d2 : decide ((l0.length : Int) > 8) = false := decide_eq_false (by omega)
  have d3 : decide (q < 1) = false := decide_eq_false (by omega)
  have d4 : decide (q > 1024) = false := decide_eq_false (by omega)
  have HR0 := aM hr0
  have HC0 := aM hc0
  have HWF := aM hwf
  clear hr0 hc0 hwf
  have hmm := @run_makeMap Tryd.prog
  go_enter Tryd.func11, Tryd.ntmps11
  go_wp2
  have hM0 : LogAt w.heap.size (w.heap.size + 1) w.heap.size (.slice none 0 0) ((w.alloc (.map #[] 0)).alloc (.cells #[.map (some w.heap.size), .slice none 0 0] 55)) (newD [] q) [] := by
    have h := blk_new (w.alloc (.map #[] 0)) (.cells #[.map (some w.heap.size), .slice none 0 0] 55)
    rw [show (w.alloc (.map #[] 0)).heap.size = w.heap.size + 1 by simp] at h
    exact ⟨h, ((World.ownsMap_made w Tryd.prog 34 (plainElem Tryd.prog 3)).alloc _).mono (by omega), Kd.R_nil _ _ _ _ _, by omega, by omega⟩
  have hB0 : Below w.heap.size w ((w.alloc (.map #[] 0)).alloc (.cells #[.map (some w.heap.size), .slice none 0 0] 55)) := ((Below.refl _ _).alloc (Nat.le_refl _) _).alloc (by simp) _
  generalize hW : (w.alloc (.map #[] 0)).alloc (.cells #[.map (some w.heap.size), .slice none 0 0] 55) = W at hM0 hB0 ⊢
  generalize hg : w.heap.size + 1 = g at hM0 ⊢
  have HM := aM hM0
  have HB := aM hB0
  have HS := aM hsz
  have H8 := aM h8
  clear hM0 hB0 hW hg hmm hsz h1 h8 d1 d2 d3 d4
  go_loopg [29] l0.length (fun kq v29 w' => ∃ i : Nat, v29 = .int .i64 (i : Int) ∧ Aside0 (kq + i = l0.length) ∧ Aside0 (LogAt w.heap.size g w.heap.size (.slice none 0 0) w' (newD (l0.take i) q) []) ∧ Aside0 (Below w.heap.size w w'))
  case atStart => exact ⟨0, rfl, ⟨by simp⟩, ⟨by simpa using HM.out⟩, HB⟩
  case round =>
    clear HM HB
    obtain ⟨i, rfl, HI, HM, HB⟩ := hrel
    have hi := HI.out
    by_cases c1 : i < l0.length
    · cases gk with
      | zero => exact absurd hi (by omega)
      | succ k1 =>
        have c1b : decide ((i : Int) < (l0.length : Int)) = true := decide_eq_true (by omega)
        obtain ⟨ad, e1, hx0⟩ := Kd.at_int HR0.out (i : Int) (by omega) (by omega)
        cases e1
        replace hx0 := (HB.out.cell (World.block_lt_of_cell? w _ hx0)).trans hx0
        have p1 : (0 ≤ (i : Int)) = True := eq_true (by omega)
        have q1 : ((i : Int) < (l0.length : Int)) = True := eq_true (by omega)
        rw [Int.toNat_natCast] at hx0
        have c0 : wr.cell? ⟨g, 0, none⟩ = some (.map (some w.heap.size)) := (bC HM.out.hg 0).trans rfl
        have hxi : rd l0 (i : Int) ∈ l0 := by
          unfold rd
          rw [Int.toNat_natCast, List.getD_eq_getElem?_getD, List.getElem?_eq_getElem c1, Option.getD_some]
          exact List.getElem_mem c1
        have hkey := keyOf_int_mk Tryd.underlying34 (HWF.out _ hxi)
        have hqw : (Lit.int .i64 q).wf = true := WalkArith.wf_i64 (by omega)
        go_wp2_with (first
          | (at_mapUpdate; refine wpList_mapUpdate_in _ rfl _ _ _ 53 rfl 34 3 lawK Tryd.underlying53 _ w.heap.size 8 (newD (l0.take i) q) rfl HM.out.hm (by decide) _ _ _ rfl rfl hkey _ [] (plainElem_int Tryd.underlying3 hqw) ?_; intro w8 hown8 hturn8)
          )
        go_roundg k1
        case measure => have := HI.out; omega
        case rel =>
          have hgbm := HM.out.ne HM.out.hg
          have ht : l0.take (i + 1) = l0.take i ++ [rd l0 (i : Int)] := by
            unfold rd
            rw [Int.toNat_natCast, List.getD_eq_getElem?_getD, List.getElem?_eq_getElem c1, Option.getD_some]
            exact (List.take_append_getElem c1).symm
          have hD : newD (l0.take (i + 1)) q = (newD (l0.take i) q).put (kL (rd l0 (i : Int))) (iL q) := by rw [ht, newD_snoc]
          refine ⟨i + 1, ?_, ⟨by have := HI.out; omega⟩, ⟨⟨blk_grown HM.out.hg hturn8.grown (by simpa using hgbm), ?_, Kd.R_nil _ _ _ _ _, HM.out.hB, HM.out.hb⟩⟩, ⟨HB.out.grown hturn8.grown HB.out.size (fun k hk => by cases hk; exact Nat.le_refl _)⟩⟩
          · rw [w1n c1 (by have := H8.out; omega)]
          · refine ownsMap_tight lawK (m := 8) (D := newD (l0.take (i + 1)) q) (by rw [hD]; exact hown8) ?_
            exact Nat.le_trans (newD_tidy q _).2 (by have := H8.out; simp; omega)
    · obtain rfl : i = l0.length := by omega
      have c1b : decide ((l0.length : Int) < (l0.length : Int)) = false := decide_eq_false (by omega)
      have c0 : wr.cell? ⟨g, 0, none⟩ = some (.map (some w.heap.size)) := (bC HM.out.hg 0).trans rfl
      have hMM := HM.out
      rw [List.take_length] at hMM
      have hS := HS.out
      cases b
      · have hq : ((Maps.size (newD l0 q) : Int) != (l0.length : Int)) = true := by
          rw [bne_iff_ne]
          intro e
          have := hS.1 (by omega)
          cases this
        go_wp2_with (first
          | (at_len; refine wpList_len_own _ rfl _ 53 rfl 34 3 Tryd.underlying53 _ w.heap.size 8 (newD l0 q) rfl hMM.hm ?_)
          )
        go_ret
        exact ⟨rfl, ⟨g, _, hMM⟩, HB.out⟩
      · have hq : ((Maps.size (newD l0 q) : Int) != (l0.length : Int)) = false := by
          rw [bne_eq_false_iff_eq]
          have := hS.2 rfl
          omega
        go_wp2_with (first
          | (at_len; refine wpList_len_own _ rfl _ 53 rfl 34 3 Tryd.underlying53 _ w.heap.size 8 (newD l0 q) rfl hMM.hm ?_)
          )
        go_ret
        exact ⟨g, rfl, ⟨_, hMM⟩, HB.out⟩
end Go.Proofs.YtcbiilbmldinhaaDoor.PB
end

section
namespace Go.Proofs.YtcbiilbmldinhaaDoor.PB
open Go.RowKit Go.Maps Go.Proofs.YtcbiilbmldinhaaDoorW.PrintWords Go.Proofs.YtcbiilbmldinhaaDoorW.PrintLast Go.Proofs.YtcbiilbmldinhaaDoorW.PrintMore
set_option maxRecDepth 100000
set_option linter.unusedVariables false
set_option linter.unusedSimpArgs false
theorem sleq (a : Addr) (n c : Nat) (w : World) : (binOp BinOp.eql 43 (.slice (some a) n c) (.slice none 0 0)).run Tryd.prog w = .ok (.bool false) w := by kernel_rfl
theorem slnil (w : World) : (binOp BinOp.eql 43 (.slice none 0 0) (.slice none 0 0)).run Tryd.prog w = .ok (.bool true) w := by kernel_rfl
theorem clone_nil (w : World) : Calls Tryd.prog 34 #[.slice none 0 0] w fun e w' => e = .returned (.slice none 0 0) ∧ w' = w := by
  have h := slnil
  go_enter Tryd.func34, Tryd.ntmps34
  go_wp2
  go_ret
  exact ⟨rfl, rfl⟩
theorem clone_some {a : Addr} {c : Nat} {xs : List S36} {w : World} (hC : Kd.C k36 w (some a) xs.length xs) (hc : xs.length ≤ c) (hl : xs.length * 40 ≤ 140737488355328) :
    Calls Tryd.prog 34 #[.slice (some a) xs.length c] w fun e w' => ∃ v', e = .returned v' ∧ Kd.R k36 36 w' w.heap.size (fun _ => True) v' xs ∧ Below w.heap.size w w' := by
  have h := sleq
  have HC := aM hC
  have HL := aM hl
  clear hC hl
  have HO : Kd.R k36 36 (w.alloc (.cells #[] 36)) w.heap.size (fun _ => True) (.slice (some ⟨w.heap.size, 0, none⟩) 0 0) [] :=
    ⟨fun _ _ => trivial, [], ⟨by simp, .inr ⟨w.heap.size, 0, #[], rfl, Nat.le_refl _, blk_new w _, Nat.le_refl _, by decide, by simp, by simp⟩⟩, Reps.none _ _⟩
  go_enter Tryd.func34, Tryd.ntmps34
  go_wp2_with (first
    | ((with_reducible refine gate_builtin (b := .append) (xs := #[.tmp 5, .tmp 6]) rfl ?_); at_builtin; refine Kd.R_append_rows k36 (w0 := w) w.heap.size rfl (.tmp 5) (.tmp 6) 43 36 (.agg #[(.int .u64 0), (.int .i64 0), (.int .i64 0), (.int .i64 0), (.int .i64 0)]) 40 rfl Tryd.underlying43 info36 rfl (by decide) (by omega) (.slice (some ⟨w.heap.size, 0, none⟩) 0 0) ([] : List S36) xs _ _ _ (fun _ => True) (fun _ => False) rfl rfl HO (Kd.C_alloc HC.out _) (fun _ _ h => h) (fun _ h => h.elim) (fun _ _ => trivial) ((Below.refl _ _).alloc (Nat.le_refl _) _) (by simp) (by have := HL.out; simpa using this) ?_; intro v1 w1 ho hb hg hat; rw [List.nil_append] at ho; have HR := aM ho; have HB := aM hb; clear ho hb hg hat)
    )
  go_ret
  exact ⟨v1, rfl, HR.out, HB.out⟩
theorem all_ok {B g bm : Nat} {v : Value} {w : World} {D : DataW Unit} {xs : List S36} (h : LogAt B g bm v w D xs) (hl : xs.length * 40 ≤ 140737488355328) :
    Calls Tryd.prog 18 #[.pointer (some ⟨g, 0, none⟩)] w fun e w' => ∃ v', e = .returned v' ∧ Kd.R k36 36 w' w.heap.size (fun _ => True) v' xs ∧ Below w.heap.size w w' := by
  have HH := aM h
  clear h
  have hv : v = .slice none 0 0 ∨ ∃ a c, v = .slice (some a) xs.length c := by
    obtain ⟨_, inner, ⟨_, h⟩, _⟩ := HH.out.hR
    rcases h with ⟨h, _⟩ | ⟨g, cap, cur, h, _⟩
    · exact .inl h
    · exact .inr ⟨_, _, h⟩
  rcases hv with rfl | ⟨a, c, rfl⟩
  · have hx : xs = [] := by
      have := (rR HH.out.hR).1
      exact List.length_eq_zero_iff.1 this.symm
    subst hx
    have c1 := (bC HH.out.hg 1).trans (rfl : _ = some (Value.slice none 0 0))
    go_enter Tryd.func18, Tryd.ntmps18
    go_wp2_with (first
      | ((with_reducible refine gate_callee (f := 32) rfl ?_); refine goesL_ (some 4) rfl rfl Tryd.func32 (by kernel_rfl) rfl #[.pointer (some ⟨g, 0, none⟩)] rfl (by (try simp only [List.map_toArray, List.map_cons, List.map_nil]); first | done | rfl) ?_; (with_reducible refine (good_ok HH.out.hg).mono ?_); rintro e w3 ⟨rfl, hw⟩; subst w3; refine ⟨_, rfl, ?_⟩)
      | ((with_reducible refine gate_callee (f := 34) rfl ?_); refine goesL_ (some 10) rfl rfl Tryd.func34 (by kernel_rfl) rfl #[.slice none 0 0] rfl (by (try simp only [List.map_toArray, List.map_cons, List.map_nil]); first | done | rfl) ?_; (with_reducible refine (clone_nil w).mono ?_); rintro e w3 ⟨rfl, hw⟩; subst w3; refine ⟨_, rfl, ?_⟩)
      )
    go_ret
    exact ⟨_, rfl, Kd.R_nil _ _ _ _ _, Below.refl _ _⟩
  · have c1 := (bC HH.out.hg 1).trans (rfl : _ = some (Value.slice (some a) xs.length c))
    obtain ⟨_, hc, hC⟩ := rR HH.out.hR
    have HC := aM hC
    have HL := aM hl
    clear hC hl
    go_enter Tryd.func18, Tryd.ntmps18
    go_wp2_with (first
      | ((with_reducible refine gate_callee (f := 32) rfl ?_); refine goesL_ (some 4) rfl rfl Tryd.func32 (by kernel_rfl) rfl #[.pointer (some ⟨g, 0, none⟩)] rfl (by (try simp only [List.map_toArray, List.map_cons, List.map_nil]); first | done | rfl) ?_; (with_reducible refine (good_ok HH.out.hg).mono ?_); rintro e w3 ⟨rfl, hw⟩; subst w3; refine ⟨_, rfl, ?_⟩)
      | ((with_reducible refine gate_callee (f := 34) rfl ?_); refine goesL_ (some 10) rfl rfl Tryd.func34 (by kernel_rfl) rfl #[.slice (some a) xs.length c] rfl (by (try simp only [List.map_toArray, List.map_cons, List.map_nil]); first | done | rfl) ?_; (with_reducible refine (clone_some HC.out hc HL.out).mono ?_); rintro e w3 ⟨v', rfl, ho, hb⟩; refine ⟨_, rfl, ?_⟩; have HO := aM ho; have HB := aM hb; clear ho hb)
      )
    go_ret
    exact ⟨v', rfl, HO.out, HB.out⟩
end Go.Proofs.YtcbiilbmldinhaaDoor.PB
end

section
namespace Go.Proofs.YtcbiilbmldinhaaDoor.PB
open Go.RowKit Go.Maps Go.Proofs.YtcbiilbmldinhaaDoorW.PrintWords Go.Proofs.YtcbiilbmldinhaaDoorW.PrintLast Go.Proofs.YtcbiilbmldinhaaDoorW.PrintMore
set_option maxRecDepth 100000
set_option linter.unusedVariables false
set_option linter.unusedSimpArgs false
def belowB (a b : Int) : Bool := (Go.bits .andNot .u64 a b) == 0
def seenL (xs : List S36) (L : Int) : List S36 := xs.filter (fun r => belowB r.f0 L)
set_option maxHeartbeats 8000000 in
theorem seen_ok {B g bm : Nat} {v : Value} {w : World} {D : DataW Unit} {xs : List S36} (h : LogAt B g bm v w D xs) (hl : xs.length * 40 ≤ 100000000) (L : Int) :
    Calls Tryd.prog 19 #[.pointer (some ⟨g, 0, none⟩), .int .u64 L] w fun e w' => ∃ v', e = .returned v' ∧ Kd.R k36 36 w' w.heap.size (fun _ => True) v' (seenL xs L) ∧ Below w.heap.size w w' := by
  have hu36 := Tryd.underlying36
  have HH := aM h
  have HL := aM hl
  clear h hl
  go_enter Tryd.func19, Tryd.ntmps19
  go_wp2_with (first
    | ((with_reducible refine gate_callee (f := 18) rfl ?_); refine goesL_ (some 9) rfl rfl Tryd.func18 (by kernel_rfl) rfl #[.pointer (some ⟨g, 0, none⟩)] rfl (by (try simp only [List.map_toArray, List.map_cons, List.map_nil]); first | done | rfl) ?_; (with_reducible refine (all_ok HH.out (by have := HL.out; omega)).mono ?_); rintro e w3 ⟨v', rfl, ho, hb⟩; refine ⟨_, rfl, ?_⟩; obtain ⟨A, c, rfl⟩ := Kd.R_slice ho; have HA := aM ho; have HB := aM hb; clear ho hb)
    )
  go_loopg [5, 11] xs.length (fun kq v5 v11 w' => ∃ i : Nat, v11 = .int .i64 (i : Int) ∧ Aside0 (kq + i = xs.length) ∧ Aside0 (Kd.R k36 36 w' w.heap.size (fun k => some k ≠ (Value.slice A xs.length c).ownBlock) v5 (seenL (xs.take i) L)) ∧ Aside0 (Kd.R k36 36 w' w.heap.size (fun _ => True) (.slice A xs.length c) xs) ∧ Aside0 (Below w.heap.size w w'))
  case atStart => exact ⟨0, rfl, ⟨by simp⟩, ⟨by simpa [seenL] using Kd.R_nil _ _ _ _ _⟩, HA, HB⟩
  case round =>
    clear HA HB
    obtain ⟨i, rfl, HI, HO, HA, HB⟩ := hrel
    have hi := HI.out
    by_cases c1 : i < xs.length
    · cases gk with
      | zero => exact absurd hi (by omega)
      | succ k1 =>
        have c1b : decide ((i : Int) < (xs.length : Int)) = true := decide_eq_true (by omega)
        obtain ⟨ad, e1, hx0, hx1, hx2, hx3, hx4⟩ := at_T36 (rR HA.out).2.2 (i : Int) (by omega) (by omega)
        cases e1
        have p1 : (0 ≤ (i : Int)) = True := eq_true (by omega)
        have q1 : ((i : Int) < (xs.length : Int)) = True := eq_true (by omega)
        rw [Int.toNat_natCast] at hx0 hx1 hx2 hx3 hx4
        go_wp2_with (first
          | ((with_reducible refine gate_dst (N := 7) rfl ?_); refine box_event ?hg (N := 7) ?hd (cs := #[.int .u64 0, .int .i64 0, .int .i64 0, .int .i64 0, .int .i64 0]) (t := 36) ?hr ?_; (case hd => rfl); (case hg => rfl); (case hr => first | (go_simp; done) | (go_simp; rfl)); intro gb hg w6 hbox hb; have BK := aM hbox; have HN := aM hb; have GE := aM (Nat.le_of_eq hg.symm); clear hb hbox hg; have hz0 := (bC BK.out 0).trans (rfl : _ = some (Value.int .u64 0)); have hz1 := (bC BK.out 1).trans (rfl : _ = some (Value.int .i64 0)); have hz2 := (bC BK.out 2).trans (rfl : _ = some (Value.int .i64 0)); have hz3 := (bC BK.out 3).trans (rfl : _ = some (Value.int .i64 0)); have hz4 := (bC BK.out 4).trans (rfl : _ = some (Value.int .i64 0)); have hf0 := bF BK.out 0; have hf1 := bF BK.out 1; have hf2 := bF BK.out 2; have hf3 := bF BK.out 3; have hf4 := bF BK.out 4)
          )
        generalize hW : World.setCell _ ⟨gb, 4, none⟩ _ = w8
        have HW : Below wr.heap.size wr w8 := by
          subst hW
          repeat (first | exact HN.out | refine es ?_ GE.out)
        have BW : w8.heap[gb]? = some (.cells #[.int .u64 (rd_T36 xs (i : Int)).f0, .int .i64 (rd_T36 xs (i : Int)).f1, .int .i64 (rd_T36 xs (i : Int)).f2, .int .i64 (rd_T36 xs (i : Int)).f3, .int .i64 (rd_T36 xs (i : Int)).f4] 36 (0, 0)) := by
          subst hW
          exact (blk_set (blk_set (blk_set (blk_set (blk_set BK.out 0 _) 1 _) 2 _) 3 _) 4 _).trans rfl
        clear hW BK HN hz0 hz1 hz2 hz3 hz4 hf0 hf1 hf2 hf3 hf4 hx0 hx1 hx2 hx3 hx4
        refine (label_Below.calls _ L (belowB (rd_T36 xs (i : Int)).f0 L) _ rfl).mono ?_
        rintro e w9 ⟨rfl, nd, rfl⟩
        have HW9 := aM (pw_below_drewN HW nd)
        have BW9 := aM (blk_drewN BW nd)
        have hle : w8.heap.size = (w8.drewN nd).heap.size := rfl
        generalize w8.drewN nd = w9 at HW9 BW9 ⊢
        clear HW BW hle
        have hHO := aM (Kd.R_below HO.out HW9.out)
        have hHA := aM (Kd.R_below HA.out HW9.out)
        have hHB := aM (bP HB.out HW9.out)
        have hgb : ∀ k, u5.ownBlock = some k → k < gb := fun k hk => Nat.lt_of_lt_of_le (Kd.R_lt HO.out k hk) GE.out
        clear HO HA HB HW9
        have ht : xs.take (i + 1) = xs.take i ++ [rd_T36 xs (i : Int)] := by
          unfold rd_T36
          rw [Int.toNat_natCast, List.getD_eq_getElem?_getD, List.getElem?_eq_getElem c1, Option.getD_some]
          exact (List.take_append_getElem c1).symm
        have hs : seenL (xs.take (i + 1)) L = seenL (xs.take i) L ++ if belowB (rd_T36 xs (i : Int)).f0 L then [rd_T36 xs (i : Int)] else [] := by
          unfold seenL
          rw [ht, List.filter_append, List.filter_cons, List.filter_nil]
        have hsl : (seenL (xs.take i) L).length ≤ xs.length := Nat.le_trans (List.length_filter_le _ _) (List.length_take_le' _ _)
        have HS := aM hs
        have HSL := aM hsl
        clear ht hs hsl
        generalize rd_T36 xs (i : Int) = r at BW9 HS ⊢
        have hc0 := (bC BW9.out 0).trans (rfl : _ = some (Value.int .u64 r.f0))
        have hc1 := (bC BW9.out 1).trans (rfl : _ = some (Value.int .i64 r.f1))
        have hc2 := (bC BW9.out 2).trans (rfl : _ = some (Value.int .i64 r.f2))
        have hc3 := (bC BW9.out 3).trans (rfl : _ = some (Value.int .i64 r.f3))
        have hc4 := (bC BW9.out 4).trans (rfl : _ = some (Value.int .i64 r.f4))
        cases hbl : belowB r.f0 L
        · go_wp2
          go_roundg k1
          case measure => have := HI.out; omega
          case rel => exact ⟨i + 1, by rw [w1n c1 (by have := HL.out; omega)], ⟨by have := HI.out; omega⟩, ⟨by have h := HS.out; rw [hbl] at h; rw [h]; simpa using hHO.out⟩, hHA, hHB⟩
        · go_wp2_with (first
            | ((with_reducible refine gate_builtin (b := .append) (xs := #[.tmp 19, .tmp 21]) rfl ?_); at_builtin; refine Kd.R_append k36 (w0 := w) w.heap.size rfl (.tmp 19) (.tmp 21) 43 36 (.agg #[(.int .u64 0), (.int .i64 0), (.int .i64 0), (.int .i64 0), (.int .i64 0)]) 40 rfl Tryd.underlying43 info36 rfl (by decide) (by omega) u5 (seenL (xs.take i) L) r [.int .u64 r.f0, .int .i64 r.f1, .int .i64 r.f2, .int .i64 r.f3, .int .i64 r.f4] (fun k => some k ≠ (Value.slice (some ad) xs.length c).ownBlock) (fun _ => False) rfl (by first | (go_simp; done) | (go_simp; rfl)) (k36_mkM _ _ _ r) (fun _ hk => hk.elim) (fun k hk e => by have := Kd.R_lt hHA.out k e.symm; omega) hHO.out hHB.out hHB.out.size (by have := HL.out; have := HSL.out; omega) ?_; intro v1 w10 ho hb hg hat; have HA1 := aM (Kd.R_grown2 hHA.out rfl hg (fun k hk => hHO.out.1 k hk)); have HO1 := aM ho; have HB1 := aM hb; clear ho hb hg hat)
            )
          go_roundg k1
          case measure => have := HI.out; omega
          case rel => exact ⟨i + 1, by rw [w1n c1 (by have := HL.out; omega)], ⟨by have := HI.out; omega⟩, ⟨by have h := HS.out; rw [hbl] at h; rw [h]; exact HO1.out⟩, HA1, HB1⟩
    · obtain rfl : i = xs.length := by have := HI.out; omega
      have c1b : decide ((xs.length : Int) < (xs.length : Int)) = false := decide_eq_false (by omega)
      have hO := HO.out
      rw [List.take_length] at hO
      go_wp2
      go_ret
      exact ⟨_, rfl, rM hO (fun _ _ => trivial), HB.out⟩
end Go.Proofs.YtcbiilbmldinhaaDoor.PB
end

section
namespace Go.Proofs.YtcbiilbmldinhaaDoor.PB
set_option linter.unusedVariables false
def marksTo (n k : Nat) : List Bool := (List.range 64).map (fun i => decide (i < k) && n.testBit i)
def marksN (n : Nat) : List Bool := (List.range 64).map (fun i => n.testBit i)
theorem marksTo_len (n k : Nat) : (marksTo n k).length = 64 := by simp [marksTo]
theorem marksN_len (n : Nat) : (marksN n).length = 64 := by simp [marksN]
theorem marksTo_zero (n : Nat) : marksTo n 0 = List.replicate 64 false := by simp [marksTo]; rfl
theorem marksTo_all (n : Nat) : marksTo n 64 = marksN n := by
  unfold marksTo marksN
  apply List.map_congr_left
  intro i hi
  simp [List.mem_range.1 hi]
theorem marksTo_set (n k : Nat) (hk : k < 64) : (marksTo n k).set k (n.testBit k) = marksTo n (k + 1) := by
  apply List.ext_getElem?
  intro i
  rw [List.getElem?_set]
  unfold marksTo
  simp only [List.getElem?_map, List.length_map, List.length_range]
  by_cases hi : i < 64
  · rw [List.getElem?_range hi]
    by_cases h : k = i
    · subst h; simp [hk]
    · have : decide (i < k) = decide (i < k + 1) := by rw [decide_eq_decide]; omega
      rw [if_neg h, Option.map_some, Option.map_some, this]
  · rw [List.getElem?_eq_none (by simpa using hi), if_neg (by omega)]; rfl
theorem marksN_getD (n i : Nat) (hi : i < 64) : (marksN n).getD i false = n.testBit i := by
  unfold marksN
  rw [List.getD_eq_getElem?_getD, List.getElem?_map, List.getElem?_range hi]
  rfl
end Go.Proofs.YtcbiilbmldinhaaDoor.PB
end

section
namespace Go.Proofs.YtcbiilbmldinhaaDoor.PB
def catsTo (n k : Nat) : List Int := ((List.range k).filter (fun i => n.testBit i)).map (fun i : Nat => (i : Int))
theorem catsTo_yes (n k : Nat) (h : n.testBit k = true) : catsTo n (k + 1) = catsTo n k ++ [(k : Int)] := by
  unfold catsTo; rw [List.range_succ, List.filter_append]; simp [h]
theorem catsTo_no (n k : Nat) (h : n.testBit k = false) : catsTo n (k + 1) = catsTo n k := by
  unfold catsTo; rw [List.range_succ, List.filter_append]; simp [h]
theorem catsTo_len (n k : Nat) : (catsTo n k).length ≤ k := by
  unfold catsTo; rw [List.length_map]; exact Nat.le_trans (List.length_filter_le _ _) (by simp)
end Go.Proofs.YtcbiilbmldinhaaDoor.PB
end

section
namespace Go.Proofs.YtcbiilbmldinhaaDoor.PB
open Go.RowKit Go.Proofs.YtcbiilbmldinhaaDoorW.PrintWords Go.Proofs.YtcbiilbmldinhaaDoorW.PrintLast Go.Proofs.YtcbiilbmldinhaaDoorW.PrintMore
attribute [local go_sem] max2_int min2_int max_two min_two max_three min_three max_four min_four   
set_option linter.unusedVariables false
set_option linter.unusedSimpArgs false
def bits_OnesCount64.f (a0 : Int) : Option (Int) := some (Go.bits .and .i64 (wrap64 (IntKind.u64.wrap ((IntKind.u64.wrap ((IntKind.u64.wrap ((Go.bits .and .u64 (IntKind.u64.wrap (((IntKind.u64.wrap ((Go.bits .and .u64 ((IntKind.u64.wrap ((Go.bits .and .u64 (a0 / 2) 6148914691236517205) + (Go.bits .and .u64 a0 6148914691236517205))) / 4) 3689348814741910323) + (Go.bits .and .u64 (IntKind.u64.wrap ((Go.bits .and .u64 (a0 / 2) 6148914691236517205) + (Go.bits .and .u64 a0 6148914691236517205))) 3689348814741910323))) / 16) + (IntKind.u64.wrap ((Go.bits .and .u64 ((IntKind.u64.wrap ((Go.bits .and .u64 (a0 / 2) 6148914691236517205) + (Go.bits .and .u64 a0 6148914691236517205))) / 4) 3689348814741910323) + (Go.bits .and .u64 (IntKind.u64.wrap ((Go.bits .and .u64 (a0 / 2) 6148914691236517205) + (Go.bits .and .u64 a0 6148914691236517205))) 3689348814741910323))))) 1085102592571150095) + ((Go.bits .and .u64 (IntKind.u64.wrap (((IntKind.u64.wrap ((Go.bits .and .u64 ((IntKind.u64.wrap ((Go.bits .and .u64 (a0 / 2) 6148914691236517205) + (Go.bits .and .u64 a0 6148914691236517205))) / 4) 3689348814741910323) + (Go.bits .and .u64 (IntKind.u64.wrap ((Go.bits .and .u64 (a0 / 2) 6148914691236517205) + (Go.bits .and .u64 a0 6148914691236517205))) 3689348814741910323))) / 16) + (IntKind.u64.wrap ((Go.bits .and .u64 ((IntKind.u64.wrap ((Go.bits .and .u64 (a0 / 2) 6148914691236517205) + (Go.bits .and .u64 a0 6148914691236517205))) / 4) 3689348814741910323) + (Go.bits .and .u64 (IntKind.u64.wrap ((Go.bits .and .u64 (a0 / 2) 6148914691236517205) + (Go.bits .and .u64 a0 6148914691236517205))) 3689348814741910323))))) 1085102592571150095) / 256))) + ((IntKind.u64.wrap ((Go.bits .and .u64 (IntKind.u64.wrap (((IntKind.u64.wrap ((Go.bits .and .u64 ((IntKind.u64.wrap ((Go.bits .and .u64 (a0 / 2) 6148914691236517205) + (Go.bits .and .u64 a0 6148914691236517205))) / 4) 3689348814741910323) + (Go.bits .and .u64 (IntKind.u64.wrap ((Go.bits .and .u64 (a0 / 2) 6148914691236517205) + (Go.bits .and .u64 a0 6148914691236517205))) 3689348814741910323))) / 16) + (IntKind.u64.wrap ((Go.bits .and .u64 ((IntKind.u64.wrap ((Go.bits .and .u64 (a0 / 2) 6148914691236517205) + (Go.bits .and .u64 a0 6148914691236517205))) / 4) 3689348814741910323) + (Go.bits .and .u64 (IntKind.u64.wrap ((Go.bits .and .u64 (a0 / 2) 6148914691236517205) + (Go.bits .and .u64 a0 6148914691236517205))) 3689348814741910323))))) 1085102592571150095) + ((Go.bits .and .u64 (IntKind.u64.wrap (((IntKind.u64.wrap ((Go.bits .and .u64 ((IntKind.u64.wrap ((Go.bits .and .u64 (a0 / 2) 6148914691236517205) + (Go.bits .and .u64 a0 6148914691236517205))) / 4) 3689348814741910323) + (Go.bits .and .u64 (IntKind.u64.wrap ((Go.bits .and .u64 (a0 / 2) 6148914691236517205) + (Go.bits .and .u64 a0 6148914691236517205))) 3689348814741910323))) / 16) + (IntKind.u64.wrap ((Go.bits .and .u64 ((IntKind.u64.wrap ((Go.bits .and .u64 (a0 / 2) 6148914691236517205) + (Go.bits .and .u64 a0 6148914691236517205))) / 4) 3689348814741910323) + (Go.bits .and .u64 (IntKind.u64.wrap ((Go.bits .and .u64 (a0 / 2) 6148914691236517205) + (Go.bits .and .u64 a0 6148914691236517205))) 3689348814741910323))))) 1085102592571150095) / 256))) / 65536))) + ((IntKind.u64.wrap ((IntKind.u64.wrap ((Go.bits .and .u64 (IntKind.u64.wrap (((IntKind.u64.wrap ((Go.bits .and .u64 ((IntKind.u64.wrap ((Go.bits .and .u64 (a0 / 2) 6148914691236517205) + (Go.bits .and .u64 a0 6148914691236517205))) / 4) 3689348814741910323) + (Go.bits .and .u64 (IntKind.u64.wrap ((Go.bits .and .u64 (a0 / 2) 6148914691236517205) + (Go.bits .and .u64 a0 6148914691236517205))) 3689348814741910323))) / 16) + (IntKind.u64.wrap ((Go.bits .and .u64 ((IntKind.u64.wrap ((Go.bits .and .u64 (a0 / 2) 6148914691236517205) + (Go.bits .and .u64 a0 6148914691236517205))) / 4) 3689348814741910323) + (Go.bits .and .u64 (IntKind.u64.wrap ((Go.bits .and .u64 (a0 / 2) 6148914691236517205) + (Go.bits .and .u64 a0 6148914691236517205))) 3689348814741910323))))) 1085102592571150095) + ((Go.bits .and .u64 (IntKind.u64.wrap (((IntKind.u64.wrap ((Go.bits .and .u64 ((IntKind.u64.wrap ((Go.bits .and .u64 (a0 / 2) 6148914691236517205) + (Go.bits .and .u64 a0 6148914691236517205))) / 4) 3689348814741910323) + (Go.bits .and .u64 (IntKind.u64.wrap ((Go.bits .and .u64 (a0 / 2) 6148914691236517205) + (Go.bits .and .u64 a0 6148914691236517205))) 3689348814741910323))) / 16) + (IntKind.u64.wrap ((Go.bits .and .u64 ((IntKind.u64.wrap ((Go.bits .and .u64 (a0 / 2) 6148914691236517205) + (Go.bits .and .u64 a0 6148914691236517205))) / 4) 3689348814741910323) + (Go.bits .and .u64 (IntKind.u64.wrap ((Go.bits .and .u64 (a0 / 2) 6148914691236517205) + (Go.bits .and .u64 a0 6148914691236517205))) 3689348814741910323))))) 1085102592571150095) / 256))) + ((IntKind.u64.wrap ((Go.bits .and .u64 (IntKind.u64.wrap (((IntKind.u64.wrap ((Go.bits .and .u64 ((IntKind.u64.wrap ((Go.bits .and .u64 (a0 / 2) 6148914691236517205) + (Go.bits .and .u64 a0 6148914691236517205))) / 4) 3689348814741910323) + (Go.bits .and .u64 (IntKind.u64.wrap ((Go.bits .and .u64 (a0 / 2) 6148914691236517205) + (Go.bits .and .u64 a0 6148914691236517205))) 3689348814741910323))) / 16) + (IntKind.u64.wrap ((Go.bits .and .u64 ((IntKind.u64.wrap ((Go.bits .and .u64 (a0 / 2) 6148914691236517205) + (Go.bits .and .u64 a0 6148914691236517205))) / 4) 3689348814741910323) + (Go.bits .and .u64 (IntKind.u64.wrap ((Go.bits .and .u64 (a0 / 2) 6148914691236517205) + (Go.bits .and .u64 a0 6148914691236517205))) 3689348814741910323))))) 1085102592571150095) + ((Go.bits .and .u64 (IntKind.u64.wrap (((IntKind.u64.wrap ((Go.bits .and .u64 ((IntKind.u64.wrap ((Go.bits .and .u64 (a0 / 2) 6148914691236517205) + (Go.bits .and .u64 a0 6148914691236517205))) / 4) 3689348814741910323) + (Go.bits .and .u64 (IntKind.u64.wrap ((Go.bits .and .u64 (a0 / 2) 6148914691236517205) + (Go.bits .and .u64 a0 6148914691236517205))) 3689348814741910323))) / 16) + (IntKind.u64.wrap ((Go.bits .and .u64 ((IntKind.u64.wrap ((Go.bits .and .u64 (a0 / 2) 6148914691236517205) + (Go.bits .and .u64 a0 6148914691236517205))) / 4) 3689348814741910323) + (Go.bits .and .u64 (IntKind.u64.wrap ((Go.bits .and .u64 (a0 / 2) 6148914691236517205) + (Go.bits .and .u64 a0 6148914691236517205))) 3689348814741910323))))) 1085102592571150095) / 256))) / 65536))) / 4294967296)))) 127)
set_option maxHeartbeats 8000000 in
set_option maxRecDepth 100000 in
theorem bits_OnesCount64.calls (a0 : Int) (r : Int) (w : World) (h : bits_OnesCount64.f a0 = some r) :
  Calls Tryd.prog 67 #[.int .u64 a0] w fun e w' => e = .returned (.int .i64 r) ∧ Drawn0 w w' := by
 have H : (some (Go.bits .and .i64 (wrap64 (IntKind.u64.wrap ((IntKind.u64.wrap ((IntKind.u64.wrap ((Go.bits .and .u64 (IntKind.u64.wrap (((IntKind.u64.wrap ((Go.bits .and .u64 ((IntKind.u64.wrap ((Go.bits .and .u64 (a0 / 2) 6148914691236517205) + (Go.bits .and .u64 a0 6148914691236517205))) / 4) 3689348814741910323) + (Go.bits .and .u64 (IntKind.u64.wrap ((Go.bits .and .u64 (a0 / 2) 6148914691236517205) + (Go.bits .and .u64 a0 6148914691236517205))) 3689348814741910323))) / 16) + (IntKind.u64.wrap ((Go.bits .and .u64 ((IntKind.u64.wrap ((Go.bits .and .u64 (a0 / 2) 6148914691236517205) + (Go.bits .and .u64 a0 6148914691236517205))) / 4) 3689348814741910323) + (Go.bits .and .u64 (IntKind.u64.wrap ((Go.bits .and .u64 (a0 / 2) 6148914691236517205) + (Go.bits .and .u64 a0 6148914691236517205))) 3689348814741910323))))) 1085102592571150095) + ((Go.bits .and .u64 (IntKind.u64.wrap (((IntKind.u64.wrap ((Go.bits .and .u64 ((IntKind.u64.wrap ((Go.bits .and .u64 (a0 / 2) 6148914691236517205) + (Go.bits .and .u64 a0 6148914691236517205))) / 4) 3689348814741910323) + (Go.bits .and .u64 (IntKind.u64.wrap ((Go.bits .and .u64 (a0 / 2) 6148914691236517205) + (Go.bits .and .u64 a0 6148914691236517205))) 3689348814741910323))) / 16) + (IntKind.u64.wrap ((Go.bits .and .u64 ((IntKind.u64.wrap ((Go.bits .and .u64 (a0 / 2) 6148914691236517205) + (Go.bits .and .u64 a0 6148914691236517205))) / 4) 3689348814741910323) + (Go.bits .and .u64 (IntKind.u64.wrap ((Go.bits .and .u64 (a0 / 2) 6148914691236517205) + (Go.bits .and .u64 a0 6148914691236517205))) 3689348814741910323))))) 1085102592571150095) / 256))) + ((IntKind.u64.wrap ((Go.bits .and .u64 (IntKind.u64.wrap (((IntKind.u64.wrap ((Go.bits .and .u64 ((IntKind.u64.wrap ((Go.bits .and .u64 (a0 / 2) 6148914691236517205) + (Go.bits .and .u64 a0 6148914691236517205))) / 4) 3689348814741910323) + (Go.bits .and .u64 (IntKind.u64.wrap ((Go.bits .and .u64 (a0 / 2) 6148914691236517205) + (Go.bits .and .u64 a0 6148914691236517205))) 3689348814741910323))) / 16) + (IntKind.u64.wrap ((Go.bits .and .u64 ((IntKind.u64.wrap ((Go.bits .and .u64 (a0 / 2) 6148914691236517205) + (Go.bits .and .u64 a0 6148914691236517205))) / 4) 3689348814741910323) + (Go.bits .and .u64 (IntKind.u64.wrap ((Go.bits .and .u64 (a0 / 2) 6148914691236517205) + (Go.bits .and .u64 a0 6148914691236517205))) 3689348814741910323))))) 1085102592571150095) + ((Go.bits .and .u64 (IntKind.u64.wrap (((IntKind.u64.wrap ((Go.bits .and .u64 ((IntKind.u64.wrap ((Go.bits .and .u64 (a0 / 2) 6148914691236517205) + (Go.bits .and .u64 a0 6148914691236517205))) / 4) 3689348814741910323) + (Go.bits .and .u64 (IntKind.u64.wrap ((Go.bits .and .u64 (a0 / 2) 6148914691236517205) + (Go.bits .and .u64 a0 6148914691236517205))) 3689348814741910323))) / 16) + (IntKind.u64.wrap ((Go.bits .and .u64 ((IntKind.u64.wrap ((Go.bits .and .u64 (a0 / 2) 6148914691236517205) + (Go.bits .and .u64 a0 6148914691236517205))) / 4) 3689348814741910323) + (Go.bits .and .u64 (IntKind.u64.wrap ((Go.bits .and .u64 (a0 / 2) 6148914691236517205) + (Go.bits .and .u64 a0 6148914691236517205))) 3689348814741910323))))) 1085102592571150095) / 256))) / 65536))) + ((IntKind.u64.wrap ((IntKind.u64.wrap ((Go.bits .and .u64 (IntKind.u64.wrap (((IntKind.u64.wrap ((Go.bits .and .u64 ((IntKind.u64.wrap ((Go.bits .and .u64 (a0 / 2) 6148914691236517205) + (Go.bits .and .u64 a0 6148914691236517205))) / 4) 3689348814741910323) + (Go.bits .and .u64 (IntKind.u64.wrap ((Go.bits .and .u64 (a0 / 2) 6148914691236517205) + (Go.bits .and .u64 a0 6148914691236517205))) 3689348814741910323))) / 16) + (IntKind.u64.wrap ((Go.bits .and .u64 ((IntKind.u64.wrap ((Go.bits .and .u64 (a0 / 2) 6148914691236517205) + (Go.bits .and .u64 a0 6148914691236517205))) / 4) 3689348814741910323) + (Go.bits .and .u64 (IntKind.u64.wrap ((Go.bits .and .u64 (a0 / 2) 6148914691236517205) + (Go.bits .and .u64 a0 6148914691236517205))) 3689348814741910323))))) 1085102592571150095) + ((Go.bits .and .u64 (IntKind.u64.wrap (((IntKind.u64.wrap ((Go.bits .and .u64 ((IntKind.u64.wrap ((Go.bits .and .u64 (a0 / 2) 6148914691236517205) + (Go.bits .and .u64 a0 6148914691236517205))) / 4) 3689348814741910323) + (Go.bits .and .u64 (IntKind.u64.wrap ((Go.bits .and .u64 (a0 / 2) 6148914691236517205) + (Go.bits .and .u64 a0 6148914691236517205))) 3689348814741910323))) / 16) + (IntKind.u64.wrap ((Go.bits .and .u64 ((IntKind.u64.wrap ((Go.bits .and .u64 (a0 / 2) 6148914691236517205) + (Go.bits .and .u64 a0 6148914691236517205))) / 4) 3689348814741910323) + (Go.bits .and .u64 (IntKind.u64.wrap ((Go.bits .and .u64 (a0 / 2) 6148914691236517205) + (Go.bits .and .u64 a0 6148914691236517205))) 3689348814741910323))))) 1085102592571150095) / 256))) + ((IntKind.u64.wrap ((Go.bits .and .u64 (IntKind.u64.wrap (((IntKind.u64.wrap ((Go.bits .and .u64 ((IntKind.u64.wrap ((Go.bits .and .u64 (a0 / 2) 6148914691236517205) + (Go.bits .and .u64 a0 6148914691236517205))) / 4) 3689348814741910323) + (Go.bits .and .u64 (IntKind.u64.wrap ((Go.bits .and .u64 (a0 / 2) 6148914691236517205) + (Go.bits .and .u64 a0 6148914691236517205))) 3689348814741910323))) / 16) + (IntKind.u64.wrap ((Go.bits .and .u64 ((IntKind.u64.wrap ((Go.bits .and .u64 (a0 / 2) 6148914691236517205) + (Go.bits .and .u64 a0 6148914691236517205))) / 4) 3689348814741910323) + (Go.bits .and .u64 (IntKind.u64.wrap ((Go.bits .and .u64 (a0 / 2) 6148914691236517205) + (Go.bits .and .u64 a0 6148914691236517205))) 3689348814741910323))))) 1085102592571150095) + ((Go.bits .and .u64 (IntKind.u64.wrap (((IntKind.u64.wrap ((Go.bits .and .u64 ((IntKind.u64.wrap ((Go.bits .and .u64 (a0 / 2) 6148914691236517205) + (Go.bits .and .u64 a0 6148914691236517205))) / 4) 3689348814741910323) + (Go.bits .and .u64 (IntKind.u64.wrap ((Go.bits .and .u64 (a0 / 2) 6148914691236517205) + (Go.bits .and .u64 a0 6148914691236517205))) 3689348814741910323))) / 16) + (IntKind.u64.wrap ((Go.bits .and .u64 ((IntKind.u64.wrap ((Go.bits .and .u64 (a0 / 2) 6148914691236517205) + (Go.bits .and .u64 a0 6148914691236517205))) / 4) 3689348814741910323) + (Go.bits .and .u64 (IntKind.u64.wrap ((Go.bits .and .u64 (a0 / 2) 6148914691236517205) + (Go.bits .and .u64 a0 6148914691236517205))) 3689348814741910323))))) 1085102592571150095) / 256))) / 65536))) / 4294967296)))) 127)) = some r := h
 clear h
 obtain rfl := Option.some.inj H
 go_enter Tryd.func67, Tryd.ntmps67
 go_wp2
 go_ret
 exact ⟨by first | rfl | (simp; done) | (simp [*]; done), by repeat (first | exact Drawn0.refl _ | apply Drawn0.step)⟩
end Go.Proofs.YtcbiilbmldinhaaDoor.PB
end

section
namespace Go.Proofs.YtcbiilbmldinhaaDoor.PB
open Go.RowKit Go.Proofs.YtcbiilbmldinhaaDoorW.PrintWords Go.Proofs.YtcbiilbmldinhaaDoorW.PrintLast Go.Proofs.YtcbiilbmldinhaaDoorW.PrintMore
attribute [local go_sem] max2_int min2_int max_two min_two max_three min_three max_four min_four
set_option linter.unusedVariables false
set_option linter.unusedSimpArgs false
theorem ones_bound (a : Int) : ∃ n : Nat, n ≤ 127 ∧ bits_OnesCount64.f a = some (n : Int) := by
  unfold bits_OnesCount64.f
  generalize wrap64 _ = x
  obtain ⟨h1, h2⟩ : 0 ≤ Go.bits .and .i64 x 127 ∧ Go.bits .and .i64 x 127 ≤ 127 := by
    rw [i64_and127]; omega
  exact ⟨(Go.bits .and .i64 x 127).toNat, by omega, by rw [Int.toNat_of_nonneg h1]⟩
theorem mark_bit (n k : Nat) (hn : n < 2 ^ 64) : (Go.bits .and .u64 ((n : Int) / 2 ^ k) 1 == 1) = n.testBit k := by
  have e : (n : Int) / 2 ^ k = ((n / 2 ^ k : Nat) : Int) := by rw [Int.natCast_ediv, Int.natCast_pow]; rfl
  have hle : n / 2 ^ k ≤ n := Nat.div_le_self _ _
  rw [e]
  have := u64_and_nat (n / 2 ^ k) 1 (by omega) (by decide)
  rw [show ((1 : Nat) : Int) = 1 from rfl] at this
  rw [this, Nat.and_one_is_mod, Nat.testBit_eq_decide_div_mod_eq, Bool.eq_iff_iff, decide_eq_true_iff, beq_iff_eq]
  omega
set_option maxHeartbeats 4000000 in
set_option maxRecDepth 100000 in
theorem label_Cats_calls (n : Nat) (hn : n < 2 ^ 64) (w : World) :
    Calls Tryd.prog 56 #[.int .u64 (n : Int)] w fun e w' => ∃ v0_ : Value, e = .returned (v0_) ∧ Kd.R (Kd.int .i64) 3 w' w.heap.size (fun _ => True) v0_ (catsTo n 64) ∧ Below w.heap.size w w' := by
  obtain ⟨c, hc, h1⟩ := ones_bound (n : Int)
  have HO := aM (fun W => bits_OnesCount64.calls (n : Int) (c : Int) W h1)
  have hmk : ∀ W : World, (Instr.makeSlice 92 (.int .i64 0) (.int .i64 (c : Int))).run Tryd.prog W = .ok (.slice (some ⟨W.heap.size, 0, none⟩) 0 c) (W.alloc (.cells (madeCells #[.int .i64 0] c) 3)) := by
    intro W
    obtain ⟨i0, hi, hzz⟩ := Option.map_eq_some_iff.1 info3
    simp only [Prod.mk.injEq] at hzz
    obtain ⟨hz0, hz1, hz2⟩ := hzz
    have hr := run_make (P := Tryd.prog) W 92 3 i0 (.int .i64 0) Tryd.underlying92 hi hz0 .i64 .i64 0 (c : Int) (by omega) (by omega) (by rw [hz2]; omega) (by omega)
    rw [hz1] at hr
    simp only [Int.toNat_natCast, Nat.mul_one] at hr
    exact hr
  have HC := aM hc
  clear h1 hc
  go_enter Tryd.func56, Tryd.ntmps56
  go_wp2_with fail
  refine (HO.out _).mono ?_
  rintro e w1 ⟨rfl, hd⟩
  have HB0 := aM ((hd.below).alloc (hd.below.size) (.cells (madeCells #[.int .i64 0] c) 3))
  go_wp2
  generalize hW : w1.alloc (.cells (madeCells #[.int .i64 0] c) 3) = w2 at *
  have HR0 : Aside0 (Kd.R (Kd.int .i64) 3 w2 w.heap.size (fun _ => True) (.slice (some ⟨w1.heap.size, 0, none⟩) 0 c) []) := ⟨by
    rw [← hW]
    have := HC.out
    exact Kd.R_of_own (World.ownsRow_made w1 _ c hd.below.size (by unfold maxLen; omega) (by rw [size_madeCells, Nat.mul_one])) (fun _ _ => trivial)⟩
  clear hW
  go_loopw [3, 8] (fun v3 v8 wr => ∃ (k : Nat), k ≤ 64 ∧ v8 = .int .i64 k ∧ Aside0 (Kd.R (Kd.int .i64) 3 wr w.heap.size (fun _ => True) v3 (catsTo n k)) ∧ Aside0 (Below w.heap.size w wr)) (fun _ i _ => 64 - (intOf i).toNat)
  case atStart => exact ⟨0, by omega, rfl, HR0, HB0⟩
  case round =>
    obtain ⟨k, hk, rfl, HO, HB⟩ := hrel
    by_cases hlt : k < 64
    · have hk0 : (0 : Int) ≤ (k : Int) := by omega
      have hk1 : (k : Int) < 64 := by omega
      have HL := aM (catsTo_len n k)
      have hb := mark_bit n k hn
      cases hx : n.testBit k
      · have HN := aM (catsTo_no n k hx)
        rw [hx] at hb
        clear hx
        go_wp2
        exact ⟨⟨k + 1, by omega, by go_num, ⟨by rw [HN.out]; exact HO.out⟩, HB⟩, by simp [intOf]; omega⟩
      · have HN := aM (catsTo_yes n k hx)
        rw [hx] at hb
        clear hx
        generalize catsTo n k = xs at *
        go_wp2_with (first | ((with_reducible refine gate_builtin (b := .append) (xs := #[.tmp 16, .tmp 18]) rfl ?_); at_builtin; refine Kd.R_append (Kd.int .i64) (w0 := w) w.heap.size rfl (.tmp 16) (.tmp 18) 92 3 (.int .i64 0) 8 rfl Tryd.underlying92 info3 rfl (by decide) (by omega) u3 xs (k : Int) [.int .i64 (k : Int)] (fun _ => True) (fun _ => False) rfl rfl ?aP (fun _ hk => hk.elim) ?aF ?aO ?aB ?aS ?aL ?_; (case aP => exact rfl); (case aB => exact (by repeat (first | (with_reducible first | exact HB.out | apply ea | apply en | apply ed) | exact HB.out))); (case aF => exact (fun _ _ => trivial)); (case aO => exact (by (with_reducible repeat (first | apply ra | apply rn | apply rd_)); exact HO.out)); (case aS => exact (bZ (by repeat (first | (with_reducible first | exact HB.out | apply ea | apply en | apply ed) | exact HB.out)))); (case aL => have := HL.out; omega); intro v144 w7 ho hb hg hat; have HBn := aM hb; have HOn := aM ho; clear ho hb hg hat))
        exact ⟨⟨k + 1, by omega, by go_num, ⟨by rw [HN.out]; exact HOn.out⟩, HBn⟩, by simp [intOf]; omega⟩
    · obtain rfl : k = 64 := by omega
      go_wp2
      go_ret
      exact ⟨_, rfl, HO.out, HB.out⟩
def label_Cats.f (a0 : Int) : Option (List Int) := if 0 ≤ a0 ∧ a0 < 18446744073709551616 then some (catsTo a0.toNat 64) else none
theorem label_Cats.calls (a0 : Int) (r : List Int) (w : World) (h : label_Cats.f a0 = some r) :
    Calls Tryd.prog 56 #[.int .u64 a0] w fun e w' => ∃ v0_ : Value, e = .returned (v0_) ∧ Kd.R (Kd.int .i64) 3 w' w.heap.size (fun _ => True) v0_ r ∧ Below w.heap.size w w' := by
  unfold label_Cats.f at h
  split at h
  case isFalse => cases h
  rename_i hc
  injection h with h
  subst h
  obtain ⟨a, rfl⟩ := Int.eq_ofNat_of_zero_le hc.1
  exact label_Cats_calls a (by omega) w
end Go.Proofs.YtcbiilbmldinhaaDoor.PB
end

section
namespace Go.Proofs
open Go.Shelf
def Tryd.lays156_ren : Go.Shelf.Ren := ⟨fun | 156 => 38 | 165 => 52 | 166 => 53 | 169 => 54 | 240 => 64 | 241 => 65 | 276 => 76 | 277 => 77 | n => n, fun | 31 => 77 | 9 => 9 | 3 => 3 | 4 => 4 | 0 => 0 | 20 => 20 | 72 => 96 | 76 => 83 | 70 => 93 | 37 => 94 | 75 => 82 | 127 => 104 | 164 => 115 | 5 => 5 | 80 => 98 | n => n, fun | n => n⟩
theorem Tryd.lays156 : Go.Proofs.Lays.n156 Tryd.prog Tryd.lays156_ren := {
  mixed := by kernel_rfl
  f156 := Tryd.func38.trans (congrArg some (by kernel_rfl))
  f165 := Tryd.func52.trans (congrArg some (by kernel_rfl))
  f166 := Tryd.func53.trans (congrArg some (by kernel_rfl))
  f169 := Tryd.func54.trans (congrArg some (by kernel_rfl))
  f240 := Tryd.func64.trans (congrArg some (by kernel_rfl))
  f241 := Tryd.func65.trans (congrArg some (by kernel_rfl))
  f276 := Tryd.func76.trans (congrArg some (by kernel_rfl))
  f277 := Tryd.func77.trans (congrArg some (by kernel_rfl))
  t0 := Tryd.underlying0
  a0 := Tryd.isAgg0
  z0 := Tryd.sizeOf0
  v0 := Tryd.zeroValue0
  t3 := Tryd.underlying3
  a3 := Tryd.isAgg3
  z3 := Tryd.sizeOf3
  v3 := Tryd.zeroValue3
  t4 := Tryd.underlying4
  a4 := Tryd.isAgg4
  z4 := Tryd.sizeOf4
  v4 := Tryd.zeroValue4
  t9 := Tryd.underlying9
  a9 := Tryd.isAgg9
  z9 := Tryd.sizeOf9
  v9 := Tryd.zeroValue9
  t20 := Tryd.underlying20
  a20 := Tryd.isAgg20
  z20 := Tryd.sizeOf20
  v20 := Tryd.zeroValue20
  t31 := Tryd.underlying77
  a31 := Tryd.isAgg77
  z31 := Tryd.sizeOf77
  v31 := Tryd.zeroValue77
  t37 := Tryd.underlying94
  a37 := Tryd.isAgg94
  z37 := Tryd.sizeOf94
  v37 := Tryd.zeroValue94
  t70 := Tryd.underlying93
  a70 := Tryd.isAgg93
  z70 := Tryd.sizeOf93
  v70 := Tryd.zeroValue93
  t72 := Tryd.underlying96
  a72 := Tryd.isAgg96
  z72 := Tryd.sizeOf96
  v72 := Tryd.zeroValue96
  t75 := Tryd.underlying82
  a75 := Tryd.isAgg82
  z75 := Tryd.sizeOf82
  v75 := Tryd.zeroValue82
  t76 := Tryd.underlying83
  a76 := Tryd.isAgg83
  z76 := Tryd.sizeOf83
  v76 := Tryd.zeroValue83
  t127 := Tryd.underlying104
  a127 := Tryd.isAgg104
  z127 := Tryd.sizeOf104
  v127 := Tryd.zeroValue104
  t164 := Tryd.underlying115
  a164 := Tryd.isAgg115
  z164 := Tryd.sizeOf115
  v164 := Tryd.zeroValue115 }
theorem Tryd.Builder_Extra_156 : Builder.Extra Tryd.prog Tryd.lays156_ren := {
  sizeBuilder := by kernel_rfl
  liesBuilder := by kernel_rfl
  t5 := Tryd.underlying5
  a5 := Tryd.isAgg5
  z5 := Tryd.sizeOf5
  v5 := Tryd.zeroValue5
  infoByte := by kernel_rfl
  cellsByte := by kernel_rfl
  sizeByte := by kernel_rfl
  neB5 := by decide }
open Go.RowKit in

theorem Tryd.strings_Join_none (a : Option Addr) (c : Nat) (sep : ByteArray) (w : World) :
    Calls Tryd.prog 38 #[.slice a 0 c, .string sep] w fun e w' => e = .returned (.string ⟨#[]⟩) ∧ w' = w := Any.strings_Join_none Tryd.lays156 Tryd.Builder_Extra_156 a c sep w
open Go.RowKit in

theorem Tryd.strings_Join (bk o c : Nat) (xs : List ByteArray) (sep : ByteArray) (w : World) (hcells : ∀ (j : Nat) x, xs[j]? = some x → w.cell? ⟨bk, o + j, none⟩ = some (.string x)) (hbk : bk < w.heap.size) (hN : xs.length ≤ 140737488355328) (hcap : xs.length ≤ c) (hlen : (Lib.join (xs.map (·.data.toList)) sep.data.toList).length ≤ 140737488355328) :
    Calls Tryd.prog 38 #[.slice (some ⟨bk, o, none⟩) xs.length c, .string sep] w fun e w' => e = .returned (.string ⟨(Lib.join (xs.map (·.data.toList)) sep.data.toList).toArray⟩) ∧ Below w.heap.size w w' := Any.strings_Join Tryd.lays156 Tryd.Builder_Extra_156 bk o c xs sep w hcells hbk hN hcap hlen
def Tryd.lays171_ren : Go.Shelf.Ren := ⟨fun | 171 => 40 | 243 => 55 | 246 => 66 | 283 => 78 | 284 => 79 | 285 => 80 | 286 => 81 | 129 => 90 | 317 => 89 | 318 => 91 | 319 => 92 | 320 => 93 | 337 => 101 | 338 => 102 | n => n, fun | 3 => 3 | 9 => 9 | 2 => 2 | 4 => 4 | 171 => 118 | 0 => 0 | 53 => 33 | 37 => 94 | 5 => 5 | 173 => 120 | 212 => 134 | 51 => 135 | 20 => 20 | 213 => 136 | 46 => 122 | 232 => 150 | 233 => 151 | n => n, fun | 17 => 3 | 18 => 6 | 19 => 7 | n => n⟩
theorem Tryd.lays171 : Go.Proofs.Lays.n171 Tryd.prog Tryd.lays171_ren := {
  mixed := by kernel_rfl
  f129 := Tryd.func90.trans (congrArg some (by kernel_rfl))
  f171 := Tryd.func40.trans (congrArg some (by kernel_rfl))
  f243 := Tryd.func55.trans (congrArg some (by kernel_rfl))
  f246 := Tryd.func66.trans (congrArg some (by kernel_rfl))
  f283 := Tryd.func78.trans (congrArg some (by kernel_rfl))
  f284 := Tryd.func79.trans (congrArg some (by kernel_rfl))
  f285 := Tryd.func80.trans (congrArg some (by kernel_rfl))
  f286 := Tryd.func81.trans (congrArg some (by kernel_rfl))
  f317 := Tryd.func89.trans (congrArg some (by kernel_rfl))
  f318 := Tryd.func91.trans (congrArg some (by kernel_rfl))
  f319 := Tryd.func92.trans (congrArg some (by kernel_rfl))
  f320 := Tryd.func93.trans (congrArg some (by kernel_rfl))
  f337 := Tryd.func101.trans (congrArg some (by kernel_rfl))
  f338 := Tryd.func102.trans (congrArg some (by kernel_rfl))
  t0 := Tryd.underlying0
  a0 := Tryd.isAgg0
  z0 := Tryd.sizeOf0
  v0 := Tryd.zeroValue0
  t2 := Tryd.underlying2
  a2 := Tryd.isAgg2
  z2 := Tryd.sizeOf2
  v2 := Tryd.zeroValue2
  t3 := Tryd.underlying3
  a3 := Tryd.isAgg3
  z3 := Tryd.sizeOf3
  v3 := Tryd.zeroValue3
  t4 := Tryd.underlying4
  a4 := Tryd.isAgg4
  z4 := Tryd.sizeOf4
  v4 := Tryd.zeroValue4
  t5 := Tryd.underlying5
  a5 := Tryd.isAgg5
  z5 := Tryd.sizeOf5
  v5 := Tryd.zeroValue5
  t9 := Tryd.underlying9
  a9 := Tryd.isAgg9
  z9 := Tryd.sizeOf9
  v9 := Tryd.zeroValue9
  t20 := Tryd.underlying20
  a20 := Tryd.isAgg20
  z20 := Tryd.sizeOf20
  v20 := Tryd.zeroValue20
  t37 := Tryd.underlying94
  a37 := Tryd.isAgg94
  z37 := Tryd.sizeOf94
  v37 := Tryd.zeroValue94
  t46 := Tryd.underlying122
  a46 := Tryd.isAgg122
  z46 := Tryd.sizeOf122
  v46 := Tryd.zeroValue122
  t51 := Tryd.underlying135
  a51 := Tryd.isAgg135
  z51 := Tryd.sizeOf135
  v51 := Tryd.zeroValue135
  t53 := Tryd.underlying33
  a53 := Tryd.isAgg33
  z53 := Tryd.sizeOf33
  v53 := Tryd.zeroValue33
  t171 := Tryd.underlying118
  a171 := Tryd.isAgg118
  z171 := Tryd.sizeOf118
  v171 := Tryd.zeroValue118
  t173 := Tryd.underlying120
  a173 := Tryd.isAgg120
  z173 := Tryd.sizeOf120
  v173 := Tryd.zeroValue120
  t212 := Tryd.underlying134
  a212 := Tryd.isAgg134
  z212 := Tryd.sizeOf134
  v212 := Tryd.zeroValue134
  t213 := Tryd.underlying136
  a213 := Tryd.isAgg136
  z213 := Tryd.sizeOf136
  t232 := Tryd.underlying150
  a232 := Tryd.isAgg150
  z232 := Tryd.sizeOf150
  v232 := Tryd.zeroValue150
  t233 := Tryd.underlying151
  a233 := Tryd.isAgg151
  z233 := Tryd.sizeOf151
  v233 := Tryd.zeroValue151
  g17 := by kernel_rfl
  g18 := by kernel_rfl
  g19 := by kernel_rfl }
open Go.RowKit Go.Sort Go.Lib in

theorem Tryd.strconv_Itoa_small (i : Nat) (hi : i < 100) (w : World) :
    Calls Tryd.prog 40 #[.int .i64 i] w fun e w' => e = .returned (.string ⟨(Lib.decDigits i).toArray⟩) ∧ w' = w := Any.strconv_Itoa_small Tryd.lays171 i hi w
end Go.Proofs
end

section
namespace Go.Proofs.YtcbiilbmldinhaaDoor.PB
open Go.RowKit Go.Proofs.YtcbiilbmldinhaaDoorW.PrintWords Go.Proofs.YtcbiilbmldinhaaDoorW.PrintLast Go.Proofs.YtcbiilbmldinhaaDoorW.PrintMore
set_option linter.unusedVariables false
set_option linter.unusedSimpArgs false
def strconv_Itoa_40.f (a0 : Int) : Option ByteArray := if 0 ≤ a0 ∧ a0 < 100 then some ⟨(Lib.decDigits a0.toNat).toArray⟩ else none
theorem strconv_Itoa_40.calls (a0 : Int) (r : ByteArray) (w : World) (h : strconv_Itoa_40.f a0 = some r) :
    Calls Tryd.prog 40 #[.int .i64 a0] w fun e w' => e = .returned (.string r) ∧ Below w.heap.size w w' := by
  unfold strconv_Itoa_40.f at h
  split at h
  case isFalse => cases h
  rename_i hc
  injection h with h
  subst h
  obtain ⟨a, rfl⟩ := Int.eq_ofNat_of_zero_le hc.1
  refine (Tryd.strconv_Itoa_small a (by omega) w).mono fun e w' ⟨he, hw⟩ => ?_
  subst hw
  exact ⟨he, Below.refl _ _⟩
theorem cell_spot {w : World} {a : Addr} {v : Value} (h : w.cell? a = some v) : a.spot = none := by
  unfold World.cell? at h
  split at h
  · split at h
    · cases h
    · rename_i hs
      cases hq : a.spot with
      | none => rfl
      | some x => rw [hq] at hs; simp at hs
  · cases h
def strings_Join.f (l0 : List ByteArray) (a1 : ByteArray) : Option ByteArray := if l0.length ≤ 140737488355328 ∧ (Lib.join (l0.map (fun x : ByteArray => x.data.toList)) a1.data.toList).length ≤ 140737488355328 then some ⟨(Lib.join (l0.map (fun x : ByteArray => x.data.toList)) a1.data.toList).toArray⟩ else none
theorem strings_Join.calls (A0 : Option Addr) (c0 : Nat) (l0 : List ByteArray) (a1 : ByteArray) (r : ByteArray) (w : World) (hr0 : Kd.C Kd.string w A0 l0.length l0) (hc0 : l0.length ≤ c0) (h : strings_Join.f l0 a1 = some r) :
    Calls Tryd.prog 38 #[.slice A0 l0.length c0, .string a1] w fun e w' => e = .returned (.string r) ∧ Below w.heap.size w w' := by
  unfold strings_Join.f at h
  split at h
  case isFalse => cases h
  rename_i hc
  injection h with h
  subst h
  cases l0 with
  | nil =>
    refine (Tryd.strings_Join_none A0 c0 a1 w).mono fun e w' ⟨he, hw⟩ => ?_
    subst hw
    exact ⟨he, Below.refl _ _⟩
  | cons x xs =>
    obtain ⟨ad, rfl, hx0⟩ := Kd.at_string hr0 0 (by omega) (by simp)
    have hs := cell_spot hx0
    obtain ⟨b, o, sp⟩ := ad
    have hsp : sp = none := by
      have : (Addr.add ⟨b, o, sp⟩ (0 : Int).toNat) = ⟨b, o, sp⟩ := rfl
      rw [this] at hs
      exact hs
    subst hsp
    have hcells : ∀ (j : Nat) y, (x :: xs)[j]? = some y → w.cell? ⟨b, o + j, none⟩ = some (.string y) := by
      intro j y hy
      have hj := (List.getElem?_eq_some_iff.1 hy).1
      obtain ⟨ad', e', hx'⟩ := Kd.at_string hr0 (j : Int) (by omega) (by omega)
      obtain rfl : (⟨b, o, none⟩ : Addr) = ad' := by injection e'
      rw [Int.toNat_natCast, Addr.add_lit] at hx'
      rw [hx']
      unfold rdOf
      rw [Int.toNat_natCast, List.getD_eq_getElem?_getD, hy]
      rfl
    have hb := World.block_lt_of_cell? w _ (hcells 0 x rfl)
    exact Tryd.strings_Join b o c0 (x :: xs) a1 w hcells hb hc.1 hc0 hc.2
end Go.Proofs.YtcbiilbmldinhaaDoor.PB
end

section
namespace Go.Proofs.YtcbiilbmldinhaaDoor.PB
open Go.RowKit Go.Proofs.YtcbiilbmldinhaaDoorW.PrintWords Go.Proofs.YtcbiilbmldinhaaDoorW.PrintLast Go.Proofs.YtcbiilbmldinhaaDoorW.PrintMore
attribute [local go_sem] max2_int min2_int max_two min_two max_three min_three max_four min_four   
set_option linter.unusedVariables false
set_option linter.unusedSimpArgs false
def label_Print.l0 : Nat → List ByteArray → List Int → Int → Int → Option (ByteArray)
 | 0, _, _, _, _ => none
 | k + 1, x3, x9, x10, x11 => if x11 < x10 then (if 0 ≤ x11 then (if x11 < (x9.length : Int) then ((strconv_Itoa_40.f (rd x9 x11)).bind fun t137 => (if x3.length < 8796093022208 then (label_Print.l0 k (x3 ++ [t137]) x9 x10 (wrap64 (x11 + 1))) else (none))) else (none)) else (none)) else ((strings_Join.f x3 (⟨#[46]⟩ : ByteArray)).bind fun t141 => (some t141))
def label_Print.f (k : Nat) (a0 : Int) : Option (ByteArray) := if a0 = 0 then (some (⟨#[45]⟩ : ByteArray)) else ((label_Cats.f a0).bind fun t133 => (label_Print.l0 k ([] : List ByteArray) t133 (t133.length : Int) 0))
set_option maxHeartbeats 8000000 in
set_option maxRecDepth 100000 in
theorem label_Print.calls (k : Nat) (a0 : Int) (r : ByteArray) (w : World) (h : label_Print.f k a0 = some r) :
  Calls Tryd.prog 41 #[.int .u64 a0] w fun e w' => e = .returned (.string r) ∧ Below w.heap.size w w' := by
 have HB := aM (Below.refl w.heap.size w)
 have H : (if a0 = 0 then (some (⟨#[45]⟩ : ByteArray)) else ((label_Cats.f a0).bind fun t133 => (label_Print.l0 k ([] : List ByteArray) t133 (t133.length : Int) 0))) = some r := h
 clear h
 by_cases c2 : a0 = 0
 ·rw [if_pos c2] at H
  have c2b0 : (a0 == 0) = true := beq_iff_eq.mpr c2
  have c2b1 : (a0 != 0) = false := bne_eq_false_iff_eq.mpr c2
  clear c2
  obtain rfl := Option.some.inj H
  go_enter Tryd.func41, Tryd.ntmps41
  go_wp2
  go_ret
  exact ⟨by first | rfl | (simp [errW_none, errW_some] <;> rfl) | (simp [*, errW_none, errW_some] <;> rfl), by exact ey HB.out⟩
 ·rw [if_neg c2] at H
  have c2b0 : (a0 == 0) = false := beq_eq_false_iff_ne.mpr c2
  have c2b1 : (a0 != 0) = true := bne_iff_ne.mpr c2
  replace H := Option.bind_eq_some_iff.mp H
  obtain ⟨t133, A30, H⟩ := H
  replace H : (label_Print.l0 k ([] : List ByteArray) t133 (t133.length : Int) 0) = some r := H
  have A3 := aM A30
  clear A30
  have H' := aM H
  clear H
  go_enter Tryd.func41, Tryd.ntmps41
  go_wp2_with (first | ((with_reducible refine gate_callee (f := 56) rfl ?_); refine goesL_ (some 9) rfl rfl Tryd.func56 (by kernel_rfl) rfl #[.int .u64 a0] rfl (by (try simp only [mT, mC, mN]); first | done | rfl | (simp only [lD, lT]; rfl)) ?_; (with_reducible refine (label_Cats.calls a0 t133 _ A3.out).mono ?_); rintro e w4 ⟨v134, rfl, ho0, hb⟩; refine ⟨_, rfl, ?_⟩; have n0_ := aM (rL ho0 (bZ (ey HB.out))); have n1_ := aM (bP (ey HB.out) hb); clear HB; have HO135 := n0_; have HB := n1_; clear n0_ n1_; (try clear hb); (try clear hb2); (try clear hk); (try clear hi); (try clear ho0); obtain ⟨Ao5, co5, eo5⟩ := Kd.R_slice HO135.out; subst eo5))
  go_loopg [3, 11] k (fun kq v3 v11 w' => ∃ (x3_1 : List ByteArray) (x11_1 : Int), v11 = .int .i64 x11_1 ∧ Aside0 (label_Print.l0 kq x3_1 t133 (t133.length : Int) x11_1 = some r) ∧ Aside0 (kq ≤ k) ∧ Aside0 (Kd.R Kd.string 9 w' w.heap.size (fun _ => True) v3 x3_1) ∧ Aside0 (Kd.R (Kd.int .i64) 3 w' w.heap.size (fun _ => True) (.slice Ao5 t133.length co5) t133) ∧ Aside0 (Below w.heap.size w w'))
  case atStart => exact ⟨(([] : List ByteArray)), (0), (by first | rfl | (simp; done) | (simp [*]; done)), H', ⟨Nat.le_refl _⟩, ⟨by first | exact Kd.R_nil _ _ _ _ _ | exact Kd.N_nil _ _ _ _ _ | exact Kd.V_nil _ _ _ _ _ | exact Kd.Q_nil _ _ _ _ _ | exact Kd.S_nil _ _ _ _ _⟩, ⟨by exact ry HO135.out⟩, ⟨by exact ey HB.out⟩⟩
  case round =>
   clear H'
   try clear c2
   try clear c2b0
   try clear c2b1
   try clear p2
   try clear c4
   try clear c5
   obtain ⟨x3_1, x11_1, rfl, HA, HK1, HO_3, HO_9, HB⟩ := hrel
   cases gk with
   | zero => exact absurd HA.out (by simp [label_Print.l0])
   | succ k1 =>
    have H := HA.out
    clear HA
    simp only [label_Print.l0] at H
    by_cases c6 : x11_1 < (t133.length : Int)
    ·rw [if_pos c6] at H
     have c6b0 : decide (x11_1 < (t133.length : Int)) = true := decide_eq_true c6
     clear c6
     by_cases c7 : 0 ≤ x11_1
     ·rw [if_pos c7] at H
      have c7b0 : decide (0 ≤ x11_1) = true := decide_eq_true c7
      clear c7
      by_cases c8 : x11_1 < (t133.length : Int)
      ·rw [if_pos c8] at H
       have c8b0 : decide (x11_1 < (t133.length : Int)) = true := decide_eq_true c8
       clear c8
       replace H := Option.bind_eq_some_iff.mp H
       obtain ⟨t137, A90, H⟩ := H
       replace H : (if x3_1.length < 8796093022208 then (label_Print.l0 k1 (x3_1 ++ [t137]) t133 (t133.length : Int) (wrap64 (x11_1 + 1))) else (none)) = some r := H
       have A9 := aM A90
       clear A90
       by_cases c10 : x3_1.length < 8796093022208
       ·rw [if_pos c10] at H
        have LMc10 := aM c10
        clear c10
        obtain ⟨y138, hy138⟩ : ∃ y_ : List ByteArray, y_ = (x3_1 ++ [t137]) := ⟨_, rfl⟩
        replace H : (label_Print.l0 k1 y138 t133 (t133.length : Int) (wrap64 (x11_1 + 1))) = some r := by first | (rw [hy138]; with_reducible exact H) | (have H2_ := (Option.bind_some _ _).symm.trans H; rw [hy138]; with_reducible exact H2_) | (have H2_ := (Option.bind_some _ _).symm.trans H; with_reducible exact H2_) | with_reducible exact H | (rw [hy138]; exact H) | exact H
        have Ny138 := aM hy138
        clear hy138
        have H' := aM H
        clear H
        have p136 : 0 ≤ (x11_1 : Int) := of_decide_eq_true (by first | (with_reducible assumption) | assumption)
        have q136 : x11_1 < (t133.length : Int) := of_decide_eq_true (by first | (with_reducible assumption) | assumption)
        obtain ⟨ad136, e136, hx136_0⟩ := Kd.at_int (rR HO_9.out).2.2 x11_1 p136 q136
        cases e136
        replace p136 := eq_true p136
        replace q136 := eq_true q136
        go_wp2_with (first | ((with_reducible refine gate_callee (f := 40) rfl ?_); refine goesL_ (some 17) rfl rfl Tryd.func40 (by kernel_rfl) rfl #[.int .i64 (rd t133 x11_1)] rfl (by (try simp only [mT, mC, mN]); first | done | rfl | (simp only [lD, lT]; rfl)) ?_; (with_reducible refine (strconv_Itoa_40.calls (rd t133 x11_1) t137 _ A9.out).mono ?_); rintro e w11 ⟨rfl, hb⟩; refine ⟨_, rfl, ?_⟩; have n0_ := aM (Kd.R_below (ry HO_3.out) hb); have n1_ := aM (Kd.R_below (ry HO_9.out) hb); have n2_ := aM (bP (ey HB.out) hb); clear HO_3 HO_9 HB; have HO_3 := n0_; have HO_9 := n1_; have HB := n2_; clear n0_ n1_ n2_; (try clear hb); (try clear hb2); (try clear hk); (try clear hi)) | ((with_reducible refine gate_builtin (b := .append) (xs := #[.tmp 15, .tmp 18]) rfl ?_); at_builtin; refine Kd.R_append Kd.string (w0 := w) w.heap.size rfl (.tmp 15) (.tmp 18) 77 9 (.string ⟨#[]⟩) 16 rfl Tryd.underlying77 info9 rfl (by decide) (by omega) u3 x3_1 t137 [.string t137] (fun _ => True) (fun _ => False) rfl rfl ?aP (fun _ hk => hk.elim) ?aF ?aO ?aB ?aS ?aL ?_; (case aP => exact rfl); (case aB => exact (ey HB.out)); (case aF => exact (fun _ _ => trivial)); (case aO => exact (ry HO_3.out)); (case aS => exact (bZ (ey HB.out))); (case aL => have := LMc10.out; omega); intro v139 w12 ho hb hg hat; rw [← Ny138.out] at ho; have n0_ := aM (Kd.R_over' (ry HO_9.out) (Kd.R_typed (ry HO_3.out)) (by decide) hg); have n1_ := aM (hb); have n2_ := aM (ho); clear HO_9 HB HO_3; have HO_9 := n0_; have HB := n1_; have HO140 := n2_; clear n0_ n1_ n2_; clear ho hb hg hat))
        go_roundg k1
        case measure => have := HK1.out; omega
        case rel => exact ⟨(y138), (wrap64 (x11_1 + 1)), (by first | rfl | (simp; done) | (simp [*]; done)), H', ⟨by have := HK1.out; omega⟩, ⟨by exact ry HO140.out⟩, ⟨by exact ry HO_9.out⟩, ⟨by exact ey HB.out⟩⟩
       ·rw [if_neg c10] at H
        exact absurd H (by simp)
      ·rw [if_neg c8] at H
       exact absurd H (by simp)
     ·rw [if_neg c7] at H
      exact absurd H (by simp)
    ·rw [if_neg c6] at H
     have c6b0 : decide (x11_1 < (t133.length : Int)) = false := decide_eq_false c6
     clear c6
     replace H := Option.bind_eq_some_iff.mp H
     obtain ⟨t141, A130, H⟩ := H
     replace H : (some t141) = some r := H
     have A13 := aM A130
     clear A130
     obtain rfl := Option.some.inj H
     obtain ⟨Ao14, co14, eo14⟩ := Kd.R_slice HO_3.out
     subst eo14
     go_wp2_with (first | ((with_reducible refine gate_callee (f := 38) rfl ?_); refine goesL_ (some 22) rfl rfl Tryd.func38 (by kernel_rfl) rfl #[.slice Ao14 x3_1.length co14, .string (⟨#[46]⟩ : ByteArray)] rfl (by (try simp only [mT, mC, mN]); first | done | rfl | (simp only [lD, lT]; rfl)) ?_; (with_reducible refine (strings_Join.calls _ _ x3_1 (⟨#[46]⟩ : ByteArray) t141 _ ?side1 ?side2 A13.out).mono ?_); (case side1 => repeat (first | exact (rR HO_3.out).2.2 | (with_reducible refine Kd.C_alloc ?_ _) | (with_reducible refine Kd.C_drewN ?_ _) | (with_reducible refine Kd.C_drew ?_))); (case side2 => exact (rR HO_3.out).2.1); rintro e w15 ⟨rfl, hb⟩; refine ⟨_, rfl, ?_⟩; have n0_ := aM (Kd.R_below (ry HO_3.out) hb); have n1_ := aM (Kd.R_below (ry HO_9.out) hb); have n2_ := aM (bP (ey HB.out) hb); clear HO_3 HO_9 HB; have HO_3 := n0_; have HO_9 := n1_; have HB := n2_; clear n0_ n1_ n2_; (try clear hb); (try clear hb2); (try clear hk); (try clear hi)))
     go_ret
     exact ⟨by first | rfl | (simp [errW_none, errW_some] <;> rfl) | (simp [*, errW_none, errW_some] <;> rfl), by exact ey HB.out⟩
end Go.Proofs.YtcbiilbmldinhaaDoor.PB
end

section
namespace Go.Proofs.YtcbiilbmldinhaaDoor.PB
open Go.RowKit Go.Proofs.YtcbiilbmldinhaaDoorW.PrintWords Go.Proofs.YtcbiilbmldinhaaDoorW.PrintLast Go.Proofs.YtcbiilbmldinhaaDoorW.PrintMore
attribute [local go_sem] max2_int min2_int max_two min_two max_three min_three max_four min_four   
set_option linter.unusedVariables false
set_option linter.unusedSimpArgs false
def audit_Print.f (k : Nat) (a0_0 : Int) (a0_1 : Int) (a0_2 : Int) (a0_3 : Int) (a0_4 : Int) : Option (ByteArray × Int) := (audit_Record_may.f k a0_0 a0_1 a0_2 a0_3 a0_4).bind fun t143 => (if t143 = true then ((audit_word.f a0_1).bind fun t144 => ((strconv_Itoa_40.f a0_2).bind fun t145 => ((strconv_Itoa_40.f a0_3).bind fun t146 => ((strconv_Itoa_40.f a0_4).bind fun t147 => ((label_Print.f k a0_0).bind fun t148 => ((strings_Join.f (([t144, t145, t146, t147, t148] : List ByteArray)) (⟨#[32]⟩ : ByteArray)).bind fun t152 => (some (t152, 0)))))))) else (some ((⟨#[]⟩ : ByteArray), 2)))
def audit_Print.T3 : Bool × List (List Nat × List Nat) := (true, [([], []), ([0], [0]), ([1], [1]), ([], []), ([3], [3]), ([4, 2], [4]), ([], []), ([6], [6]), ([7, 5], [7]), ([], []), ([9], [9]), ([10, 8], [10]), ([], []), ([12], [12]), ([13, 11], [13]), ([2, 5, 8, 11, 14], [2, 5, 8, 11, 14]), ([15, 14], [15]), ([16, 16, 0, 1, 2, 3, 4, 5, 6, 7, 8, 9, 10, 11, 12, 13, 14, 15, 16], [16]), ([17, 0, 1, 2, 3, 4, 5, 6, 7, 8, 9, 10, 11, 12, 13, 14, 15, 16, 17], [])])
def audit_Print.B3 : List Nat := [0, 1, 3, 0, 8, 31, 0, 64, 255, 0, 512, 2047, 0, 4096, 16383, 32767, 65535, 131071, 262143]
theorem audit_Print.tab3 : rtab .any (opsOf Tryd.f26 3) = audit_Print.T3 := by kernel_rfl
theorem audit_Print.bits3 : waitsOk audit_Print.T3.2 audit_Print.B3 = true := by kernel_rfl
set_option maxHeartbeats 8000000 in
set_option maxRecDepth 100000 in
theorem audit_Print.calls (k : Nat) (a0_0 : Int) (a0_1 : Int) (a0_2 : Int) (a0_3 : Int) (a0_4 : Int) (r1 : ByteArray) (r2 : Int) (w : World) (h : audit_Print.f k a0_0 a0_1 a0_2 a0_3 a0_4 = some (r1, r2)) :
  Calls Tryd.prog 26 #[.agg #[.int .u64 a0_0, .int .i64 a0_1, .int .i64 a0_2, .int .i64 a0_3, .int .i64 a0_4]] w fun e w' => e = .returned (.tuple #[.string r1, .int .i64 r2]) ∧ Below w.heap.size w w' := by
 have hu36 := Tryd.underlying36
 have HB := aM (Below.refl w.heap.size w)
 have H : ((audit_Record_may.f k a0_0 a0_1 a0_2 a0_3 a0_4).bind fun t143 => (if t143 = true then ((audit_word.f a0_1).bind fun t144 => ((strconv_Itoa_40.f a0_2).bind fun t145 => ((strconv_Itoa_40.f a0_3).bind fun t146 => ((strconv_Itoa_40.f a0_4).bind fun t147 => ((label_Print.f k a0_0).bind fun t148 => ((strings_Join.f (([t144, t145, t146, t147, t148] : List ByteArray)) (⟨#[32]⟩ : ByteArray)).bind fun t152 => (some (t152, 0)))))))) else (some ((⟨#[]⟩ : ByteArray), 2)))) = some (r1, r2) := h
 clear h
 replace H := Option.bind_eq_some_iff.mp H
 obtain ⟨t143, A20, H⟩ := H
 replace H : (if t143 = true then ((audit_word.f a0_1).bind fun t144 => ((strconv_Itoa_40.f a0_2).bind fun t145 => ((strconv_Itoa_40.f a0_3).bind fun t146 => ((strconv_Itoa_40.f a0_4).bind fun t147 => ((label_Print.f k a0_0).bind fun t148 => ((strings_Join.f (([t144, t145, t146, t147, t148] : List ByteArray)) (⟨#[32]⟩ : ByteArray)).bind fun t152 => (some (t152, 0)))))))) else (some ((⟨#[]⟩ : ByteArray), 2))) = some (r1, r2) := H
 have A2 := aM A20
 clear A20
 by_cases c3 : t143 = true
 ·subst c3
  have H1 : ((audit_word.f a0_1).bind fun t144 => ((strconv_Itoa_40.f a0_2).bind fun t145 => ((strconv_Itoa_40.f a0_3).bind fun t146 => ((strconv_Itoa_40.f a0_4).bind fun t147 => ((label_Print.f k a0_0).bind fun t148 => ((strings_Join.f (([t144, t145, t146, t147, t148] : List ByteArray)) (⟨#[32]⟩ : ByteArray)).bind fun t152 => (some (t152, 0)))))))) = some (r1, r2) := by rw [if_pos rfl] at H; exact H
  clear H
  have H := H1
  clear H1
  replace H := Option.bind_eq_some_iff.mp H
  obtain ⟨t144, A40, H⟩ := H
  replace H : ((strconv_Itoa_40.f a0_2).bind fun t145 => ((strconv_Itoa_40.f a0_3).bind fun t146 => ((strconv_Itoa_40.f a0_4).bind fun t147 => ((label_Print.f k a0_0).bind fun t148 => ((strings_Join.f (([t144, t145, t146, t147, t148] : List ByteArray)) (⟨#[32]⟩ : ByteArray)).bind fun t152 => (some (t152, 0))))))) = some (r1, r2) := H
  have A4 := aM A40
  clear A40
  replace H := Option.bind_eq_some_iff.mp H
  obtain ⟨t145, A50, H⟩ := H
  replace H : ((strconv_Itoa_40.f a0_3).bind fun t146 => ((strconv_Itoa_40.f a0_4).bind fun t147 => ((label_Print.f k a0_0).bind fun t148 => ((strings_Join.f (([t144, t145, t146, t147, t148] : List ByteArray)) (⟨#[32]⟩ : ByteArray)).bind fun t152 => (some (t152, 0)))))) = some (r1, r2) := H
  have A5 := aM A50
  clear A50
  replace H := Option.bind_eq_some_iff.mp H
  obtain ⟨t146, A60, H⟩ := H
  replace H : ((strconv_Itoa_40.f a0_4).bind fun t147 => ((label_Print.f k a0_0).bind fun t148 => ((strings_Join.f (([t144, t145, t146, t147, t148] : List ByteArray)) (⟨#[32]⟩ : ByteArray)).bind fun t152 => (some (t152, 0))))) = some (r1, r2) := H
  have A6 := aM A60
  clear A60
  replace H := Option.bind_eq_some_iff.mp H
  obtain ⟨t147, A70, H⟩ := H
  replace H : ((label_Print.f k a0_0).bind fun t148 => ((strings_Join.f (([t144, t145, t146, t147, t148] : List ByteArray)) (⟨#[32]⟩ : ByteArray)).bind fun t152 => (some (t152, 0)))) = some (r1, r2) := H
  have A7 := aM A70
  clear A70
  replace H := Option.bind_eq_some_iff.mp H
  obtain ⟨t148, A80, H⟩ := H
  replace H : ((strings_Join.f (([t144, t145, t146, t147, t148] : List ByteArray)) (⟨#[32]⟩ : ByteArray)).bind fun t152 => (some (t152, 0))) = some (r1, r2) := H
  have A8 := aM A80
  clear A80
  obtain ⟨y149, hy149⟩ : ∃ y_ : List ByteArray, y_ = (([t144, t145, t146, t147, t148] : List ByteArray)) := ⟨_, rfl⟩
  replace H : ((strings_Join.f y149 (⟨#[32]⟩ : ByteArray)).bind fun t152 => (some (t152, 0))) = some (r1, r2) := by first | (rw [hy149]; with_reducible exact H) | (have H2_ := (Option.bind_some _ _).symm.trans H; rw [hy149]; with_reducible exact H2_) | (have H2_ := (Option.bind_some _ _).symm.trans H; with_reducible exact H2_) | with_reducible exact H | (rw [hy149]; exact H) | exact H
  have Ny149 := aM hy149
  clear hy149
  replace H := Option.bind_eq_some_iff.mp H
  obtain ⟨t152, A90, H⟩ := H
  replace H : (some (t152, 0)) = some (r1, r2) := H
  have A9 := aM A90
  clear A90
  simp only [Option.some.injEq, Prod.mk.injEq] at H
  obtain ⟨rfl, rfl⟩ := H
  go_enter Tryd.func26, Tryd.ntmps26
  try go_wp2_with (first | ((with_reducible refine gate_dst (N := 1) rfl ?_); refine box_event ?hg (N := 1) ?hd (cs := #[.int .u64 a0_0, .int .i64 a0_1, .int .i64 a0_2, .int .i64 a0_3, .int .i64 a0_4]) (t := 36) ?hr ?_; (case hd | hg => rfl); (case hr => first | (go_simp; done) | (go_simp; rfl)); intro gb142 hg w10 hbox hb; have n0_ := aM (bP (ey HB.out) hb); have n1_ := aM (hbox); have n2_ := aM ((by rw [hg]; exact (bZ (ey HB.out)) : w.heap.size ≤ gb142)); have n3_ := n2_; clear HB; have HB := n0_; have BK142 := n1_; have GW142 := n2_; have GE142 := n3_; clear n0_ n1_ n2_ n3_; clear hb hbox hg; have hcz11_0 := zC BK142.out 0 (.int .u64 a0_0); have hcz11_1 := zC BK142.out 1 (.int .i64 a0_1); have hcz11_2 := zC BK142.out 2 (.int .i64 a0_2); have hcz11_3 := zC BK142.out 3 (.int .i64 a0_3); have hcz11_4 := zC BK142.out 4 (.int .i64 a0_4); have hfz11_0 := bF BK142.out 0; have hfz11_1 := bF BK142.out 1; have hfz11_2 := bF BK142.out 2; have hfz11_3 := bF BK142.out 3; have hfz11_4 := bF BK142.out 4) | ((with_reducible refine gate_callee (f := 33) rfl ?_); refine goesL_ (some 5) rfl rfl Tryd.func33 (by kernel_rfl) rfl #[.agg #[.int .u64 a0_0, .int .i64 a0_1, .int .i64 a0_2, .int .i64 a0_3, .int .i64 a0_4]] rfl (by (try simp only [mT, mC, mN]); first | done | rfl | (simp only [lD, lT]; rfl)) ?_; (with_reducible refine (audit_Record_may.calls k a0_0 a0_1 a0_2 a0_3 a0_4 true _ A2.out).mono ?_); rintro e w12 ⟨rfl, hb⟩; refine ⟨_, rfl, ?_⟩; have n0_ := aM (bB (g := gb142) (qy BK142.out) hb); have n1_ := aM (bP (by repeat (first | (with_reducible first | exact HB.out | apply ea | apply en | apply ed | refine es ?_ GE142.out) | exact HB.out)) hb); clear BK142 HB; have BK142 := n0_; have HB := n1_; clear n0_ n1_; (try clear hb); (try clear hb2); (try clear hk); (try clear hi)))
  have n0_ := aM (blk_drew BK142.out)
  have n1_ := aM (below_drew1 HB.out)
  clear BK142
  clear HB
  have BK142 := n0_
  have HB := n1_
  clear n0_ n1_
  refine start_ (n := 19) (S := fun w' => w'.cell? ⟨gb142, 0, none⟩ = some (.int .u64 a0_0) ∧ w'.cell? ⟨gb142, 1, none⟩ = some (.int .i64 a0_1) ∧ w'.cell? ⟨gb142, 2, none⟩ = some (.int .i64 a0_2) ∧ w'.cell? ⟨gb142, 3, none⟩ = some (.int .i64 a0_3) ∧ w'.cell? ⟨gb142, 4, none⟩ = some (.int .i64 a0_4)) (ds := []) b0_ (by kernel_rfl) rfl rfl ⟨(bC BK142.out 0).trans rfl, (bC BK142.out 1).trans rfl, (bC BK142.out 2).trans rfl, (bC BK142.out 3).trans rfl, (bC BK142.out 4).trans rfl⟩ (fun hHeld => ?_); refine with_tabW audit_Print.tab3 audit_Print.bits3 (fun HT_ HW_ => ?_)
  generalize w12.drew = w13 at BK142 HB hHeld ⊢
  refine pure_ (i := 0) (N := some 7) (v := ?_) (a' := ?_) b1_ rfl rfl (any_of HT_.out (by kernel_rfl)) (fun _ _ _ h => h) (Or.inl ⟨by rfl, ?_⟩) ?_ ?_
  rotate_left
  ·intro w'
   go_simp
   with_reducible rfl
  rotate_left
  ·simp only [Act.put, sA, sZ, sS, i64_w, i32_w]
   rfl
  refine pure_ (i := 3) (N := some 10) (v := ?_) (a' := ?_) b2_ rfl rfl (any_of HT_.out (by kernel_rfl)) (fun _ _ _ h => h) (Or.inl ⟨by rfl, ?_⟩) ?_ ?_
  rotate_left
  ·intro w'
   go_simp
   with_reducible rfl
  rotate_left
  ·simp only [Act.put, sA, sZ, sS, i64_w, i32_w]
   rfl
  refine pure_ (i := 6) (N := some 13) (v := ?_) (a' := ?_) b3_ rfl rfl (any_of HT_.out (by kernel_rfl)) (fun _ _ _ h => h) (Or.inl ⟨by rfl, ?_⟩) ?_ ?_
  rotate_left
  ·intro w'
   go_simp
   with_reducible rfl
  rotate_left
  ·simp only [Act.put, sA, sZ, sS, i64_w, i32_w]
   rfl
  refine pure_ (i := 9) (N := some 16) (v := ?_) (a' := ?_) b4_ rfl rfl (any_of HT_.out (by kernel_rfl)) (fun _ _ _ h => h) (Or.inl ⟨by rfl, ?_⟩) ?_ ?_
  rotate_left
  ·intro w'
   go_simp
   with_reducible rfl
  rotate_left
  ·simp only [Act.put, sA, sZ, sS, i64_w, i32_w]
   rfl
  refine pure_ (i := 12) (N := some 19) (v := ?_) (a' := ?_) b5_ rfl rfl (any_of HT_.out (by kernel_rfl)) (fun _ _ _ h => h) (Or.inl ⟨by rfl, ?_⟩) ?_ ?_
  rotate_left
  ·intro w'
   go_simp
   with_reducible rfl
  rotate_left
  ·simp only [Act.put, sA, sZ, sS, i64_w, i32_w]
   rfl
  refine take_ (i := 1) (N := some 8) (v := ?_) (a' := ?_) b6_ rfl rfl (take_ofW HT_.out HW_.out (by kernel_rfl)) (fun _ _ _ h => h) (Or.inl ⟨by rfl, ?_⟩) hHeld ?_ ?_
  rotate_left
  ·rintro w' ⟨s0, s1, s2, s3, s4⟩
   go_simp
   with_reducible rfl
  rotate_left
  ·simp only [Act.put, sA, sZ, sS, i64_w, i32_w]
   rfl
  refine take_ (i := 4) (N := some 11) (v := ?_) (a' := ?_) b7_ rfl rfl (take_ofW HT_.out HW_.out (by kernel_rfl)) (fun _ _ _ h => h) (Or.inl ⟨by rfl, ?_⟩) hHeld ?_ ?_
  rotate_left
  ·rintro w' ⟨s0, s1, s2, s3, s4⟩
   go_simp
   with_reducible rfl
  rotate_left
  ·simp only [Act.put, sA, sZ, sS, i64_w, i32_w]
   rfl
  refine take_ (i := 7) (N := some 14) (v := ?_) (a' := ?_) b8_ rfl rfl (take_ofW HT_.out HW_.out (by kernel_rfl)) (fun _ _ _ h => h) (Or.inl ⟨by rfl, ?_⟩) hHeld ?_ ?_
  rotate_left
  ·rintro w' ⟨s0, s1, s2, s3, s4⟩
   go_simp
   with_reducible rfl
  rotate_left
  ·simp only [Act.put, sA, sZ, sS, i64_w, i32_w]
   rfl
  refine take_ (i := 10) (N := some 17) (v := ?_) (a' := ?_) b9_ rfl rfl (take_ofW HT_.out HW_.out (by kernel_rfl)) (fun _ _ _ h => h) (Or.inl ⟨by rfl, ?_⟩) hHeld ?_ ?_
  rotate_left
  ·rintro w' ⟨s0, s1, s2, s3, s4⟩
   go_simp
   with_reducible rfl
  rotate_left
  ·simp only [Act.put, sA, sZ, sS, i64_w, i32_w]
   rfl
  refine take_ (i := 13) (N := some 20) (v := ?_) (a' := ?_) b10_ rfl rfl (take_ofW HT_.out HW_.out (by kernel_rfl)) (fun _ _ _ h => h) (Or.inl ⟨by rfl, ?_⟩) hHeld ?_ ?_
  rotate_left
  ·rintro w' ⟨s0, s1, s2, s3, s4⟩
   go_simp
   with_reducible rfl
  rotate_left
  ·simp only [Act.put, sA, sZ, sS, i64_w, i32_w]
   rfl
  refine one_ (i := 2) (N := some 9) b11_ rfl rfl (one_of HT_.out (by kernel_rfl)) (by decide) (fun K hK => ?_)
  refine goes_ Tryd.func39 (by kernel_rfl) rfl #[.int .i64 a0_1] (by rfl) rfl rfl (by (try simp only [mT, mC, mN]); first | done | rfl | (simp only [lD, lT]; rfl)) ?_
  with_reducible refine (audit_word.calls a0_1 t144 _ A4.out).mono ?_
  rintro e w' ⟨rfl, ⟨nd, rfl⟩⟩
  refine ⟨_, rfl, ?_⟩
  refine hK.out _ _ ⟨(bC BK142.out 0).trans rfl, (bC BK142.out 1).trans rfl, (bC BK142.out 2).trans rfl, (bC BK142.out 3).trans rfl, (bC BK142.out 4).trans rfl⟩ (fun hHeld => ?_)
  clear hK K
  refine norm_ (a' := ?_) ?_ ?_
  rotate_left
  ·show Act.put _ (some 9) _ = _
   simp only [Act.put, sA, sZ, sS, i64_w, i32_w]
   rfl
  refine one_ (i := 5) (N := some 12) b12_ rfl rfl (one_of HT_.out (by kernel_rfl)) (by decide) (fun K hK => ?_)
  refine goes_ Tryd.func40 (by kernel_rfl) rfl #[.int .i64 a0_2] (by rfl) rfl rfl (by (try simp only [mT, mC, mN]); first | done | rfl | (simp only [lD, lT]; rfl)) ?_
  with_reducible refine (strconv_Itoa_40.calls a0_2 t145 _ A5.out).mono ?_
  rintro e w14 ⟨rfl, hb⟩
  refine ⟨_, rfl, ?_⟩
  have n0_ := aM (bB (g := gb142) (qy BK142.out) hb)
  have n1_ := aM (bP (by repeat (first | (with_reducible first | exact HB.out | apply ea | apply en | apply ed | refine es ?_ GE142.out) | exact HB.out)) hb)
  clear BK142
  clear HB
  have BK142 := n0_
  have HB := n1_
  clear n0_ n1_
  (try clear hb)
  (try clear hb2)
  (try clear hk)
  (try clear hi)
  refine hK.out _ _ ⟨(bC BK142.out 0).trans rfl, (bC BK142.out 1).trans rfl, (bC BK142.out 2).trans rfl, (bC BK142.out 3).trans rfl, (bC BK142.out 4).trans rfl⟩ (fun hHeld => ?_)
  clear hK K
  refine norm_ (a' := ?_) ?_ ?_
  rotate_left
  ·show Act.put _ (some 12) _ = _
   simp only [Act.put, sA, sZ, sS, i64_w, i32_w]
   rfl
  refine one_ (i := 8) (N := some 15) b13_ rfl rfl (one_of HT_.out (by kernel_rfl)) (by decide) (fun K hK => ?_)
  refine goes_ Tryd.func40 (by kernel_rfl) rfl #[.int .i64 a0_3] (by rfl) rfl rfl (by (try simp only [mT, mC, mN]); first | done | rfl | (simp only [lD, lT]; rfl)) ?_
  with_reducible refine (strconv_Itoa_40.calls a0_3 t146 _ A6.out).mono ?_
  rintro e w15 ⟨rfl, hb⟩
  refine ⟨_, rfl, ?_⟩
  have n0_ := aM (bB (g := gb142) (qy BK142.out) hb)
  have n1_ := aM (bP (by repeat (first | (with_reducible first | exact HB.out | apply ea | apply en | apply ed | refine es ?_ GE142.out) | exact HB.out)) hb)
  clear BK142
  clear HB
  have BK142 := n0_
  have HB := n1_
  clear n0_ n1_
  (try clear hb)
  (try clear hb2)
  (try clear hk)
  (try clear hi)
  refine hK.out _ _ ⟨(bC BK142.out 0).trans rfl, (bC BK142.out 1).trans rfl, (bC BK142.out 2).trans rfl, (bC BK142.out 3).trans rfl, (bC BK142.out 4).trans rfl⟩ (fun hHeld => ?_)
  clear hK K
  refine norm_ (a' := ?_) ?_ ?_
  rotate_left
  ·show Act.put _ (some 15) _ = _
   simp only [Act.put, sA, sZ, sS, i64_w, i32_w]
   rfl
  refine one_ (i := 11) (N := some 18) b14_ rfl rfl (one_of HT_.out (by kernel_rfl)) (by decide) (fun K hK => ?_)
  refine goes_ Tryd.func40 (by kernel_rfl) rfl #[.int .i64 a0_4] (by rfl) rfl rfl (by (try simp only [mT, mC, mN]); first | done | rfl | (simp only [lD, lT]; rfl)) ?_
  with_reducible refine (strconv_Itoa_40.calls a0_4 t147 _ A7.out).mono ?_
  rintro e w16 ⟨rfl, hb⟩
  refine ⟨_, rfl, ?_⟩
  have n0_ := aM (bB (g := gb142) (qy BK142.out) hb)
  have n1_ := aM (bP (by repeat (first | (with_reducible first | exact HB.out | apply ea | apply en | apply ed | refine es ?_ GE142.out) | exact HB.out)) hb)
  clear BK142
  clear HB
  have BK142 := n0_
  have HB := n1_
  clear n0_ n1_
  (try clear hb)
  (try clear hb2)
  (try clear hk)
  (try clear hi)
  refine hK.out _ _ ⟨(bC BK142.out 0).trans rfl, (bC BK142.out 1).trans rfl, (bC BK142.out 2).trans rfl, (bC BK142.out 3).trans rfl, (bC BK142.out 4).trans rfl⟩ (fun hHeld => ?_)
  clear hK K
  refine norm_ (a' := ?_) ?_ ?_
  rotate_left
  ·show Act.put _ (some 18) _ = _
   simp only [Act.put, sA, sZ, sS, i64_w, i32_w]
   rfl
  refine one_ (i := 14) (N := some 21) b15_ rfl rfl (one_of HT_.out (by kernel_rfl)) (by decide) (fun K hK => ?_)
  refine goes_ Tryd.func41 (by kernel_rfl) rfl #[.int .u64 a0_0] (by rfl) rfl rfl (by (try simp only [mT, mC, mN]); first | done | rfl | (simp only [lD, lT]; rfl)) ?_
  with_reducible refine (label_Print.calls k a0_0 t148 _ A8.out).mono ?_
  rintro e w17 ⟨rfl, hb⟩
  refine ⟨_, rfl, ?_⟩
  have n0_ := aM (bB (g := gb142) (qy BK142.out) hb)
  have n1_ := aM (bP (by repeat (first | (with_reducible first | exact HB.out | apply ea | apply en | apply ed | refine es ?_ GE142.out) | exact HB.out)) hb)
  clear BK142
  clear HB
  have BK142 := n0_
  have HB := n1_
  clear n0_ n1_
  (try clear hb)
  (try clear hb2)
  (try clear hk)
  (try clear hi)
  refine hK.out _ _ ⟨(bC BK142.out 0).trans rfl, (bC BK142.out 1).trans rfl, (bC BK142.out 2).trans rfl, (bC BK142.out 3).trans rfl, (bC BK142.out 4).trans rfl⟩ (fun hHeld => ?_)
  clear hK K
  refine norm_ (a' := ?_) ?_ ?_
  rotate_left
  ·show Act.put _ (some 21) _ = _
   simp only [Act.put, sA, sZ, sS, i64_w, i32_w]
   rfl
  refine one_ (i := 15) (N := some 22) b16_ rfl rfl (one_of HT_.out (by kernel_rfl)) (by decide) (fun K hK => ?_)
  refine Kd.R_lit_step Kd.string _ 9 ?hg (N := 22) ?hd (xs := ([t144, t145, t146, t147, t148] : List ByteArray)) (inner := [.string t144, .string t145, .string t146, .string t147, .string t148]) (ok := fun _ => True) (okp := fun _ => True) ?hr ?hp (fun _ hk => hk) trivial (Below.refl _ _) (Nat.le_refl _) (by simp) ?_; (case hd | hg => rfl); (case hr => first | (go_simp; done) | (go_simp; rfl)); (case hp => exact (Reps.one (show Kd.M Kd.string _ _ _ t144 [.string t144] from rfl) (Reps.one (show Kd.M Kd.string _ _ _ t145 [.string t145] from rfl) (Reps.one (show Kd.M Kd.string _ _ _ t146 [.string t146] from rfl) (Reps.one (show Kd.M Kd.string _ _ _ t147 [.string t147] from rfl) (Reps.one (show Kd.M Kd.string _ _ _ t148 [.string t148] from rfl) (Reps.none _ _)))))))
  intro v150 w18 ho19 hb hg_ hnew_
  clear hg_ hnew_
  (first | rw [← Ny149.out] at ho19 | (simp only [Int.reduceToNat] at ho19; rw [← Ny149.out] at ho19))
  have n0_ := aM (rL ho19 (bZ (by repeat (first | (with_reducible first | exact HB.out | apply ea | apply en | apply ed | refine es ?_ GE142.out) | exact HB.out))))
  have n1_ := aM (bB (g := gb142) (qy BK142.out) hb)
  have n2_ := aM (bP (by repeat (first | (with_reducible first | exact HB.out | apply ea | apply en | apply ed | refine es ?_ GE142.out) | exact HB.out)) hb)
  clear BK142
  clear HB
  have HO151 := n0_
  have BK142 := n1_
  have HB := n2_
  clear n0_ n1_ n2_
  clear hb ho19
  obtain ⟨Ao20, co20, eo20⟩ := Kd.R_slice HO151.out
  (first | subst eo20 | (injection eo20 with f1_ f2_ f3_; have f4_ := f1_.symm; have f5_ := f3_.symm; clear f1_ f2_ f3_; subst f4_; subst f5_))
  refine hK.out _ _ ⟨(bC BK142.out 0).trans rfl, (bC BK142.out 1).trans rfl, (bC BK142.out 2).trans rfl, (bC BK142.out 3).trans rfl, (bC BK142.out 4).trans rfl⟩ (fun hHeld => ?_)
  clear hK K
  refine norm_ (a' := ?_) ?_ ?_
  rotate_left
  ·show Act.put _ (some 22) _ = _
   simp only [Act.put, sA, sZ, sS, i64_w, i32_w]
   rfl
  refine one_ (i := 16) (N := some 23) b17_ rfl rfl (one_of HT_.out (by kernel_rfl)) (by decide) (fun K hK => ?_)
  refine goes_ Tryd.func38 (by kernel_rfl) rfl #[.slice Ao20 y149.length co20, .string (⟨#[32]⟩ : ByteArray)] (by rfl) rfl rfl (by (try simp only [mT, mC, mN]); first | done | rfl | (simp only [lD, lT]; rfl)) ?_
  with_reducible refine (strings_Join.calls _ _ y149 (⟨#[32]⟩ : ByteArray) t152 _ ?side1 ?side2 A9.out).mono ?_
  (case side1 => repeat (first | exact (rR HO151.out).2.2 | (with_reducible refine Kd.C_alloc ?_ _) | (with_reducible refine Kd.C_drewN ?_ _) | (with_reducible refine Kd.C_drew ?_)))
  (case side2 => exact (rR HO151.out).2.1)
  rintro e w21 ⟨rfl, hb⟩
  refine ⟨_, rfl, ?_⟩
  have n0_ := aM (Kd.R_below (ry HO151.out) hb)
  have n1_ := aM (bB (g := gb142) (qy BK142.out) hb)
  have n2_ := aM (bP (by repeat (first | (with_reducible first | exact HB.out | apply ea | apply en | apply ed | refine es ?_ GE142.out) | exact HB.out)) hb)
  clear HO151
  clear BK142
  clear HB
  have HO151 := n0_
  have BK142 := n1_
  have HB := n2_
  clear n0_ n1_ n2_
  (try clear hb)
  (try clear hb2)
  (try clear hk)
  (try clear hi)
  refine hK.out _ _ ⟨(bC BK142.out 0).trans rfl, (bC BK142.out 1).trans rfl, (bC BK142.out 2).trans rfl, (bC BK142.out 3).trans rfl, (bC BK142.out 4).trans rfl⟩ (fun hHeld => ?_)
  clear hK K
  refine norm_ (a' := ?_) ?_ ?_
  rotate_left
  ·show Act.put _ (some 23) _ = _
   simp only [Act.put, sA, sZ, sS, i64_w, i32_w]
   rfl
  refine pure_ (i := 17) (N := some 2) (v := ?_) (a' := ?_) b18_ rfl rfl (any_of HT_.out (by kernel_rfl)) (fun _ _ _ h => h) (Or.inl ⟨by rfl, ?_⟩) ?_ ?_
  rotate_left
  ·intro w'
   go_simp
   with_reducible rfl
  rotate_left
  ·simp only [Act.put, sA, sZ, sS, i64_w, i32_w]
   rfl
  refine pure_ (i := 18) (N := some 3) (v := ?_) (a' := ?_) b19_ rfl rfl (any_of HT_.out (by kernel_rfl)) (fun _ _ _ h => h) (Or.inl ⟨by rfl, ?_⟩) ?_ ?_
  rotate_left
  ·intro w'
   go_simp
   with_reducible rfl
  rotate_left
  ·simp only [Act.put, sA, sZ, sS, i64_w, i32_w]
   rfl
  refine done_ (done_of HT_.out (by kernel_rfl)) ?_
  try go_wp2
  go_ret2
  exact ⟨by first | rfl | (simp [errW_none, errW_some] <;> rfl) | (simp [*, errW_none, errW_some] <;> rfl), by repeat (first | (with_reducible first | exact HB.out | apply ea | apply en | apply ed | refine es ?_ GE142.out) | exact HB.out)⟩
 ·replace c3 := Bool.eq_false_iff.mpr c3
  subst c3
  have H1 : (some ((⟨#[]⟩ : ByteArray), 2)) = some (r1, r2) := by rw [if_neg (show ¬ (false = true) by decide)] at H; exact H
  clear H
  have H := H1
  clear H1
  simp only [Option.some.injEq, Prod.mk.injEq] at H
  obtain ⟨rfl, rfl⟩ := H
  go_enter Tryd.func26, Tryd.ntmps26
  go_wp2_with (first | ((with_reducible refine gate_dst (N := 1) rfl ?_); refine box_event ?hg (N := 1) ?hd (cs := #[.int .u64 a0_0, .int .i64 a0_1, .int .i64 a0_2, .int .i64 a0_3, .int .i64 a0_4]) (t := 36) ?hr ?_; (case hd | hg => rfl); (case hr => first | (go_simp; done) | (go_simp; rfl)); intro gb142 hg w22 hbox hb; have n0_ := aM (bP (ey HB.out) hb); have n1_ := aM (hbox); have n2_ := aM ((by rw [hg]; exact (bZ (ey HB.out)) : w.heap.size ≤ gb142)); have n3_ := n2_; clear HB; have HB := n0_; have BK142 := n1_; have GW142 := n2_; have GE142 := n3_; clear n0_ n1_ n2_ n3_; clear hb hbox hg; have hcz23_0 := zC BK142.out 0 (.int .u64 a0_0); have hcz23_1 := zC BK142.out 1 (.int .i64 a0_1); have hcz23_2 := zC BK142.out 2 (.int .i64 a0_2); have hcz23_3 := zC BK142.out 3 (.int .i64 a0_3); have hcz23_4 := zC BK142.out 4 (.int .i64 a0_4); have hfz23_0 := bF BK142.out 0; have hfz23_1 := bF BK142.out 1; have hfz23_2 := bF BK142.out 2; have hfz23_3 := bF BK142.out 3; have hfz23_4 := bF BK142.out 4) | ((with_reducible refine gate_callee (f := 33) rfl ?_); refine goesL_ (some 5) rfl rfl Tryd.func33 (by kernel_rfl) rfl #[.agg #[.int .u64 a0_0, .int .i64 a0_1, .int .i64 a0_2, .int .i64 a0_3, .int .i64 a0_4]] rfl (by (try simp only [mT, mC, mN]); first | done | rfl | (simp only [lD, lT]; rfl)) ?_; (with_reducible refine (audit_Record_may.calls k a0_0 a0_1 a0_2 a0_3 a0_4 false _ A2.out).mono ?_); rintro e w24 ⟨rfl, hb⟩; refine ⟨_, rfl, ?_⟩; have n0_ := aM (bB (g := gb142) (qy BK142.out) hb); have n1_ := aM (bP (by repeat (first | (with_reducible first | exact HB.out | apply ea | apply en | apply ed | refine es ?_ GE142.out) | exact HB.out)) hb); clear BK142 HB; have BK142 := n0_; have HB := n1_; clear n0_ n1_; (try clear hb); (try clear hb2); (try clear hk); (try clear hi)))
  go_ret2
  exact ⟨by first | rfl | (simp [errW_none, errW_some] <;> rfl) | (simp [*, errW_none, errW_some] <;> rfl), by repeat (first | (with_reducible first | exact HB.out | apply ea | apply en | apply ed | refine es ?_ GE142.out) | exact HB.out)⟩
end Go.Proofs.YtcbiilbmldinhaaDoor.PB
end

section
namespace Go.Proofs.YtcbiilbmldinhaaDoor.PB
open Go.RowKit Go.Proofs.YtcbiilbmldinhaaDoorW.PrintWords Go.Proofs.YtcbiilbmldinhaaDoorW.PrintLast Go.Proofs.YtcbiilbmldinhaaDoorW.PrintMore
attribute [local go_sem] max2_int min2_int max_two min_two max_three min_three max_four min_four   
set_option linter.unusedVariables false
set_option linter.unusedSimpArgs false
theorem eqA36 (d : Nat) (w : World) (x0 y0 : Int) (x1 y1 : Int) (x2 y2 : Int) (x3 y3 : Int) (x4 y4 : Int) :
  (Op.equalIn (d + 2) 36 (.agg #[.int .u64 x0, .int .i64 x1, .int .i64 x2, .int .i64 x3, .int .i64 x4]) (.agg #[.int .u64 y0, .int .i64 y1, .int .i64 y2, .int .i64 y3, .int .i64 y4])).run Tryd.prog w = .ok (x0 == y0 && (x1 == y1 && (x2 == y2 && (x3 == y3 && (x4 == y4))))) w := by
 refine eqA_of Tryd.underlying36 (by kernel_rfl) ?_
 refine eqf_cons (by rfl) (by go_simp; rfl) (by go_simp; rfl) (by go_simp) ?_
 refine eqf_cons (by rfl) (by go_simp; rfl) (by go_simp; rfl) (by go_simp) ?_
 refine eqf_cons (by rfl) (by go_simp; rfl) (by go_simp; rfl) (by go_simp) ?_
 refine eqf_cons (by rfl) (by go_simp; rfl) (by go_simp; rfl) (by go_simp) ?_
 exact eqf_last (by rfl) (by go_simp; rfl) (by go_simp; rfl) (by go_simp)
end Go.Proofs.YtcbiilbmldinhaaDoor.PB
end

section
namespace Go.Proofs.YtcbiilbmldinhaaDoor.PB
open Go.RowKit Go.Proofs.YtcbiilbmldinhaaDoorW.PrintWords Go.Proofs.YtcbiilbmldinhaaDoorW.PrintLast Go.Proofs.YtcbiilbmldinhaaDoorW.PrintMore
attribute [local go_sem] max2_int min2_int max_two min_two max_three min_three max_four min_four   
set_option linter.unusedVariables false
set_option linter.unusedSimpArgs false
attribute [local go_sem high] eqA36
def audit_Record_36.l0 : Nat → List (S36) → List (S36) → Int → Int → Option (Bool)
 | 0, _, _, _, _ => none
 | k + 1, x0, x1, x12, x13 => if x13 < x12 then (if 0 ≤ x13 then (if x13 < (x0.length : Int) then (if x13 < (x1.length : Int) then (if (!(((rd_T36 x0 x13).f0) == ((rd_T36 x1 x13).f0)) || (!(((rd_T36 x0 x13).f1) == ((rd_T36 x1 x13).f1)) || (!(((rd_T36 x0 x13).f2) == ((rd_T36 x1 x13).f2)) || (!(((rd_T36 x0 x13).f3) == ((rd_T36 x1 x13).f3)) || (!(((rd_T36 x0 x13).f4) == ((rd_T36 x1 x13).f4))))))) = true then (some false) else (audit_Record_36.l0 k x0 x1 x12 (wrap64 (x13 + 1)))) else (none)) else (none)) else (none)) else (some true)
def audit_Record_36.f (k : Nat) (l0 : List (S36)) (l1 : List (S36)) : Option (Bool) := if (l0.length : Int) = (l1.length : Int) then (audit_Record_36.l0 k l0 l1 (l0.length : Int) 0) else (some false)
set_option maxHeartbeats 8000000 in
set_option maxRecDepth 100000 in
theorem audit_Record_36.calls (k : Nat) (A0 : Option Addr) (c0 : Nat) (l0 : List (S36)) (A1 : Option Addr) (c1 : Nat) (l1 : List (S36)) (r : Bool) (w : World) (hr0 : Kd.C k36 w A0 l0.length l0) (hc0 : l0.length ≤ c0) (hr1 : Kd.C k36 w A1 l1.length l1) (hc1 : l1.length ≤ c1) (h : audit_Record_36.f k l0 l1 = some r) :
  Calls Tryd.prog 36 #[.slice A0 l0.length c0, .slice A1 l1.length c1] w fun e w' => e = .returned (.bool r) ∧ Drawn0 w w' := by
 have hu36 := Tryd.underlying36
 have HR0 := aM hr0
 have HC0 := aM hc0
 clear hr0 hc0
 have HR1 := aM hr1
 have HC1 := aM hc1
 clear hr1 hc1
 have H : (if (l0.length : Int) = (l1.length : Int) then (audit_Record_36.l0 k l0 l1 (l0.length : Int) 0) else (some false)) = some r := h
 clear h
 by_cases c3 : (l0.length : Int) = (l1.length : Int)
 ·rw [if_pos c3] at H
  have c3b0 : ((l0.length : Int) == (l1.length : Int)) = true := beq_iff_eq.mpr c3
  have c3b1 : ((l0.length : Int) != (l1.length : Int)) = false := bne_eq_false_iff_eq.mpr c3
  have c3b2 : (l0.length == l1.length) = true := by first | simpa using c3 | (simp at c3 ⊢; omega)
  clear c3
  have H' := aM H
  clear H
  go_enter Tryd.func36, Tryd.ntmps36
  go_wp2
  repeat (go_quiet (fail); try go_wp2)
  go_loopg [13] k (fun kq v13 w' => ∃ (x13_1 : Int), v13 = .int .i64 x13_1 ∧ Aside0 (audit_Record_36.l0 kq l0 l1 (l0.length : Int) x13_1 = some r) ∧ Aside0 (kq ≤ k) ∧ Drawn0 w w')
  case atStart => exact ⟨(0), (by first | rfl | (simp; done) | (simp [*]; done)), H', ⟨Nat.le_refl _⟩, by repeat (first | exact Drawn0.refl _ | apply Drawn0.step)⟩
  case round =>
   clear H'
   try clear c1
   try clear p2
   try clear c3
   try clear c3b0
   try clear c3b1
   try clear c3b2
   obtain ⟨x13_1, rfl, HA, HK1, ⟨m1, rfl⟩⟩ := hrel
   cases gk with
   | zero => exact absurd HA.out (by simp [audit_Record_36.l0])
   | succ k1 =>
    have H := HA.out
    clear HA
    simp only [audit_Record_36.l0] at H
    by_cases c4 : x13_1 < (l0.length : Int)
    ·rw [if_pos c4] at H
     have c4b0 : decide (x13_1 < (l0.length : Int)) = true := decide_eq_true c4
     clear c4
     by_cases c5 : 0 ≤ x13_1
     ·rw [if_pos c5] at H
      have c5b0 : decide (0 ≤ x13_1) = true := decide_eq_true c5
      clear c5
      by_cases c6 : x13_1 < (l0.length : Int)
      ·rw [if_pos c6] at H
       have c6b0 : decide (x13_1 < (l0.length : Int)) = true := decide_eq_true c6
       clear c6
       by_cases c7 : x13_1 < (l1.length : Int)
       ·rw [if_pos c7] at H
        have c7b0 : decide (x13_1 < (l1.length : Int)) = true := decide_eq_true c7
        clear c7
        by_cases c8 : (!(((rd_T36 l0 x13_1).f0) == ((rd_T36 l1 x13_1).f0)) || (!(((rd_T36 l0 x13_1).f1) == ((rd_T36 l1 x13_1).f1)) || (!(((rd_T36 l0 x13_1).f2) == ((rd_T36 l1 x13_1).f2)) || (!(((rd_T36 l0 x13_1).f3) == ((rd_T36 l1 x13_1).f3)) || (!(((rd_T36 l0 x13_1).f4) == ((rd_T36 l1 x13_1).f4))))))) = true
        ·rw [if_pos c8] at H
         have c8b0 : (!(((rd_T36 l0 x13_1).f0) == ((rd_T36 l1 x13_1).f0)) || (!(((rd_T36 l0 x13_1).f1) == ((rd_T36 l1 x13_1).f1)) || (!(((rd_T36 l0 x13_1).f2) == ((rd_T36 l1 x13_1).f2)) || (!(((rd_T36 l0 x13_1).f3) == ((rd_T36 l1 x13_1).f3)) || (!(((rd_T36 l0 x13_1).f4) == ((rd_T36 l1 x13_1).f4))))))) = true := c8
         clear c8
         obtain rfl := Option.some.inj H
         have p107 : 0 ≤ (x13_1 : Int) := of_decide_eq_true (by first | (with_reducible assumption) | assumption)
         have q107 : x13_1 < (l0.length : Int) := of_decide_eq_true (by first | (with_reducible assumption) | assumption)
         obtain ⟨ad107, e107, hx107_0, hx107_1, hx107_2, hx107_3, hx107_4⟩ := at_T36 HR0.out x13_1 p107 q107
         cases e107
         replace p107 := eq_true p107
         replace q107 := eq_true q107
         have p108 : 0 ≤ (x13_1 : Int) := of_decide_eq_true (by first | (with_reducible assumption) | assumption)
         have q108 : x13_1 < (l1.length : Int) := of_decide_eq_true (by first | (with_reducible assumption) | assumption)
         obtain ⟨ad108, e108, hx108_0, hx108_1, hx108_2, hx108_3, hx108_4⟩ := at_T36 HR1.out x13_1 p108 q108
         cases e108
         replace p108 := eq_true p108
         replace q108 := eq_true q108
         go_wp2
         repeat (go_quiet (fail); try go_wp2)
         go_ret
         exact ⟨by first | rfl | (simp; done) | (simp [*]; done), by repeat (first | exact Drawn0.refl _ | apply Drawn0.step)⟩
        ·rw [if_neg c8] at H
         have c8b0 : (!(((rd_T36 l0 x13_1).f0) == ((rd_T36 l1 x13_1).f0)) || (!(((rd_T36 l0 x13_1).f1) == ((rd_T36 l1 x13_1).f1)) || (!(((rd_T36 l0 x13_1).f2) == ((rd_T36 l1 x13_1).f2)) || (!(((rd_T36 l0 x13_1).f3) == ((rd_T36 l1 x13_1).f3)) || (!(((rd_T36 l0 x13_1).f4) == ((rd_T36 l1 x13_1).f4))))))) = false := by simpa using c8
         clear c8
         have H' := aM H
         clear H
         have p107 : 0 ≤ (x13_1 : Int) := of_decide_eq_true (by first | (with_reducible assumption) | assumption)
         have q107 : x13_1 < (l0.length : Int) := of_decide_eq_true (by first | (with_reducible assumption) | assumption)
         obtain ⟨ad107, e107, hx107_0, hx107_1, hx107_2, hx107_3, hx107_4⟩ := at_T36 HR0.out x13_1 p107 q107
         cases e107
         replace p107 := eq_true p107
         replace q107 := eq_true q107
         have p108 : 0 ≤ (x13_1 : Int) := of_decide_eq_true (by first | (with_reducible assumption) | assumption)
         have q108 : x13_1 < (l1.length : Int) := of_decide_eq_true (by first | (with_reducible assumption) | assumption)
         obtain ⟨ad108, e108, hx108_0, hx108_1, hx108_2, hx108_3, hx108_4⟩ := at_T36 HR1.out x13_1 p108 q108
         cases e108
         replace p108 := eq_true p108
         replace q108 := eq_true q108
         go_wp2
         repeat (go_quiet (fail); try go_wp2)
         go_roundg k1
         case measure => have := HK1.out; omega
         case rel => exact ⟨(wrap64 (x13_1 + 1)), (by first | rfl | (simp; done) | (simp [*]; done)), H', ⟨by have := HK1.out; omega⟩, by repeat (first | exact Drawn0.refl _ | apply Drawn0.step)⟩
       ·rw [if_neg c7] at H
        exact absurd H (by simp)
      ·rw [if_neg c6] at H
       exact absurd H (by simp)
     ·rw [if_neg c5] at H
      exact absurd H (by simp)
    ·rw [if_neg c4] at H
     have c4b0 : decide (x13_1 < (l0.length : Int)) = false := decide_eq_false c4
     clear c4
     obtain rfl := Option.some.inj H
     go_wp2
     repeat (go_quiet (fail); try go_wp2)
     go_ret
     exact ⟨by first | rfl | (simp; done) | (simp [*]; done), by repeat (first | exact Drawn0.refl _ | apply Drawn0.step)⟩
 ·rw [if_neg c3] at H
  have c3b0 : ((l0.length : Int) == (l1.length : Int)) = false := beq_eq_false_iff_ne.mpr c3
  have c3b1 : ((l0.length : Int) != (l1.length : Int)) = true := bne_iff_ne.mpr c3
  have c3b2 : (l0.length == l1.length) = false := by first | simpa using c3 | (simp at c3 ⊢; omega)
  obtain rfl := Option.some.inj H
  go_enter Tryd.func36, Tryd.ntmps36
  go_wp2
  repeat (go_quiet (fail); try go_wp2)
  go_ret
  exact ⟨by first | rfl | (simp; done) | (simp [*]; done), by repeat (first | exact Drawn0.refl _ | apply Drawn0.step)⟩
end Go.Proofs.YtcbiilbmldinhaaDoor.PB
end

section
namespace Go.Proofs.YtcbiilbmldinhaaDoor.PB
open Go.RowKit Go.Proofs.YtcbiilbmldinhaaDoorW.PrintWords Go.Proofs.YtcbiilbmldinhaaDoorW.PrintLast Go.Proofs.YtcbiilbmldinhaaDoorW.PrintMore
attribute [local go_sem] max2_int min2_int max_two min_two max_three min_three max_four min_four   
set_option linter.unusedVariables false
set_option linter.unusedSimpArgs false
def audit_Extends.f (k : Nat) (l0 : List (S36)) (l1 : List (S36)) : Option (Bool) := if (l1.length : Int) ≤ (l0.length : Int) then (if 0 ≤ (l1.length : Int) then ((audit_Record_36.f k (l0.take ((l1.length : Int) : Int).toNat) l1).bind fun t113 => (some t113)) else (none)) else (some false)
set_option maxHeartbeats 8000000 in
set_option maxRecDepth 100000 in
theorem audit_Extends.calls (k : Nat) (A0 : Option Addr) (c0 : Nat) (l0 : List (S36)) (A1 : Option Addr) (c1 : Nat) (l1 : List (S36)) (r : Bool) (w : World) (hr0 : Kd.C k36 w A0 l0.length l0) (hc0 : l0.length ≤ c0) (hr1 : Kd.C k36 w A1 l1.length l1) (hc1 : l1.length ≤ c1) (h : audit_Extends.f k l0 l1 = some r) :
  Calls Tryd.prog 23 #[.slice A0 l0.length c0, .slice A1 l1.length c1] w fun e w' => e = .returned (.bool r) ∧ Drawn0 w w' := by
 have HR0 := aM hr0
 have HC0 := aM hc0
 clear hr0 hc0
 have HR1 := aM hr1
 have HC1 := aM hc1
 clear hr1 hc1
 have H : (if (l1.length : Int) ≤ (l0.length : Int) then (if 0 ≤ (l1.length : Int) then ((audit_Record_36.f k (l0.take ((l1.length : Int) : Int).toNat) l1).bind fun t113 => (some t113)) else (none)) else (some false)) = some r := h
 clear h
 by_cases c3 : (l1.length : Int) ≤ (l0.length : Int)
 ·rw [if_pos c3] at H
  have c3b0 : decide ((l1.length : Int) ≤ (l0.length : Int)) = true := decide_eq_true c3
  have c3b1 : decide (l1.length ≤ l0.length) = true := decide_eq_true (Int.ofNat_le.mp c3)
  clear c3
  by_cases c4 : 0 ≤ (l1.length : Int)
  ·rw [if_pos c4] at H
   have c4b0 := eq_true c4
   have c4b1 : decide (0 ≤ (l1.length : Int)) = true := decide_eq_true c4
   clear c4
   have c5b0 := eq_true (of_decide_eq_true (by first | (with_reducible assumption) | assumption) : (l1.length : Int) ≤ (l0.length : Int))
   obtain ⟨y109, hy109⟩ : ∃ y_ : List (S36), y_ = (l0.take ((l1.length : Int) : Int).toNat) := ⟨_, rfl⟩
   replace H : ((audit_Record_36.f k y109 l1).bind fun t113 => (some t113)) = some r := by first | (rw [hy109]; with_reducible exact H) | (have H2_ := (Option.bind_some _ _).symm.trans H; rw [hy109]; with_reducible exact H2_) | (have H2_ := (Option.bind_some _ _).symm.trans H; with_reducible exact H2_) | with_reducible exact H | (rw [hy109]; exact H) | exact H
   have Ny109 := aM hy109
   clear hy109
   replace H := Option.bind_eq_some_iff.mp H
   obtain ⟨t113, A60, H⟩ := H
   replace H : (some t113) = some r := H
   have A6 := aM A60
   clear A60
   obtain rfl := Option.some.inj H
   have q7 : ((l1.length : Int) : Int) ≤ ((l0.length : Int) : Int) := of_decide_eq_true (by first | (with_reducible assumption) | assumption)
   obtain ⟨i07, hi07, _, hsz7, _⟩ := info_parts info36
   have hroom7 : l0.length ≤ c0 := HC0.out
   have hC7 : Kd.C k36 _ A0 l0.length l0 := HR0.out
   have hcut7 := cut_to (P := Tryd.prog) 43 36 .i64 Tryd.underlying43 hi07 A0 l0.length c0 (l1.length : Int) (of_decide_eq_true (by first | (with_reducible assumption) | assumption)) q7 hroom7
   have hr7 := Kd.C_take (m := ((l1.length : Int) : Int).toNat) hC7 (by omega)
   have hy7 : y109.length = ((l1.length : Int) : Int).toNat := (by rw [Ny109.out, List.length_take]; omega)
   rw [← Ny109.out] at hr7
   rw [← hy7] at hcut7
   have HR112 := aM hr7
   have HC112 := aM (show y109.length ≤ c0 from by omega)
   clear hr7 hC7 hroom7 hi07 hsz7
   have KY7 := aM hy7
   clear hy7
   replace q7 := eq_true q7
   go_enter Tryd.func23, Tryd.ntmps23
   go_wp2_with (first | (go_at_call 36; (with_reducible refine (audit_Record_36.calls k _ _ y109 _ _ l1 t113 _ ?side1 ?side2 ?side3 ?side4 A6.out).mono ?_); (case side1 => repeat (first | exact HR112.out | (with_reducible refine Kd.C_alloc ?_ _) | (with_reducible refine Kd.C_drewN ?_ _) | (with_reducible refine Kd.C_drew ?_))); (case side2 => exact HC112.out); (case side3 => repeat (first | exact HR1.out | (with_reducible refine Kd.C_alloc ?_ _) | (with_reducible refine Kd.C_drewN ?_ _) | (with_reducible refine Kd.C_drew ?_))); (case side4 => exact HC1.out); rintro e w' ⟨rfl, ⟨nd, rfl⟩⟩))
   go_ret
   exact ⟨by first | rfl | (simp; done) | (simp [*]; done), by repeat (first | exact Drawn0.refl _ | apply Drawn0.step)⟩
  ·rw [if_neg c4] at H
   exact absurd H (by simp)
 ·rw [if_neg c3] at H
  have c3b0 : decide ((l1.length : Int) ≤ (l0.length : Int)) = false := decide_eq_false c3
  have c3b1 : decide (l1.length ≤ l0.length) = false := decide_eq_false (fun h => c3 (Int.ofNat_le.mpr h))
  clear c3
  obtain rfl := Option.some.inj H
  go_enter Tryd.func23, Tryd.ntmps23
  go_wp2
  go_ret
  exact ⟨by first | rfl | (simp; done) | (simp [*]; done), by repeat (first | exact Drawn0.refl _ | apply Drawn0.step)⟩
end Go.Proofs.YtcbiilbmldinhaaDoor.PB
end

section
namespace Go.Proofs.YtcbiilbmldinhaaDoor.PB
open Go.RowKit Go.Maps Go.Proofs.YtcbiilbmldinhaaDoorW.PrintWords Go.Proofs.YtcbiilbmldinhaaDoorW.PrintLast Go.Proofs.YtcbiilbmldinhaaDoorW.PrintMore
set_option maxRecDepth 100000
set_option linter.unusedVariables false
set_option linter.unusedSimpArgs false
def bureaulaw18_alive.f : Option Bool := some true
theorem print_alive : audit_Print.f 100 5 4 2 5 8 = some (⟨#[100, 101, 110, 121, 32, 50, 32, 53, 32, 56, 32, 48, 46, 50]⟩, 0) := by decide +kernel
theorem may_a1 : audit_Record_may.f 100 3 1 0 0 0 = some true := by decide +kernel
theorem may_a2 : audit_Record_may.f 100 1 4 2 5 8 = some true := by decide +kernel
abbrev Da0 : DataW Unit := newD [1, 3] 1
abbrev Da1 : DataW Unit := Da0.put (kL 3) (iL (wrap64 (1 - 1)))
abbrev Da2 : DataW Unit := Da1.put (kL 1) (iL (wrap64 (1 - 1)))
theorem da1 : Maps.size Da0 = 2 := by rfl
theorem da2 : Maps.has Da0 (kL 3) = true := by rfl
theorem da3 : Da0.atKey (kL 3) (iL 0) = iL 1 := by rfl
theorem da4 : Maps.has Da1 (kL 1) = true := by rfl
theorem da5 : Da1.atKey (kL 1) (iL 0) = iL 1 := by rfl
theorem da6 : Da2.atKey (kL 3) (iL 0) = iL 0 := by kernel_rfl
abbrev xsA : List S36 := [⟨3, 1, 0, 0, 0⟩, ⟨1, 4, 2, 5, 8⟩]
theorem seen_a : (seenL xsA 1).length = 1 := by decide +kernel
theorem all_a : xsA.length = 2 := rfl
theorem ext_alive : audit_Extends.f 100 xsA [] = some true := by decide +kernel
theorem extA {A : Option Addr} {c : Nat} {w : World} (hc : 2 ≤ c) (hC : Kd.C k36 w A xsA.length xsA) :
    Calls Tryd.prog 23 #[.slice A 2 c, .slice none 0 0] w fun e w' => e = .returned (.bool true) ∧ Drawn0 w w' :=
  audit_Extends.calls 100 A c xsA none 0 [] true w hC hc (Kd.C_nil _ w) (Nat.le_refl _) ext_alive
theorem iL_inj {a b : Int} (h : (iL a : DataW Unit) = iL b) : a = b := by
  injection h with h
  injection h with _ h
theorem newA {A : Option Addr} {c : Nat} {w : World} (hc : 2 ≤ c) (hC : Kd.C (Kd.int .u64) w A ([1, 3] : List Int).length [1, 3]) :
    Calls Tryd.prog 11 #[.slice A 2 c, .int .i64 1] w fun e w' => ∃ g bm, e = .returned (.pointer (some ⟨g, 0, none⟩)) ∧ LogAt w.heap.size g bm (.slice none 0 0) w' Da0 [] ∧ Below w.heap.size w w' :=
  new_ok (l0 := [1, 3]) (q := 1) hC hc (by decide) (by decide) (by decide) (by decide) (by decide) true ⟨fun _ => rfl, fun _ => da1⟩
set_option maxHeartbeats 8000000 in
theorem bureaulaw18_alive.calls (r : Bool) (w : World) (h : bureaulaw18_alive.f = some r) :
    Calls Tryd.prog 10 #[] w fun e w' => e = .returned (.bool r) ∧ Below w.heap.size w w' := by
  obtain rfl : true = r := Option.some.inj h
  clear h
  have hu36 := Tryd.underlying36
  go_enter Tryd.func10, Tryd.ntmps10
  go_wp2_with (first
    | ((with_reducible refine gate_dst (N := 8) rfl ?_); refine Kd.R_lit (Kd.int .u64) _ 34 ?hg (N := 8) ?hd (xs := ([1, 3] : List Int)) (inner := [.int .u64 1, .int .u64 3]) (ok := fun _ => True) (okp := fun _ => True) ?hr ?hp (fun _ hk => hk) trivial (Below.refl _ _) (Nat.le_refl _) (by simp) ?_; (case hd => rfl); (case hg => rfl); (case hr => first | (go_simp; done) | (go_simp; rfl)); (case hp => exact (Reps.one (show Kd.M (Kd.int .u64) _ _ _ 1 [.int .u64 1] from rfl) (Reps.one (show Kd.M (Kd.int .u64) _ _ _ 3 [.int .u64 3] from rfl) (Reps.none _ _)))); intro v1 w1 ho hb hg_ hnew_; clear hg_ hnew_; obtain ⟨A, c, e⟩ := Kd.R_slice ho; rw [show ([1, 3] : List Int).length = 2 from rfl] at e; subst e; have HO := aM ho; have HB := aM hb; clear ho hb)
    | ((with_reducible refine gate_callee (f := 11) rfl ?_); (try (refine gate_guard (by rfl) ?_; dsimp only)); refine goesL_ (some 9) rfl rfl Tryd.func11 (by kernel_rfl) rfl #[.slice A 2 c, .int .i64 1] rfl (by (try simp only [List.map_toArray, List.map_cons, List.map_nil]); first | done | rfl) ?_; (with_reducible refine Calls.mono (newA (rR HO.out).2.1 (rR HO.out).2.2) ?_); rintro e w2 ⟨g, bm, rfl, hl, hb⟩; refine ⟨_, rfl, ?_⟩; have HA0 := aM hl; have HS0 := aM hb.size; have HBB := aM (bZ HB.out); have HB0 := aM (bP HB.out hb); clear hl hb HB HO)
    | ((with_reducible refine gate_callee (f := 13) rfl ?_); (try (refine gate_guard (by rfl) ?_; dsimp only)); refine goesL_ (some 15) rfl rfl Tryd.func13 (by kernel_rfl) rfl #[.pointer (some ⟨g, 0, none⟩), .agg #[.int .u64 3, .int .i64 1, .int .i64 0, .int .i64 0, .int .i64 0]] rfl (by (try simp only [List.map_toArray, List.map_cons, List.map_nil]); first | done | rfl) ?_; (with_reducible refine Calls.mono (add_ok 100 HA0.out HS0.out 3 1 0 0 0 (by decide) may_a1 da2 1 da3 (by decide) (by decide)) ?_); rintro e w3 ⟨rfl, v3, hl, hb, hk⟩; refine ⟨_, rfl, ?_⟩; have HA1 := aM hl; have HS1 := aM (Nat.le_trans HS0.out hb.size); have HB1 := aM (HB0.out.trans (hb.mono HBB.out)); clear hl hb hk HA0 HS0 HB0)
    | ((with_reducible refine gate_callee (f := 13) rfl ?_); (try (refine gate_guard (by rfl) ?_; dsimp only)); refine goesL_ (some 21) rfl rfl Tryd.func13 (by kernel_rfl) rfl #[.pointer (some ⟨g, 0, none⟩), .agg #[.int .u64 1, .int .i64 4, .int .i64 2, .int .i64 5, .int .i64 8]] rfl (by (try simp only [List.map_toArray, List.map_cons, List.map_nil]); first | done | rfl) ?_; (with_reducible refine Calls.mono (add_ok 100 HA1.out HS1.out 1 4 2 5 8 (by decide) may_a2 da4 1 da5 (by decide) (by decide)) ?_); rintro e w4 ⟨rfl, v4, hl, hb, hk⟩; refine ⟨_, rfl, ?_⟩; have HA2 := aM (show LogAt _ _ _ _ _ Da2 xsA from hl); have HB2 := aM (HB1.out.trans (hb.mono HBB.out)); clear hl hb hk HA1 HS1 HB1)
    | ((with_reducible refine gate_callee (f := 26) rfl ?_); (try (refine gate_guard (by rfl) ?_; dsimp only)); refine goesL_ (some 26) rfl rfl Tryd.func26 (by kernel_rfl) rfl #[.agg #[.int .u64 5, .int .i64 4, .int .i64 2, .int .i64 5, .int .i64 8]] rfl (by (try simp only [List.map_toArray, List.map_cons, List.map_nil]); first | done | rfl) ?_; (with_reducible refine Calls.mono (audit_Print.calls 100 5 4 2 5 8 _ _ _ print_alive) ?_); rintro e w5 ⟨rfl, hb⟩; refine ⟨_, rfl, ?_⟩; have HA3 := aM (HA2.out.below hb); have HB3 := aM (bP HB2.out hb); clear hb HA2 HB2)
    | ((with_reducible refine gate_callee (f := 19) rfl ?_); (try (refine gate_guard (by rfl) ?_; dsimp only)); refine goesL_ (some 45) rfl rfl Tryd.func19 (by kernel_rfl) rfl #[.pointer (some ⟨g, 0, none⟩), .int .u64 1] rfl (by (try simp only [List.map_toArray, List.map_cons, List.map_nil]); first | done | rfl) ?_; (with_reducible refine Calls.mono (seen_ok HA3.out (by decide) 1) ?_); rintro e w6 ⟨v6, rfl, ho, hb⟩; refine ⟨_, rfl, ?_⟩; obtain ⟨A6, c6, e6⟩ := Kd.R_slice ho; rw [seen_a] at e6; subst e6; have HA4 := aM (HA3.out.below hb); have HB4 := aM (bP HB3.out hb); clear ho hb HA3 HB3)
    | ((with_reducible refine gate_callee (f := 21) rfl ?_); (try (refine gate_guard (by rfl) ?_; dsimp only)); refine goesL_ (some 51) rfl rfl Tryd.func21 (by kernel_rfl) rfl #[.pointer (some ⟨g, 0, none⟩), .int .u64 3] rfl (by (try simp only [List.map_toArray, List.map_cons, List.map_nil]); first | done | rfl) ?_; (with_reducible refine Calls.mono (room_ok HA4.out 3 (by decide)) ?_); rintro e w7 ⟨c7, rfl, h7, hw⟩; refine ⟨_, rfl, ?_⟩; subst w7; obtain rfl : c7 = 0 := iL_inj (h7.symm.trans da6))
    | ((with_reducible refine gate_callee (f := 18) rfl ?_); (try (refine gate_guard (by rfl) ?_; dsimp only)); refine goesL_ (some 64) rfl rfl Tryd.func18 (by kernel_rfl) rfl #[.pointer (some ⟨g, 0, none⟩)] rfl (by (try simp only [List.map_toArray, List.map_cons, List.map_nil]); first | done | rfl) ?_; (with_reducible refine Calls.mono (all_ok HA4.out (by decide)) ?_); rintro e w8 ⟨v8, rfl, ho, hb⟩; refine ⟨_, rfl, ?_⟩; obtain ⟨A8, c8, e8⟩ := Kd.R_slice ho; rw [all_a] at e8; subst e8; have HO8 := aM ho; have HB5 := aM (bP HB4.out hb); clear ho hb HB4 HA4)
    | ((with_reducible refine gate_callee (f := 23) rfl ?_); (try (refine gate_guard (by rfl) ?_; dsimp only)); refine goesL_ (some 65) rfl rfl Tryd.func23 (by kernel_rfl) rfl #[.slice A8 2 c8, .slice none 0 0] rfl (by (try simp only [List.map_toArray, List.map_cons, List.map_nil]); first | done | rfl) ?_; (with_reducible refine Calls.mono (extA (rR HO8.out).2.1 (rR HO8.out).2.2) ?_); rintro e w9 ⟨rfl, nd, rfl⟩; refine ⟨_, rfl, ?_⟩; have HB6 := aM (pw_below_drewN HB5.out nd); clear HB5)
    )
  go_ret
  exact ⟨rfl, HB6.out⟩
end Go.Proofs.YtcbiilbmldinhaaDoor.PB
end

section
namespace Go.Proofs.YtcbiilbmldinhaaDoor.PB
open Go.RowKit Go.Proofs.YtcbiilbmldinhaaDoorW.PrintWords Go.Proofs.YtcbiilbmldinhaaDoorW.PrintLast Go.Proofs.YtcbiilbmldinhaaDoorW.PrintMore
attribute [local go_sem] max2_int min2_int max_two min_two max_three min_three max_four min_four   
set_option linter.unusedVariables false
set_option linter.unusedSimpArgs false
def bureaulaw18_theirs.f (a0_0 : Int) (a0_1 : Int) (a0_2 : Int) (a0_3 : Int) (a0_4 : Int) : Option (Int × Int × Int × Int × Int) := some (a0_0, a0_1, a0_2, a0_3, a0_4)
set_option maxHeartbeats 8000000 in
set_option maxRecDepth 100000 in
theorem bureaulaw18_theirs.calls (a0_0 : Int) (a0_1 : Int) (a0_2 : Int) (a0_3 : Int) (a0_4 : Int) (r1 : Int) (r2 : Int) (r3 : Int) (r4 : Int) (r5 : Int) (w : World) (h : bureaulaw18_theirs.f a0_0 a0_1 a0_2 a0_3 a0_4 = some (r1, r2, r3, r4, r5)) :
  Calls Tryd.prog 14 #[.agg #[.int .u64 a0_0, .int .i64 a0_1, .int .i64 a0_2, .int .i64 a0_3, .int .i64 a0_4]] w fun e w' => e = .returned (.agg #[.int .u64 r1, .int .i64 r2, .int .i64 r3, .int .i64 r4, .int .i64 r5]) ∧ Below w.heap.size w w' := by
 have hu38 := Tryd.underlying38
 have hu36 := Tryd.underlying36
 have HB := aM (Below.refl w.heap.size w)
 have H : (some (a0_0, a0_1, a0_2, a0_3, a0_4)) = some (r1, r2, r3, r4, r5) := h
 clear h
 simp only [Option.some.injEq, Prod.mk.injEq] at H
 obtain ⟨rfl, rfl, rfl, rfl, rfl⟩ := H
 go_enter Tryd.func14, Tryd.ntmps14
 go_wp2_with (first | ((with_reducible refine gate_dst (N := 1) rfl ?_); refine box_event ?hg (N := 1) ?hd (cs := #[.int .u64 a0_0, .int .i64 a0_1, .int .i64 a0_2, .int .i64 a0_3, .int .i64 a0_4]) (t := 38) ?hr ?_; (case hd | hg => rfl); (case hr => first | (go_simp; done) | (go_simp; rfl)); intro gb156 hg w2 hbox hb; have n0_ := aM (bP (ey HB.out) hb); have n1_ := aM (hbox); have n2_ := aM ((by rw [hg]; exact (bZ (ey HB.out)) : w.heap.size ≤ gb156)); have n3_ := n2_; clear HB; have HB := n0_; have BK156 := n1_; have GW156 := n2_; have GE156 := n3_; clear n0_ n1_ n2_ n3_; clear hb hbox hg) | ((with_reducible refine gate_dst (N := 2) rfl ?_); refine box_event ?hg (N := 2) ?hd (cs := #[.int .u64 0, .int .i64 0, .int .i64 0, .int .i64 0, .int .i64 0]) (t := 36) ?hr ?_; (case hd | hg => rfl); (case hr => first | (go_simp; done) | (go_simp; rfl)); intro gb157 hg w3 hbox hb; have n0_ := aM (bB (g := gb156) (qy BK156.out) hb); have n1_ := aM (bP (by repeat (first | (with_reducible first | exact HB.out | apply ea | apply en | apply ed | refine es ?_ GE156.out) | exact HB.out)) hb); have n2_ := aM (hbox); have n3_ := aM ((by rw [hg]; exact (bZ (by repeat (first | (with_reducible first | exact HB.out | apply ea | apply en | apply ed | refine es ?_ GE156.out) | exact HB.out))) : w.heap.size ≤ gb157)); have n4_ := n3_; have n5_ := aM ((by rw [hg]; exact Nat.ne_of_lt (blk_lt (g := gb156) (qy BK156.out)) : gb156 ≠ gb157)); have n6_ := aM ((by rw [hg]; exact Nat.ne_of_gt (blk_lt (g := gb156) (qy BK156.out)) : gb157 ≠ gb156)); clear BK156 HB; have BK156 := n0_; have HB := n1_; have BK157 := n2_; have GW157 := n3_; have GE157 := n4_; have NB156_157 := n5_; have NB157_156 := n6_; clear n0_ n1_ n2_ n3_ n4_ n5_ n6_; clear hb hbox hg; have hnb4 := NB156_157.out; have hnc4 := NB157_156.out; have hcz5_0 := zC BK156.out 0 (.int .u64 a0_0); have hcz5_1 := zC BK156.out 1 (.int .i64 a0_1); have hcz5_2 := zC BK156.out 2 (.int .i64 a0_2); have hcz5_3 := zC BK156.out 3 (.int .i64 a0_3); have hcz5_4 := zC BK156.out 4 (.int .i64 a0_4); have hfz5_0 := bF BK156.out 0; have hfz5_1 := bF BK156.out 1; have hfz5_2 := bF BK156.out 2; have hfz5_3 := bF BK156.out 3; have hfz5_4 := bF BK156.out 4; have hcz6_0 := zC BK157.out 0 (.int .u64 0); have hcz6_1 := zC BK157.out 1 (.int .i64 0); have hcz6_2 := zC BK157.out 2 (.int .i64 0); have hcz6_3 := zC BK157.out 3 (.int .i64 0); have hcz6_4 := zC BK157.out 4 (.int .i64 0); have hfz6_0 := bF BK157.out 0; have hfz6_1 := bF BK157.out 1; have hfz6_2 := bF BK157.out 2; have hfz6_3 := bF BK157.out 3; have hfz6_4 := bF BK157.out 4))
 refine bodyPost_ret (results_cell_row rfl _ _ gb157 36 #[.int .u64 a0_0, .int .i64 a0_1, .int .i64 a0_2, .int .i64 a0_3, .int .i64 a0_4] (0, 0) _ rfl (by (with_reducible repeat (first | apply qn | apply qd | apply qa)); refine bU (cs := #[.int .u64 a0_0, .int .i64 a0_1, .int .i64 a0_2, .int .i64 a0_3, .int .i64 0]) ?_ 4 _ rfl; (with_reducible repeat (first | apply qn | apply qd | apply qa)); refine bU (cs := #[.int .u64 a0_0, .int .i64 a0_1, .int .i64 a0_2, .int .i64 0, .int .i64 0]) ?_ 3 _ rfl; (with_reducible repeat (first | apply qn | apply qd | apply qa)); refine bU (cs := #[.int .u64 a0_0, .int .i64 a0_1, .int .i64 0, .int .i64 0, .int .i64 0]) ?_ 2 _ rfl; (with_reducible repeat (first | apply qn | apply qd | apply qa)); refine bU (cs := #[.int .u64 a0_0, .int .i64 0, .int .i64 0, .int .i64 0, .int .i64 0]) ?_ 1 _ rfl; (with_reducible repeat (first | apply qn | apply qd | apply qa)); refine bU (cs := #[.int .u64 0, .int .i64 0, .int .i64 0, .int .i64 0, .int .i64 0]) ?_ 0 _ rfl; exact qy BK157.out) Tryd.underlying36 rfl (by kernel_rfl)) rfl ?_
 exact ⟨by first | rfl | (simp [errW_none, errW_some] <;> rfl) | (simp [*, errW_none, errW_some] <;> rfl), by repeat (first | (with_reducible first | exact HB.out | apply ea | apply en | apply ed | refine es ?_ GE156.out | refine es ?_ GE157.out) | exact HB.out)⟩
end Go.Proofs.YtcbiilbmldinhaaDoor.PB
end

section
namespace Go.Proofs.YtcbiilbmldinhaaDoor.PB
open Go.RowKit Go.Maps Go.Proofs.YtcbiilbmldinhaaDoorW.PrintWords Go.Proofs.YtcbiilbmldinhaaDoorW.PrintLast Go.Proofs.YtcbiilbmldinhaaDoorW.PrintMore
set_option maxRecDepth 100000
set_option linter.unusedVariables false
set_option linter.unusedSimpArgs false
def NoLog (w : World) (p : Value) : Prop := p = .pointer none ∨ ∃ g, p = .pointer (some ⟨g, 0, none⟩) ∧ w.heap[g]? = some (.cells #[.map none, .slice none 0 0] 55 (0, 0))
theorem NoLog.below {w W : World} {p : Value} (h : NoLog w p) (hb : Below w.heap.size w W) : NoLog W p := by
  rcases h with h | ⟨g, h1, h2⟩
  · exact .inl h
  · exact .inr ⟨g, h1, bB h2 hb⟩
end Go.Proofs.YtcbiilbmldinhaaDoor.PB
end

section
namespace Go.Proofs.YtcbiilbmldinhaaDoor.PB
open Go.Proofs.YtcbiilbmldinhaaDoorW.PrintWords
theorem Ev.pos {α : Type} {c : Prop} [Decidable c] {A B : Nat → Option α} {r : α} (h : c) (k : Ev A r) : Ev (fun n => if c then A n else B n) r := by
  obtain ⟨K, hK⟩ := k
  exact ⟨K, fun n hn => by show (if c then A n else B n) = _; rw [if_pos h]; exact hK n hn⟩
theorem Ev.neg {α : Type} {c : Prop} [Decidable c] {A B : Nat → Option α} {r : α} (h : ¬ c) (k : Ev B r) : Ev (fun n => if c then A n else B n) r := by
  obtain ⟨K, hK⟩ := k
  exact ⟨K, fun n hn => by show (if c then A n else B n) = _; rw [if_neg h]; exact hK n hn⟩
theorem Ev.ite' {α : Type} {c : Prop} [Decidable c] {A B : Nat → Option α} {r : α} (h1 : c → Ev A r) (h2 : ¬ c → Ev B r) : Ev (fun n => if c then A n else B n) r := by
  by_cases h : c
  · exact Ev.pos h (h1 h)
  · exact Ev.neg h (h2 h)
theorem ev_val {α : Type} {g : Nat → Option α} {a b : α} (h : Ev g a) (e : a = b) : Ev g b := e ▸ h
end Go.Proofs.YtcbiilbmldinhaaDoor.PB
end

section
namespace Go.Proofs.YtcbiilbmldinhaaDoor.PB
open Go.RowKit Go.Maps Go.Proofs.YtcbiilbmldinhaaDoorW.PrintWords Go.Proofs.YtcbiilbmldinhaaDoorW.PrintLast Go.Proofs.YtcbiilbmldinhaaDoorW.PrintMore
set_option maxRecDepth 100000
set_option linter.unusedVariables false
set_option linter.unusedSimpArgs false
def withinB (n : Int) : Bool := decide (0 ≤ n) && decide (n ≤ 65535)
def mayB (a1 a2 a3 a4 : Int) : Bool := (decide (1 ≤ a1) && decide (a1 ≤ 4)) && (withinB a2 && (withinB a3 && withinB a4))
theorem word_ev (a1 : Int) : ∃ s, audit_word.f a1 = some s ∧ (s.toList != ([] : List UInt8)) = (decide (1 ≤ a1) && decide (a1 ≤ 4)) := by
  unfold audit_word.f
  by_cases h1 : a1 = 1
  · subst h1; exact ⟨_, rfl, by decide +kernel⟩
  by_cases h2 : a1 = 2
  · subst h2; exact ⟨_, rfl, by decide +kernel⟩
  by_cases h3 : a1 = 3
  · subst h3; exact ⟨_, rfl, by decide +kernel⟩
  by_cases h4 : a1 = 4
  · subst h4; exact ⟨_, rfl, by decide +kernel⟩
  refine ⟨⟨#[]⟩, by simp [h1, h2, h3, h4], ?_⟩
  have : ¬ (1 ≤ a1 ∧ a1 ≤ 4) := by omega
  have e : (decide (1 ≤ a1) && decide (a1 ≤ 4)) = false := by
    rw [Bool.and_eq_false_iff, decide_eq_false_iff_not, decide_eq_false_iff_not]
    omega
  rw [e]; decide +kernel
theorem may_ev (a0 a1 a2 a3 a4 : Int) : Ev (fun k => audit_Record_may.f k a0 a1 a2 a3 a4) (mayB a1 a2 a3 a4) := by
  obtain ⟨s, hs, hw⟩ := word_ev a1
  unfold audit_Record_may.f
  refine Ev.bind (Ev.now _) ?_
  have loop : ∀ (d i : Nat), i + d = 3 → Ev (fun k => audit_Record_may.l0 k [a2, a3, a4] (([a2, a3, a4] : List Int).length : Int) (i : Int) a0 a1 a2 a3 a4) ((([a2, a3, a4] : List Int).drop i).all withinB && (decide (1 ≤ a1) && decide (a1 ≤ 4))) := by
    intro d
    induction d with
    | zero =>
      intro i hi
      obtain rfl : i = 3 := by omega
      refine Ev.step (fun k => by simp only [audit_Record_may.l0]; rfl) ?_
      refine Ev.neg (by simp) ?_
      rw [hs]
      refine Ev.bind (Ev.now s) (ev_val (Ev.now _) ?_)
      rw [hw]; simp
    | succ d ih =>
      intro i hi
      have hlt : i < ([a2, a3, a4] : List Int).length := by simp; omega
      refine Ev.step (fun k => by simp only [audit_Record_may.l0]; rfl) ?_
      refine Ev.pos (by omega) (Ev.pos (by omega) (Ev.pos (by omega) ?_))
      have hr : rd ([a2, a3, a4] : List Int) (i : Int) = ([a2, a3, a4] : List Int).getD i 0 := by unfold rd; rw [Int.toNat_natCast]
      have hd : ([a2, a3, a4] : List Int).drop i = ([a2, a3, a4] : List Int).getD i 0 :: ([a2, a3, a4] : List Int).drop (i + 1) := by
        rw [List.drop_eq_getElem_cons hlt, List.getD_eq_getElem?_getD, List.getElem?_eq_getElem hlt]; rfl
      rw [hr, hd, List.all_cons, w1n hlt (by simp)]
      generalize ([a2, a3, a4] : List Int).getD i 0 = x
      refine Ev.ite' (fun h => ev_val (Ev.now _) ?_) (fun h => Ev.ite' (fun h2 => ev_val (Ev.now _) ?_) (fun h2 => ev_val (ih (i + 1) (by omega)) ?_))
      · rw [show withinB x = false by unfold withinB; rw [decide_eq_false (by omega)]; rfl]; rfl
      · rw [show withinB x = false by unfold withinB; rw [decide_eq_false (show ¬ x ≤ 65535 by omega)]; simp]; rfl
      · rw [show withinB x = true by unfold withinB; rw [decide_eq_true (show 0 ≤ x by omega), decide_eq_true (show x ≤ 65535 by omega)]; rfl]; rfl
  refine ev_val (loop 3 0 rfl) ?_
  unfold mayB
  simp only [List.drop_zero, List.all_cons, List.all_nil, Bool.and_true]
  exact Bool.and_comm _ _
def roomI (D : DataW Unit) (L : Int) : Int := match D.atKey (kL L) (iL 0) with | .lit (.int _ c) => c | _ => 0
theorem roomI_eq {D : DataW Unit} {L c : Int} (h : D.atKey (kL L) (iL 0) = iL c) : roomI D L = c := by unfold roomI; rw [h]
theorem LogAt.room {B g bm : Nat} {v : Value} {w : World} {D : DataW Unit} {xs : List S36} (h : LogAt B g bm v w D xs) {L : Int} (hL : (kL L).wf = true) : D.atKey (kL L) (iL 0) = iL (roomI D L) := by
  obtain ⟨c, _, hc, _⟩ := h.hm.lookup_int lawK Tryd.underlying53 Tryd.underlying3 (zeroE _) (keyOf_int_mk Tryd.underlying34 hL)
  rw [hc, roomI_eq hc]
def addF (D : DataW Unit) (xs : List S36) (r : S36) : DataW Unit × List S36 × Int × Int :=
  if mayB r.f1 r.f2 r.f3 r.f4 = false then (D, xs, 0, 2) else if Maps.has D (kL r.f0) = false then (D, xs, 0, 6) else if roomI D r.f0 < 1 then (D, xs, 0, 4)
  else (D.put (kL r.f0) (iL (wrap64 (roomI D r.f0 - 1))), xs ++ [r], (xs.length : Int), 0)
set_option maxHeartbeats 4000000 in
theorem add_no (k : Nat) {B g bm : Nat} {v : Value} {w : World} {D : DataW Unit} {xs : List S36} (h : LogAt B g bm v w D xs)
    (a0 a1 a2 a3 a4 : Int) (hL : (kL a0).wf = true) (mb hb_ : Bool) (hmay : audit_Record_may.f k a0 a1 a2 a3 a4 = some mb) (hhas : Maps.has D (kL a0) = hb_) (c : Int) (hc : D.atKey (kL a0) (iL 0) = iL c) (hno : mb = true → hb_ = true → c < 1) :
    Calls Tryd.prog 13 #[.pointer (some ⟨g, 0, none⟩), .agg #[.int .u64 a0, .int .i64 a1, .int .i64 a2, .int .i64 a3, .int .i64 a4]] w fun e w' =>
      e = .returned (.tuple #[.int .i64 0, .int .i64 (if mb = false then 2 else if hb_ = false then 6 else 4)]) ∧ Below w.heap.size w w' := by
  have hu36 := Tryd.underlying36
  have hkey := keyOf_int_mk Tryd.underlying34 hL
  have HH := aM h
  clear h
  have hcr : mb = true → hb_ = true → decide (c < 1) = true := fun h1 h2 => decide_eq_true (hno h1 h2)
  clear hno
  cases mb <;> cases hb_
  all_goals
    try replace hcr := hcr rfl rfl
    go_enter Tryd.func13, Tryd.ntmps13
    go_wp2_with (first
      | ((with_reducible refine gate_dst (N := 3) rfl ?_); (try (refine gate_guard (by rfl) ?_; dsimp only)); refine box_event ?hg (N := 3) ?hd (cs := #[.int .u64 a0, .int .i64 a1, .int .i64 a2, .int .i64 a3, .int .i64 a4]) (t := 36) ?hr ?_; (case hd => rfl); (case hg => rfl); (case hr => first | (go_simp; done) | (go_simp; rfl)); intro gb hg w4 hbox hb; have HA := aM (HH.out.below hb); have BK := aM hbox; have HW := aM hb; have GE := aM (show w.heap.size ≤ gb by omega); clear hb hbox hg)
      | ((with_reducible refine gate_callee (f := 32) rfl ?_); refine goesL_ (some 9) rfl rfl Tryd.func32 (by kernel_rfl) rfl #[.pointer (some ⟨g, 0, none⟩)] rfl (by (try simp only [List.map_toArray, List.map_cons, List.map_nil]); first | done | rfl) ?_; (with_reducible refine (good_ok HA.out.hg).mono ?_); rintro e w3 ⟨rfl, hw⟩; subst w3; refine ⟨_, rfl, ?_⟩)
      )
    have c0 : w4.cell? ⟨g, 0, none⟩ = some (.map (some bm)) := (bC HA.out.hg 0).trans rfl
    have hx0 : w4.cell? ⟨gb, 0, none⟩ = some (.int .u64 a0) := (bC BK.out 0).trans rfl
    obtain ⟨v0, ps0, hv0, hrun⟩ : ∃ v0 ps0, plainElem Tryd.prog 3 v0 = some (D.atKey (kL a0) (iL 0), ps0) ∧ ∀ n, (Instr.lookup 53 (.map (some bm)) (.int .u64 a0) true).run Tryd.prog (w4.drewN n) = .ok (.tuple #[v0, .bool (Maps.has D (kL a0))]) (w4.drewN n) := by
      obtain ⟨v0, ps0, hr0, hv0⟩ := HA.out.hm.look_ok lawK Tryd.underlying53 (zeroE _) (plainElem_int Tryd.underlying3 (by decide)) hkey
      refine ⟨v0, ps0, hv0, fun n => ?_⟩
      obtain ⟨v1, ps1, hr1, hv1⟩ := World.ownsMap.look_ok (w := w4.drewN n) HA.out.hm lawK Tryd.underlying53 (zeroE _) (plainElem_int Tryd.underlying3 (by decide)) hkey
      obtain ⟨x0, rfl, e0, _⟩ := plainElem_int_inv Tryd.underlying3 hv0
      obtain ⟨x1, rfl, e1, _⟩ := plainElem_int_inv Tryd.underlying3 hv1
      rw [hr1]
      have h0 := congrArg Prod.fst e0
      have h1 := congrArg Prod.fst e1
      have h2 : (iL x0 : DataW Unit) = iL x1 := h0.symm.trans h1
      injection h2 with h2
      injection h2 with _ h2
      rw [h2]
    obtain ⟨x0, rfl, e0, _⟩ := plainElem_int_inv Tryd.underlying3 hv0
    obtain rfl : x0 = c := by rw [hc] at e0; simpa using (congrArg Prod.fst e0).symm
    rw [hhas] at hrun
    clear hv0 e0
    go_quiet (fail)
    have HA5 := aM (HA.out.below (pw_below_drewN (Below.refl _ _) nq : Below w4.heap.size w4 (w4.drewN nq)))
    have BK5 := aM (blk_drewN BK.out nq)
    have hsz5 : w.heap.size ≤ (w4.drewN nq).heap.size := Nat.le_of_lt (Nat.lt_of_le_of_lt GE.out (blk_lt BK5.out))
    have HW5 := aM (pw_below_drewN HW.out nq)
    generalize w4.drewN nq = w5 at *
    clear HA BK HW c0 hx0 hrun
    have HA := HA5
    have BK := BK5
    have HW := HW5
    clear HA5 BK5 HW5
    have hy0 : w5.cell? ⟨gb, 0, none⟩ = some (.int .u64 a0) := (bC BK.out 0).trans rfl
    have hy1 : w5.cell? ⟨gb, 1, none⟩ = some (.int .i64 a1) := (bC BK.out 1).trans rfl
    have hy2 : w5.cell? ⟨gb, 2, none⟩ = some (.int .i64 a2) := (bC BK.out 2).trans rfl
    have hy3 : w5.cell? ⟨gb, 3, none⟩ = some (.int .i64 a3) := (bC BK.out 3).trans rfl
    have hy4 : w5.cell? ⟨gb, 4, none⟩ = some (.int .i64 a4) := (bC BK.out 4).trans rfl
    go_wp2_with (first
      | ((with_reducible refine gate_callee (f := 33) rfl ?_); refine goesL_ (some 23) rfl rfl Tryd.func33 (by kernel_rfl) rfl #[.agg #[.int .u64 a0, .int .i64 a1, .int .i64 a2, .int .i64 a3, .int .i64 a4]] rfl (by (try simp only [List.map_toArray, List.map_cons, List.map_nil]); first | done | rfl) ?_; (with_reducible refine (audit_Record_may.calls k a0 a1 a2 a3 a4 _ _ hmay).mono ?_); rintro e w6 ⟨rfl, hb⟩; refine ⟨_, rfl, ?_⟩; have HA6 := aM (HA.out.below hb); have BK6 := aM (bB BK.out hb); have HW6 := aM (bP HW.out hb); have hsz6 := Nat.le_trans hsz5 hb.size; clear hb)
      )
    go_ret2
    exact ⟨rfl, HW6.out⟩
theorem add_step {B g bm : Nat} {v : Value} {w : World} {D : DataW Unit} {xs : List S36} (h : LogAt B g bm v w D xs) (hBw : B ≤ w.heap.size) (r : S36) (hL : (kL r.f0).wf = true) (hlen : (xs.length + 1) * 40 ≤ 140737488355328) :
    Calls Tryd.prog 13 #[.pointer (some ⟨g, 0, none⟩), .agg #[.int .u64 r.f0, .int .i64 r.f1, .int .i64 r.f2, .int .i64 r.f3, .int .i64 r.f4]] w fun e w' =>
      e = .returned (.tuple #[.int .i64 (addF D xs r).2.2.1, .int .i64 (addF D xs r).2.2.2]) ∧ ∃ v', LogAt B g bm v' w' (addF D xs r).1 (addF D xs r).2.1 ∧ Below B w w' ∧ Kept w w' (fun k => k = g ∨ k = bm ∨ some k = v.ownBlock) ∧ ∀ k, v'.ownBlock = some k → v.ownBlock = some k ∨ w.heap.size ≤ k := by
  obtain ⟨k, hk⟩ := Ev.rounds (may_ev r.f0 r.f1 r.f2 r.f3 r.f4)
  have hc := h.room hL
  have no : ∀ code : Int, Calls Tryd.prog 13 #[.pointer (some ⟨g, 0, none⟩), .agg #[.int .u64 r.f0, .int .i64 r.f1, .int .i64 r.f2, .int .i64 r.f3, .int .i64 r.f4]] w (fun e w' => e = .returned (.tuple #[.int .i64 0, .int .i64 code]) ∧ Below w.heap.size w w') → addF D xs r = (D, xs, 0, code) →
      Calls Tryd.prog 13 #[.pointer (some ⟨g, 0, none⟩), .agg #[.int .u64 r.f0, .int .i64 r.f1, .int .i64 r.f2, .int .i64 r.f3, .int .i64 r.f4]] w fun e w' =>
        e = .returned (.tuple #[.int .i64 (addF D xs r).2.2.1, .int .i64 (addF D xs r).2.2.2]) ∧ ∃ v', LogAt B g bm v' w' (addF D xs r).1 (addF D xs r).2.1 ∧ Below B w w' ∧ Kept w w' (fun k => k = g ∨ k = bm ∨ some k = v.ownBlock) ∧ ∀ k, v'.ownBlock = some k → v.ownBlock = some k ∨ w.heap.size ≤ k := by
    intro code hC e
    rw [e]
    exact hC.mono fun e w' ⟨he, hb⟩ => ⟨he, v, h.below hb, hb.mono hBw, Kept.of_below hb _, fun k hk => .inl hk⟩
  cases hm : mayB r.f1 r.f2 r.f3 r.f4 with
  | false => exact no 2 (add_no k h _ _ _ _ _ hL false (Maps.has D (kL r.f0)) (hm ▸ hk) rfl _ hc (fun h => by cases h)) (by unfold addF; rw [if_pos hm])
  | true =>
    cases hh : Maps.has D (kL r.f0) with
    | false => exact no 6 (add_no k h _ _ _ _ _ hL true false (hm ▸ hk) hh _ hc (fun _ h => by cases h)) (by unfold addF; rw [if_neg (by rw [hm]; decide), if_pos hh])
    | true =>
      by_cases hr : roomI D r.f0 < 1
      · exact no 4 (add_no k h _ _ _ _ _ hL true true (hm ▸ hk) hh _ hc (fun _ _ => hr)) (by unfold addF; rw [if_neg (by rw [hm]; decide), if_neg (by rw [hh]; decide), if_pos hr])
      · have e : addF D xs r = (D.put (kL r.f0) (iL (wrap64 (roomI D r.f0 - 1))), xs ++ [r], (xs.length : Int), 0) := by unfold addF; rw [if_neg (by rw [hm]; decide), if_neg (by rw [hh]; decide), if_neg hr]
        rw [e]
        exact add_ok k h hBw _ _ _ _ _ hL (hm ▸ hk) hh _ hc hr hlen
end Go.Proofs.YtcbiilbmldinhaaDoor.PB
end

section
namespace Go.Proofs.YtcbiilbmldinhaaDoor.PB
open Go.RowKit Go.Proofs.YtcbiilbmldinhaaDoorW.PrintWords Go.Proofs.YtcbiilbmldinhaaDoorW.PrintLast Go.Proofs.YtcbiilbmldinhaaDoorW.PrintMore
attribute [local go_sem] max2_int min2_int max_two min_two max_three min_three max_four min_four   
set_option linter.unusedVariables false
set_option linter.unusedSimpArgs false
theorem eqA38 (d : Nat) (w : World) (x0 y0 : Int) (x1 y1 : Int) (x2 y2 : Int) (x3 y3 : Int) (x4 y4 : Int) :
  (Op.equalIn (d + 2) 38 (.agg #[.int .u64 x0, .int .i64 x1, .int .i64 x2, .int .i64 x3, .int .i64 x4]) (.agg #[.int .u64 y0, .int .i64 y1, .int .i64 y2, .int .i64 y3, .int .i64 y4])).run Tryd.prog w = .ok (x0 == y0 && (x1 == y1 && (x2 == y2 && (x3 == y3 && (x4 == y4))))) w := by
 refine eqA_of Tryd.underlying38 (by kernel_rfl) ?_
 refine eqf_cons (by rfl) (by go_simp; rfl) (by go_simp; rfl) (by go_simp) ?_
 refine eqf_cons (by rfl) (by go_simp; rfl) (by go_simp; rfl) (by go_simp) ?_
 refine eqf_cons (by rfl) (by go_simp; rfl) (by go_simp; rfl) (by go_simp) ?_
 refine eqf_cons (by rfl) (by go_simp; rfl) (by go_simp; rfl) (by go_simp) ?_
 exact eqf_last (by rfl) (by go_simp; rfl) (by go_simp; rfl) (by go_simp)
end Go.Proofs.YtcbiilbmldinhaaDoor.PB
end

section
namespace Go.Proofs.YtcbiilbmldinhaaDoor.PB
open Go.RowKit Go.Proofs.YtcbiilbmldinhaaDoorW.PrintWords Go.Proofs.YtcbiilbmldinhaaDoorW.PrintLast Go.Proofs.YtcbiilbmldinhaaDoorW.PrintMore
attribute [local go_sem] max2_int min2_int max_two min_two max_three min_three max_four min_four   
set_option linter.unusedVariables false
set_option linter.unusedSimpArgs false
attribute [local go_sem high] eqA38
def bureauref18_Extends.l0 : Nat → List (S38) → List (S38) → Int → Option (Bool)
 | 0, _, _, _ => none
 | k + 1, x0, x1, x5 => if x5 < (x1.length : Int) then (if 0 ≤ x5 then (if x5 < (x0.length : Int) then (if (!(((rd_T38 x0 x5).f0) == ((rd_T38 x1 x5).f0)) || (!(((rd_T38 x0 x5).f1) == ((rd_T38 x1 x5).f1)) || (!(((rd_T38 x0 x5).f2) == ((rd_T38 x1 x5).f2)) || (!(((rd_T38 x0 x5).f3) == ((rd_T38 x1 x5).f3)) || (!(((rd_T38 x0 x5).f4) == ((rd_T38 x1 x5).f4))))))) = true then (some false) else (bureauref18_Extends.l0 k x0 x1 (wrap64 (x5 + 1)))) else (none)) else (none)) else (some true)
def bureauref18_Extends.f (k : Nat) (l0 : List (S38)) (l1 : List (S38)) : Option (Bool) := if (l1.length : Int) > (l0.length : Int) then (some false) else (bureauref18_Extends.l0 k l0 l1 0)
set_option maxHeartbeats 8000000 in
set_option maxRecDepth 100000 in
theorem bureauref18_Extends.calls (k : Nat) (A0 : Option Addr) (c0 : Nat) (l0 : List (S38)) (A1 : Option Addr) (c1 : Nat) (l1 : List (S38)) (r : Bool) (w : World) (hr0 : Kd.C k38 w A0 l0.length l0) (hc0 : l0.length ≤ c0) (hr1 : Kd.C k38 w A1 l1.length l1) (hc1 : l1.length ≤ c1) (h : bureauref18_Extends.f k l0 l1 = some r) :
  Calls Tryd.prog 24 #[.slice A0 l0.length c0, .slice A1 l1.length c1] w fun e w' => e = .returned (.bool r) ∧ Drawn0 w w' := by
 have hu38 := Tryd.underlying38
 have HR0 := aM hr0
 have HC0 := aM hc0
 clear hr0 hc0
 have HR1 := aM hr1
 have HC1 := aM hc1
 clear hr1 hc1
 have H : (if (l1.length : Int) > (l0.length : Int) then (some false) else (bureauref18_Extends.l0 k l0 l1 0)) = some r := h
 clear h
 by_cases c3 : (l1.length : Int) > (l0.length : Int)
 ·rw [if_pos c3] at H
  have c3b0 : decide ((l0.length : Int) < (l1.length : Int)) = true := decide_eq_true c3
  have c3b1 : decide (l0.length < l1.length) = true := decide_eq_true (Int.ofNat_lt.mp c3)
  clear c3
  obtain rfl := Option.some.inj H
  go_enter Tryd.func24, Tryd.ntmps24
  go_wp2
  repeat (go_quiet (fail); try go_wp2)
  go_ret
  exact ⟨by first | rfl | (simp; done) | (simp [*]; done), by repeat (first | exact Drawn0.refl _ | apply Drawn0.step)⟩
 ·rw [if_neg c3] at H
  have c3b0 : decide ((l0.length : Int) < (l1.length : Int)) = false := decide_eq_false c3
  have c3b1 : decide (l0.length < l1.length) = false := decide_eq_false (fun h => c3 (Int.ofNat_lt.mpr h))
  clear c3
  have H' := aM H
  clear H
  go_enter Tryd.func24, Tryd.ntmps24
  go_wp2
  repeat (go_quiet (fail); try go_wp2)
  go_loopg [5] k (fun kq v5 w' => ∃ (x5_1 : Int), v5 = .int .i64 x5_1 ∧ Aside0 (bureauref18_Extends.l0 kq l0 l1 x5_1 = some r) ∧ Aside0 (kq ≤ k) ∧ Drawn0 w w')
  case atStart => exact ⟨(0), (by first | rfl | (simp; done) | (simp [*]; done)), H', ⟨Nat.le_refl _⟩, by repeat (first | exact Drawn0.refl _ | apply Drawn0.step)⟩
  case round =>
   clear H'
   try clear c1
   try clear c2
   try clear p2
   try clear c3
   try clear c3b0
   try clear c3b1
   obtain ⟨x5_1, rfl, HA, HK1, ⟨m1, rfl⟩⟩ := hrel
   cases gk with
   | zero => exact absurd HA.out (by simp [bureauref18_Extends.l0])
   | succ k1 =>
    have H := HA.out
    clear HA
    simp only [bureauref18_Extends.l0] at H
    by_cases c4 : x5_1 < (l1.length : Int)
    ·rw [if_pos c4] at H
     have c4b0 : decide (x5_1 < (l1.length : Int)) = true := decide_eq_true c4
     clear c4
     by_cases c5 : 0 ≤ x5_1
     ·rw [if_pos c5] at H
      have c5b0 : decide (0 ≤ x5_1) = true := decide_eq_true c5
      clear c5
      by_cases c6 : x5_1 < (l0.length : Int)
      ·rw [if_pos c6] at H
       have c6b0 : decide (x5_1 < (l0.length : Int)) = true := decide_eq_true c6
       clear c6
       by_cases c7 : (!(((rd_T38 l0 x5_1).f0) == ((rd_T38 l1 x5_1).f0)) || (!(((rd_T38 l0 x5_1).f1) == ((rd_T38 l1 x5_1).f1)) || (!(((rd_T38 l0 x5_1).f2) == ((rd_T38 l1 x5_1).f2)) || (!(((rd_T38 l0 x5_1).f3) == ((rd_T38 l1 x5_1).f3)) || (!(((rd_T38 l0 x5_1).f4) == ((rd_T38 l1 x5_1).f4))))))) = true
       ·rw [if_pos c7] at H
        have c7b0 : (!(((rd_T38 l0 x5_1).f0) == ((rd_T38 l1 x5_1).f0)) || (!(((rd_T38 l0 x5_1).f1) == ((rd_T38 l1 x5_1).f1)) || (!(((rd_T38 l0 x5_1).f2) == ((rd_T38 l1 x5_1).f2)) || (!(((rd_T38 l0 x5_1).f3) == ((rd_T38 l1 x5_1).f3)) || (!(((rd_T38 l0 x5_1).f4) == ((rd_T38 l1 x5_1).f4))))))) = true := c7
        clear c7
        obtain rfl := Option.some.inj H
        have p178 : 0 ≤ (x5_1 : Int) := of_decide_eq_true (by first | (with_reducible assumption) | assumption)
        have q178 : x5_1 < (l0.length : Int) := of_decide_eq_true (by first | (with_reducible assumption) | assumption)
        obtain ⟨ad178, e178, hx178_0, hx178_1, hx178_2, hx178_3, hx178_4⟩ := at_T38 HR0.out x5_1 p178 q178
        cases e178
        replace p178 := eq_true p178
        replace q178 := eq_true q178
        have p179 : 0 ≤ (x5_1 : Int) := of_decide_eq_true (by first | (with_reducible assumption) | assumption)
        have q179 : x5_1 < (l1.length : Int) := of_decide_eq_true (by first | (with_reducible assumption) | assumption)
        obtain ⟨ad179, e179, hx179_0, hx179_1, hx179_2, hx179_3, hx179_4⟩ := at_T38 HR1.out x5_1 p179 q179
        cases e179
        replace p179 := eq_true p179
        replace q179 := eq_true q179
        go_wp2
        repeat (go_quiet (fail); try go_wp2)
        go_ret
        exact ⟨by first | rfl | (simp; done) | (simp [*]; done), by repeat (first | exact Drawn0.refl _ | apply Drawn0.step)⟩
       ·rw [if_neg c7] at H
        have c7b0 : (!(((rd_T38 l0 x5_1).f0) == ((rd_T38 l1 x5_1).f0)) || (!(((rd_T38 l0 x5_1).f1) == ((rd_T38 l1 x5_1).f1)) || (!(((rd_T38 l0 x5_1).f2) == ((rd_T38 l1 x5_1).f2)) || (!(((rd_T38 l0 x5_1).f3) == ((rd_T38 l1 x5_1).f3)) || (!(((rd_T38 l0 x5_1).f4) == ((rd_T38 l1 x5_1).f4))))))) = false := by simpa using c7
        clear c7
        have H' := aM H
        clear H
        have p178 : 0 ≤ (x5_1 : Int) := of_decide_eq_true (by first | (with_reducible assumption) | assumption)
        have q178 : x5_1 < (l0.length : Int) := of_decide_eq_true (by first | (with_reducible assumption) | assumption)
        obtain ⟨ad178, e178, hx178_0, hx178_1, hx178_2, hx178_3, hx178_4⟩ := at_T38 HR0.out x5_1 p178 q178
        cases e178
        replace p178 := eq_true p178
        replace q178 := eq_true q178
        have p179 : 0 ≤ (x5_1 : Int) := of_decide_eq_true (by first | (with_reducible assumption) | assumption)
        have q179 : x5_1 < (l1.length : Int) := of_decide_eq_true (by first | (with_reducible assumption) | assumption)
        obtain ⟨ad179, e179, hx179_0, hx179_1, hx179_2, hx179_3, hx179_4⟩ := at_T38 HR1.out x5_1 p179 q179
        cases e179
        replace p179 := eq_true p179
        replace q179 := eq_true q179
        go_wp2
        repeat (go_quiet (fail); try go_wp2)
        go_roundg k1
        case measure => have := HK1.out; omega
        case rel => exact ⟨(wrap64 (x5_1 + 1)), (by first | rfl | (simp; done) | (simp [*]; done)), H', ⟨by have := HK1.out; omega⟩, by repeat (first | exact Drawn0.refl _ | apply Drawn0.step)⟩
      ·rw [if_neg c6] at H
       exact absurd H (by simp)
     ·rw [if_neg c5] at H
      exact absurd H (by simp)
    ·rw [if_neg c4] at H
     have c4b0 : decide (x5_1 < (l1.length : Int)) = false := decide_eq_false c4
     clear c4
     obtain rfl := Option.some.inj H
     go_wp2
     repeat (go_quiet (fail); try go_wp2)
     go_ret
     exact ⟨by first | rfl | (simp; done) | (simp [*]; done), by repeat (first | exact Drawn0.refl _ | apply Drawn0.step)⟩
end Go.Proofs.YtcbiilbmldinhaaDoor.PB
end

section
namespace Go.Proofs.YtcbiilbmldinhaaDoor.PB
open Go.RowKit Go.Proofs.YtcbiilbmldinhaaDoorW.PrintWords
set_option linter.unusedVariables false
set_option linter.unusedSimpArgs false
theorem rd36 (l : List S36) (i : Nat) : rd_T36 l (i : Int) = l.getD i z36 := by unfold rd_T36; rw [Int.toNat_natCast]
theorem rd38 (l : List S38) (i : Nat) : rd_T38 l (i : Int) = l.getD i z38 := by unfold rd_T38; rw [Int.toNat_natCast]
theorem dropG {α : Type} {z : α} {l : List α} {i : Nat} (h : i < l.length) : l.drop i = l.getD i z :: l.drop (i + 1) := by
  rw [List.drop_eq_getElem_cons h, List.getD_eq_getElem?_getD, List.getElem?_eq_getElem h]; rfl
theorem takeG {α : Type} {z : α} {l : List α} {i : Nat} (h : i < l.length) : l.take (i + 1) = l.take i ++ [l.getD i z] := by
  rw [List.getD_eq_getElem?_getD, List.getElem?_eq_getElem h, Option.getD_some]
  exact (List.take_append_getElem h).symm
instance : DecidableEq S36 := fun x y => decidable_of_iff (x.f0 = y.f0 ∧ x.f1 = y.f1 ∧ x.f2 = y.f2 ∧ x.f3 = y.f3 ∧ x.f4 = y.f4) (by cases x; cases y; simp)
instance : DecidableEq S38 := fun x y => decidable_of_iff (x.f0 = y.f0 ∧ x.f1 = y.f1 ∧ x.f2 = y.f2 ∧ x.f3 = y.f3 ∧ x.f4 = y.f4) (by cases x; cases y; simp)
theorem ne38 (x y : S38) : ((!((x.f0) == (y.f0)) || (!((x.f1) == (y.f1)) || (!((x.f2) == (y.f2)) || (!((x.f3) == (y.f3)) || (!((x.f4) == (y.f4))))))) = true) ↔ ¬ x = y := by
  cases x; cases y
  simp
  omega
theorem rext_ev (a b : List S38) (hl : b.length ≤ 100000) : Ev (fun k => bureauref18_Extends.f k a b) (decide (a.take b.length = b)) := by
  unfold bureauref18_Extends.f
  by_cases h : b.length ≤ a.length
  · refine Ev.neg (by omega) ?_
    have loop : ∀ (d i : Nat), i + d = b.length → Ev (fun k => bureauref18_Extends.l0 k a b (i : Int)) (decide ((a.take b.length).drop i = b.drop i)) := by
      intro d
      induction d with
      | zero =>
        intro i hi
        refine Ev.step (fun k => by simp only [bureauref18_Extends.l0]; rfl) ?_
        refine Ev.neg (by omega) ?_
        rw [List.drop_eq_nil_of_le (by rw [List.length_take]; omega), List.drop_eq_nil_of_le (by omega)]
        exact Ev.now _
      | succ d ih =>
        intro i hi
        have hlt : i < b.length := by omega
        refine Ev.step (fun k => by simp only [bureauref18_Extends.l0]; rfl) ?_
        refine Ev.pos (by omega) (Ev.pos (by omega) (Ev.pos (by omega) ?_))
        have hta : (a.take b.length).getD i z38 = a.getD i z38 := by
          rw [List.getD_eq_getElem?_getD, List.getD_eq_getElem?_getD, List.getElem?_take_of_lt hlt]
        rw [dropG (z := z38) hlt, dropG (z := z38) (l := a.take b.length) (by rw [List.length_take]; omega), rd38, rd38, w1n hlt (by omega), hta]
        by_cases he : a.getD i z38 = b.getD i z38
        · exact Ev.neg (fun h => (ne38 _ _).1 h he) (ev_val (ih (i + 1) (by omega)) (by rw [he]; simp))
        · exact Ev.pos ((ne38 _ _).2 he) (ev_val (Ev.now _) (by simp; intro h; exact absurd h he))
    exact ev_val (loop b.length 0 (by omega)) (by simp)
  · refine Ev.pos (by omega) (ev_val (Ev.now _) ?_)
    symm
    rw [decide_eq_false_iff_not]
    intro e
    have := congrArg List.length e
    rw [List.length_take] at this
    omega
end Go.Proofs.YtcbiilbmldinhaaDoor.PB
end

section
namespace Go.Proofs.YtcbiilbmldinhaaDoor.PB
open Go.RowKit Go.Proofs.YtcbiilbmldinhaaDoorW.PrintWords Go.Proofs.YtcbiilbmldinhaaDoorW.PrintLast Go.Proofs.YtcbiilbmldinhaaDoorW.PrintMore
attribute [local go_sem] max2_int min2_int max_two min_two max_three min_three max_four min_four   
set_option linter.unusedVariables false
set_option linter.unusedSimpArgs false
def bureauref01_Place.l0 : Nat → List Int → Int → Int → Option (Int)
 | 0, _, _, _ => none
 | k + 1, x0, x1, x5 => if x5 < (x0.length : Int) then (if 0 ≤ x5 then (if (rd x0 x5) = x1 then (some x5) else (bureauref01_Place.l0 k x0 x1 (wrap64 (x5 + 1)))) else (none)) else (some (-1))
def bureauref01_Place.f (k : Nat) (l0 : List Int) (a1 : Int) : Option (Int) := bureauref01_Place.l0 k l0 a1 0
set_option maxHeartbeats 8000000 in
set_option maxRecDepth 100000 in
theorem bureauref01_Place.calls (k : Nat) (A0 : Option Addr) (c0 : Nat) (l0 : List Int) (a1 : Int) (r : Int) (w : World) (hr0 : Kd.C (Kd.int .u64) w A0 l0.length l0) (hc0 : l0.length ≤ c0) (h : bureauref01_Place.f k l0 a1 = some r) :
  Calls Tryd.prog 31 #[.slice A0 l0.length c0, .int .u64 a1] w fun e w' => e = .returned (.int .i64 r) ∧ Drawn0 w w' := by
 have HR0 := aM hr0
 have HC0 := aM hc0
 clear hr0 hc0
 have H : (bureauref01_Place.l0 k l0 a1 0) = some r := h
 clear h
 have H' := aM H
 clear H
 go_enter Tryd.func31, Tryd.ntmps31
 go_wp2
 go_loopg [5] k (fun kq v5 w' => ∃ (x5_1 : Int), v5 = .int .i64 x5_1 ∧ Aside0 (bureauref01_Place.l0 kq l0 a1 x5_1 = some r) ∧ Aside0 (kq ≤ k) ∧ Drawn0 w w')
 case atStart => exact ⟨(0), (by first | rfl | (simp; done) | (simp [*]; done)), H', ⟨Nat.le_refl _⟩, by repeat (first | exact Drawn0.refl _ | apply Drawn0.step)⟩
 case round =>
  clear H'
  try clear p2
  obtain ⟨x5_1, rfl, HA, HK1, ⟨m1, rfl⟩⟩ := hrel
  cases gk with
  | zero => exact absurd HA.out (by simp [bureauref01_Place.l0])
  | succ k1 =>
   have H := HA.out
   clear HA
   simp only [bureauref01_Place.l0] at H
   by_cases c3 : x5_1 < (l0.length : Int)
   ·rw [if_pos c3] at H
    have c3b0 : decide (x5_1 < (l0.length : Int)) = true := decide_eq_true c3
    clear c3
    by_cases c4 : 0 ≤ x5_1
    ·rw [if_pos c4] at H
     have c4b0 : decide (0 ≤ x5_1) = true := decide_eq_true c4
     clear c4
     by_cases c5 : (rd l0 x5_1) = a1
     ·rw [if_pos c5] at H
      have c5b0 : ((rd l0 x5_1) == a1) = true := beq_iff_eq.mpr c5
      have c5b1 : ((rd l0 x5_1) != a1) = false := bne_eq_false_iff_eq.mpr c5
      clear c5
      obtain rfl := Option.some.inj H
      have p153 : 0 ≤ (x5_1 : Int) := of_decide_eq_true (by first | (with_reducible assumption) | assumption)
      have q153 : x5_1 < (l0.length : Int) := of_decide_eq_true (by first | (with_reducible assumption) | assumption)
      obtain ⟨ad153, e153, hx153_0⟩ := Kd.at_int HR0.out x5_1 p153 q153
      cases e153
      replace p153 := eq_true p153
      replace q153 := eq_true q153
      go_wp2
      go_ret
      exact ⟨by first | rfl | (simp; done) | (simp [*]; done), by repeat (first | exact Drawn0.refl _ | apply Drawn0.step)⟩
     ·rw [if_neg c5] at H
      have c5b0 : ((rd l0 x5_1) == a1) = false := beq_eq_false_iff_ne.mpr c5
      have c5b1 : ((rd l0 x5_1) != a1) = true := bne_iff_ne.mpr c5
      have H' := aM H
      clear H
      have p153 : 0 ≤ (x5_1 : Int) := of_decide_eq_true (by first | (with_reducible assumption) | assumption)
      have q153 : x5_1 < (l0.length : Int) := of_decide_eq_true (by first | (with_reducible assumption) | assumption)
      obtain ⟨ad153, e153, hx153_0⟩ := Kd.at_int HR0.out x5_1 p153 q153
      cases e153
      replace p153 := eq_true p153
      replace q153 := eq_true q153
      go_wp2
      go_roundg k1
      case measure => have := HK1.out; omega
      case rel => exact ⟨(wrap64 (x5_1 + 1)), (by first | rfl | (simp; done) | (simp [*]; done)), H', ⟨by have := HK1.out; omega⟩, by repeat (first | exact Drawn0.refl _ | apply Drawn0.step)⟩
    ·rw [if_neg c4] at H
     exact absurd H (by simp)
   ·rw [if_neg c3] at H
    have c3b0 : decide (x5_1 < (l0.length : Int)) = false := decide_eq_false c3
    clear c3
    obtain rfl := Option.some.inj H
    go_wp2
    go_ret
    exact ⟨by first | rfl | (simp; done) | (simp [*]; done), by repeat (first | exact Drawn0.refl _ | apply Drawn0.step)⟩
end Go.Proofs.YtcbiilbmldinhaaDoor.PB
end

section
namespace Go.Proofs.YtcbiilbmldinhaaDoor.PB
open Go.RowKit Go.Proofs.YtcbiilbmldinhaaDoorW.PrintWords Go.Proofs.YtcbiilbmldinhaaDoorW.PrintLast Go.Proofs.YtcbiilbmldinhaaDoorW.PrintMore
attribute [local go_sem] max2_int min2_int max_two min_two max_three min_three max_four min_four   
set_option linter.unusedVariables false
set_option linter.unusedSimpArgs false
mutual
def bureauref18_Right.j0 : Nat → List Int → Bool → Option (Bool)
 | 0, _, _ => none
 | k + 1, x0, x21 => if x21 = true then (some false) else (bureauref18_Right.l0 k x0 0)
def bureauref18_Right.l0 : Nat → List Int → Int → Option (Bool)
 | 0, _, _ => none
 | k + 1, x0, x5 => if x5 < (x0.length : Int) then (if 0 ≤ x5 then ((bureauref01_Place.f k x0 (rd x0 x5)).bind fun t155 => (if t155 = x5 then (bureauref18_Right.l0 k x0 (wrap64 (x5 + 1))) else (some false))) else (none)) else (some true)
end
def bureauref18_Right.f (k : Nat) (l0 : List Int) (a1 : Int) : Option (Bool) := if (l0.length : Int) < 1 then (bureauref18_Right.j0 k l0 true) else (if (l0.length : Int) > 8 then (bureauref18_Right.j0 k l0 true) else (if a1 < 1 then (bureauref18_Right.j0 k l0 true) else (bureauref18_Right.j0 k l0 (decide (a1 > 1024)))))
set_option maxHeartbeats 8000000 in
set_option maxRecDepth 100000 in
theorem bureauref18_Right.calls (k : Nat) (A0 : Option Addr) (c0 : Nat) (l0 : List Int) (a1 : Int) (r : Bool) (w : World) (hr0 : Kd.C (Kd.int .u64) w A0 l0.length l0) (hc0 : l0.length ≤ c0) (h : bureauref18_Right.f k l0 a1 = some r) :
  Calls Tryd.prog 12 #[.slice A0 l0.length c0, .int .i64 a1] w fun e w' => e = .returned (.bool r) ∧ Drawn0 w w' := by
 have HR0 := aM hr0
 have HC0 := aM hc0
 clear hr0 hc0
 have H : (if (l0.length : Int) < 1 then (bureauref18_Right.j0 k l0 true) else (if (l0.length : Int) > 8 then (bureauref18_Right.j0 k l0 true) else (if a1 < 1 then (bureauref18_Right.j0 k l0 true) else (bureauref18_Right.j0 k l0 (decide (a1 > 1024)))))) = some r := h
 clear h
 have HC3 := aM H
 clear H
 go_enter Tryd.func12, Tryd.ntmps12
 go_upto_region 1 with (fail)
 go_cut [21] (fun v21 wc => ∃ (kq : Nat) (x21_2 : Bool), v21 = .bool x21_2 ∧ Aside0 (bureauref18_Right.j0 kq l0 x21_2 = some r) ∧ Aside0 (kq ≤ k) ∧ Drawn0 w wc)
 case first =>
  have H := HC3.out
  clear HC3
  by_cases c4 : (l0.length : Int) < 1
  ·rw [if_pos c4] at H
   have c4b0 : decide ((l0.length : Int) < 1) = true := decide_eq_true c4
   have c4b1 : decide (l0.length < 1) = true := decide_eq_true (by omega)
   clear c4
   (first | rw [c4b0] | (simp only [i64_w, i32_w]; rw [c4b0]) | skip)
   have H' := aM H
   clear H
   go_wp2
   go_meet
   case rel => exact ⟨_, (true), (by first | rfl | (simp; done) | (simp [*]; done)), H', ⟨by first | omega | exact Nat.le_refl _⟩, by repeat (first | exact Drawn0.refl _ | apply Drawn0.step)⟩
  ·rw [if_neg c4] at H
   have c4b0 : decide ((l0.length : Int) < 1) = false := decide_eq_false c4
   have c4b1 : decide (l0.length < 1) = false := decide_eq_false (by omega)
   clear c4
   (first | rw [c4b0] | (simp only [i64_w, i32_w]; rw [c4b0]) | skip)
   by_cases c5 : (l0.length : Int) > 8
   ·rw [if_pos c5] at H
    have c5b0 : decide (8 < (l0.length : Int)) = true := decide_eq_true c5
    have c5b1 : decide (8 < l0.length) = true := decide_eq_true (by omega)
    clear c5
    have H' := aM H
    clear H
    go_wp2
    go_meet
    case rel => exact ⟨_, (true), (by first | rfl | (simp; done) | (simp [*]; done)), H', ⟨by first | omega | exact Nat.le_refl _⟩, by repeat (first | exact Drawn0.refl _ | apply Drawn0.step)⟩
   ·rw [if_neg c5] at H
    have c5b0 : decide (8 < (l0.length : Int)) = false := decide_eq_false c5
    have c5b1 : decide (8 < l0.length) = false := decide_eq_false (by omega)
    clear c5
    by_cases c6 : a1 < 1
    ·rw [if_pos c6] at H
     have c6b0 : decide (a1 < 1) = true := decide_eq_true c6
     clear c6
     have H' := aM H
     clear H
     go_wp2
     go_meet
     case rel => exact ⟨_, (true), (by first | rfl | (simp; done) | (simp [*]; done)), H', ⟨by first | omega | exact Nat.le_refl _⟩, by repeat (first | exact Drawn0.refl _ | apply Drawn0.step)⟩
    ·rw [if_neg c6] at H
     have c6b0 : decide (a1 < 1) = false := decide_eq_false c6
     clear c6
     have H' := aM H
     clear H
     go_wp2
     go_meet
     case rel => exact ⟨_, (decide (a1 > 1024)), (by first | rfl | (simp; done) | (simp [*]; done)), H', ⟨by first | omega | exact Nat.le_refl _⟩, by repeat (first | exact Drawn0.refl _ | apply Drawn0.step)⟩
 case rest =>
  clear HC3
  try clear c1
  try clear p2
  try clear c4
  try clear c4b0
  try clear c4b1
  try clear c5
  try clear c5b0
  try clear c5b1
  try clear c6
  try clear c6b0
  obtain ⟨kq, x21_2, rfl, HA, HJ2, ⟨mc2, rfl⟩⟩ := hcut
  cases kq with
  | zero => exact absurd HA.out (by simp [bureauref18_Right.j0])
  | succ kj2 =>
   have H := HA.out
   clear HA
   simp only [bureauref18_Right.j0] at H
   by_cases c7 : x21_2 = true
   ·subst c7
    have H1 : (some false) = some r := by rw [if_pos rfl] at H; exact H
    clear H
    have H := H1
    clear H1
    obtain rfl := Option.some.inj H
    go_wp2
    go_ret
    exact ⟨by first | rfl | (simp; done) | (simp [*]; done), by repeat (first | exact Drawn0.refl _ | apply Drawn0.step)⟩
   ·replace c7 := Bool.eq_false_iff.mpr c7
    subst c7
    have H1 : (bureauref18_Right.l0 kj2 l0 0) = some r := by rw [if_neg (show ¬ (false = true) by decide)] at H; exact H
    clear H
    have H := H1
    clear H1
    have H' := aM H
    clear H
    go_wp2
    go_loopg [5] kj2 (fun kq v5 w' => ∃ (x5_2 : Int), v5 = .int .i64 x5_2 ∧ Aside0 (bureauref18_Right.l0 kq l0 x5_2 = some r) ∧ Aside0 (kq ≤ kj2) ∧ Drawn0 w w')
    case atStart => exact ⟨(0), (by first | rfl | (simp; done) | (simp [*]; done)), H', ⟨Nat.le_refl _⟩, by repeat (first | exact Drawn0.refl _ | apply Drawn0.step)⟩
    case round =>
     clear H'
     try clear c1
     try clear c2
     try clear p2
     try clear c4
     try clear c4b0
     try clear c4b1
     try clear c5
     try clear c5b0
     try clear c5b1
     try clear c6
     try clear c6b0
     try clear c7
     try clear p2
     obtain ⟨x5_2, rfl, HA, HK2, ⟨m2, rfl⟩⟩ := hrel
     cases gk with
     | zero => exact absurd HA.out (by simp [bureauref18_Right.l0])
     | succ k2 =>
      have H := HA.out
      clear HA
      simp only [bureauref18_Right.l0] at H
      by_cases c8 : x5_2 < (l0.length : Int)
      ·rw [if_pos c8] at H
       have c8b0 : decide (x5_2 < (l0.length : Int)) = true := decide_eq_true c8
       clear c8
       by_cases c9 : 0 ≤ x5_2
       ·rw [if_pos c9] at H
        have c9b0 : decide (0 ≤ x5_2) = true := decide_eq_true c9
        clear c9
        replace H := Option.bind_eq_some_iff.mp H
        obtain ⟨t155, A100, H⟩ := H
        replace H : (if t155 = x5_2 then (bureauref18_Right.l0 k2 l0 (wrap64 (x5_2 + 1))) else (some false)) = some r := H
        have A10 := aM A100
        clear A100
        by_cases c11 : t155 = x5_2
        ·rw [if_pos c11] at H
         have c11b0 : (t155 == x5_2) = true := beq_iff_eq.mpr c11
         have c11b1 : (t155 != x5_2) = false := bne_eq_false_iff_eq.mpr c11
         clear c11
         have H' := aM H
         clear H
         have p154 : 0 ≤ (x5_2 : Int) := of_decide_eq_true (by first | (with_reducible assumption) | assumption)
         have q154 : x5_2 < (l0.length : Int) := of_decide_eq_true (by first | (with_reducible assumption) | assumption)
         obtain ⟨ad154, e154, hx154_0⟩ := Kd.at_int HR0.out x5_2 p154 q154
         cases e154
         replace p154 := eq_true p154
         replace q154 := eq_true q154
         go_wp2_with (first | ((with_reducible refine gate_callee (f := 31) rfl ?_); refine goesL_ (some 33) rfl rfl Tryd.func31 (by kernel_rfl) rfl #[.slice (some ad154) l0.length c0, .int .u64 (rd l0 x5_2)] rfl (by (try simp only [mT, mC, mN]); first | done | rfl | (simp only [lD, lT]; rfl)) ?_; (with_reducible refine (bureauref01_Place.calls k2 _ _ l0 (rd l0 x5_2) t155 _ ?side1 ?side2 A10.out).mono ?_); (case side1 => repeat (first | exact HR0.out | (with_reducible refine Kd.C_alloc ?_ _) | (with_reducible refine Kd.C_drewN ?_ _) | (with_reducible refine Kd.C_drew ?_))); (case side2 => exact HC0.out); rintro e w' ⟨rfl, ⟨nd, rfl⟩⟩; refine ⟨_, rfl, ?_⟩))
         go_roundg k2
         case measure => have := HJ2.out; have := HK2.out; omega
         case rel => exact ⟨(wrap64 (x5_2 + 1)), (by first | rfl | (simp; done) | (simp [*]; done)), H', ⟨by have := HJ2.out; have := HK2.out; omega⟩, by repeat (first | exact Drawn0.refl _ | apply Drawn0.step)⟩
        ·rw [if_neg c11] at H
         have c11b0 : (t155 == x5_2) = false := beq_eq_false_iff_ne.mpr c11
         have c11b1 : (t155 != x5_2) = true := bne_iff_ne.mpr c11
         obtain rfl := Option.some.inj H
         have p154 : 0 ≤ (x5_2 : Int) := of_decide_eq_true (by first | (with_reducible assumption) | assumption)
         have q154 : x5_2 < (l0.length : Int) := of_decide_eq_true (by first | (with_reducible assumption) | assumption)
         obtain ⟨ad154, e154, hx154_0⟩ := Kd.at_int HR0.out x5_2 p154 q154
         cases e154
         replace p154 := eq_true p154
         replace q154 := eq_true q154
         go_wp2_with (first | ((with_reducible refine gate_callee (f := 31) rfl ?_); refine goesL_ (some 33) rfl rfl Tryd.func31 (by kernel_rfl) rfl #[.slice (some ad154) l0.length c0, .int .u64 (rd l0 x5_2)] rfl (by (try simp only [mT, mC, mN]); first | done | rfl | (simp only [lD, lT]; rfl)) ?_; (with_reducible refine (bureauref01_Place.calls k2 _ _ l0 (rd l0 x5_2) t155 _ ?side1 ?side2 A10.out).mono ?_); (case side1 => repeat (first | exact HR0.out | (with_reducible refine Kd.C_alloc ?_ _) | (with_reducible refine Kd.C_drewN ?_ _) | (with_reducible refine Kd.C_drew ?_))); (case side2 => exact HC0.out); rintro e w' ⟨rfl, ⟨nd, rfl⟩⟩; refine ⟨_, rfl, ?_⟩))
         go_ret
         exact ⟨by first | rfl | (simp; done) | (simp [*]; done), by repeat (first | exact Drawn0.refl _ | apply Drawn0.step)⟩
       ·rw [if_neg c9] at H
        exact absurd H (by simp)
      ·rw [if_neg c8] at H
       have c8b0 : decide (x5_2 < (l0.length : Int)) = false := decide_eq_false c8
       clear c8
       obtain rfl := Option.some.inj H
       go_wp2
       go_ret
       exact ⟨by first | rfl | (simp; done) | (simp [*]; done), by repeat (first | exact Drawn0.refl _ | apply Drawn0.step)⟩
end Go.Proofs.YtcbiilbmldinhaaDoor.PB
end

section
namespace Go.Proofs.YtcbiilbmldinhaaDoor.PB
open Go.RowKit Go.Maps Go.Proofs.YtcbiilbmldinhaaDoorW.PrintWords Go.Proofs.YtcbiilbmldinhaaDoorW.PrintLast Go.Proofs.YtcbiilbmldinhaaDoorW.PrintMore
set_option maxRecDepth 100000
set_option linter.unusedVariables false
set_option linter.unusedSimpArgs false
theorem snoc_ind {α : Type} {P : List α → Prop} (h0 : P []) (h1 : ∀ r x, P r → P (r ++ [x])) : ∀ l, P l := by
  have h : ∀ (l r : List α), P r → P (r ++ l) := by
    intro l
    induction l with
    | nil => intro r h; simpa using h
    | cons x l ih => intro r h; simpa using ih (r ++ [x]) (h1 r x h)
  exact fun l => by simpa using h l [] h0
theorem kL_inj {a b : Int} (h : kL a = kL b) : a = b := by
  injection h
theorem newD_has (q : Int) : ∀ (l : List Int) (x : Int), Maps.has (newD l q) (kL x) = decide (x ∈ l) := by
  refine snoc_ind (fun x => rfl) (fun r y ih x => ?_)
  rw [newD_snoc]
  by_cases h : x = y
  · subst h
    rw [Maps.has_put_same (newD_tidy q r).1.isMap (keyL x)]
    simp
  · rw [Maps.has_put_other (fun e => h (kL_inj e)), ih]
    simp [h]
theorem newD_size (q : Int) : ∀ (l : List Int), Maps.size (newD l q) = l.length ↔ l.Nodup := by
  refine snoc_ind ⟨fun _ => List.nodup_nil, fun _ => rfl⟩ (fun r y ih => ?_)
  rw [newD_snoc, Maps.size_put (newD_tidy q r).1, newD_has]
  have hle := (newD_tidy q r).2
  rw [List.length_append, List.length_singleton, List.nodup_append]
  by_cases h : y ∈ r
  · rw [if_pos (by simpa using h)]
    constructor
    · intro e; omega
    · intro e; exact absurd rfl (e.2.2 y h y (by simp))
  · rw [if_neg (by simpa using h)]
    constructor
    · intro e
      refine ⟨ih.1 (by omega), by simp, ?_⟩
      intro a ha b hb
      simp only [List.mem_singleton] at hb
      subst hb
      rintro rfl
      exact h ha
    · intro e
      have := ih.2 e.1
      omega
def rightB (l : List Int) (q : Int) : Bool := decide (1 ≤ l.length ∧ l.length ≤ 8 ∧ 1 ≤ q ∧ q ≤ 1024) && decide l.Nodup
def indexI : List Int → Int → Nat → Int
  | [], _, _ => -1
  | x :: r, a, i => if x = a then (i : Int) else indexI r a (i + 1)
theorem dropI' {l : List Int} {i : Nat} (h : i < l.length) : l.drop i = l.getD i 0 :: l.drop (i + 1) := by
  rw [List.drop_eq_getElem_cons h, List.getD_eq_getElem?_getD, List.getElem?_eq_getElem h]; rfl
theorem rdN (l : List Int) (i : Nat) : rd l (i : Int) = l.getD i 0 := by unfold rd; rw [Int.toNat_natCast]
theorem rplace_ev (l : List Int) (a : Int) (hl : l.length ≤ 4096) : Ev (fun k => bureauref01_Place.f k l a) (indexI l a 0) := by
  have loop : ∀ (d i : Nat), i + d = l.length → Ev (fun k => bureauref01_Place.l0 k l a (i : Int)) (indexI (l.drop i) a i) := by
    intro d
    induction d with
    | zero =>
      intro i hi
      refine Ev.step (fun k => by simp only [bureauref01_Place.l0]; rfl) ?_
      refine Ev.neg (by omega) ?_
      rw [List.drop_eq_nil_of_le (by omega)]
      exact Ev.now _
    | succ d ih =>
      intro i hi
      have hlt : i < l.length := by omega
      refine Ev.step (fun k => by simp only [bureauref01_Place.l0]; rfl) ?_
      refine Ev.pos (by omega) (Ev.pos (by omega) ?_)
      rw [dropI' hlt, rdN]
      simp only [indexI]
      by_cases h : l.getD i 0 = a
      · rw [if_pos h]; exact Ev.pos h (Ev.now _)
      · rw [if_neg h]
        refine Ev.neg h ?_
        rw [w1n hlt (by omega)]
        exact ih (i + 1) (by omega)
  exact loop l.length 0 (by omega)
theorem index_ge (a : Int) : ∀ (l : List Int) (i : Nat), a ∈ l → (i : Int) ≤ indexI l a i ∧ indexI l a i < i + l.length
  | [], _, h => by simp at h
  | x :: r, i, h => by
    simp only [indexI]
    by_cases e : x = a
    · rw [if_pos e]; simp; omega
    · rw [if_neg e]
      have := index_ge a r (i + 1) (by simpa [Ne.symm e] using h)
      simp only [List.length_cons]
      omega
theorem index_at (a : Int) : ∀ (pre : List Int) (post : List Int) (i : Nat), a ∉ pre → indexI (pre ++ a :: post) a i = (i + pre.length : Nat)
  | [], _, i, _ => by simp [indexI]
  | x :: r, post, i, h => by
    simp only [List.mem_cons, not_or] at h
    simp only [List.cons_append, indexI]
    rw [if_neg (fun e => h.1 e.symm), index_at a r post (i + 1) h.2]
    simp; omega
theorem index_here (l : List Int) (i : Nat) (h : i < l.length) : indexI l (l.getD i 0) 0 = (i : Int) ↔ l.getD i 0 ∉ l.take i := by
  constructor
  · intro e hm
    have h2 : ∀ (n : Nat) (r : List Int) (j : Nat), l.getD i 0 ∈ l.take n → n ≤ l.length → indexI l (l.getD i 0) 0 < n := by
      intro n r j hm hn
      have : l = l.take n ++ l.drop n := (List.take_append_drop n l).symm
      have g : ∀ (a : Int) (p q : List Int) (j : Nat), a ∈ p → indexI (p ++ q) a j = indexI p a j := by
        intro a p
        induction p with
        | nil => intro q j h; simp at h
        | cons x p ih =>
          intro q j h
          simp only [List.cons_append, indexI]
          by_cases e : x = a
          · rw [if_pos e, if_pos e]
          · rw [if_neg e, if_neg e]
            exact ih q (j + 1) (by simpa [Ne.symm e] using h)
      have k := index_ge (l.getD i 0) (l.take n) 0 hm
      have k2 := g (l.getD i 0) (l.take n) (l.drop n) 0 hm
      rw [← this] at k2
      rw [k2]
      rw [List.length_take] at k
      omega
    have := h2 i [] 0 hm (by omega)
    omega
  · intro hn
    have : l = l.take i ++ l.getD i 0 :: l.drop (i + 1) := by rw [← dropI' h, List.take_append_drop]
    have k := index_at (l.getD i 0) (l.take i) (l.drop (i + 1)) 0 hn
    rw [← this] at k
    rw [k, List.length_take]
    omega
theorem right_ev (l : List Int) (q : Int) : Ev (fun k => bureauref18_Right.f k l q) (rightB l q) := by
  unfold bureauref18_Right.f rightB
  have j0t : Ev (fun k => bureauref18_Right.j0 k l true) false := by
    refine Ev.step (fun k => by simp only [bureauref18_Right.j0]; rfl) ?_
    exact Ev.pos (by simp) (Ev.now _)
  by_cases h1 : (l.length : Int) < 1
  · exact Ev.pos h1 (ev_val j0t (by rw [decide_eq_false (by omega)]; rfl))
  refine Ev.neg h1 ?_
  by_cases h2 : (l.length : Int) > 8
  · exact Ev.pos h2 (ev_val j0t (by rw [decide_eq_false (by omega)]; rfl))
  refine Ev.neg h2 ?_
  by_cases h3 : q < 1
  · exact Ev.pos h3 (ev_val j0t (by rw [decide_eq_false (by omega)]; rfl))
  refine Ev.neg h3 ?_
  by_cases h4 : q > 1024
  · rw [decide_eq_true h4]; exact ev_val j0t (by rw [decide_eq_false (by omega)]; rfl)
  rw [decide_eq_false h4, decide_eq_true (show 1 ≤ l.length ∧ l.length ≤ 8 ∧ 1 ≤ q ∧ q ≤ 1024 by omega), Bool.true_and]
  refine Ev.step (fun k => by simp only [bureauref18_Right.j0]; rfl) ?_
  refine Ev.neg (by decide) ?_
  have loop : ∀ (d i : Nat), i + d = l.length → (l.take i).Nodup → Ev (fun k => bureauref18_Right.l0 k l (i : Int)) (decide l.Nodup) := by
    intro d
    induction d with
    | zero =>
      intro i hi hn
      refine Ev.step (fun k => by simp only [bureauref18_Right.l0]; rfl) ?_
      refine Ev.neg (by omega) (ev_val (Ev.now _) ?_)
      rw [List.take_of_length_le (by omega)] at hn
      rw [decide_eq_true hn]
    | succ d ih =>
      intro i hi hn
      have hlt : i < l.length := by omega
      refine Ev.step (fun k => by simp only [bureauref18_Right.l0]; rfl) ?_
      refine Ev.pos (by omega) (Ev.pos (by omega) ?_)
      rw [rdN]
      refine Ev.bind (rplace_ev l _ (by omega)) ?_
      by_cases he : indexI l (l.getD i 0) 0 = (i : Int)
      · refine Ev.pos he ?_
        rw [w1n hlt (by omega)]
        refine ih (i + 1) (by omega) ?_
        rw [takeG (z := (0 : Int)) hlt, List.nodup_append]
        refine ⟨hn, by simp, ?_⟩
        intro a ha b hb
        simp only [List.mem_singleton] at hb
        subst hb
        rintro rfl
        exact (index_here l i hlt).1 he ha
      · refine Ev.neg he (ev_val (Ev.now _) ?_)
        symm
        rw [decide_eq_false_iff_not]
        intro hN
        refine he ((index_here l i hlt).2 fun hm => ?_)
        have : l = l.take i ++ l.getD i 0 :: l.drop (i + 1) := by rw [← dropI' hlt, List.take_append_drop]
        rw [this, List.nodup_append] at hN
        exact hN.2.2 _ hm _ (by simp) rfl
  exact loop l.length 0 (by omega) (by simp)
theorem new_bad {A0 : Option Addr} {c0 : Nat} {l0 : List Int} {q : Int} {w : World} (hbad : ¬ (1 ≤ l0.length ∧ l0.length ≤ 8 ∧ 1 ≤ q ∧ q ≤ 1024)) :
    Calls Tryd.prog 11 #[.slice A0 l0.length c0, .int .i64 q] w fun e w' => e = .returned (.pointer none) ∧ w' = w := by
  have hx : l0.length < 1 ∨ (¬ l0.length < 1 ∧ l0.length > 8) ∨ (¬ l0.length < 1 ∧ ¬ l0.length > 8 ∧ q < 1) ∨ (¬ l0.length < 1 ∧ ¬ l0.length > 8 ∧ ¬ q < 1 ∧ q > 1024) := by omega
  clear hbad
  rcases hx with h1 | ⟨h1, h2⟩ | ⟨h1, h2, h3⟩ | ⟨h1, h2, h3, h4⟩
  · have d1 : decide ((l0.length : Int) < 1) = true := decide_eq_true (by omega)
    clear h1
    go_enter Tryd.func11, Tryd.ntmps11
    go_wp2
    go_ret
    exact ⟨rfl, rfl⟩
  · have d1 : decide ((l0.length : Int) < 1) = false := decide_eq_false (by omega)
    have d2 : decide ((l0.length : Int) > 8) = true := decide_eq_true (by omega)
    clear h1 h2
    go_enter Tryd.func11, Tryd.ntmps11
    go_wp2
    go_ret
    exact ⟨rfl, rfl⟩
  · have d1 : decide ((l0.length : Int) < 1) = false := decide_eq_false (by omega)
    have d2 : decide ((l0.length : Int) > 8) = false := decide_eq_false (by omega)
    have d3 : decide (q < 1) = true := decide_eq_true h3
    clear h1 h2 h3
    go_enter Tryd.func11, Tryd.ntmps11
    go_wp2
    go_ret
    exact ⟨rfl, rfl⟩
  · have d1 : decide ((l0.length : Int) < 1) = false := decide_eq_false (by omega)
    have d2 : decide ((l0.length : Int) > 8) = false := decide_eq_false (by omega)
    have d3 : decide (q < 1) = false := decide_eq_false h3
    have d4 : decide (q > 1024) = true := decide_eq_true h4
    clear h1 h2 h3 h4
    go_enter Tryd.func11, Tryd.ntmps11
    go_wp2
    go_ret
    exact ⟨rfl, rfl⟩
theorem new_step {A0 : Option Addr} {c0 : Nat} {l0 : List Int} {q : Int} {w : World} (hr0 : Kd.C (Kd.int .u64) w A0 l0.length l0) (hc0 : l0.length ≤ c0) (hwf : ∀ x ∈ l0, (kL x).wf = true) :
    Calls Tryd.prog 11 #[.slice A0 l0.length c0, .int .i64 q] w fun e w' => ∃ p, e = .returned (.pointer p) ∧ ((rightB l0 q = true ∧ ∃ g bm, p = some ⟨g, 0, none⟩ ∧ LogAt w.heap.size g bm (.slice none 0 0) w' (newD l0 q) []) ∨ (rightB l0 q = false ∧ p = none)) ∧ Below w.heap.size w w' := by
  by_cases hb : 1 ≤ l0.length ∧ l0.length ≤ 8 ∧ 1 ≤ q ∧ q ≤ 1024
  · refine (new_ok hr0 hc0 hwf hb.1 hb.2.1 hb.2.2.1 hb.2.2.2 (decide l0.Nodup) ((newD_size q l0).trans (by simp))).mono ?_
    rintro e w' ⟨g, bm, he, hl, hB⟩
    by_cases hn : l0.Nodup
    · exact ⟨_, he, .inl ⟨by unfold rightB; rw [decide_eq_true hb, decide_eq_true hn]; rfl, g, bm, by simp [hn], hl⟩, hB⟩
    · exact ⟨_, he, .inr ⟨by unfold rightB; rw [decide_eq_false hn]; simp, by simp [hn]⟩, hB⟩
  · refine (new_bad hb).mono ?_
    rintro e w' ⟨he, rfl⟩
    exact ⟨none, he, .inr ⟨by unfold rightB; rw [decide_eq_false hb]; rfl, rfl⟩, Below.refl _ _⟩
theorem LogAt.grown {B g bm : Nat} {v : Value} {w w' : World} {D : DataW Unit} {xs : List S36} (h : LogAt B g bm v w D xs) {row : Option Nat} (hg : w.grownBy w' row) (h1 : some g ≠ row) (h2 : some bm ≠ row) (h3 : ∀ k, v.ownBlock = some k → some k ≠ row) : LogAt B g bm v w' D xs :=
  ⟨blk_grown h.hg hg h1, h.hm.kept hg h2, rM (Kd.R_grown (Kd.R_tight rfl h.hR) hg (fun k hk => h3 k hk.symm)) (fun _ _ => trivial), h.hB, h.hb⟩
theorem LogAt.row {B g bm : Nat} {v : Value} {w w' : World} {D : DataW Unit} {xs : List S36} (h : LogAt B g bm v w D xs) {B2 : Nat} {u : Value} {ys : List S36} (hR : Kd.R k36 36 w B2 (fun _ => True) u ys) (hg : w.grownBy w' u.ownBlock) (hne : ∀ k, u.ownBlock = some k → some k ≠ v.ownBlock) : LogAt B g bm v w' D xs := by
  refine h.grown hg (fun e => ?_) (fun e => ?_) (fun k hk e => ?_)
  · obtain ⟨cells, hc⟩ := Kd.R_typed hR g e.symm
    have := h.hg
    rw [hc] at this
    cases this
  · obtain ⟨cells, hc⟩ := Kd.R_typed hR bm e.symm
    exact h.ne hc rfl
  · exact hne k e.symm hk.symm
end Go.Proofs.YtcbiilbmldinhaaDoor.PB
end

section
namespace Go.Proofs.YtcbiilbmldinhaaDoor.PB
open Go.RowKit Go.Proofs.YtcbiilbmldinhaaDoorW.PrintWords Go.Proofs.YtcbiilbmldinhaaDoorW.PrintLast Go.Proofs.YtcbiilbmldinhaaDoorW.PrintMore
attribute [local go_sem] max2_int min2_int max_two min_two max_three min_three max_four min_four   
set_option linter.unusedVariables false
set_option linter.unusedSimpArgs false
def bureaulaw18_ours.l0 : Nat → List (S38) → List (S36) → Int → Int → Option ((List (S38)))
 | 0, _, _, _, _ => none
 | k + 1, x3, x6, x7, x8 => if x8 < x7 then (if 0 ≤ x8 then (if x8 < (x6.length : Int) then (if x3.length < 3518437208883 then (bureaulaw18_ours.l0 k (x3 ++ [(⟨(rd_T36 x6 x8).f0, (rd_T36 x6 x8).f1, (rd_T36 x6 x8).f2, (rd_T36 x6 x8).f3, (rd_T36 x6 x8).f4⟩ : S38)]) x6 x7 (wrap64 (x8 + 1))) else (none)) else (none)) else (none)) else (some x3)
def bureaulaw18_ours.f (k : Nat) (l0 : List (S36)) : Option ((List (S38))) := bureaulaw18_ours.l0 k ([] : List (S38)) l0 (l0.length : Int) 0
set_option maxHeartbeats 8000000 in
set_option maxRecDepth 100000 in
theorem bureaulaw18_ours.calls (k : Nat) (A0 : Option Addr) (c0 : Nat) (l0 : List (S36)) (r : List (S38)) (w : World) (hr0 : Kd.C k36 w A0 l0.length l0) (hc0 : l0.length ≤ c0) (h : bureaulaw18_ours.f k l0 = some r) :
  Calls Tryd.prog 17 #[.slice A0 l0.length c0] w fun e w' => ∃ v0_ : Value, e = .returned (v0_) ∧ Kd.R k38 38 w' w.heap.size (fun _ => True) v0_ r ∧ Below w.heap.size w w' := by
 have hu36 := Tryd.underlying36
 have hu38 := Tryd.underlying38
 have HR0 := aM hr0
 have HC0 := aM hc0
 clear hr0 hc0
 have HB := aM (Below.refl w.heap.size w)
 have H : (bureaulaw18_ours.l0 k ([] : List (S38)) l0 (l0.length : Int) 0) = some r := h
 clear h
 have H' := aM H
 clear H
 go_enter Tryd.func17, Tryd.ntmps17
 go_wp2
 go_loopg [3, 8] k (fun kq v3 v8 w' => ∃ (x3_1 : List (S38)) (x8_1 : Int), v8 = .int .i64 x8_1 ∧ Aside0 (bureaulaw18_ours.l0 kq x3_1 l0 (l0.length : Int) x8_1 = some r) ∧ Aside0 (kq ≤ k) ∧ Aside0 (Kd.R k38 38 w' w.heap.size (fun _ => True) v3 x3_1) ∧ Aside0 (Below w.heap.size w w'))
 case atStart => exact ⟨(([] : List (S38))), (0), (by first | rfl | (simp; done) | (simp [*]; done)), H', ⟨Nat.le_refl _⟩, ⟨by first | exact Kd.R_nil _ _ _ _ _ | exact Kd.N_nil _ _ _ _ _ | exact Kd.V_nil _ _ _ _ _ | exact Kd.Q_nil _ _ _ _ _ | exact Kd.S_nil _ _ _ _ _⟩, ⟨by exact ey HB.out⟩⟩
 case round =>
  clear H'
  try clear c1
  obtain ⟨x3_1, x8_1, rfl, HA, HK1, HO_3, HB⟩ := hrel
  cases gk with
  | zero => exact absurd HA.out (by simp [bureaulaw18_ours.l0])
  | succ k1 =>
   have H := HA.out
   clear HA
   simp only [bureaulaw18_ours.l0] at H
   by_cases c2 : x8_1 < (l0.length : Int)
   ·rw [if_pos c2] at H
    have c2b0 : decide (x8_1 < (l0.length : Int)) = true := decide_eq_true c2
    clear c2
    by_cases c3 : 0 ≤ x8_1
    ·rw [if_pos c3] at H
     have c3b0 : decide (0 ≤ x8_1) = true := decide_eq_true c3
     clear c3
     by_cases c4 : x8_1 < (l0.length : Int)
     ·rw [if_pos c4] at H
      have c4b0 : decide (x8_1 < (l0.length : Int)) = true := decide_eq_true c4
      clear c4
      by_cases c5 : x3_1.length < 3518437208883
      ·rw [if_pos c5] at H
       have LMc5 := aM c5
       clear c5
       obtain ⟨y183, hy183⟩ : ∃ y_ : List (S38), y_ = (x3_1 ++ [(⟨(rd_T36 l0 x8_1).f0, (rd_T36 l0 x8_1).f1, (rd_T36 l0 x8_1).f2, (rd_T36 l0 x8_1).f3, (rd_T36 l0 x8_1).f4⟩ : S38)]) := ⟨_, rfl⟩
       replace H : (bureaulaw18_ours.l0 k1 y183 l0 (l0.length : Int) (wrap64 (x8_1 + 1))) = some r := by first | (rw [hy183]; with_reducible exact H) | (have H2_ := (Option.bind_some _ _).symm.trans H; rw [hy183]; with_reducible exact H2_) | (have H2_ := (Option.bind_some _ _).symm.trans H; with_reducible exact H2_) | with_reducible exact H | (rw [hy183]; exact H) | exact H
       have Ny183 := aM hy183
       clear hy183
       have H' := aM H
       clear H
       have p181 : 0 ≤ (x8_1 : Int) := of_decide_eq_true (by first | (with_reducible assumption) | assumption)
       have q181 : x8_1 < (l0.length : Int) := of_decide_eq_true (by first | (with_reducible assumption) | assumption)
       obtain ⟨ad181, e181, hx181_0, hx181_1, hx181_2, hx181_3, hx181_4⟩ := at_T36 HR0.out x8_1 p181 q181
       cases e181
       replace hx181_0 := (HB.out.cell (World.block_lt_of_cell? w _ hx181_0)).trans hx181_0
       replace hx181_1 := (HB.out.cell (World.block_lt_of_cell? w _ hx181_1)).trans hx181_1
       replace hx181_2 := (HB.out.cell (World.block_lt_of_cell? w _ hx181_2)).trans hx181_2
       replace hx181_3 := (HB.out.cell (World.block_lt_of_cell? w _ hx181_3)).trans hx181_3
       replace hx181_4 := (HB.out.cell (World.block_lt_of_cell? w _ hx181_4)).trans hx181_4
       replace p181 := eq_true p181
       replace q181 := eq_true q181
       go_wp2_with (first | ((with_reducible refine gate_dst (N := 5) rfl ?_); refine box_event ?hg (N := 5) ?hd (cs := #[.int .u64 0, .int .i64 0, .int .i64 0, .int .i64 0, .int .i64 0]) (t := 36) ?hr ?_; (case hd | hg => rfl); (case hr => first | (go_simp; done) | (go_simp; rfl)); intro gb182 hg w6 hbox hb; have n0_ := aM (Kd.R_below (ry HO_3.out) hb); have n1_ := aM (bP (ey HB.out) hb); have n2_ := aM (hbox); have n3_ := aM ((by rw [hg]; exact (bZ (ey HB.out)) : w.heap.size ≤ gb182)); have n4_ := n3_; clear HO_3 HB; have HO_3 := n0_; have HB := n1_; have BK182 := n2_; have GW182 := n3_; have GE182 := n4_; clear n0_ n1_ n2_ n3_ n4_; clear hb hbox hg; have hcz7_0 := zC BK182.out 0 (.int .u64 0); have hcz7_1 := zC BK182.out 1 (.int .i64 0); have hcz7_2 := zC BK182.out 2 (.int .i64 0); have hcz7_3 := zC BK182.out 3 (.int .i64 0); have hcz7_4 := zC BK182.out 4 (.int .i64 0); have hfz7_0 := bF BK182.out 0; have hfz7_1 := bF BK182.out 1; have hfz7_2 := bF BK182.out 2; have hfz7_3 := bF BK182.out 3; have hfz7_4 := bF BK182.out 4) | ((with_reducible refine gate_builtin (b := .append) (xs := #[.tmp 12, .tmp 24]) rfl ?_); at_builtin; refine Kd.R_append k38 (w0 := w) w.heap.size rfl (.tmp 12) (.tmp 24) 23 38 (.agg #[(.int .u64 0), (.int .i64 0), (.int .i64 0), (.int .i64 0), (.int .i64 0)]) 40 rfl Tryd.underlying23 info38 rfl (by decide) (by omega) u3 x3_1 (⟨(rd_T36 l0 x8_1).f0, (rd_T36 l0 x8_1).f1, (rd_T36 l0 x8_1).f2, (rd_T36 l0 x8_1).f3, (rd_T36 l0 x8_1).f4⟩ : S38) [.int .u64 ((rd_T36 l0 x8_1).f0), .int .i64 ((rd_T36 l0 x8_1).f1), .int .i64 ((rd_T36 l0 x8_1).f2), .int .i64 ((rd_T36 l0 x8_1).f3), .int .i64 ((rd_T36 l0 x8_1).f4)] (fun _ => True) (fun _ => False) rfl (by first | (go_simp; done) | (go_simp; rfl)) ?aP (fun _ hk => hk.elim) ?aF ?aO ?aB ?aS ?aL ?_; (case aP => exact k38_mkM _ _ _ (⟨(rd_T36 l0 x8_1).f0, (rd_T36 l0 x8_1).f1, (rd_T36 l0 x8_1).f2, (rd_T36 l0 x8_1).f3, (rd_T36 l0 x8_1).f4⟩ : S38)); (case aB => exact (by repeat (first | (with_reducible first | exact HB.out | apply ea | apply en | apply ed | refine es ?_ GE182.out) | exact HB.out))); (case aF => exact (fun _ _ => trivial)); (case aO => exact (by (with_reducible repeat (first | apply ra | apply rn | apply rd_)); exact rM (rF (p := ⟨gb182, 4, none⟩) (rF (p := ⟨gb182, 3, none⟩) (rF (p := ⟨gb182, 2, none⟩) (rF (p := ⟨gb182, 1, none⟩) (rF (p := ⟨gb182, 0, none⟩) (rT HO_3.out BK182.out (by decide)) (fun _ hk => hk.2) (.int .u64 ((rd_T36 l0 x8_1).f0))) (fun _ hk => hk.2) (.int .i64 ((rd_T36 l0 x8_1).f1))) (fun _ hk => hk.2) (.int .i64 ((rd_T36 l0 x8_1).f2))) (fun _ hk => hk.2) (.int .i64 ((rd_T36 l0 x8_1).f3))) (fun _ hk => hk.2) (.int .i64 ((rd_T36 l0 x8_1).f4))) (fun _ hk => trivial))); (case aS => exact (bZ (by repeat (first | (with_reducible first | exact HB.out | apply ea | apply en | apply ed | refine es ?_ GE182.out) | exact HB.out)))); (case aL => have := LMc5.out; omega); intro v184 w8 ho hb hg hat; rw [← Ny183.out] at ho; have n0_ := aM (blk_grown (g := gb182) (o := .cells #[.int .u64 ((rd_T36 l0 x8_1).f0), .int .i64 ((rd_T36 l0 x8_1).f1), .int .i64 ((rd_T36 l0 x8_1).f2), .int .i64 ((rd_T36 l0 x8_1).f3), .int .i64 ((rd_T36 l0 x8_1).f4)] 36 (0, 0)) (by (with_reducible repeat (first | apply qn | apply qd | apply qa)); refine bU (cs := #[.int .u64 ((rd_T36 l0 x8_1).f0), .int .i64 ((rd_T36 l0 x8_1).f1), .int .i64 ((rd_T36 l0 x8_1).f2), .int .i64 ((rd_T36 l0 x8_1).f3), .int .i64 0]) ?_ 4 _ rfl; (with_reducible repeat (first | apply qn | apply qd | apply qa)); refine bU (cs := #[.int .u64 ((rd_T36 l0 x8_1).f0), .int .i64 ((rd_T36 l0 x8_1).f1), .int .i64 ((rd_T36 l0 x8_1).f2), .int .i64 0, .int .i64 0]) ?_ 3 _ rfl; (with_reducible repeat (first | apply qn | apply qd | apply qa)); refine bU (cs := #[.int .u64 ((rd_T36 l0 x8_1).f0), .int .i64 ((rd_T36 l0 x8_1).f1), .int .i64 0, .int .i64 0, .int .i64 0]) ?_ 2 _ rfl; (with_reducible repeat (first | apply qn | apply qd | apply qa)); refine bU (cs := #[.int .u64 ((rd_T36 l0 x8_1).f0), .int .i64 0, .int .i64 0, .int .i64 0, .int .i64 0]) ?_ 1 _ rfl; (with_reducible repeat (first | apply qn | apply qd | apply qa)); refine bU (cs := #[.int .u64 0, .int .i64 0, .int .i64 0, .int .i64 0, .int .i64 0]) ?_ 0 _ rfl; exact qy BK182.out) hg (Kd.R_ne HO_3.out BK182.out (by decide))); have n1_ := aM (hb); have n2_ := aM (ho); clear BK182 HB HO_3; have BK182 := n0_; have HB := n1_; have HO185 := n2_; clear n0_ n1_ n2_; clear ho hb hg hat))
       go_roundg k1
       case measure => have := HK1.out; omega
       case rel => exact ⟨(y183), (wrap64 (x8_1 + 1)), (by first | rfl | (simp; done) | (simp [*]; done)), H', ⟨by have := HK1.out; omega⟩, ⟨by exact ry HO185.out⟩, ⟨by repeat (first | (with_reducible first | exact HB.out | apply ea | apply en | apply ed | refine es ?_ GE182.out) | exact HB.out)⟩⟩
      ·rw [if_neg c5] at H
       exact absurd H (by simp)
     ·rw [if_neg c4] at H
      exact absurd H (by simp)
    ·rw [if_neg c3] at H
     exact absurd H (by simp)
   ·rw [if_neg c2] at H
    have c2b0 : decide (x8_1 < (l0.length : Int)) = false := decide_eq_false c2
    clear c2
    obtain rfl := Option.some.inj H
    go_wp2
    go_ret
    exact ⟨_, by first | rfl | (simp [errW_none, errW_some] <;> rfl) | (simp [*, errW_none, errW_some] <;> rfl), by exact ry HO_3.out, by exact ey HB.out⟩
end Go.Proofs.YtcbiilbmldinhaaDoor.PB
end

section
namespace Go.Proofs.YtcbiilbmldinhaaDoor.PB
open Go.RowKit Go.Proofs.YtcbiilbmldinhaaDoorW.PrintWords Go.Proofs.YtcbiilbmldinhaaDoorW.PrintLast Go.Proofs.YtcbiilbmldinhaaDoorW.PrintMore
attribute [local go_sem] max2_int min2_int max_two min_two max_three min_three max_four min_four   
set_option linter.unusedVariables false
set_option linter.unusedSimpArgs false
def bureauref18_Same.f (k : Nat) (l0 : List (S38)) (l1 : List (S38)) : Option (Bool) := if (l0.length : Int) = (l1.length : Int) then ((bureauref18_Extends.f k l0 l1).bind fun t180 => (some t180)) else (some false)
set_option maxHeartbeats 8000000 in
set_option maxRecDepth 100000 in
theorem bureauref18_Same.calls (k : Nat) (A0 : Option Addr) (c0 : Nat) (l0 : List (S38)) (A1 : Option Addr) (c1 : Nat) (l1 : List (S38)) (r : Bool) (w : World) (hr0 : Kd.C k38 w A0 l0.length l0) (hc0 : l0.length ≤ c0) (hr1 : Kd.C k38 w A1 l1.length l1) (hc1 : l1.length ≤ c1) (h : bureauref18_Same.f k l0 l1 = some r) :
  Calls Tryd.prog 16 #[.slice A0 l0.length c0, .slice A1 l1.length c1] w fun e w' => e = .returned (.bool r) ∧ Drawn0 w w' := by
 have HR0 := aM hr0
 have HC0 := aM hc0
 clear hr0 hc0
 have HR1 := aM hr1
 have HC1 := aM hc1
 clear hr1 hc1
 have H : (if (l0.length : Int) = (l1.length : Int) then ((bureauref18_Extends.f k l0 l1).bind fun t180 => (some t180)) else (some false)) = some r := h
 clear h
 by_cases c3 : (l0.length : Int) = (l1.length : Int)
 ·rw [if_pos c3] at H
  have c3b0 : ((l0.length : Int) == (l1.length : Int)) = true := beq_iff_eq.mpr c3
  have c3b1 : ((l0.length : Int) != (l1.length : Int)) = false := bne_eq_false_iff_eq.mpr c3
  have c3b2 : (l0.length == l1.length) = true := by first | simpa using c3 | (simp at c3 ⊢; omega)
  clear c3
  replace H := Option.bind_eq_some_iff.mp H
  obtain ⟨t180, A40, H⟩ := H
  replace H : (some t180) = some r := H
  have A4 := aM A40
  clear A40
  obtain rfl := Option.some.inj H
  go_enter Tryd.func16, Tryd.ntmps16
  go_wp2_with (first | (go_at_call 24; (with_reducible refine (bureauref18_Extends.calls k _ _ l0 _ _ l1 t180 _ ?side1 ?side2 ?side3 ?side4 A4.out).mono ?_); (case side1 => repeat (first | exact HR0.out | (with_reducible refine Kd.C_alloc ?_ _) | (with_reducible refine Kd.C_drewN ?_ _) | (with_reducible refine Kd.C_drew ?_))); (case side2 => exact HC0.out); (case side3 => repeat (first | exact HR1.out | (with_reducible refine Kd.C_alloc ?_ _) | (with_reducible refine Kd.C_drewN ?_ _) | (with_reducible refine Kd.C_drew ?_))); (case side4 => exact HC1.out); rintro e w' ⟨rfl, ⟨nd, rfl⟩⟩))
  go_ret
  exact ⟨by first | rfl | (simp; done) | (simp [*]; done), by repeat (first | exact Drawn0.refl _ | apply Drawn0.step)⟩
 ·rw [if_neg c3] at H
  have c3b0 : ((l0.length : Int) == (l1.length : Int)) = false := beq_eq_false_iff_ne.mpr c3
  have c3b1 : ((l0.length : Int) != (l1.length : Int)) = true := bne_iff_ne.mpr c3
  have c3b2 : (l0.length == l1.length) = false := by first | simpa using c3 | (simp at c3 ⊢; omega)
  obtain rfl := Option.some.inj H
  go_enter Tryd.func16, Tryd.ntmps16
  go_wp2
  go_ret
  exact ⟨by first | rfl | (simp; done) | (simp [*]; done), by repeat (first | exact Drawn0.refl _ | apply Drawn0.step)⟩
end Go.Proofs.YtcbiilbmldinhaaDoor.PB
end

section
namespace Go.Proofs.YtcbiilbmldinhaaDoor.PB
open Go.RowKit Go.Maps Go.Proofs.YtcbiilbmldinhaaDoorW.PrintWords Go.Proofs.YtcbiilbmldinhaaDoorW.PrintLast Go.Proofs.YtcbiilbmldinhaaDoorW.PrintMore
set_option maxRecDepth 100000
set_option linter.unusedVariables false
set_option linter.unusedSimpArgs false
def d38 (x : S36) : S38 := ⟨x.f0, x.f1, x.f2, x.f3, x.f4⟩
theorem ours_ev (l : List S36) (hl : l.length ≤ 100000) : Ev (fun k => bureaulaw18_ours.f k l) (l.map d38) := by
  unfold bureaulaw18_ours.f
  have loop : ∀ (d i : Nat), i + d = l.length → Ev (fun k => bureaulaw18_ours.l0 k ((l.take i).map d38) l (l.length : Int) (i : Int)) (l.map d38) := by
    intro d
    induction d with
    | zero =>
      intro i hi
      refine Ev.step (fun k => by simp only [bureaulaw18_ours.l0]; rfl) ?_
      refine Ev.neg (by omega) (ev_val (Ev.now _) ?_)
      rw [List.take_of_length_le (by omega)]
    | succ d ih =>
      intro i hi
      have hlt : i < l.length := by omega
      refine Ev.step (fun k => by simp only [bureaulaw18_ours.l0]; rfl) ?_
      refine Ev.pos (by omega) (Ev.pos (by omega) (Ev.pos (by omega) (Ev.pos (by simp; omega) ?_)))
      rw [w1n hlt (by omega)]
      have := ih (i + 1) (by omega)
      rw [takeG (z := z36) hlt, List.map_append] at this
      rw [rd36]
      exact this
  exact loop l.length 0 (by omega)
theorem same_ev (a b : List S38) (hl : b.length ≤ 100000) : Ev (fun k => bureauref18_Same.f k a b) (decide (a = b)) := by
  unfold bureauref18_Same.f
  by_cases h : a.length = b.length
  · refine Ev.pos (by omega) (Ev.bind (rext_ev a b hl) (ev_val (Ev.now _) ?_))
    rw [← h, List.take_length]
  · refine Ev.neg (by omega) (ev_val (Ev.now _) ?_)
    symm
    rw [decide_eq_false_iff_not]
    intro e
    exact h (by rw [e])
theorem add_stepE {B g bm : Nat} {v : Value} {w : World} {D D' : DataW Unit} {xs xs' : List S36} {n code : Int} (h : LogAt B g bm v w D xs) (hBw : B ≤ w.heap.size) (r : S36) (hL : (kL r.f0).wf = true) (hlen : (xs.length + 1) * 40 ≤ 140737488355328) (e : addF D xs r = (D', xs', n, code)) :
    Calls Tryd.prog 13 #[.pointer (some ⟨g, 0, none⟩), .agg #[.int .u64 r.f0, .int .i64 r.f1, .int .i64 r.f2, .int .i64 r.f3, .int .i64 r.f4]] w fun e w' =>
      e = .returned (.tuple #[.int .i64 n, .int .i64 code]) ∧ ∃ v', LogAt B g bm v' w' D' xs' ∧ Below B w w' ∧ Kept w w' (fun k => k = g ∨ k = bm ∨ some k = v.ownBlock) ∧ ∀ k, v'.ownBlock = some k → v.ownBlock = some k ∨ w.heap.size ≤ k := by
  have := add_step h hBw r hL hlen
  rw [e] at this
  exact this
theorem ours_n {A : Option Addr} {n c B : Nat} {ok : Nat → Prop} {l : List S36} {w : World} (hR : Kd.R k36 36 w B ok (.slice A n c) l) (hl : l.length ≤ 100000) :
    Calls Tryd.prog 17 #[.slice A n c] w fun e w' => ∃ v, e = .returned v ∧ Kd.R k38 38 w' w.heap.size (fun _ => True) v (l.map d38) ∧ Below w.heap.size w w' := by
  obtain ⟨hn, hc, hC⟩ := rR hR
  subst hn
  obtain ⟨k, hk⟩ := Ev.rounds (ours_ev l hl)
  exact bureaulaw18_ours.calls k A c l _ w hC hc hk
theorem same_n {A A' : Option Addr} {n n' c c' B B' : Nat} {ok ok' : Nat → Prop} {a b : List S38} {w : World} (hR : Kd.R k38 38 w B ok (.slice A n c) a) (hR' : Kd.R k38 38 w B' ok' (.slice A' n' c') b) (hl : b.length ≤ 100000) (e : a = b) :
    Calls Tryd.prog 16 #[.slice A n c, .slice A' n' c'] w fun e w' => e = .returned (.bool true) ∧ Drawn0 w w' := by
  obtain ⟨hn, hc, hC⟩ := rR hR
  obtain ⟨hn', hc', hC'⟩ := rR hR'
  subst hn hn'
  obtain ⟨k, hk⟩ := Ev.rounds (same_ev a b hl)
  rw [decide_eq_true e] at hk
  exact bureauref18_Same.calls k A c a A' c' b true w hC hc hC' hc' hk
def labelsOk (l : List Int) (ls : List S38) : Prop := (∀ x ∈ l, (kL x).wf = true) ∧ ∀ x ∈ ls, (kL x.f0).wf = true
instance (l : List Int) (ls : List S38) : Decidable (labelsOk l ls) := by unfold labelsOk; infer_instance
end Go.Proofs.YtcbiilbmldinhaaDoor.PB
end

section
namespace Go.Proofs.YtcbiilbmldinhaaDoor.PB
open Go.RowKit Go.Proofs.YtcbiilbmldinhaaDoorW.PrintWords Go.Proofs.YtcbiilbmldinhaaDoorW.PrintLast Go.Proofs.YtcbiilbmldinhaaDoorW.PrintMore
attribute [local go_sem] max2_int min2_int max_two min_two max_three min_three max_four min_four
set_option linter.unusedVariables false
set_option linter.unusedSimpArgs false
def mcells (l : List Bool) : Array Value := (bools l).toArray
theorem mcells_size (l : List Bool) : (mcells l).size = l.length := by simp [mcells, bools]
theorem mcells_get (l : List Bool) (i : Nat) (h : i < l.length) : (mcells l)[i]? = some (.bool (l.getD i false)) := by
  simp [mcells, bools, List.getD_eq_getElem?_getD, List.getElem?_eq_getElem h]
theorem mcells_set (l : List Bool) (i : Nat) (b : Bool) : (mcells l).setIfInBounds i (.bool b) = mcells (l.set i b) := by
  simp [mcells, bools, List.map_set]
theorem mcells_full (l : List Bool) (hl : l.length = 64) : (Tryd.prog.info? 72).map (fun i => i.size) = some (mcells l).size := by
  rw [mcells_size, hl]
  kernel_rfl
theorem mcells_one (l : List Bool) : (mcells l).all (·.oneCell') = true := by
  simp [mcells, bools, Value.oneCell']
theorem blk_there {w : World} {g : Nat} {t : TypeId} {l : List Bool} (h : w.heap[g]? = some (.cells (mcells l) t (0, 0))) : w.there g 0 l.length := fun j hj =>
  ⟨by rw [bC h, Nat.zero_add, mcells_get l j hj]; rfl, bF h _⟩
theorem setCells_blk {w : World} {g : Nat} {t : TypeId} {l m : List Bool} (h : w.heap[g]? = some (.cells (mcells l) t (0, 0))) (hl : m.length = l.length) :
    (w.setCells g 0 (mcells m).toList).heap[g]? = some (.cells (mcells m) t (0, 0)) := by
  obtain ⟨cur, h1, h2, h3⟩ := setCells_row (mcells m).toList 0 w (mcells l) h (by rw [Nat.zero_add, Array.length_toList, mcells_size, mcells_size, hl]; exact Nat.le_refl _)
  rw [h1]
  congr 2
  apply Array.toList_inj.1
  have hs : (mcells l).toList.length = (mcells m).toList.length := by rw [Array.length_toList, Array.length_toList, mcells_size, mcells_size, hl]
  rw [h3, List.take_zero, List.nil_append, List.drop_eq_nil_of_le (by omega), List.append_nil]
set_option maxHeartbeats 4000000 in
set_option maxRecDepth 100000 in
theorem Marks_calls (n : Nat) (hn : n < 2 ^ 64) (w : World) :
    Calls Tryd.prog 37 #[.int .u64 (n : Int)] w fun e w' => e = .returned (.agg (mcells (marksN n))) ∧ Below w.heap.size w w' := by
  go_enter Tryd.func37, Tryd.ntmps37
  have hn' : (n : Int) < 18446744073709551616 := by omega
  go_wp2_with (first | ((with_reducible refine gate_dst (N := 2) rfl ?_); refine box_event ?hg (N := 2) ?hd (cs := mcells (List.replicate 64 false)) (t := 72) ?hr ?_; (case hd => rfl); (case hg => rfl); (case hr => (go_simp; rfl)); intro g2 hg2 w2 hbox2 hb2; have HX2 := aM hbox2; have HB2 := aM hb2; have HE2 := aM hg2; clear hbox2 hb2 hg2) | ((with_reducible refine gate_dst (N := 3) rfl ?_); refine box_event ?hg (N := 3) ?hd (cs := mcells (List.replicate 64 false)) (t := 72) ?hr ?_; (case hd => rfl); (case hg => rfl); (case hr => (go_simp; rfl)); intro g3 hg3 w3 hbox3 hb3; have HX3 := aM hbox3; have HB3 := aM hb3; have HE3 := aM hg3; clear hbox3 hb3 hg3))
  have h23 : g2 < g3 := by have := HE3.out; have := blk_lt HX2.out; omega
  have hs2 : g2 = w.heap.size := HE2.out
  have HX2 := aM ((HB3.out.block g2 (blk_lt HX2.out)).trans HX2.out)
  have HBB := aM ((HB2.out).trans (HB3.out.mono (HB2.out.size)))
  rw [← marksTo_zero n] at HX3
  go_loopw [4, 5] (fun v4 v5 wr => ∃ (k : Nat), k ≤ 64 ∧ v5 = .int .i64 k ∧ v4 = .int .u64 ((n / 2 ^ k : Nat) : Int) ∧ Aside0 (wr.heap[g3]? = some (.cells (mcells (marksTo n k)) 72 (0, 0))) ∧ Aside0 (wr.heap[g2]? = some (.cells (mcells (List.replicate 64 false)) 72 (0, 0))) ∧ Aside0 (Below w.heap.size w wr)) (fun _ i _ => 64 - (intOf i).toNat)
  case atStart => exact ⟨0, by omega, rfl, by simp, HX3, HX2, HBB⟩
  case round =>
    obtain ⟨k, hk, rfl, rfl, HA, HC, HB⟩ := hrel
    by_cases hlt : k < 64
    · have hq := Nat.div_div_eq_div_mul n (2 ^ k) 2
      rw [← Nat.pow_succ] at hq
      have hb : n.testBit k = ((((n / 2 ^ k : Nat) : Int) % 2) == 1) := by
        rw [Nat.testBit_eq_decide_div_mod_eq]
        generalize n / 2 ^ k = q
        rw [Bool.eq_iff_iff, decide_eq_true_iff, beq_iff_eq]
        omega
      have hq2 : ((n / 2 ^ k : Nat) : Int) / 2 = ((n / 2 ^ (k + 1) : Nat) : Int) := by rw [← hq]; omega
      have hle : n / 2 ^ k ≤ n := Nat.div_le_self _ _
      have hc := (bC HA.out k).trans (mcells_get _ k (by rw [marksTo_len]; exact hlt))
      have hf := bF HA.out k
      have HQ := aM hq2
      have HBT := aM hb
      clear hq hb hq2
      generalize n / 2 ^ k = q at *
      generalize hqq : n / 2 ^ (k + 1) = q2 at *
      have HQ2 := aM hqq
      clear hqq
      have hk0 : (0 : Int) ≤ (k : Int) := by omega
      have hk1 : (k : Int) < 64 := by omega
      go_wp2
      have hb2 := blk_set HA.out k (.bool ((q : Int) % 2 == 1))
      rw [← HBT.out, mcells_set, marksTo_set _ _ hlt] at hb2
      refine ⟨⟨k + 1, by omega, by go_num, by rw [HQ2.out, HQ.out], ⟨by rw [← HBT.out]; exact hb2⟩, ⟨bR HC.out (by show g2 ≠ g3; omega) _⟩, ⟨HB.out.setCell (by show w.heap.size ≤ g3; omega) _⟩⟩, by simp [intOf]; omega⟩
    · obtain rfl : k = 64 := by omega
      have HA2 := HA.out
      rw [marksTo_all] at HA2
      have HA3 := aM HA2
      have ht := blk_there HC.out
      rw [List.length_replicate, ← marksN_len n, ← mcells_size] at ht
      have HT := aM ht
      clear HA2 ht hn hn'
      go_wp2_with (first | ((with_reducible refine gate_dst (N := 18) rfl ?_); refine wpList_load_row rfl 72 (.tmp 3) rfl g3 rfl 72 (mcells (marksN n)) (0, 0) _ HA3.out Tryd.underlying72 rfl (mcells_full _ (marksN_len n)) ?_) | ((with_reducible refine gate_store (t := 72) (p := 2) rfl ?_); refine wpList_store_mid rfl 72 (.tmp 2) (.tmp 18) rfl g2 0 (mcells (marksN n)) rfl rfl (HT.out) (mcells_full _ (marksN_len n)) (mcells_one _) ?_))
      have hz := setCells_blk HC.out (m := marksN n) (by rw [marksN_len, List.length_replicate])
      refine bodyPost_ret (results_cell_row rfl _ _ g2 72 (mcells (marksN n)) (0, 0) _ rfl hz Tryd.underlying72 rfl (mcells_full _ (marksN_len n))) rfl ⟨rfl, ?_⟩
      obtain ⟨s1, s2, s3, s4⟩ := setCells_same g2 (mcells (marksN n)).toList 0 wr
      exact HB.out.trans ⟨s1, s2, s3, by rw [s4]; exact Nat.le_refl _, fun i hi => setCells_far _ _ _ (by omega)⟩
theorem row_there {w : World} {g : Nat} {t : TypeId} {l m : List Bool} (h : w.heap[g]? = some (.cells (mcells l) t (0, 0))) (hl : l.length = 64) (hm : m.length = 64) : w.there g 0 (mcells m).size := by
  have := blk_there h
  rwa [hl, ← hm, ← mcells_size] at this
theorem setCells_below {B g : Nat} {w W : World} (h : Below B w W) (hB : B ≤ g) (vs : List Value) : Below B w (W.setCells g 0 vs) := by
  obtain ⟨s1, s2, s3, s4⟩ := setCells_same g vs 0 W
  exact h.trans ⟨s1, s2, s3, by rw [s4]; exact Nat.le_refl _, fun i hi => setCells_far _ _ _ (by omega)⟩
theorem blk_later {w w1 : World} {g : Nat} {o : Obj} (h : w.heap[g]? = some o) (hb : Below w.heap.size w w1) : w1.heap[g]? = some o := (hb.block g (blk_lt h)).trans h
theorem blk_other {w : World} {g g2 : Nat} {o : Obj} (h : w.heap[g]? = some o) (hne : g ≠ g2) (vs : List Value) : (w.setCells g2 0 vs).heap[g]? = some o := (setCells_far _ _ _ hne).trans h
theorem zlen : (List.replicate 64 false).length = 64 := List.length_replicate
def belowN (a b : Nat) : Bool := (List.range 64).all (fun i => !a.testBit i || b.testBit i)
theorem belowN_yes {a b : Nat} (h : ∀ i, i < 64 → a.testBit i = true → b.testBit i = true) : belowN a b = true := by
  unfold belowN
  rw [List.all_eq_true]
  intro i hi
  have := h i (List.mem_range.1 hi)
  cases ha : a.testBit i <;> simp_all
theorem belowN_no {a b i : Nat} (hi : i < 64) (ha : a.testBit i = true) (hb : b.testBit i = false) : belowN a b = false := by
  unfold belowN
  rw [List.all_eq_false]
  exact ⟨i, List.mem_range.2 hi, by simp [ha, hb]⟩
theorem belowN_bits (a b : Nat) (ha : a < 2 ^ 64) (hb : b < 2 ^ 64) : (Go.bits .andNot .u64 (a : Int) (b : Int) == 0) = belowN a b := by
  rw [u64_andNot_nat a b ha hb]
  have hs : ∀ i, (a &&& (18446744073709551615 - b)).testBit i = (a.testBit i && (decide (i < 64) && !b.testBit i)) := fun i => by
    rw [Nat.testBit_and, show 18446744073709551615 - b = 2 ^ 64 - (b + 1) by omega, Nat.testBit_two_pow_sub_succ hb]
  cases h : belowN a b with
  | true =>
    have h0 : a &&& (18446744073709551615 - b) = 0 := by
      apply Nat.eq_of_testBit_eq
      intro i
      rw [hs, Nat.zero_testBit]
      by_cases hi : i < 64
      · unfold belowN at h
        have := List.all_eq_true.1 h i (List.mem_range.2 hi)
        cases ha : a.testBit i <;> cases hb : b.testBit i <;> simp_all
      · simp [hi]
    rw [h0]; rfl
  | false =>
    unfold belowN at h
    obtain ⟨i, hi, hc⟩ := List.all_eq_false.1 h
    have hz : (a &&& (18446744073709551615 - b)).testBit i = true := by
      rw [hs]
      have := List.mem_range.1 hi
      cases ha : a.testBit i <;> cases hb : b.testBit i <;> simp_all
    rw [beq_eq_false_iff_ne]
    intro he
    have : a &&& (18446744073709551615 - b) = 0 := by omega
    rw [this, Nat.zero_testBit] at hz
    cases hz
set_option maxHeartbeats 4000000 in
set_option maxRecDepth 100000 in
theorem Below_calls (a b : Nat) (ha : a < 2 ^ 64) (hb : b < 2 ^ 64) (w : World) :
    Calls Tryd.prog 25 #[.int .u64 (a : Int), .int .u64 (b : Int)] w fun e w' => e = .returned (.bool (belowN a b)) ∧ Below w.heap.size w w' := by
  have HM1 := aM (fun W => Marks_calls a ha W)
  have HM2 := aM (fun W => Marks_calls b hb W)
  clear ha hb
  go_enter Tryd.func25, Tryd.ntmps25
  go_wp2_with fail
  refine (HM1.out _).mono ?_
  rintro e w1 ⟨rfl, hb1⟩
  have HC1 := aM hb1
  clear hb1
  go_wp2_with fail
  refine (HM2.out _).mono ?_
  rintro e w2 ⟨rfl, hb2⟩
  have HC2 := aM (HC1.out.trans (hb2.mono HC1.out.size))
  clear hb2
  go_wp2_with (first | ((with_reducible refine gate_dst (N := 5) rfl ?_); refine box_event ?hg (N := 5) ?hd (cs := mcells (List.replicate 64 false)) (t := 72) ?hr ?_; (case hd => rfl); (case hg => rfl); (case hr => first | (go_simp; done) | (go_simp; rfl)); intro g5 hg5 w5 hbox5 hb5; have HX5 := aM hbox5; have HB5 := aM hb5; have HE5 := aM hg5; clear hbox5 hb5 hg5) | ((with_reducible refine gate_dst (N := 6) rfl ?_); refine box_event ?hg (N := 6) ?hd (cs := mcells (List.replicate 64 false)) (t := 72) ?hr ?_; (case hd => rfl); (case hg => rfl); (case hr => first | (go_simp; done) | (go_simp; rfl)); intro g6 hg6 w6 hbox6 hb6; have HX6 := aM hbox6; have HB6 := aM hb6; have HE6 := aM hg6; clear hbox6 hb6 hg6) | ((with_reducible refine gate_store (t := 72) (p := 5) rfl ?_); refine wpList_store_mid rfl 72 (.tmp 5) (.tmp 9) rfl g5 0 (mcells (marksN a)) rfl rfl ?ht (mcells_full _ (marksN_len a)) (mcells_one _) ?_; (case ht => exact row_there (blk_later HX5.out HB6.out) zlen (marksN_len a)); have HS5 := aM (setCells_blk (blk_later HX5.out HB6.out) (m := marksN a) ((marksN_len a).trans zlen.symm)); have HS6 := aM (blk_other HX6.out (g2 := g5) (by have h1 := HE6.out; have h2 := blk_lt HX5.out; omega) (mcells (marksN a)).toList); have HD5 := aM (setCells_below (HC2.out.trans ((HB5.out.trans (HB6.out.mono HB5.out.size)).mono HC2.out.size)) (by have h1 := HE5.out; have h2 := HC2.out.size; omega : w.heap.size ≤ g5) (mcells (marksN a)).toList); generalize (World.setCells w6 g5 0 (mcells (marksN a)).toList) = w7 at HS5 HS6 HD5 ⊢) | ((with_reducible refine gate_store (t := 72) (p := 6) rfl ?_); refine wpList_store_mid rfl 72 (.tmp 6) (.tmp 11) rfl g6 0 (mcells (marksN b)) rfl rfl ?ht (mcells_full _ (marksN_len b)) (mcells_one _) ?_; (case ht => exact row_there HS6.out zlen (marksN_len b)); have HU6 := aM (setCells_blk HS6.out (m := marksN b) ((marksN_len b).trans zlen.symm)); have HU5 := aM (blk_other HS5.out (g2 := g6) (by have h1 := HE6.out; have h2 := blk_lt HX5.out; omega) (mcells (marksN b)).toList); have HD6 := aM (setCells_below HD5.out (by have h1 := HE6.out; have h2 := HC2.out.size; have h3 := HB5.out.size; omega : w.heap.size ≤ g6) (mcells (marksN b)).toList); generalize (World.setCells w7 g6 0 (mcells (marksN b)).toList) = w8 at HU5 HU6 HD6 ⊢))
  have h56 : g5 < g6 := by have h1 := HE6.out; have h2 := blk_lt HX5.out; omega
  go_loopw [7] (fun v8 wr => ∃ (k : Nat), k ≤ 64 ∧ v8 = .int .i64 k ∧ Aside0 (∀ i, i < k → a.testBit i = true → b.testBit i = true) ∧ Aside0 (wr.heap[g5]? = some (.cells (mcells (marksN a)) 72 (0, 0))) ∧ Aside0 (wr.heap[g6]? = some (.cells (mcells (marksN b)) 72 (0, 0))) ∧ Aside0 (Below w.heap.size w wr)) (fun i _ => 64 - (intOf i).toNat)
  case atStart => exact ⟨0, by omega, rfl, ⟨fun i hi => absurd hi (by omega)⟩, HU5, HU6, HD6⟩
  case round =>
    obtain ⟨k, hk, rfl, HA, HP, HQ, HB⟩ := hrel
    by_cases hlt : k < 64
    · have hc5 := (bC HP.out k).trans (mcells_get _ k (by rw [marksN_len]; exact hlt))
      have hc6 := (bC HQ.out k).trans (mcells_get _ k (by rw [marksN_len]; exact hlt))
      rw [marksN_getD _ _ hlt] at hc5 hc6
      have hk0 : (0 : Int) ≤ (k : Int) := by omega
      have hk1 : (k : Int) < 64 := by omega
      have HNO := aM (fun h1 h2 => belowN_no (a := a) (b := b) hlt h1 h2)
      have HYES := aM (fun (h1 : a.testBit k = true → b.testBit k = true) (i : Nat) (hi : i < k + 1) (h2 : a.testBit i = true) => (by
        rcases Nat.lt_or_ge i k with h | h
        · exact HA.out i h h2
        · obtain rfl : i = k := by omega
          exact h1 h2 : b.testBit i = true))
      cases hx : a.testBit k <;> cases hy : b.testBit k
      all_goals
        rw [hx, hy] at HNO HYES
        rw [hx] at hc5
        rw [hy] at hc6
        have HXY := aM (And.intro hx hy)
        clear hx hy
      case true.false =>
        go_wp2
        go_ret
        rw [HNO.out (by simp) (by simp)]
        exact ⟨rfl, HB.out⟩
      all_goals
        go_wp2
        exact ⟨⟨k + 1, by omega, by go_num, ⟨HYES.out (by simp)⟩, HP, HQ, HB⟩, by simp [intOf]; omega⟩
    · obtain rfl : k = 64 := by omega
      have hy := belowN_yes HA.out
      have HY := aM hy
      clear hy
      go_wp2
      go_ret
      rw [HY.out]
      exact ⟨rfl, HB.out⟩
def bureauref01_Below.f (a0 : Int) (a1 : Int) : Option Bool := if 0 ≤ a0 ∧ a0 < 18446744073709551616 ∧ 0 ≤ a1 ∧ a1 < 18446744073709551616 then some (Go.bits .andNot .u64 a0 a1 == 0) else none
theorem bureauref01_Below.calls (a0 : Int) (a1 : Int) (r : Bool) (w : World) (h : bureauref01_Below.f a0 a1 = some r) :
    Calls Tryd.prog 25 #[.int .u64 a0, .int .u64 a1] w fun e w' => e = .returned (.bool r) ∧ Below w.heap.size w w' := by
  unfold bureauref01_Below.f at h
  split at h
  case isFalse => cases h
  rename_i hc
  injection h with h
  subst h
  obtain ⟨a, rfl⟩ := Int.eq_ofNat_of_zero_le hc.1
  obtain ⟨b, rfl⟩ := Int.eq_ofNat_of_zero_le hc.2.2.1
  rw [belowN_bits a b (by omega) (by omega)]
  exact Below_calls a b (by omega) (by omega) w
end Go.Proofs.YtcbiilbmldinhaaDoor.PB
end

section
namespace Go.Proofs.YtcbiilbmldinhaaDoor.PB
open Go.RowKit Go.Maps Go.Proofs.YtcbiilbmldinhaaDoorW.PrintWords
set_option maxRecDepth 100000
set_option linter.unusedVariables false
set_option linter.unusedSimpArgs false
theorem wfu {n : Int} (h : (kL n).wf = true) : 0 ≤ n ∧ n < 18446744073709551616 := by
  have hmin : IntKind.u64.min = 0 := rfl
  have hmax : IntKind.u64.max = 18446744073709551615 := rfl
  simp only [Lit.wf, Bool.and_eq_true, decide_eq_true_eq, hmin, hmax] at h
  omega
theorem bl_refl8 : ∀ a : Fin 8, belowB (a.val : Int) (a.val : Int) = true := by decide +kernel
theorem bl_refl {a : Nat} (ha : a < 8) : belowB (a : Int) (a : Int) = true := bl_refl8 ⟨a, ha⟩
def okB (D : DataW Unit) (r : S36) : Bool := mayB r.f1 r.f2 r.f3 r.f4 && (Maps.has D (kL r.f0) && !decide (roomI D r.f0 < 1))
def codeF (D : DataW Unit) (r : S36) : Int := if mayB r.f1 r.f2 r.f3 r.f4 = false then 2 else if Maps.has D (kL r.f0) = false then 6 else if roomI D r.f0 < 1 then 4 else 0
def putF (D : DataW Unit) (r : S36) : DataW Unit := if okB D r = true then D.put (kL r.f0) (iL (wrap64 (roomI D r.f0 - 1))) else D
def apdF (D : DataW Unit) (xs : List S36) (r : S36) : List S36 := if okB D r = true then xs ++ [r] else xs
theorem addF_eq (D : DataW Unit) (xs : List S36) (r : S36) : addF D xs r = (putF D r, apdF D xs r, (if okB D r = true then (xs.length : Int) else 0), codeF D r) := by
  unfold addF putF apdF codeF okB
  by_cases h1 : mayB r.f1 r.f2 r.f3 r.f4 = false
  · simp [h1]
  by_cases h2 : Maps.has D (kL r.f0) = false
  · simp [h1, h2]
  by_cases h3 : roomI D r.f0 < 1
  · simp [h1, h2, h3]
  · simp only [Bool.not_eq_false] at h1 h2
    simp [h1, h2, h3]
theorem apd_len (D : DataW Unit) (xs : List S36) (r : S36) : (apdF D xs r).length ≤ xs.length + 1 := by
  unfold apdF; split <;> simp
theorem roomI_put {D : DataW Unit} (h : Maps.IsMap D) (a c b : Int) : roomI (D.put (kL a) (iL c)) b = if b = a then c else roomI D b := by
  by_cases e : b = a
  · subst e
    rw [if_pos rfl]
    exact roomI_eq (Maps.atKey_put_same h (keyL b) _ _)
  · rw [if_neg e]
    unfold roomI
    rw [Maps.atKey_put_other (fun h => e (kL_inj h))]
theorem has_put {D : DataW Unit} (h : Maps.IsMap D) (a c b : Int) : Maps.has (D.put (kL a) (iL c)) (kL b) = if b = a then true else Maps.has D (kL b) := by
  by_cases e : b = a
  · subst e
    rw [if_pos rfl]
    exact Maps.has_put_same h (keyL b) _
  · rw [if_neg e]
    exact Maps.has_put_other (fun h => e (kL_inj h)) _
def Inv (lv : Nat) (Da : DataW Unit) (xa : List S36) (Db : DataW Unit) (xb : List S36) : Prop :=
  ∀ n : Nat, n < 8 → belowB (n : Int) (lv : Int) = true → Maps.has Da (kL (n : Int)) = Maps.has Db (kL (n : Int)) ∧ roomI Da (n : Int) = roomI Db (n : Int) ∧ seenL xa (n : Int) = seenL xb (n : Int)
theorem Inv.room {lv m : Nat} {Da : DataW Unit} (hm : Maps.IsMap Da) (hlv : lv < 8) (hm8 : m < 8) (r : S36) (hr : r.f0 = (m : Int)) (hn : ¬ belowB (m : Int) (lv : Int) = true) : roomI (putF Da r) (lv : Int) = roomI Da (lv : Int) := by
  unfold putF
  split
  · rw [roomI_put hm, if_neg]
    rw [hr]
    intro e
    have : lv = m := by omega
    subst this
    exact hn (bl_refl hlv)
  · rfl
theorem Inv.code {lv m : Nat} {Da Db : DataW Unit} {xa xb : List S36} (h : Inv lv Da xa Db xb) (hm8 : m < 8) (r : S36) (hr : r.f0 = (m : Int)) (hb : belowB (m : Int) (lv : Int) = true) : codeF Da r = codeF Db r ∧ okB Da r = okB Db r := by
  obtain ⟨h1, h2, _⟩ := h m hm8 hb
  unfold codeF okB
  rw [hr, h1, h2]
  exact ⟨rfl, rfl⟩
theorem Inv.refl (lv : Nat) (D : DataW Unit) (xs : List S36) : Inv lv D xs D xs := fun n _ _ => ⟨rfl, rfl, rfl⟩
end Go.Proofs.YtcbiilbmldinhaaDoor.PB
end

section
namespace Go.Proofs.YtcbiilbmldinhaaDoor.PB
open Go.RowKit Go.Proofs.YtcbiilbmldinhaaDoorW.PrintWords Go.Proofs.YtcbiilbmldinhaaDoorW.PrintLast Go.Proofs.YtcbiilbmldinhaaDoorW.PrintMore
attribute [local go_sem] max2_int min2_int max_two min_two max_three min_three max_four min_four   
set_option linter.unusedVariables false
set_option linter.unusedSimpArgs false
def bureauref18_Room.l0 : Nat → Int → Int → Int → List (S38) → List Int → Int → Option (Int)
 | 0, _, _, _, _, _, _ => none
 | k + 1, x1, x5, x6, x159000, x159001, x159002 => if x6 < (x159000.length : Int) then (if 0 ≤ x6 then (if ((rd_T38 x159000 x6).f0) = x1 then (bureauref18_Room.l0 k x1 (wrap64 (x5 - 1)) (wrap64 (x6 + 1)) x159000 x159001 x159002) else (bureauref18_Room.l0 k x1 x5 (wrap64 (x6 + 1)) x159000 x159001 x159002)) else (none)) else (some x5)
def bureauref18_Room.f (k : Nat) (l0_0 : List (S38)) (l0_1 : List Int) (a0_2 : Int) (a1 : Int) : Option (Int) := (bureauref01_Place.f k l0_1 a1).bind fun t159 => (if t159 < 0 then (some 0) else (bureauref18_Room.l0 k a1 a0_2 0 l0_0 l0_1 a0_2))
set_option maxHeartbeats 8000000 in
set_option maxRecDepth 100000 in
theorem bureauref18_Room.calls (k : Nat) (A0_0 : Option Addr) (c0_0 : Nat) (l0_0 : List (S38)) (A0_1 : Option Addr) (c0_1 : Nat) (l0_1 : List Int) (a0_2 : Int) (a1 : Int) (r : Int) (w : World) (hr0_0 : Kd.C k38 w A0_0 l0_0.length l0_0) (hc0_0 : l0_0.length ≤ c0_0) (hr0_1 : Kd.C (Kd.int .u64) w A0_1 l0_1.length l0_1) (hc0_1 : l0_1.length ≤ c0_1) (h : bureauref18_Room.f k l0_0 l0_1 a0_2 a1 = some r) :
  Calls Tryd.prog 22 #[.agg #[.slice A0_0 l0_0.length c0_0, .slice A0_1 l0_1.length c0_1, .int .i64 a0_2], .int .u64 a1] w fun e w' => e = .returned (.int .i64 r) ∧ Below w.heap.size w w' := by
 have hu29 := Tryd.underlying29
 have HR0_0 := aM hr0_0
 have HC0_0 := aM hc0_0
 clear hr0_0 hc0_0
 have HR0_1 := aM hr0_1
 have HC0_1 := aM hc0_1
 clear hr0_1 hc0_1
 have HB := aM (Below.refl w.heap.size w)
 have H : ((bureauref01_Place.f k l0_1 a1).bind fun t159 => (if t159 < 0 then (some 0) else (bureauref18_Room.l0 k a1 a0_2 0 l0_0 l0_1 a0_2))) = some r := h
 clear h
 replace H := Option.bind_eq_some_iff.mp H
 obtain ⟨t159, A30, H⟩ := H
 replace H : (if t159 < 0 then (some 0) else (bureauref18_Room.l0 k a1 a0_2 0 l0_0 l0_1 a0_2)) = some r := H
 have A3 := aM A30
 clear A30
 by_cases c4 : t159 < 0
 ·rw [if_pos c4] at H
  have c4b0 : decide (t159 < 0) = true := decide_eq_true c4
  clear c4
  obtain rfl := Option.some.inj H
  go_enter Tryd.func22, Tryd.ntmps22
  go_wp2_with (first | ((with_reducible refine gate_dst (N := 2) rfl ?_); refine box_event ?hg (N := 2) ?hd (cs := #[.slice A0_0 l0_0.length c0_0, .slice A0_1 l0_1.length c0_1, .int .i64 a0_2]) (t := 29) ?hr ?_; (case hd | hg => rfl); (case hr => first | (go_simp; done) | (go_simp; rfl)); intro gb158 hg w5 hbox hb; have n0_ := aM (bP (ey HB.out) hb); have n1_ := aM (hbox); have n2_ := aM ((by rw [hg]; exact (bZ (ey HB.out)) : w.heap.size ≤ gb158)); have n3_ := n2_; clear HB; have HB := n0_; have BK158 := n1_; have GW158 := n2_; have GE158 := n3_; clear n0_ n1_ n2_ n3_; clear hb hbox hg; have hcz6_0 := zC BK158.out 0 (.slice A0_0 l0_0.length c0_0); have hcz6_1 := zC BK158.out 1 (.slice A0_1 l0_1.length c0_1); have hcz6_2 := zC BK158.out 2 (.int .i64 a0_2); have hfz6_0 := bF BK158.out 0; have hfz6_1 := bF BK158.out 1; have hfz6_2 := bF BK158.out 2) | ((with_reducible refine gate_callee (f := 31) rfl ?_); refine goesL_ (some 10) rfl rfl Tryd.func31 (by kernel_rfl) rfl #[.slice A0_1 l0_1.length c0_1, .int .u64 a1] rfl (by (try simp only [mT, mC, mN]); first | done | rfl | (simp only [lD, lT]; rfl)) ?_; (with_reducible refine (bureauref01_Place.calls k _ _ l0_1 a1 t159 _ ?side1 ?side2 A3.out).mono ?_); (case side1 => repeat (first | exact (cB_ HR0_1.out HB.out) | (with_reducible refine Kd.C_alloc ?_ _) | (with_reducible refine Kd.C_drewN ?_ _) | (with_reducible refine Kd.C_drew ?_))); (case side2 => exact HC0_1.out); rintro e w' ⟨rfl, ⟨nd, rfl⟩⟩; refine ⟨_, rfl, ?_⟩))
  go_ret
  exact ⟨by first | rfl | (simp [errW_none, errW_some] <;> rfl) | (simp [*, errW_none, errW_some] <;> rfl), by repeat (first | (with_reducible first | exact HB.out | apply ea | apply en | apply ed | refine es ?_ GE158.out) | exact HB.out)⟩
 ·rw [if_neg c4] at H
  have c4b0 : decide (t159 < 0) = false := decide_eq_false c4
  clear c4
  have H' := aM H
  clear H
  go_enter Tryd.func22, Tryd.ntmps22
  go_wp2_with (first | ((with_reducible refine gate_dst (N := 2) rfl ?_); refine box_event ?hg (N := 2) ?hd (cs := #[.slice A0_0 l0_0.length c0_0, .slice A0_1 l0_1.length c0_1, .int .i64 a0_2]) (t := 29) ?hr ?_; (case hd | hg => rfl); (case hr => first | (go_simp; done) | (go_simp; rfl)); intro gb158 hg w7 hbox hb; have n0_ := aM (bP (ey HB.out) hb); have n1_ := aM (hbox); have n2_ := aM ((by rw [hg]; exact (bZ (ey HB.out)) : w.heap.size ≤ gb158)); have n3_ := n2_; clear HB; have HB := n0_; have BK158 := n1_; have GW158 := n2_; have GE158 := n3_; clear n0_ n1_ n2_ n3_; clear hb hbox hg; have hcz8_0 := zC BK158.out 0 (.slice A0_0 l0_0.length c0_0); have hcz8_1 := zC BK158.out 1 (.slice A0_1 l0_1.length c0_1); have hcz8_2 := zC BK158.out 2 (.int .i64 a0_2); have hfz8_0 := bF BK158.out 0; have hfz8_1 := bF BK158.out 1; have hfz8_2 := bF BK158.out 2) | ((with_reducible refine gate_callee (f := 31) rfl ?_); refine goesL_ (some 10) rfl rfl Tryd.func31 (by kernel_rfl) rfl #[.slice A0_1 l0_1.length c0_1, .int .u64 a1] rfl (by (try simp only [mT, mC, mN]); first | done | rfl | (simp only [lD, lT]; rfl)) ?_; (with_reducible refine (bureauref01_Place.calls k _ _ l0_1 a1 t159 _ ?side1 ?side2 A3.out).mono ?_); (case side1 => repeat (first | exact (cB_ HR0_1.out HB.out) | (with_reducible refine Kd.C_alloc ?_ _) | (with_reducible refine Kd.C_drewN ?_ _) | (with_reducible refine Kd.C_drew ?_))); (case side2 => exact HC0_1.out); rintro e w' ⟨rfl, ⟨nd, rfl⟩⟩; refine ⟨_, rfl, ?_⟩))
  go_loopg [5, 6] k (fun kq v5 v6 w' => ∃ (x5_1 : Int) (x6_1 : Int), v5 = .int .i64 x5_1 ∧ v6 = .int .i64 x6_1 ∧ Aside0 (bureauref18_Room.l0 kq a1 x5_1 x6_1 l0_0 l0_1 a0_2 = some r) ∧ Aside0 (kq ≤ k) ∧ Aside0 (w'.heap[gb158]? = some (.cells #[(.slice A0_0 l0_0.length c0_0), (.slice A0_1 l0_1.length c0_1), .int .i64 a0_2] 29 (0, 0))) ∧ Aside0 (Below w.heap.size w w'))
  case atStart => exact ⟨(a0_2), (0), (by first | rfl | (simp; done) | (simp [*]; done)), (by first | rfl | (simp; done) | (simp [*]; done)), H', ⟨Nat.le_refl _⟩, ⟨by exact qy BK158.out⟩, ⟨by repeat (first | (with_reducible first | exact HB.out | apply ea | apply en | apply ed | refine es ?_ GE158.out) | exact HB.out)⟩⟩
  case round =>
   clear H'
   try clear c2
   try clear p2
   try clear c3
   try clear c4
   try clear c4b0
   try clear hcz6_0
   try clear hcz6_1
   try clear hcz6_2
   try clear hcz8_0
   try clear hcz8_1
   try clear hcz8_2
   try clear hfz6_0
   try clear hfz6_1
   try clear hfz6_2
   try clear hfz8_0
   try clear hfz8_1
   try clear hfz8_2
   obtain ⟨x5_1, x6_1, rfl, rfl, HA, HK1, BK158, HB⟩ := hrel
   cases gk with
   | zero => exact absurd HA.out (by simp [bureauref18_Room.l0])
   | succ k1 =>
    have H := HA.out
    clear HA
    simp only [bureauref18_Room.l0] at H
    by_cases c9 : x6_1 < (l0_0.length : Int)
    ·rw [if_pos c9] at H
     have c9b0 : decide (x6_1 < (l0_0.length : Int)) = true := decide_eq_true c9
     clear c9
     by_cases c10 : 0 ≤ x6_1
     ·rw [if_pos c10] at H
      have c10b0 : decide (0 ≤ x6_1) = true := decide_eq_true c10
      clear c10
      by_cases c11 : ((rd_T38 l0_0 x6_1).f0) = a1
      ·rw [if_pos c11] at H
       have c11b0 : (((rd_T38 l0_0 x6_1).f0) == a1) = true := beq_iff_eq.mpr c11
       have c11b1 : (((rd_T38 l0_0 x6_1).f0) != a1) = false := bne_eq_false_iff_eq.mpr c11
       clear c11
       have H' := aM H
       clear H
       have hcz12_0 := zC BK158.out 0 (.slice A0_0 l0_0.length c0_0)
       have hcz12_1 := zC BK158.out 1 (.slice A0_1 l0_1.length c0_1)
       have hcz12_2 := zC BK158.out 2 (.int .i64 a0_2)
       have hfz12_0 := bF BK158.out 0
       have hfz12_1 := bF BK158.out 1
       have hfz12_2 := bF BK158.out 2
       have p160 : 0 ≤ (x6_1 : Int) := of_decide_eq_true (by first | (with_reducible assumption) | assumption)
       have q160 : x6_1 < (l0_0.length : Int) := of_decide_eq_true (by first | (with_reducible assumption) | assumption)
       obtain ⟨ad160, e160, hx160_0, hx160_1, hx160_2, hx160_3, hx160_4⟩ := at_T38 HR0_0.out x6_1 p160 q160
       cases e160
       replace hx160_0 := (HB.out.cell (World.block_lt_of_cell? w _ hx160_0)).trans hx160_0
       replace hx160_1 := (HB.out.cell (World.block_lt_of_cell? w _ hx160_1)).trans hx160_1
       replace hx160_2 := (HB.out.cell (World.block_lt_of_cell? w _ hx160_2)).trans hx160_2
       replace hx160_3 := (HB.out.cell (World.block_lt_of_cell? w _ hx160_3)).trans hx160_3
       replace hx160_4 := (HB.out.cell (World.block_lt_of_cell? w _ hx160_4)).trans hx160_4
       replace p160 := eq_true p160
       replace q160 := eq_true q160
       go_wp2
       go_roundg k1
       case measure => have := HK1.out; omega
       case rel => exact ⟨(wrap64 (x5_1 - 1)), (wrap64 (x6_1 + 1)), (by first | rfl | (simp; done) | (simp [*]; done)), (by first | rfl | (simp; done) | (simp [*]; done)), H', ⟨by have := HK1.out; omega⟩, ⟨by exact qy BK158.out⟩, ⟨by repeat (first | (with_reducible first | exact HB.out | apply ea | apply en | apply ed | refine es ?_ GE158.out) | exact HB.out)⟩⟩
      ·rw [if_neg c11] at H
       have c11b0 : (((rd_T38 l0_0 x6_1).f0) == a1) = false := beq_eq_false_iff_ne.mpr c11
       have c11b1 : (((rd_T38 l0_0 x6_1).f0) != a1) = true := bne_iff_ne.mpr c11
       have H' := aM H
       clear H
       have hcz13_0 := zC BK158.out 0 (.slice A0_0 l0_0.length c0_0)
       have hcz13_1 := zC BK158.out 1 (.slice A0_1 l0_1.length c0_1)
       have hcz13_2 := zC BK158.out 2 (.int .i64 a0_2)
       have hfz13_0 := bF BK158.out 0
       have hfz13_1 := bF BK158.out 1
       have hfz13_2 := bF BK158.out 2
       have p160 : 0 ≤ (x6_1 : Int) := of_decide_eq_true (by first | (with_reducible assumption) | assumption)
       have q160 : x6_1 < (l0_0.length : Int) := of_decide_eq_true (by first | (with_reducible assumption) | assumption)
       obtain ⟨ad160, e160, hx160_0, hx160_1, hx160_2, hx160_3, hx160_4⟩ := at_T38 HR0_0.out x6_1 p160 q160
       cases e160
       replace hx160_0 := (HB.out.cell (World.block_lt_of_cell? w _ hx160_0)).trans hx160_0
       replace hx160_1 := (HB.out.cell (World.block_lt_of_cell? w _ hx160_1)).trans hx160_1
       replace hx160_2 := (HB.out.cell (World.block_lt_of_cell? w _ hx160_2)).trans hx160_2
       replace hx160_3 := (HB.out.cell (World.block_lt_of_cell? w _ hx160_3)).trans hx160_3
       replace hx160_4 := (HB.out.cell (World.block_lt_of_cell? w _ hx160_4)).trans hx160_4
       replace p160 := eq_true p160
       replace q160 := eq_true q160
       go_wp2
       go_roundg k1
       case measure => have := HK1.out; omega
       case rel => exact ⟨(x5_1), (wrap64 (x6_1 + 1)), (by first | rfl | (simp; done) | (simp [*]; done)), (by first | rfl | (simp; done) | (simp [*]; done)), H', ⟨by have := HK1.out; omega⟩, ⟨by exact qy BK158.out⟩, ⟨by repeat (first | (with_reducible first | exact HB.out | apply ea | apply en | apply ed | refine es ?_ GE158.out) | exact HB.out)⟩⟩
     ·rw [if_neg c10] at H
      exact absurd H (by simp)
    ·rw [if_neg c9] at H
     have c9b0 : decide (x6_1 < (l0_0.length : Int)) = false := decide_eq_false c9
     clear c9
     obtain rfl := Option.some.inj H
     have hcz14_0 := zC BK158.out 0 (.slice A0_0 l0_0.length c0_0)
     have hcz14_1 := zC BK158.out 1 (.slice A0_1 l0_1.length c0_1)
     have hcz14_2 := zC BK158.out 2 (.int .i64 a0_2)
     have hfz14_0 := bF BK158.out 0
     have hfz14_1 := bF BK158.out 1
     have hfz14_2 := bF BK158.out 2
     go_wp2
     go_ret
     exact ⟨by first | rfl | (simp [errW_none, errW_some] <;> rfl) | (simp [*, errW_none, errW_some] <;> rfl), by repeat (first | (with_reducible first | exact HB.out | apply ea | apply en | apply ed | refine es ?_ GE158.out) | exact HB.out)⟩
end Go.Proofs.YtcbiilbmldinhaaDoor.PB
end

section
namespace Go.Proofs.YtcbiilbmldinhaaDoor.PB
open Go.RowKit Go.Proofs.YtcbiilbmldinhaaDoorW.PrintWords Go.Proofs.YtcbiilbmldinhaaDoorW.PrintLast Go.Proofs.YtcbiilbmldinhaaDoorW.PrintMore
attribute [local go_sem] max2_int min2_int max_two min_two max_three min_three max_four min_four   
set_option linter.unusedVariables false
set_option linter.unusedSimpArgs false
def bureauref18_within.f (a0 : Int) : Option (Bool) := if a0 ≥ 0 then (some (decide (a0 ≤ 65535))) else (some false)
set_option maxHeartbeats 8000000 in
set_option maxRecDepth 100000 in
theorem bureauref18_within.calls (a0 : Int) (r : Bool) (w : World) (h : bureauref18_within.f a0 = some r) :
  Calls Tryd.prog 51 #[.int .i64 a0] w fun e w' => e = .returned (.bool r) ∧ Drawn0 w w' := by
 have H : (if a0 ≥ 0 then (some (decide (a0 ≤ 65535))) else (some false)) = some r := h
 clear h
 by_cases c2 : a0 ≥ 0
 ·rw [if_pos c2] at H
  have c2b0 : decide (0 ≤ a0) = true := decide_eq_true c2
  clear c2
  obtain rfl := Option.some.inj H
  go_enter Tryd.func51, Tryd.ntmps51
  go_wp2
  go_ret
  exact ⟨by first | rfl | (simp; done) | (simp [*]; done), by repeat (first | exact Drawn0.refl _ | apply Drawn0.step)⟩
 ·rw [if_neg c2] at H
  have c2b0 : decide (0 ≤ a0) = false := decide_eq_false c2
  clear c2
  obtain rfl := Option.some.inj H
  go_enter Tryd.func51, Tryd.ntmps51
  go_wp2
  go_ret
  exact ⟨by first | rfl | (simp; done) | (simp [*]; done), by repeat (first | exact Drawn0.refl _ | apply Drawn0.step)⟩
end Go.Proofs.YtcbiilbmldinhaaDoor.PB
end

section
namespace Go.Proofs.YtcbiilbmldinhaaDoor.PB
open Go.RowKit Go.Proofs.YtcbiilbmldinhaaDoorW.PrintWords Go.Proofs.YtcbiilbmldinhaaDoorW.PrintLast Go.Proofs.YtcbiilbmldinhaaDoorW.PrintMore
attribute [local go_sem] max2_int min2_int max_two min_two max_three min_three max_four min_four   
set_option linter.unusedVariables false
set_option linter.unusedSimpArgs false
def bureauref18_May.f (a0_0 : Int) (a0_1 : Int) (a0_2 : Int) (a0_3 : Int) (a0_4 : Int) : Option (Bool) := if a0_1 ≥ 1 then (if a0_1 ≤ 4 then ((bureauref18_within.f a0_2).bind fun t162 => (if t162 = true then ((bureauref18_within.f a0_3).bind fun t163 => (if t163 = true then ((bureauref18_within.f a0_4).bind fun t164 => (some t164)) else (some false))) else (some false))) else (some false)) else (some false)
set_option maxHeartbeats 8000000 in
set_option maxRecDepth 100000 in
theorem bureauref18_May.calls (a0_0 : Int) (a0_1 : Int) (a0_2 : Int) (a0_3 : Int) (a0_4 : Int) (r : Bool) (w : World) (h : bureauref18_May.f a0_0 a0_1 a0_2 a0_3 a0_4 = some r) :
  Calls Tryd.prog 30 #[.agg #[.int .u64 a0_0, .int .i64 a0_1, .int .i64 a0_2, .int .i64 a0_3, .int .i64 a0_4]] w fun e w' => e = .returned (.bool r) ∧ Below w.heap.size w w' := by
 have hu38 := Tryd.underlying38
 have HB := aM (Below.refl w.heap.size w)
 have H : (if a0_1 ≥ 1 then (if a0_1 ≤ 4 then ((bureauref18_within.f a0_2).bind fun t162 => (if t162 = true then ((bureauref18_within.f a0_3).bind fun t163 => (if t163 = true then ((bureauref18_within.f a0_4).bind fun t164 => (some t164)) else (some false))) else (some false))) else (some false)) else (some false)) = some r := h
 clear h
 by_cases c2 : a0_1 ≥ 1
 ·rw [if_pos c2] at H
  have c2b0 : decide (1 ≤ a0_1) = true := decide_eq_true c2
  clear c2
  by_cases c3 : a0_1 ≤ 4
  ·rw [if_pos c3] at H
   have c3b0 : decide (a0_1 ≤ 4) = true := decide_eq_true c3
   clear c3
   replace H := Option.bind_eq_some_iff.mp H
   obtain ⟨t162, A40, H⟩ := H
   replace H : (if t162 = true then ((bureauref18_within.f a0_3).bind fun t163 => (if t163 = true then ((bureauref18_within.f a0_4).bind fun t164 => (some t164)) else (some false))) else (some false)) = some r := H
   have A4 := aM A40
   clear A40
   by_cases c5 : t162 = true
   ·subst c5
    have H1 : ((bureauref18_within.f a0_3).bind fun t163 => (if t163 = true then ((bureauref18_within.f a0_4).bind fun t164 => (some t164)) else (some false))) = some r := by rw [if_pos rfl] at H; exact H
    clear H
    have H := H1
    clear H1
    replace H := Option.bind_eq_some_iff.mp H
    obtain ⟨t163, A60, H⟩ := H
    replace H : (if t163 = true then ((bureauref18_within.f a0_4).bind fun t164 => (some t164)) else (some false)) = some r := H
    have A6 := aM A60
    clear A60
    by_cases c7 : t163 = true
    ·subst c7
     have H1 : ((bureauref18_within.f a0_4).bind fun t164 => (some t164)) = some r := by rw [if_pos rfl] at H; exact H
     clear H
     have H := H1
     clear H1
     replace H := Option.bind_eq_some_iff.mp H
     obtain ⟨t164, A80, H⟩ := H
     replace H : (some t164) = some r := H
     have A8 := aM A80
     clear A80
     obtain rfl := Option.some.inj H
     go_enter Tryd.func30, Tryd.ntmps30
     go_wp2_with (first | ((with_reducible refine gate_dst (N := 1) rfl ?_); refine box_event ?hg (N := 1) ?hd (cs := #[.int .u64 a0_0, .int .i64 a0_1, .int .i64 a0_2, .int .i64 a0_3, .int .i64 a0_4]) (t := 38) ?hr ?_; (case hd | hg => rfl); (case hr => first | (go_simp; done) | (go_simp; rfl)); intro gb161 hg w9 hbox hb; have n0_ := aM (bP (ey HB.out) hb); have n1_ := aM (hbox); have n2_ := aM ((by rw [hg]; exact (bZ (ey HB.out)) : w.heap.size ≤ gb161)); have n3_ := n2_; clear HB; have HB := n0_; have BK161 := n1_; have GW161 := n2_; have GE161 := n3_; clear n0_ n1_ n2_ n3_; clear hb hbox hg; have hcz10_0 := zC BK161.out 0 (.int .u64 a0_0); have hcz10_1 := zC BK161.out 1 (.int .i64 a0_1); have hcz10_2 := zC BK161.out 2 (.int .i64 a0_2); have hcz10_3 := zC BK161.out 3 (.int .i64 a0_3); have hcz10_4 := zC BK161.out 4 (.int .i64 a0_4); have hfz10_0 := bF BK161.out 0; have hfz10_1 := bF BK161.out 1; have hfz10_2 := bF BK161.out 2; have hfz10_3 := bF BK161.out 3; have hfz10_4 := bF BK161.out 4) | (go_at_call 51; (with_reducible refine (bureauref18_within.calls a0_2 true _ A4.out).mono ?_); rintro e w' ⟨rfl, ⟨nd, rfl⟩⟩) | (go_at_call 51; (with_reducible refine (bureauref18_within.calls a0_3 true _ A6.out).mono ?_); rintro e w' ⟨rfl, ⟨nd, rfl⟩⟩) | (go_at_call 51; (with_reducible refine (bureauref18_within.calls a0_4 t164 _ A8.out).mono ?_); rintro e w' ⟨rfl, ⟨nd, rfl⟩⟩))
     go_ret
     exact ⟨by first | rfl | (simp [errW_none, errW_some] <;> rfl) | (simp [*, errW_none, errW_some] <;> rfl), by repeat (first | (with_reducible first | exact HB.out | apply ea | apply en | apply ed | refine es ?_ GE161.out) | exact HB.out)⟩
    ·replace c7 := Bool.eq_false_iff.mpr c7
     subst c7
     have H1 : (some false) = some r := by rw [if_neg (show ¬ (false = true) by decide)] at H; exact H
     clear H
     have H := H1
     clear H1
     obtain rfl := Option.some.inj H
     go_enter Tryd.func30, Tryd.ntmps30
     go_wp2_with (first | ((with_reducible refine gate_dst (N := 1) rfl ?_); refine box_event ?hg (N := 1) ?hd (cs := #[.int .u64 a0_0, .int .i64 a0_1, .int .i64 a0_2, .int .i64 a0_3, .int .i64 a0_4]) (t := 38) ?hr ?_; (case hd | hg => rfl); (case hr => first | (go_simp; done) | (go_simp; rfl)); intro gb161 hg w11 hbox hb; have n0_ := aM (bP (ey HB.out) hb); have n1_ := aM (hbox); have n2_ := aM ((by rw [hg]; exact (bZ (ey HB.out)) : w.heap.size ≤ gb161)); have n3_ := n2_; clear HB; have HB := n0_; have BK161 := n1_; have GW161 := n2_; have GE161 := n3_; clear n0_ n1_ n2_ n3_; clear hb hbox hg; have hcz12_0 := zC BK161.out 0 (.int .u64 a0_0); have hcz12_1 := zC BK161.out 1 (.int .i64 a0_1); have hcz12_2 := zC BK161.out 2 (.int .i64 a0_2); have hcz12_3 := zC BK161.out 3 (.int .i64 a0_3); have hcz12_4 := zC BK161.out 4 (.int .i64 a0_4); have hfz12_0 := bF BK161.out 0; have hfz12_1 := bF BK161.out 1; have hfz12_2 := bF BK161.out 2; have hfz12_3 := bF BK161.out 3; have hfz12_4 := bF BK161.out 4) | (go_at_call 51; (with_reducible refine (bureauref18_within.calls a0_2 true _ A4.out).mono ?_); rintro e w' ⟨rfl, ⟨nd, rfl⟩⟩) | (go_at_call 51; (with_reducible refine (bureauref18_within.calls a0_3 false _ A6.out).mono ?_); rintro e w' ⟨rfl, ⟨nd, rfl⟩⟩))
     go_ret
     exact ⟨by first | rfl | (simp [errW_none, errW_some] <;> rfl) | (simp [*, errW_none, errW_some] <;> rfl), by repeat (first | (with_reducible first | exact HB.out | apply ea | apply en | apply ed | refine es ?_ GE161.out) | exact HB.out)⟩
   ·replace c5 := Bool.eq_false_iff.mpr c5
    subst c5
    have H1 : (some false) = some r := by rw [if_neg (show ¬ (false = true) by decide)] at H; exact H
    clear H
    have H := H1
    clear H1
    obtain rfl := Option.some.inj H
    go_enter Tryd.func30, Tryd.ntmps30
    go_wp2_with (first | ((with_reducible refine gate_dst (N := 1) rfl ?_); refine box_event ?hg (N := 1) ?hd (cs := #[.int .u64 a0_0, .int .i64 a0_1, .int .i64 a0_2, .int .i64 a0_3, .int .i64 a0_4]) (t := 38) ?hr ?_; (case hd | hg => rfl); (case hr => first | (go_simp; done) | (go_simp; rfl)); intro gb161 hg w13 hbox hb; have n0_ := aM (bP (ey HB.out) hb); have n1_ := aM (hbox); have n2_ := aM ((by rw [hg]; exact (bZ (ey HB.out)) : w.heap.size ≤ gb161)); have n3_ := n2_; clear HB; have HB := n0_; have BK161 := n1_; have GW161 := n2_; have GE161 := n3_; clear n0_ n1_ n2_ n3_; clear hb hbox hg; have hcz14_0 := zC BK161.out 0 (.int .u64 a0_0); have hcz14_1 := zC BK161.out 1 (.int .i64 a0_1); have hcz14_2 := zC BK161.out 2 (.int .i64 a0_2); have hcz14_3 := zC BK161.out 3 (.int .i64 a0_3); have hcz14_4 := zC BK161.out 4 (.int .i64 a0_4); have hfz14_0 := bF BK161.out 0; have hfz14_1 := bF BK161.out 1; have hfz14_2 := bF BK161.out 2; have hfz14_3 := bF BK161.out 3; have hfz14_4 := bF BK161.out 4) | (go_at_call 51; (with_reducible refine (bureauref18_within.calls a0_2 false _ A4.out).mono ?_); rintro e w' ⟨rfl, ⟨nd, rfl⟩⟩))
    go_ret
    exact ⟨by first | rfl | (simp [errW_none, errW_some] <;> rfl) | (simp [*, errW_none, errW_some] <;> rfl), by repeat (first | (with_reducible first | exact HB.out | apply ea | apply en | apply ed | refine es ?_ GE161.out) | exact HB.out)⟩
  ·rw [if_neg c3] at H
   have c3b0 : decide (a0_1 ≤ 4) = false := decide_eq_false c3
   clear c3
   obtain rfl := Option.some.inj H
   go_enter Tryd.func30, Tryd.ntmps30
   go_wp2_with (first | ((with_reducible refine gate_dst (N := 1) rfl ?_); refine box_event ?hg (N := 1) ?hd (cs := #[.int .u64 a0_0, .int .i64 a0_1, .int .i64 a0_2, .int .i64 a0_3, .int .i64 a0_4]) (t := 38) ?hr ?_; (case hd | hg => rfl); (case hr => first | (go_simp; done) | (go_simp; rfl)); intro gb161 hg w15 hbox hb; have n0_ := aM (bP (ey HB.out) hb); have n1_ := aM (hbox); have n2_ := aM ((by rw [hg]; exact (bZ (ey HB.out)) : w.heap.size ≤ gb161)); have n3_ := n2_; clear HB; have HB := n0_; have BK161 := n1_; have GW161 := n2_; have GE161 := n3_; clear n0_ n1_ n2_ n3_; clear hb hbox hg; have hcz16_0 := zC BK161.out 0 (.int .u64 a0_0); have hcz16_1 := zC BK161.out 1 (.int .i64 a0_1); have hcz16_2 := zC BK161.out 2 (.int .i64 a0_2); have hcz16_3 := zC BK161.out 3 (.int .i64 a0_3); have hcz16_4 := zC BK161.out 4 (.int .i64 a0_4); have hfz16_0 := bF BK161.out 0; have hfz16_1 := bF BK161.out 1; have hfz16_2 := bF BK161.out 2; have hfz16_3 := bF BK161.out 3; have hfz16_4 := bF BK161.out 4))
   go_ret
   exact ⟨by first | rfl | (simp [errW_none, errW_some] <;> rfl) | (simp [*, errW_none, errW_some] <;> rfl), by repeat (first | (with_reducible first | exact HB.out | apply ea | apply en | apply ed | refine es ?_ GE161.out) | exact HB.out)⟩
 ·rw [if_neg c2] at H
  have c2b0 : decide (1 ≤ a0_1) = false := decide_eq_false c2
  clear c2
  obtain rfl := Option.some.inj H
  go_enter Tryd.func30, Tryd.ntmps30
  go_wp2_with (first | ((with_reducible refine gate_dst (N := 1) rfl ?_); refine box_event ?hg (N := 1) ?hd (cs := #[.int .u64 a0_0, .int .i64 a0_1, .int .i64 a0_2, .int .i64 a0_3, .int .i64 a0_4]) (t := 38) ?hr ?_; (case hd | hg => rfl); (case hr => first | (go_simp; done) | (go_simp; rfl)); intro gb161 hg w17 hbox hb; have n0_ := aM (bP (ey HB.out) hb); have n1_ := aM (hbox); have n2_ := aM ((by rw [hg]; exact (bZ (ey HB.out)) : w.heap.size ≤ gb161)); have n3_ := n2_; clear HB; have HB := n0_; have BK161 := n1_; have GW161 := n2_; have GE161 := n3_; clear n0_ n1_ n2_ n3_; clear hb hbox hg; have hcz18_0 := zC BK161.out 0 (.int .u64 a0_0); have hcz18_1 := zC BK161.out 1 (.int .i64 a0_1); have hcz18_2 := zC BK161.out 2 (.int .i64 a0_2); have hcz18_3 := zC BK161.out 3 (.int .i64 a0_3); have hcz18_4 := zC BK161.out 4 (.int .i64 a0_4); have hfz18_0 := bF BK161.out 0; have hfz18_1 := bF BK161.out 1; have hfz18_2 := bF BK161.out 2; have hfz18_3 := bF BK161.out 3; have hfz18_4 := bF BK161.out 4))
  go_ret
  exact ⟨by first | rfl | (simp [errW_none, errW_some] <;> rfl) | (simp [*, errW_none, errW_some] <;> rfl), by repeat (first | (with_reducible first | exact HB.out | apply ea | apply en | apply ed | refine es ?_ GE161.out) | exact HB.out)⟩
end Go.Proofs.YtcbiilbmldinhaaDoor.PB
end
