/- What the row hangs on, part 2. -/
import Derived.Test.YtnbdldpjiofafaaProg
import Derived.Test.YtnbdldpjiofafaaQSubstNone1
section
namespace Go.Proofs.Ytnbdldpjiofafaa.PB
open Go.RowKit Go.Proofs.YtnbdldpjiofafaaW.PrintWords Go.Proofs.YtnbdldpjiofafaaW.PrintLast Go.Proofs.YtnbdldpjiofafaaW.PrintMore
theorem qn : type_of% @blk_drewN := @blk_drewN
theorem qd : type_of% @blk_drew := @blk_drew
theorem qa : type_of% @blk_alloc := @blk_alloc
theorem ra : type_of% @Kd.R_alloc := @Kd.R_alloc
theorem rn : type_of% @Kd.R_drewN := @Kd.R_drewN
theorem rd_ : type_of% @Kd.R_drew := @Kd.R_drew
theorem va : type_of% @Kd.V_alloc := @Kd.V_alloc
theorem vn : type_of% @Kd.V_drewN := @Kd.V_drewN
theorem vd : type_of% @Kd.V_drew := @Kd.V_drew
theorem ea : type_of% @below_alloc := @below_alloc
theorem en : type_of% @pw_below_drewN := @pw_below_drewN
theorem ed : type_of% @below_drew1 := @below_drew1
theorem es : type_of% @below_set := @below_set
theorem aM : type_of% @Aside0.mk := @Aside0.mk
theorem bC : type_of% @blk_cell := @blk_cell
theorem bF : type_of% @blk_frozen := @blk_frozen
theorem rF : type_of% @Kd.R_far := @Kd.R_far
theorem bZ : type_of% @below_size := @below_size
theorem bB : type_of% @blk_below := @blk_below
theorem bP : type_of% @below_step := @below_step
theorem rT : type_of% @Kd.R_types := @Kd.R_types
theorem rM : type_of% @Kd.R_mono := @Kd.R_mono
theorem rR : type_of% @Kd.R_reads' := @Kd.R_reads'
theorem cB_ : type_of% @Kd.C_below := @Kd.C_below
theorem rL : type_of% @Kd.R_lower := @Kd.R_lower
theorem rE : type_of% @Kd.R_elder' := @Kd.R_elder'
theorem bR : type_of% @blk_far := @blk_far
theorem bU : type_of% @blk_put := @blk_put
theorem sA : type_of% @List.setIfInBounds_toArray := @List.setIfInBounds_toArray
theorem sZ : type_of% @List.set_cons_zero := @List.set_cons_zero
theorem sS : type_of% @List.set_cons_succ := @List.set_cons_succ
theorem mT : type_of% @List.map_toArray := @List.map_toArray
theorem mC : type_of% @List.map_cons := @List.map_cons
theorem mN : type_of% @List.map_nil := @List.map_nil
theorem lD : type_of% @List.length_drop := @List.length_drop
theorem lT : type_of% @List.length_take := @List.length_take
class Up (W w : World) : Prop where
  b : Below w.heap.size w W
instance (w : World) : Up w w := ⟨Below.refl _ _⟩
instance {W w : World} (o : Obj) [u : Up W w] : Up (W.alloc o) w := ⟨below_alloc u.b o⟩
instance {W w : World} [u : Up W w] : Up W.drew w := ⟨below_drew1 u.b⟩
instance {W w : World} (n : Nat) [u : Up W w] : Up (W.drewN n) w := ⟨pw_below_drewN u.b n⟩
theorem qy {W w : World} {g : Nat} {o : Obj} [u : Up W w] (h : w.heap[g]? = some o) : W.heap[g]? = some o := blk_below h u.b
theorem ry {α : Type} {d : Kd α} {e : TypeId} {W w : World} {base : Nat} {ok : Nat → Prop} {v : Value} {xs : List α} [u : Up W w] (h : d.R e w base ok v xs) : d.R e W base ok v xs := Kd.R_below h u.b
theorem ey {W w v : World} [u : Up W w] (h : Below v.heap.size v w) : Below v.heap.size v W := below_then h h.size u.b
abbrev b0_ : Array Bool := #[false, false, false, false, false, false, false, false, false, false, false, false, false]
abbrev b1_ : Array Bool := #[true, false, false, false, false, false, false, false, false, false, false, false, false]
abbrev b2_ : Array Bool := #[true, true, false, false, false, false, false, false, false, false, false, false, false]
abbrev b3_ : Array Bool := #[true, true, true, false, false, false, false, false, false, false, false, false, false]
abbrev b4_ : Array Bool := #[true, true, true, true, false, false, false, false, false, false, false, false, false]
abbrev b5_ : Array Bool := #[true, true, true, true, true, false, false, false, false, false, false, false, false]
abbrev b6_ : Array Bool := #[true, true, true, true, true, false, false, true, false, false, false, false, false]
abbrev b7_ : Array Bool := #[true, true, true, true, true, true, false, true, false, false, false, false, false]
abbrev b8_ : Array Bool := #[true, true, true, true, true, true, false, true, true, false, false, false, false]
abbrev b9_ : Array Bool := #[true, true, true, true, true, true, false, true, true, true, false, false, false]
abbrev b10_ : Array Bool := #[true, true, true, true, true, true, true, true, true, true, false, false, false]
abbrev b11_ : Array Bool := #[true, true, true, true, true, true, true, true, true, true, true, false, false]
abbrev b12_ : Array Bool := #[true, true, true, true, true, true, true, true, true, true, true, true, false]
abbrev b13_ : Array Bool := #[true, true, true, true, true, true, true, true, true, true, true, true, true]
abbrev b14_ : Array Bool := #[true, true, true, true, true, true, false, false, false, false, false, false, false]
abbrev b15_ : Array Bool := #[true, true, true, true, true, true, true, false, false, false, false, false, false]
abbrev b16_ : Array Bool := #[true, true, true, true, true, true, true, true, false, false, false, false, false]
abbrev b17_ : Array Bool := #[true, true, true, true, true, true, true, true, true, false, false, false, false]
abbrev b18_ : Array Bool := #[true, false, true, false, false, false, false, false, false, false, false, false, false]
abbrev b19_ : Array Bool := #[true, false, true, true, false, false, false, false, false, false, false, false, false]
abbrev b20_ : Array Bool := #[true, false, true, true, false, true, false, false, false, false, false, false, false]
abbrev b21_ : Array Bool := #[true, false, true, true, false, true, true, false, false, false, false, false, false]
abbrev b22_ : Array Bool := #[true, false, true, true, false, true, true, true, false, false, false, false, false]
abbrev b23_ : Array Bool := #[true, false, true, true, false, true, true, true, true, false, false, false, false]
abbrev b24_ : Array Bool := #[true, true, true, true, false, true, true, true, true, false, false, false, false]
abbrev b25_ : Array Bool := #[false, false, false, false, false, false, false, false, false, false, false, false, false, false, false, false, false]
abbrev b26_ : Array Bool := #[true, false, false, false, false, false, false, false, false, false, false, false, false, false, false, false, false]
abbrev b27_ : Array Bool := #[true, false, true, false, false, false, false, false, false, false, false, false, false, false, false, false, false]
abbrev b28_ : Array Bool := #[true, false, true, false, true, false, false, false, false, false, false, false, false, false, false, false, false]
abbrev b29_ : Array Bool := #[true, false, true, false, true, false, false, true, false, false, false, false, false, false, false, false, false]
abbrev b30_ : Array Bool := #[true, false, true, false, true, false, false, true, false, true, false, false, false, false, false, false, false]
abbrev b31_ : Array Bool := #[true, false, true, false, true, false, false, true, false, true, false, false, true, false, false, false, false]
abbrev b32_ : Array Bool := #[true, true, true, false, true, false, false, true, false, true, false, false, true, false, false, false, false]
abbrev b33_ : Array Bool := #[true, true, true, true, true, false, false, true, false, true, false, false, true, false, false, false, false]
abbrev b34_ : Array Bool := #[true, true, true, true, true, true, false, true, false, true, false, false, true, false, false, false, false]
abbrev b35_ : Array Bool := #[true, true, true, true, true, true, true, true, false, true, false, false, true, false, false, false, false]
abbrev b36_ : Array Bool := #[true, true, true, true, true, true, true, true, true, true, false, false, true, false, false, false, false]
abbrev b37_ : Array Bool := #[true, true, true, true, true, true, true, true, true, true, true, false, true, false, false, false, false]
abbrev b38_ : Array Bool := #[true, true, true, true, true, true, true, true, true, true, true, true, true, false, false, false, false]
abbrev b39_ : Array Bool := #[true, true, true, true, true, true, true, true, true, true, true, true, true, true, false, false, false]
abbrev b40_ : Array Bool := #[true, true, true, true, true, true, true, true, true, true, true, true, true, true, true, false, false]
abbrev b41_ : Array Bool := #[true, true, true, true, true, true, true, true, true, true, true, true, true, true, true, true, false]
abbrev b42_ : Array Bool := #[true, true, true, true, true, true, true, true, true, true, true, true, true, true, true, true, true]
abbrev b43_ : Array Bool := #[false, false, false, false, false, false, false, false, false]
abbrev b44_ : Array Bool := #[true, false, false, false, false, false, false, false, false]
abbrev b45_ : Array Bool := #[true, false, true, false, false, false, false, false, false]
abbrev b46_ : Array Bool := #[true, false, true, true, false, false, false, false, false]
abbrev b47_ : Array Bool := #[true, false, true, true, false, true, false, false, false]
abbrev b48_ : Array Bool := #[true, true, true, true, false, true, false, false, false]
abbrev b49_ : Array Bool := #[true, true, true, true, true, true, false, false, false]
abbrev b50_ : Array Bool := #[true, true, true, true, true, true, true, false, false]
abbrev b51_ : Array Bool := #[true, true, true, true, true, true, true, true, false]
abbrev b52_ : Array Bool := #[true, true, true, true, true, true, true, true, true]
abbrev b53_ : Array Bool := #[false, false, false, false, false, false, false, false, false, false, false, false, false, false, false, false]
abbrev b54_ : Array Bool := #[true, false, false, false, false, false, false, false, false, false, false, false, false, false, false, false]
abbrev b55_ : Array Bool := #[true, false, true, false, false, false, false, false, false, false, false, false, false, false, false, false]
abbrev b56_ : Array Bool := #[true, false, true, false, true, false, false, false, false, false, false, false, false, false, false, false]
abbrev b57_ : Array Bool := #[true, false, true, false, true, false, false, true, false, false, false, false, false, false, false, false]
abbrev b58_ : Array Bool := #[true, false, true, false, true, false, false, true, false, true, false, false, false, false, false, false]
abbrev b59_ : Array Bool := #[true, false, true, false, true, false, false, true, false, true, false, false, true, false, false, false]
abbrev b60_ : Array Bool := #[true, true, true, false, true, false, false, true, false, true, false, false, true, false, false, false]
abbrev b61_ : Array Bool := #[true, true, true, true, true, false, false, true, false, true, false, false, true, false, false, false]
abbrev b62_ : Array Bool := #[true, true, true, true, true, true, false, true, false, true, false, false, true, false, false, false]
abbrev b63_ : Array Bool := #[true, true, true, true, true, true, true, true, false, true, false, false, true, false, false, false]
abbrev b64_ : Array Bool := #[true, true, true, true, true, true, true, true, true, true, false, false, true, false, false, false]
abbrev b65_ : Array Bool := #[true, true, true, true, true, true, true, true, true, true, true, false, true, false, false, false]
abbrev b66_ : Array Bool := #[true, true, true, true, true, true, true, true, true, true, true, true, true, false, false, false]
abbrev b67_ : Array Bool := #[true, true, true, true, true, true, true, true, true, true, true, true, true, true, false, false]
abbrev b68_ : Array Bool := #[true, true, true, true, true, true, true, true, true, true, true, true, true, true, true, false]
abbrev b69_ : Array Bool := #[true, true, true, true, true, true, true, true, true, true, true, true, true, true, true, true]
abbrev b70_ : Array Bool := #[false, false, false, false, false, false, false, false]
abbrev b71_ : Array Bool := #[true, false, false, false, false, false, false, false]
abbrev b72_ : Array Bool := #[true, false, false, false, false, true, false, false]
abbrev b73_ : Array Bool := #[true, true, false, false, false, true, false, false]
abbrev b74_ : Array Bool := #[true, true, true, false, false, true, false, false]
abbrev b75_ : Array Bool := #[true, true, true, true, false, true, false, false]
abbrev b76_ : Array Bool := #[true, true, true, true, true, true, false, false]
abbrev b77_ : Array Bool := #[true, true, true, true, true, true, true, false]
abbrev b78_ : Array Bool := #[true, true, true, true, true, true, true, true]
abbrev b79_ : Array Bool := #[false, false, false, false, false, false, false, false, false, false, false, false, false, false, false, false, false, false, false, false, false, false, false, false, false, false, false, false, false, false, false, false, false, false, false, false, false]
abbrev b80_ : Array Bool := #[true, false, false, false, false, false, false, false, false, false, false, false, false, false, false, false, false, false, false, false, false, false, false, false, false, false, false, false, false, false, false, false, false, false, false, false, false]
abbrev b81_ : Array Bool := #[true, true, false, false, false, false, false, false, false, false, false, false, false, false, false, false, false, false, false, false, false, false, false, false, false, false, false, false, false, false, false, false, false, false, false, false, false]
abbrev b82_ : Array Bool := #[true, true, true, false, false, false, false, false, false, false, false, false, false, false, false, false, false, false, false, false, false, false, false, false, false, false, false, false, false, false, false, false, false, false, false, false, false]
abbrev b83_ : Array Bool := #[true, true, true, true, false, false, false, false, false, false, false, false, false, false, false, false, false, false, false, false, false, false, false, false, false, false, false, false, false, false, false, false, false, false, false, false, false]
abbrev b84_ : Array Bool := #[true, true, true, true, true, false, false, false, false, false, false, false, false, false, false, false, false, false, false, false, false, false, false, false, false, false, false, false, false, false, false, false, false, false, false, false, false]
abbrev b85_ : Array Bool := #[true, true, true, true, true, true, false, false, false, false, false, false, false, false, false, false, false, false, false, false, false, false, false, false, false, false, false, false, false, false, false, false, false, false, false, false, false]
abbrev b86_ : Array Bool := #[true, true, true, true, true, true, true, false, false, false, false, false, false, false, false, false, false, false, false, false, false, false, false, false, false, false, false, false, false, false, false, false, false, false, false, false, false]
abbrev b87_ : Array Bool := #[true, true, true, true, true, true, true, true, false, false, false, false, false, false, false, false, false, false, false, false, false, false, false, false, false, false, false, false, false, false, false, false, false, false, false, false, false]
abbrev b88_ : Array Bool := #[true, true, true, true, true, true, true, true, true, false, false, false, false, false, false, false, false, false, false, false, false, false, false, false, false, false, false, false, false, false, false, false, false, false, false, false, false]
abbrev b89_ : Array Bool := #[true, true, true, true, true, true, true, true, true, true, false, false, false, false, false, false, false, false, false, false, false, false, false, false, false, false, false, false, false, false, false, false, false, false, false, false, false]
abbrev b90_ : Array Bool := #[true, true, true, true, true, true, true, true, true, true, true, false, false, false, false, false, false, false, false, false, false, false, false, false, false, false, false, false, false, false, false, false, false, false, false, false, false]
abbrev b91_ : Array Bool := #[true, true, true, true, true, true, true, true, true, true, true, true, false, false, false, false, false, false, false, false, false, false, false, false, false, false, false, false, false, false, false, false, false, false, false, false, false]
abbrev b92_ : Array Bool := #[true, true, true, true, true, true, true, true, true, true, true, true, true, false, false, false, false, false, false, false, false, false, false, false, false, false, false, false, false, false, false, false, false, false, false, false, false]
abbrev b93_ : Array Bool := #[true, true, true, true, true, true, true, true, true, true, true, true, true, true, false, false, false, false, false, false, false, false, false, false, false, false, false, false, false, false, false, false, false, false, false, false, false]
abbrev b94_ : Array Bool := #[true, true, true, true, true, true, true, true, true, true, true, true, true, true, true, false, false, false, false, false, false, false, false, false, false, false, false, false, false, false, false, false, false, false, false, false, false]
abbrev b95_ : Array Bool := #[true, true, true, true, true, true, true, true, true, true, true, true, true, true, true, true, false, false, false, false, false, false, false, false, false, false, false, false, false, false, false, false, false, false, false, false, false]
abbrev b96_ : Array Bool := #[true, true, true, true, true, true, true, true, true, true, true, true, true, true, true, true, true, false, false, false, false, false, false, false, false, false, false, false, false, false, false, false, false, false, false, false, false]
abbrev b97_ : Array Bool := #[true, true, true, true, true, true, true, true, true, true, true, true, true, true, true, true, true, true, false, false, false, false, false, false, false, false, false, false, false, false, false, false, false, false, false, false, false]
abbrev b98_ : Array Bool := #[true, true, true, true, true, true, true, true, true, true, true, true, true, true, true, true, true, true, true, false, false, false, false, false, false, false, false, false, false, false, false, false, false, false, false, false, false]
abbrev b99_ : Array Bool := #[true, true, true, true, true, true, true, true, true, true, true, true, true, true, true, true, true, true, true, true, false, false, false, false, false, false, false, false, false, false, false, false, false, false, false, false, false]
abbrev b100_ : Array Bool := #[true, true, true, true, true, true, true, true, true, true, true, true, true, true, true, true, true, true, true, true, true, false, false, false, false, false, false, false, false, false, false, false, false, false, false, false, false]
abbrev b101_ : Array Bool := #[true, true, true, true, true, true, true, true, true, true, true, true, true, true, true, true, true, true, true, true, true, true, false, false, false, false, false, false, false, false, false, false, false, false, false, false, false]
abbrev b102_ : Array Bool := #[true, true, true, true, true, true, true, true, true, true, true, true, true, true, true, true, true, true, true, true, true, true, true, false, false, false, false, false, false, false, false, false, false, false, false, false, false]
abbrev b103_ : Array Bool := #[true, true, true, true, true, true, true, true, true, true, true, true, true, true, true, true, true, true, true, true, true, true, true, true, false, false, false, false, false, false, false, false, false, false, false, false, false]
abbrev b104_ : Array Bool := #[true, true, true, true, true, true, true, true, true, true, true, true, true, true, true, true, true, true, true, true, true, true, true, true, true, false, false, false, false, false, false, false, false, false, false, false, false]
abbrev b105_ : Array Bool := #[true, true, true, true, true, true, true, true, true, true, true, true, true, true, true, true, true, true, true, true, true, true, true, true, true, true, false, false, false, false, false, false, false, false, false, false, false]
abbrev b106_ : Array Bool := #[true, true, true, true, true, true, true, true, true, true, true, true, true, true, true, true, true, true, true, true, true, true, true, true, true, true, true, false, false, false, false, false, false, false, false, false, false]
abbrev b107_ : Array Bool := #[true, true, true, true, true, true, true, true, true, true, true, true, true, true, true, true, true, true, true, true, true, true, true, true, true, true, true, true, false, false, false, false, false, false, false, false, false]
abbrev b108_ : Array Bool := #[true, true, true, true, true, true, true, true, true, true, true, true, true, true, true, true, true, true, true, true, true, true, true, true, true, true, true, true, true, false, false, false, false, false, false, false, false]
abbrev b109_ : Array Bool := #[true, true, true, true, true, true, true, true, true, true, true, true, true, true, true, true, true, true, true, true, true, true, true, true, true, true, true, true, true, true, false, false, false, false, false, false, false]
abbrev b110_ : Array Bool := #[true, true, true, true, true, true, true, true, true, true, true, true, true, true, true, true, true, true, true, true, true, true, true, true, true, true, true, true, true, true, true, false, false, false, false, false, false]
abbrev b111_ : Array Bool := #[true, true, true, true, true, true, true, true, true, true, true, true, true, true, true, true, true, true, true, true, true, true, true, true, true, true, true, true, true, true, true, true, false, false, false, false, false]
abbrev b112_ : Array Bool := #[true, true, true, true, true, true, true, true, true, true, true, true, true, true, true, true, true, true, true, true, true, true, true, true, true, true, true, true, true, true, true, true, true, false, false, false, false]
abbrev b113_ : Array Bool := #[true, true, true, true, true, true, true, true, true, true, true, true, true, true, true, true, true, true, true, true, true, true, true, true, true, true, true, true, true, true, true, true, true, true, false, false, false]
abbrev b114_ : Array Bool := #[true, true, true, true, true, true, true, true, true, true, true, true, true, true, true, true, true, true, true, true, true, true, true, true, true, true, true, true, true, true, true, true, true, true, true, false, false]
abbrev b115_ : Array Bool := #[true, true, true, true, true, true, true, true, true, true, true, true, true, true, true, true, true, true, true, true, true, true, true, true, true, true, true, true, true, true, true, true, true, true, true, true, false]
abbrev b116_ : Array Bool := #[true, true, true, true, true, true, true, true, true, true, true, true, true, true, true, true, true, true, true, true, true, true, true, true, true, true, true, true, true, true, true, true, true, true, true, true, true]
abbrev b117_ : Array Bool := #[true, true, true, true, true, true, true, true, true, false, true, false, false, false, false, false, false, false, false, false, false, false, false, false, false, false, false, false, false, false, false, false, false, false, false, false, false]
abbrev b118_ : Array Bool := #[true, true, true, true, true, true, true, true, true, true, true, true, true, true, true, true, false, true, false, false, false, false, false, false, false, false, false, false, false, false, false, false, false, false, false, false, false]
attribute [local go_sem] max2_int min2_int max_two min_two max_three min_three max_four min_four   
set_option linter.unusedVariables false
set_option linter.unusedSimpArgs false
def errW : Option Int → Value
 | none => .nilIface
 | some c => .iface 0 (.int .i64 c)
theorem errW_none : errW none = .nilIface := rfl
theorem errW_some (c : Int) : errW (some c) = .iface 0 (.int .i64 c) := rfl
theorem info3 : (Try.prog.info? 3).map (fun i => (i.zero, i.size, i.bytes)) = some (some (.int .i64 0), 1, 8) := by kernel_rfl
theorem info26 : (Try.prog.info? 26).map (fun i => (i.zero, i.size, i.bytes)) = some (some (.int .u64 0), 1, 8) := by kernel_rfl
theorem info51 : (Try.prog.info? 51).map (fun i => (i.zero, i.size, i.bytes)) = some (some (.agg #[(.int .u64 0), (.int .i64 0)]), 2, 16) := by kernel_rfl
structure S51 where
 f0 : Int
 f1 : Int
def z51 : S51 := ⟨(0 : Int), (0 : Int)⟩
def k51 : Kd S51 := Kd.iso (Kd.pair (Kd.int .u64) (Kd.int .i64)) (fun x : S51 => (x.f0, x.f1))
theorem k51_open {w : World} {x : S51} {cs : List Value} (h : k51.K w x cs) : cs = [.int .u64 x.f0, .int .i64 x.f1] := by
 obtain ⟨_, _, rfl, rfl, rfl⟩ := h
 exact rfl
theorem k51_openM {w : World} {base : Nat} {ok : Nat → Prop} {x : S51} {cs : List Value} (h : k51.M w base ok x cs) : cs = [.int .u64 x.f0, .int .i64 x.f1] := by
 obtain ⟨_, _, rfl, rfl, rfl⟩ := h
 exact rfl
theorem k51_mkM (w : World) (base : Nat) (ok : Nat → Prop) (x : S51)  : k51.M w base ok x [.int .u64 x.f0, .int .i64 x.f1] := ⟨[.int .u64 x.f0], [.int .i64 x.f1], rfl, rfl, rfl⟩
def rd_T51 (xs : List S51) (i : Int) : S51 := xs.getD i.toNat z51
theorem at_T51 {w : World} {A : Option Addr} {n : Nat} {xs : List S51} (h : Kd.C k51 w A n xs) (i : Int) (h0 : 0 ≤ i) (h1 : i < n) : ∃ ad , A = some ad ∧ w.cell? (ad.add (i.toNat * 2)) = some (.int .u64 (rd_T51 xs i).f0) ∧ w.cell? ⟨(ad.add (i.toNat * 2)).block, (ad.add (i.toNat * 2)).off + 1, none⟩ = some (.int .i64 (rd_T51 xs i).f1) := by
 obtain ⟨ad, c, e, _, hK, hc0⟩ := Kd.C_get h z51 i h0 h1
 have hc : ∀ j u, c[j]? = some u → w.cell? (ad.add (i.toNat * 2 + j)) = some u := hc0
 obtain rfl := k51_open hK
 exact ⟨ad, e, hc 0 _ rfl, by rw [← add_field _ _ 1 (by omega)]; exact hc 1 _ rfl⟩
structure S24 where
 f0 : ByteArray
 f1 : (List S51)
def k24 : Kd S24 := Kd.iso (Kd.pair Kd.string (Kd.slice 51 k51)) (fun x : S24 => (x.f0, x.f1))
theorem k24_open {w : World} {x : S24} {cs : List Value} (h : k24.K w x cs) : ∃ A1 c1, cs = [.string x.f0, .slice A1 x.f1.length c1] ∧ x.f1.length ≤ c1 ∧ k51.C w A1 x.f1.length x.f1 := by
 obtain ⟨_, _, rfl, rfl, ⟨A1, c1, rfl, l1, g1⟩⟩ := h
 exact ⟨A1, c1, rfl, l1, g1⟩
end Go.Proofs.Ytnbdldpjiofafaa.PB
end

section
namespace Go.Proofs.Ytnbdldpjiofafaa.PB
open Go.RowKit Go.Proofs.YtnbdldpjiofafaaW.PrintWords Go.Proofs.YtnbdldpjiofafaaW.PrintLast Go.Proofs.YtnbdldpjiofafaaW.PrintMore
attribute [local go_sem] max2_int min2_int max_two min_two max_three min_three max_four min_four   
set_option linter.unusedVariables false
set_option linter.unusedSimpArgs false
def bureaulaw14_Fits.f (a0_0 : ByteArray) (l0_1 : List (S51)) : Option (Bool) := if (a0_0.size : Int) ≤ 1024 then (some (decide ((l0_1.length : Int) ≤ 5000))) else (some false)
set_option maxHeartbeats 8000000 in
set_option maxRecDepth 100000 in
theorem bureaulaw14_Fits.calls (a0_0 : ByteArray) (A0_1 : Option Addr) (c0_1 : Nat) (l0_1 : List (S51)) (r : Bool) (w : World) (hr0_1 : Kd.C k51 w A0_1 l0_1.length l0_1) (hc0_1 : l0_1.length ≤ c0_1) (h : bureaulaw14_Fits.f a0_0 l0_1 = some r) :
  Calls Try.prog 18 #[.agg #[.string a0_0, .slice A0_1 l0_1.length c0_1]] w fun e w' => e = .returned (.bool r) ∧ Below w.heap.size w w' := by
 have hu24 := Try.underlying24
 have HR0_1 := aM hr0_1
 have HC0_1 := aM hc0_1
 clear hr0_1 hc0_1
 have HB := aM (Below.refl w.heap.size w)
 have H : (if (a0_0.size : Int) ≤ 1024 then (some (decide ((l0_1.length : Int) ≤ 5000))) else (some false)) = some r := h
 clear h
 by_cases c2 : (a0_0.size : Int) ≤ 1024
 ·rw [if_pos c2] at H
  have c2b0 : decide ((a0_0.size : Int) ≤ 1024) = true := decide_eq_true c2
  have c2b1 : decide (a0_0.size ≤ 1024) = true := decide_eq_true (by omega)
  clear c2
  obtain rfl := Option.some.inj H
  go_enter Try.func18, Try.ntmps18
  go_wp2_with (first | ((with_reducible refine gate_dst (N := 1) rfl ?_); (try (refine gate_guard (by rfl) ?_; dsimp only)); refine box_event ?hg (N := 1) ?hd (cs := #[.string a0_0, .slice A0_1 l0_1.length c0_1]) (t := 24) ?hr ?_; (case hd | hg => rfl); (case hr => first | (go_simp; done) | (go_simp; rfl)); intro gb274 hg w3 hbox hb; have n0_ := aM (bP (ey HB.out) hb); have n1_ := aM (hbox); have n2_ := aM ((by rw [hg]; exact (bZ (ey HB.out)) : w.heap.size ≤ gb274)); have n3_ := n2_; clear HB; have HB := n0_; have BK274 := n1_; have GW274 := n2_; have GE274 := n3_; clear n0_ n1_ n2_ n3_; clear hb hbox hg; have hcz4_0 : w3.cell? ⟨gb274, 0, none⟩ = some (.string a0_0) := (bC BK274.out 0).trans rfl; have hcz4_1 : w3.cell? ⟨gb274, 1, none⟩ = some (.slice A0_1 l0_1.length c0_1) := (bC BK274.out 1).trans rfl; have hfz4_0 := bF BK274.out 0; have hfz4_1 := bF BK274.out 1))
  go_ret
  exact ⟨by first | rfl | (simp [errW_none, errW_some] <;> rfl) | (simp [*, errW_none, errW_some] <;> rfl), by repeat (first | (with_reducible first | exact HB.out | apply ea | apply en | apply ed | refine es ?_ GE274.out) | exact HB.out)⟩
 ·rw [if_neg c2] at H
  have c2b0 : decide ((a0_0.size : Int) ≤ 1024) = false := decide_eq_false c2
  have c2b1 : decide (a0_0.size ≤ 1024) = false := decide_eq_false (by omega)
  clear c2
  obtain rfl := Option.some.inj H
  go_enter Try.func18, Try.ntmps18
  go_wp2_with (first | ((with_reducible refine gate_dst (N := 1) rfl ?_); (try (refine gate_guard (by rfl) ?_; dsimp only)); refine box_event ?hg (N := 1) ?hd (cs := #[.string a0_0, .slice A0_1 l0_1.length c0_1]) (t := 24) ?hr ?_; (case hd | hg => rfl); (case hr => first | (go_simp; done) | (go_simp; rfl)); intro gb274 hg w5 hbox hb; have n0_ := aM (bP (ey HB.out) hb); have n1_ := aM (hbox); have n2_ := aM ((by rw [hg]; exact (bZ (ey HB.out)) : w.heap.size ≤ gb274)); have n3_ := n2_; clear HB; have HB := n0_; have BK274 := n1_; have GW274 := n2_; have GE274 := n3_; clear n0_ n1_ n2_ n3_; clear hb hbox hg; have hcz6_0 : w5.cell? ⟨gb274, 0, none⟩ = some (.string a0_0) := (bC BK274.out 0).trans rfl; have hcz6_1 : w5.cell? ⟨gb274, 1, none⟩ = some (.slice A0_1 l0_1.length c0_1) := (bC BK274.out 1).trans rfl; have hfz6_0 := bF BK274.out 0; have hfz6_1 := bF BK274.out 1))
  go_ret
  exact ⟨by first | rfl | (simp [errW_none, errW_some] <;> rfl) | (simp [*, errW_none, errW_some] <;> rfl), by repeat (first | (with_reducible first | exact HB.out | apply ea | apply en | apply ed | refine es ?_ GE274.out) | exact HB.out)⟩
end Go.Proofs.Ytnbdldpjiofafaa.PB
end

section
namespace Go.Proofs.Ytnbdldpjiofafaa.PB
open Go.RowKit Go.Proofs.YtnbdldpjiofafaaW.PrintWords Go.Proofs.YtnbdldpjiofafaaW.PrintLast Go.Proofs.YtnbdldpjiofafaaW.PrintMore
attribute [local go_sem] max2_int min2_int max_two min_two max_three min_three max_four min_four   
set_option linter.unusedVariables false
set_option linter.unusedSimpArgs false
def bureaulaw15_fits.f (a0_0 : ByteArray) (l0_1 : List (S51)) (a1_0 : Int) (a1_1 : Int) (a1_2 : ByteArray) (a1_3 : ByteArray) (a1_4 : Bool) : Option (Bool) := (bureaulaw14_Fits.f a0_0 l0_1).bind fun t277 => (if t277 = true then (if (a1_2.size : Int) ≤ 5000 then (some (decide ((a1_3.size : Int) ≤ 5000))) else (some false)) else (some false))
set_option maxHeartbeats 8000000 in
set_option maxRecDepth 100000 in
theorem bureaulaw15_fits.calls (a0_0 : ByteArray) (A0_1 : Option Addr) (c0_1 : Nat) (l0_1 : List (S51)) (a1_0 : Int) (a1_1 : Int) (a1_2 : ByteArray) (a1_3 : ByteArray) (a1_4 : Bool) (r : Bool) (w : World) (hr0_1 : Kd.C k51 w A0_1 l0_1.length l0_1) (hc0_1 : l0_1.length ≤ c0_1) (h : bureaulaw15_fits.f a0_0 l0_1 a1_0 a1_1 a1_2 a1_3 a1_4 = some r) :
  Calls Try.prog 9 #[.agg #[.string a0_0, .slice A0_1 l0_1.length c0_1], .agg #[.int .i64 a1_0, .int .i64 a1_1, .string a1_2, .string a1_3, .bool a1_4]] w fun e w' => e = .returned (.bool r) ∧ Below w.heap.size w w' := by
 have hu24 := Try.underlying24
 have hu28 := Try.underlying28
 have HR0_1 := aM hr0_1
 have HC0_1 := aM hc0_1
 clear hr0_1 hc0_1
 have HB := aM (Below.refl w.heap.size w)
 have H : ((bureaulaw14_Fits.f a0_0 l0_1).bind fun t277 => (if t277 = true then (if (a1_2.size : Int) ≤ 5000 then (some (decide ((a1_3.size : Int) ≤ 5000))) else (some false)) else (some false))) = some r := h
 clear h
 replace H := Option.bind_eq_some_iff.mp H
 obtain ⟨t277, A30, H⟩ := H
 replace H : (if t277 = true then (if (a1_2.size : Int) ≤ 5000 then (some (decide ((a1_3.size : Int) ≤ 5000))) else (some false)) else (some false)) = some r := H
 have A3 := aM A30
 clear A30
 by_cases c4 : t277 = true
 ·subst c4
  have H1 : (if (a1_2.size : Int) ≤ 5000 then (some (decide ((a1_3.size : Int) ≤ 5000))) else (some false)) = some r := by rw [if_pos rfl] at H; exact H
  clear H
  have H := H1
  clear H1
  by_cases c5 : (a1_2.size : Int) ≤ 5000
  ·rw [if_pos c5] at H
   have c5b0 : decide ((a1_2.size : Int) ≤ 5000) = true := decide_eq_true c5
   have c5b1 : decide (a1_2.size ≤ 5000) = true := decide_eq_true (by omega)
   clear c5
   obtain rfl := Option.some.inj H
   go_enter Try.func9, Try.ntmps9
   go_wp2_with (first | ((with_reducible refine gate_dst (N := 2) rfl ?_); (try (refine gate_guard (by rfl) ?_; dsimp only)); refine box_event ?hg (N := 2) ?hd (cs := #[.string a0_0, .slice A0_1 l0_1.length c0_1]) (t := 24) ?hr ?_; (case hd | hg => rfl); (case hr => first | (go_simp; done) | (go_simp; rfl)); intro gb275 hg w6 hbox hb; have n0_ := aM (bP (ey HB.out) hb); have n1_ := aM (hbox); have n2_ := aM ((by rw [hg]; exact (bZ (ey HB.out)) : w.heap.size ≤ gb275)); have n3_ := n2_; clear HB; have HB := n0_; have BK275 := n1_; have GW275 := n2_; have GE275 := n3_; clear n0_ n1_ n2_ n3_; clear hb hbox hg) | ((with_reducible refine gate_dst (N := 3) rfl ?_); (try (refine gate_guard (by rfl) ?_; dsimp only)); refine box_event ?hg (N := 3) ?hd (cs := #[.int .i64 a1_0, .int .i64 a1_1, .string a1_2, .string a1_3, .bool a1_4]) (t := 28) ?hr ?_; (case hd | hg => rfl); (case hr => first | (go_simp; done) | (go_simp; rfl)); intro gb276 hg w7 hbox hb; have n0_ := aM (bB (g := gb275) (qy BK275.out) hb); have n1_ := aM (bP (by repeat (first | (with_reducible first | exact HB.out | apply ea | apply en | apply ed | refine es ?_ GE275.out) | exact HB.out)) hb); have n2_ := aM (hbox); have n3_ := aM ((by rw [hg]; exact (bZ (by repeat (first | (with_reducible first | exact HB.out | apply ea | apply en | apply ed | refine es ?_ GE275.out) | exact HB.out))) : w.heap.size ≤ gb276)); have n4_ := n3_; have n5_ := aM ((by rw [hg]; exact Nat.ne_of_lt (blk_lt (g := gb275) (qy BK275.out)) : gb275 ≠ gb276)); have n6_ := aM ((by rw [hg]; exact Nat.ne_of_gt (blk_lt (g := gb275) (qy BK275.out)) : gb276 ≠ gb275)); clear BK275 HB; have BK275 := n0_; have HB := n1_; have BK276 := n2_; have GW276 := n3_; have GE276 := n4_; have NB275_276 := n5_; have NB276_275 := n6_; clear n0_ n1_ n2_ n3_ n4_ n5_ n6_; clear hb hbox hg; have hnb8 := NB275_276.out; have hnc8 := NB276_275.out; have hcz9_0 : w7.cell? ⟨gb275, 0, none⟩ = some (.string a0_0) := (bC BK275.out 0).trans rfl; have hcz9_1 : w7.cell? ⟨gb275, 1, none⟩ = some (.slice A0_1 l0_1.length c0_1) := (bC BK275.out 1).trans rfl; have hfz9_0 := bF BK275.out 0; have hfz9_1 := bF BK275.out 1) | ((with_reducible refine gate_callee (f := 18) rfl ?_); refine goesL_ (some 6) rfl rfl Try.func18 (by kernel_rfl) rfl #[.agg #[.string a0_0, .slice A0_1 l0_1.length c0_1]] rfl (by (try simp only [mT, mC, mN]); first | done | rfl | (simp only [lD, lT]; rfl)) ?_; (with_reducible refine (bureaulaw14_Fits.calls a0_0 _ _ l0_1 true _ ?side1 ?side2 A3.out).mono ?_); (case side1 => repeat (first | exact (cB_ HR0_1.out HB.out) | (with_reducible refine Kd.C_alloc ?_ _) | (with_reducible refine Kd.C_drewN ?_ _) | (with_reducible refine Kd.C_drew ?_))); (case side2 => exact HC0_1.out); rintro e w10 ⟨rfl, hb⟩; refine ⟨_, rfl, ?_⟩; have n0_ := aM (bB (g := gb275) (qy BK275.out) hb); have n1_ := aM (bB (g := gb276) (qy BK276.out) hb); have n2_ := aM (bP (by repeat (first | (with_reducible first | exact HB.out | apply ea | apply en | apply ed | refine es ?_ GE275.out | refine es ?_ GE276.out) | exact HB.out)) hb); clear BK275 BK276 HB; have BK275 := n0_; have BK276 := n1_; have HB := n2_; clear n0_ n1_ n2_; (try clear hb); (try clear hb2); (try clear hk); (try clear hi); have hcz11_0 : w10.cell? ⟨gb276, 0, none⟩ = some (.int .i64 a1_0) := (bC BK276.out 0).trans rfl; have hcz11_1 : w10.cell? ⟨gb276, 1, none⟩ = some (.int .i64 a1_1) := (bC BK276.out 1).trans rfl; have hcz11_2 : w10.cell? ⟨gb276, 2, none⟩ = some (.string a1_2) := (bC BK276.out 2).trans rfl; have hcz11_3 : w10.cell? ⟨gb276, 3, none⟩ = some (.string a1_3) := (bC BK276.out 3).trans rfl; have hcz11_4 : w10.cell? ⟨gb276, 4, none⟩ = some (.bool a1_4) := (bC BK276.out 4).trans rfl; have hfz11_0 := bF BK276.out 0; have hfz11_1 := bF BK276.out 1; have hfz11_2 := bF BK276.out 2; have hfz11_3 := bF BK276.out 3; have hfz11_4 := bF BK276.out 4))
   go_ret
   exact ⟨by first | rfl | (simp [errW_none, errW_some] <;> rfl) | (simp [*, errW_none, errW_some] <;> rfl), by repeat (first | (with_reducible first | exact HB.out | apply ea | apply en | apply ed | refine es ?_ GE275.out | refine es ?_ GE276.out) | exact HB.out)⟩
  ·rw [if_neg c5] at H
   have c5b0 : decide ((a1_2.size : Int) ≤ 5000) = false := decide_eq_false c5
   have c5b1 : decide (a1_2.size ≤ 5000) = false := decide_eq_false (by omega)
   clear c5
   obtain rfl := Option.some.inj H
   go_enter Try.func9, Try.ntmps9
   go_wp2_with (first | ((with_reducible refine gate_dst (N := 2) rfl ?_); (try (refine gate_guard (by rfl) ?_; dsimp only)); refine box_event ?hg (N := 2) ?hd (cs := #[.string a0_0, .slice A0_1 l0_1.length c0_1]) (t := 24) ?hr ?_; (case hd | hg => rfl); (case hr => first | (go_simp; done) | (go_simp; rfl)); intro gb275 hg w12 hbox hb; have n0_ := aM (bP (ey HB.out) hb); have n1_ := aM (hbox); have n2_ := aM ((by rw [hg]; exact (bZ (ey HB.out)) : w.heap.size ≤ gb275)); have n3_ := n2_; clear HB; have HB := n0_; have BK275 := n1_; have GW275 := n2_; have GE275 := n3_; clear n0_ n1_ n2_ n3_; clear hb hbox hg) | ((with_reducible refine gate_dst (N := 3) rfl ?_); (try (refine gate_guard (by rfl) ?_; dsimp only)); refine box_event ?hg (N := 3) ?hd (cs := #[.int .i64 a1_0, .int .i64 a1_1, .string a1_2, .string a1_3, .bool a1_4]) (t := 28) ?hr ?_; (case hd | hg => rfl); (case hr => first | (go_simp; done) | (go_simp; rfl)); intro gb276 hg w13 hbox hb; have n0_ := aM (bB (g := gb275) (qy BK275.out) hb); have n1_ := aM (bP (by repeat (first | (with_reducible first | exact HB.out | apply ea | apply en | apply ed | refine es ?_ GE275.out) | exact HB.out)) hb); have n2_ := aM (hbox); have n3_ := aM ((by rw [hg]; exact (bZ (by repeat (first | (with_reducible first | exact HB.out | apply ea | apply en | apply ed | refine es ?_ GE275.out) | exact HB.out))) : w.heap.size ≤ gb276)); have n4_ := n3_; have n5_ := aM ((by rw [hg]; exact Nat.ne_of_lt (blk_lt (g := gb275) (qy BK275.out)) : gb275 ≠ gb276)); have n6_ := aM ((by rw [hg]; exact Nat.ne_of_gt (blk_lt (g := gb275) (qy BK275.out)) : gb276 ≠ gb275)); clear BK275 HB; have BK275 := n0_; have HB := n1_; have BK276 := n2_; have GW276 := n3_; have GE276 := n4_; have NB275_276 := n5_; have NB276_275 := n6_; clear n0_ n1_ n2_ n3_ n4_ n5_ n6_; clear hb hbox hg; have hnb14 := NB275_276.out; have hnc14 := NB276_275.out; have hcz15_0 : w13.cell? ⟨gb275, 0, none⟩ = some (.string a0_0) := (bC BK275.out 0).trans rfl; have hcz15_1 : w13.cell? ⟨gb275, 1, none⟩ = some (.slice A0_1 l0_1.length c0_1) := (bC BK275.out 1).trans rfl; have hfz15_0 := bF BK275.out 0; have hfz15_1 := bF BK275.out 1) | ((with_reducible refine gate_callee (f := 18) rfl ?_); refine goesL_ (some 6) rfl rfl Try.func18 (by kernel_rfl) rfl #[.agg #[.string a0_0, .slice A0_1 l0_1.length c0_1]] rfl (by (try simp only [mT, mC, mN]); first | done | rfl | (simp only [lD, lT]; rfl)) ?_; (with_reducible refine (bureaulaw14_Fits.calls a0_0 _ _ l0_1 true _ ?side1 ?side2 A3.out).mono ?_); (case side1 => repeat (first | exact (cB_ HR0_1.out HB.out) | (with_reducible refine Kd.C_alloc ?_ _) | (with_reducible refine Kd.C_drewN ?_ _) | (with_reducible refine Kd.C_drew ?_))); (case side2 => exact HC0_1.out); rintro e w16 ⟨rfl, hb⟩; refine ⟨_, rfl, ?_⟩; have n0_ := aM (bB (g := gb275) (qy BK275.out) hb); have n1_ := aM (bB (g := gb276) (qy BK276.out) hb); have n2_ := aM (bP (by repeat (first | (with_reducible first | exact HB.out | apply ea | apply en | apply ed | refine es ?_ GE275.out | refine es ?_ GE276.out) | exact HB.out)) hb); clear BK275 BK276 HB; have BK275 := n0_; have BK276 := n1_; have HB := n2_; clear n0_ n1_ n2_; (try clear hb); (try clear hb2); (try clear hk); (try clear hi); have hcz17_0 : w16.cell? ⟨gb276, 0, none⟩ = some (.int .i64 a1_0) := (bC BK276.out 0).trans rfl; have hcz17_1 : w16.cell? ⟨gb276, 1, none⟩ = some (.int .i64 a1_1) := (bC BK276.out 1).trans rfl; have hcz17_2 : w16.cell? ⟨gb276, 2, none⟩ = some (.string a1_2) := (bC BK276.out 2).trans rfl; have hcz17_3 : w16.cell? ⟨gb276, 3, none⟩ = some (.string a1_3) := (bC BK276.out 3).trans rfl; have hcz17_4 : w16.cell? ⟨gb276, 4, none⟩ = some (.bool a1_4) := (bC BK276.out 4).trans rfl; have hfz17_0 := bF BK276.out 0; have hfz17_1 := bF BK276.out 1; have hfz17_2 := bF BK276.out 2; have hfz17_3 := bF BK276.out 3; have hfz17_4 := bF BK276.out 4))
   go_ret
   exact ⟨by first | rfl | (simp [errW_none, errW_some] <;> rfl) | (simp [*, errW_none, errW_some] <;> rfl), by repeat (first | (with_reducible first | exact HB.out | apply ea | apply en | apply ed | refine es ?_ GE275.out | refine es ?_ GE276.out) | exact HB.out)⟩
 ·replace c4 := Bool.eq_false_iff.mpr c4
  subst c4
  have H1 : (some false) = some r := by rw [if_neg (show ¬ (false = true) by decide)] at H; exact H
  clear H
  have H := H1
  clear H1
  obtain rfl := Option.some.inj H
  go_enter Try.func9, Try.ntmps9
  go_wp2_with (first | ((with_reducible refine gate_dst (N := 2) rfl ?_); (try (refine gate_guard (by rfl) ?_; dsimp only)); refine box_event ?hg (N := 2) ?hd (cs := #[.string a0_0, .slice A0_1 l0_1.length c0_1]) (t := 24) ?hr ?_; (case hd | hg => rfl); (case hr => first | (go_simp; done) | (go_simp; rfl)); intro gb275 hg w18 hbox hb; have n0_ := aM (bP (ey HB.out) hb); have n1_ := aM (hbox); have n2_ := aM ((by rw [hg]; exact (bZ (ey HB.out)) : w.heap.size ≤ gb275)); have n3_ := n2_; clear HB; have HB := n0_; have BK275 := n1_; have GW275 := n2_; have GE275 := n3_; clear n0_ n1_ n2_ n3_; clear hb hbox hg) | ((with_reducible refine gate_dst (N := 3) rfl ?_); (try (refine gate_guard (by rfl) ?_; dsimp only)); refine box_event ?hg (N := 3) ?hd (cs := #[.int .i64 a1_0, .int .i64 a1_1, .string a1_2, .string a1_3, .bool a1_4]) (t := 28) ?hr ?_; (case hd | hg => rfl); (case hr => first | (go_simp; done) | (go_simp; rfl)); intro gb276 hg w19 hbox hb; have n0_ := aM (bB (g := gb275) (qy BK275.out) hb); have n1_ := aM (bP (by repeat (first | (with_reducible first | exact HB.out | apply ea | apply en | apply ed | refine es ?_ GE275.out) | exact HB.out)) hb); have n2_ := aM (hbox); have n3_ := aM ((by rw [hg]; exact (bZ (by repeat (first | (with_reducible first | exact HB.out | apply ea | apply en | apply ed | refine es ?_ GE275.out) | exact HB.out))) : w.heap.size ≤ gb276)); have n4_ := n3_; have n5_ := aM ((by rw [hg]; exact Nat.ne_of_lt (blk_lt (g := gb275) (qy BK275.out)) : gb275 ≠ gb276)); have n6_ := aM ((by rw [hg]; exact Nat.ne_of_gt (blk_lt (g := gb275) (qy BK275.out)) : gb276 ≠ gb275)); clear BK275 HB; have BK275 := n0_; have HB := n1_; have BK276 := n2_; have GW276 := n3_; have GE276 := n4_; have NB275_276 := n5_; have NB276_275 := n6_; clear n0_ n1_ n2_ n3_ n4_ n5_ n6_; clear hb hbox hg; have hnb20 := NB275_276.out; have hnc20 := NB276_275.out; have hcz21_0 : w19.cell? ⟨gb275, 0, none⟩ = some (.string a0_0) := (bC BK275.out 0).trans rfl; have hcz21_1 : w19.cell? ⟨gb275, 1, none⟩ = some (.slice A0_1 l0_1.length c0_1) := (bC BK275.out 1).trans rfl; have hfz21_0 := bF BK275.out 0; have hfz21_1 := bF BK275.out 1) | ((with_reducible refine gate_callee (f := 18) rfl ?_); refine goesL_ (some 6) rfl rfl Try.func18 (by kernel_rfl) rfl #[.agg #[.string a0_0, .slice A0_1 l0_1.length c0_1]] rfl (by (try simp only [mT, mC, mN]); first | done | rfl | (simp only [lD, lT]; rfl)) ?_; (with_reducible refine (bureaulaw14_Fits.calls a0_0 _ _ l0_1 false _ ?side1 ?side2 A3.out).mono ?_); (case side1 => repeat (first | exact (cB_ HR0_1.out HB.out) | (with_reducible refine Kd.C_alloc ?_ _) | (with_reducible refine Kd.C_drewN ?_ _) | (with_reducible refine Kd.C_drew ?_))); (case side2 => exact HC0_1.out); rintro e w22 ⟨rfl, hb⟩; refine ⟨_, rfl, ?_⟩; have n0_ := aM (bB (g := gb275) (qy BK275.out) hb); have n1_ := aM (bB (g := gb276) (qy BK276.out) hb); have n2_ := aM (bP (by repeat (first | (with_reducible first | exact HB.out | apply ea | apply en | apply ed | refine es ?_ GE275.out | refine es ?_ GE276.out) | exact HB.out)) hb); clear BK275 BK276 HB; have BK275 := n0_; have BK276 := n1_; have HB := n2_; clear n0_ n1_ n2_; (try clear hb); (try clear hb2); (try clear hk); (try clear hi)))
  go_ret
  exact ⟨by first | rfl | (simp [errW_none, errW_some] <;> rfl) | (simp [*, errW_none, errW_some] <;> rfl), by repeat (first | (with_reducible first | exact HB.out | apply ea | apply en | apply ed | refine es ?_ GE275.out | refine es ?_ GE276.out) | exact HB.out)⟩
end Go.Proofs.Ytnbdldpjiofafaa.PB
end

section
namespace Go.Proofs.Ytnbdldpjiofafaa.PB
open Go.RowKit Go.Proofs.YtnbdldpjiofafaaW.PrintWords Go.Proofs.YtnbdldpjiofafaaW.PrintLast Go.Proofs.YtnbdldpjiofafaaW.PrintMore
attribute [local go_sem] max2_int min2_int max_two min_two max_three min_three max_four min_four   
set_option linter.unusedVariables false
set_option linter.unusedSimpArgs false
def bureauref03_Total.l0 : Nat → List (S51) → Int → Int → Option (Int)
 | 0, _, _, _ => none
 | k + 1, x0, x3, x4 => if x4 < (x0.length : Int) then (if 0 ≤ x4 then (if ((rd_T51 x0 x4).f1) > (wrap64 (4096 - x3)) then (some 4097) else (if ((rd_T51 x0 x4).f1) > 0 then (bureauref03_Total.l0 k x0 (wrap64 (x3 + ((rd_T51 x0 x4).f1))) (wrap64 (x4 + 1))) else (bureauref03_Total.l0 k x0 x3 (wrap64 (x4 + 1))))) else (none)) else (some x3)
def bureauref03_Total.f (k : Nat) (l0 : List (S51)) : Option (Int) := bureauref03_Total.l0 k l0 0 0
set_option maxHeartbeats 8000000 in
set_option maxRecDepth 100000 in
theorem bureauref03_Total.calls (k : Nat) (A0 : Option Addr) (c0 : Nat) (l0 : List (S51)) (r : Int) (w : World) (hr0 : Kd.C k51 w A0 l0.length l0) (hc0 : l0.length ≤ c0) (h : bureauref03_Total.f k l0 = some r) :
  Calls Try.prog 61 #[.slice A0 l0.length c0] w fun e w' => e = .returned (.int .i64 r) ∧ Drawn0 w w' := by
 have HR0 := aM hr0
 have HC0 := aM hc0
 clear hr0 hc0
 have H : (bureauref03_Total.l0 k l0 0 0) = some r := h
 clear h
 have H' := aM H
 clear H
 go_enter Try.func61, Try.ntmps61
 go_wp2
 go_loopg [3, 4] k (fun kq v3 v4 w' => ∃ (x3_1 : Int) (x4_1 : Int), v3 = .int .i64 x3_1 ∧ v4 = .int .i64 x4_1 ∧ Aside0 (bureauref03_Total.l0 kq l0 x3_1 x4_1 = some r) ∧ Aside0 (kq ≤ k) ∧ Drawn0 w w')
 case atStart => exact ⟨(0), (0), (by first | rfl | (simp; done) | (simp [*]; done)), (by first | rfl | (simp; done) | (simp [*]; done)), H', ⟨Nat.le_refl _⟩, by repeat (first | exact Drawn0.refl _ | apply Drawn0.step)⟩
 case round =>
  clear H'
  obtain ⟨x3_1, x4_1, rfl, rfl, HA, HK1, ⟨m1, rfl⟩⟩ := hrel
  cases gk with
  | zero => exact absurd HA.out (by simp [bureauref03_Total.l0])
  | succ k1 =>
   have H := HA.out
   clear HA
   simp only [bureauref03_Total.l0] at H
   by_cases c2 : x4_1 < (l0.length : Int)
   ·rw [if_pos c2] at H
    have c2b0 : decide (x4_1 < (l0.length : Int)) = true := decide_eq_true c2
    clear c2
    by_cases c3 : 0 ≤ x4_1
    ·rw [if_pos c3] at H
     have c3b0 : decide (0 ≤ x4_1) = true := decide_eq_true c3
     clear c3
     by_cases c4 : ((rd_T51 l0 x4_1).f1) > (wrap64 (4096 - x3_1))
     ·rw [if_pos c4] at H
      have c4b0 : decide ((wrap64 (4096 - x3_1)) < ((rd_T51 l0 x4_1).f1)) = true := decide_eq_true c4
      clear c4
      obtain rfl := Option.some.inj H
      have p297 : 0 ≤ (x4_1 : Int) := of_decide_eq_true (by first | (with_reducible assumption) | assumption)
      have q297 : x4_1 < (l0.length : Int) := of_decide_eq_true (by first | (with_reducible assumption) | assumption)
      obtain ⟨ad297, e297, hx297_0, hx297_1⟩ := at_T51 HR0.out x4_1 p297 q297
      cases e297
      replace p297 := eq_true p297
      replace q297 := eq_true q297
      go_wp2
      go_ret
      exact ⟨by first | rfl | (simp; done) | (simp [*]; done), by repeat (first | exact Drawn0.refl _ | apply Drawn0.step)⟩
     ·rw [if_neg c4] at H
      have c4b0 : decide ((wrap64 (4096 - x3_1)) < ((rd_T51 l0 x4_1).f1)) = false := decide_eq_false c4
      clear c4
      by_cases c5 : ((rd_T51 l0 x4_1).f1) > 0
      ·rw [if_pos c5] at H
       have c5b0 : decide (0 < ((rd_T51 l0 x4_1).f1)) = true := decide_eq_true c5
       clear c5
       have H' := aM H
       clear H
       have p297 : 0 ≤ (x4_1 : Int) := of_decide_eq_true (by first | (with_reducible assumption) | assumption)
       have q297 : x4_1 < (l0.length : Int) := of_decide_eq_true (by first | (with_reducible assumption) | assumption)
       obtain ⟨ad297, e297, hx297_0, hx297_1⟩ := at_T51 HR0.out x4_1 p297 q297
       cases e297
       replace p297 := eq_true p297
       replace q297 := eq_true q297
       have p298 : 0 ≤ (x4_1 : Int) := of_decide_eq_true (by first | (with_reducible assumption) | assumption)
       have q298 : x4_1 < (l0.length : Int) := of_decide_eq_true (by first | (with_reducible assumption) | assumption)
       obtain ⟨ad298, e298, hx298_0, hx298_1⟩ := at_T51 HR0.out x4_1 p298 q298
       obtain rfl : ad297 = ad298 := (by injection e298)
       replace p298 := eq_true p298
       replace q298 := eq_true q298
       have p299 : 0 ≤ (x4_1 : Int) := of_decide_eq_true (by first | (with_reducible assumption) | assumption)
       have q299 : x4_1 < (l0.length : Int) := of_decide_eq_true (by first | (with_reducible assumption) | assumption)
       obtain ⟨ad299, e299, hx299_0, hx299_1⟩ := at_T51 HR0.out x4_1 p299 q299
       obtain rfl : ad297 = ad299 := (by injection e299)
       replace p299 := eq_true p299
       replace q299 := eq_true q299
       go_wp2
       go_roundg k1
       case measure => have := HK1.out; omega
       case rel => exact ⟨(wrap64 (x3_1 + ((rd_T51 l0 x4_1).f1))), (wrap64 (x4_1 + 1)), (by first | rfl | (simp; done) | (simp [*]; done)), (by first | rfl | (simp; done) | (simp [*]; done)), H', ⟨by have := HK1.out; omega⟩, by repeat (first | exact Drawn0.refl _ | apply Drawn0.step)⟩
      ·rw [if_neg c5] at H
       have c5b0 : decide (0 < ((rd_T51 l0 x4_1).f1)) = false := decide_eq_false c5
       clear c5
       have H' := aM H
       clear H
       have p297 : 0 ≤ (x4_1 : Int) := of_decide_eq_true (by first | (with_reducible assumption) | assumption)
       have q297 : x4_1 < (l0.length : Int) := of_decide_eq_true (by first | (with_reducible assumption) | assumption)
       obtain ⟨ad297, e297, hx297_0, hx297_1⟩ := at_T51 HR0.out x4_1 p297 q297
       cases e297
       replace p297 := eq_true p297
       replace q297 := eq_true q297
       have p298 : 0 ≤ (x4_1 : Int) := of_decide_eq_true (by first | (with_reducible assumption) | assumption)
       have q298 : x4_1 < (l0.length : Int) := of_decide_eq_true (by first | (with_reducible assumption) | assumption)
       obtain ⟨ad298, e298, hx298_0, hx298_1⟩ := at_T51 HR0.out x4_1 p298 q298
       obtain rfl : ad297 = ad298 := (by injection e298)
       replace p298 := eq_true p298
       replace q298 := eq_true q298
       go_wp2
       go_roundg k1
       case measure => have := HK1.out; omega
       case rel => exact ⟨(x3_1), (wrap64 (x4_1 + 1)), (by first | rfl | (simp; done) | (simp [*]; done)), (by first | rfl | (simp; done) | (simp [*]; done)), H', ⟨by have := HK1.out; omega⟩, by repeat (first | exact Drawn0.refl _ | apply Drawn0.step)⟩
    ·rw [if_neg c3] at H
     exact absurd H (by simp)
   ·rw [if_neg c2] at H
    have c2b0 : decide (x4_1 < (l0.length : Int)) = false := decide_eq_false c2
    clear c2
    obtain rfl := Option.some.inj H
    go_wp2
    go_ret
    exact ⟨by first | rfl | (simp; done) | (simp [*]; done), by repeat (first | exact Drawn0.refl _ | apply Drawn0.step)⟩
end Go.Proofs.Ytnbdldpjiofafaa.PB
end

section
namespace Go.Proofs.Ytnbdldpjiofafaa.PB
open Go.RowKit Go.Proofs.YtnbdldpjiofafaaW.PrintWords Go.Proofs.YtnbdldpjiofafaaW.PrintLast Go.Proofs.YtnbdldpjiofafaaW.PrintMore
attribute [local go_sem] max2_int min2_int max_two min_two max_three min_three max_four min_four   
set_option linter.unusedVariables false
set_option linter.unusedSimpArgs false
mutual
def bureauref03_Bytes.l0 : Nat → List (S51) → List Int → Int → Option (List Int)
 | 0, _, _, _ => none
 | k + 1, x0, x3, x4 => if x4 < (x0.length : Int) then (bureauref03_Bytes.l1 k x0 x3 x4 0) else (some x3)
def bureauref03_Bytes.l1 : Nat → List (S51) → List Int → Int → Int → Option (List Int)
 | 0, _, _, _, _ => none
 | k + 1, x0, x3, x4, x5 => if 0 ≤ x4 then (if x4 < (x0.length : Int) then (if x5 < ((rd_T51 x0 x4).f1) then (if x3.length < 17592186044416 then (bureauref03_Bytes.l1 k x0 (x3 ++ [(rd_T51 x0 x4).f0]) x4 (wrap64 (x5 + 1))) else (none)) else (bureauref03_Bytes.l0 k x0 x3 (wrap64 (x4 + 1)))) else (none)) else (none)
end
def bureauref03_Bytes.f (k : Nat) (l0 : List (S51)) : Option (List Int) := bureauref03_Bytes.l0 k l0 ([] : List Int) 0
set_option maxHeartbeats 8000000 in
set_option maxRecDepth 100000 in
theorem bureauref03_Bytes.calls (k : Nat) (A0 : Option Addr) (c0 : Nat) (l0 : List (S51)) (r : List Int) (w : World) (hr0 : Kd.C k51 w A0 l0.length l0) (hc0 : l0.length ≤ c0) (h : bureauref03_Bytes.f k l0 = some r) :
  Calls Try.prog 40 #[.slice A0 l0.length c0] w fun e w' => ∃ v0_ : Value, e = .returned (v0_) ∧ Kd.R (Kd.int .u64) 26 w' w.heap.size (fun _ => True) v0_ r ∧ Below w.heap.size w w' := by
 have HR0 := aM hr0
 have HC0 := aM hc0
 clear hr0 hc0
 have HB := aM (Below.refl w.heap.size w)
 have H : (bureauref03_Bytes.l0 k l0 ([] : List Int) 0) = some r := h
 clear h
 have H' := aM H
 clear H
 go_enter Try.func40, Try.ntmps40
 go_wp2
 go_loopg [3, 4] k (fun kq v3 v4 w' => ∃ (x3_1 : List Int) (x4_1 : Int), v4 = .int .i64 x4_1 ∧ Aside0 (bureauref03_Bytes.l0 kq l0 x3_1 x4_1 = some r) ∧ Aside0 (kq ≤ k) ∧ Aside0 (Kd.R (Kd.int .u64) 26 w' w.heap.size (fun _ => True) v3 x3_1) ∧ Aside0 (Below w.heap.size w w'))
 case atStart => exact ⟨(([] : List Int)), (0), (by first | rfl | (simp; done) | (simp [*]; done)), H', ⟨Nat.le_refl _⟩, ⟨by first | exact Kd.R_nil _ _ _ _ _ | exact Kd.N_nil _ _ _ _ _ | exact Kd.V_nil _ _ _ _ _ | exact Kd.Q_nil _ _ _ _ _ | exact Kd.S_nil _ _ _ _ _⟩, ⟨by exact ey HB.out⟩⟩
 case round =>
  clear H'
  obtain ⟨x3_1, x4_1, rfl, HA, HK1, HO_3, HB⟩ := hrel
  cases gk with
  | zero => exact absurd HA.out (by simp [bureauref03_Bytes.l0])
  | succ k1 =>
   have H := HA.out
   clear HA
   simp only [bureauref03_Bytes.l0] at H
   by_cases c2 : x4_1 < (l0.length : Int)
   ·rw [if_pos c2] at H
    have c2b0 : decide (x4_1 < (l0.length : Int)) = true := decide_eq_true c2
    clear c2
    have H' := aM H
    clear H
    go_wp2
    go_loopg [3, 5] k1 (fun kq v3 v5 w' => ∃ (x3_2 : List Int) (x5_2 : Int), v5 = .int .i64 x5_2 ∧ Aside0 (bureauref03_Bytes.l1 kq l0 x3_2 x4_1 x5_2 = some r) ∧ Aside0 (kq ≤ k1) ∧ Aside0 (Kd.R (Kd.int .u64) 26 w' w.heap.size (fun _ => True) v3 x3_2) ∧ Aside0 (Below w.heap.size w w'))
    case atStart => exact ⟨(x3_1), (0), (by first | rfl | (simp; done) | (simp [*]; done)), H', ⟨Nat.le_refl _⟩, ⟨by exact ry HO_3.out⟩, ⟨by exact ey HB.out⟩⟩
    case round =>
     clear H'
     try clear c2
     try clear c2b0
     try clear p2
     obtain ⟨x3_2, x5_2, rfl, HA, HK2, HO_3, HB⟩ := hrel
     cases gk with
     | zero => exact absurd HA.out (by simp [bureauref03_Bytes.l1])
     | succ k2 =>
      have H := HA.out
      clear HA
      simp only [bureauref03_Bytes.l1] at H
      by_cases c3 : 0 ≤ x4_1
      ·rw [if_pos c3] at H
       have c3b0 : decide (0 ≤ x4_1) = true := decide_eq_true c3
       clear c3
       by_cases c4 : x4_1 < (l0.length : Int)
       ·rw [if_pos c4] at H
        have c4b0 : decide (x4_1 < (l0.length : Int)) = true := decide_eq_true c4
        clear c4
        by_cases c5 : x5_2 < ((rd_T51 l0 x4_1).f1)
        ·rw [if_pos c5] at H
         have c5b0 : decide (x5_2 < ((rd_T51 l0 x4_1).f1)) = true := decide_eq_true c5
         clear c5
         by_cases c6 : x3_2.length < 17592186044416
         ·rw [if_pos c6] at H
          have LMc6 := aM c6
          clear c6
          obtain ⟨y280, hy280⟩ : ∃ y_ : List Int, y_ = (x3_2 ++ [(rd_T51 l0 x4_1).f0]) := ⟨_, rfl⟩
          replace H : (bureauref03_Bytes.l1 k2 l0 y280 x4_1 (wrap64 (x5_2 + 1))) = some r := by first | (rw [hy280]; with_reducible exact H) | (have H2_ := (Option.bind_some _ _).symm.trans H; rw [hy280]; with_reducible exact H2_) | (have H2_ := (Option.bind_some _ _).symm.trans H; with_reducible exact H2_) | with_reducible exact H | (rw [hy280]; exact H) | exact H
          have Ny280 := aM hy280
          clear hy280
          have H' := aM H
          clear H
          have p278 : 0 ≤ (x4_1 : Int) := of_decide_eq_true (by first | (with_reducible assumption) | assumption)
          have q278 : x4_1 < (l0.length : Int) := of_decide_eq_true (by first | (with_reducible assumption) | assumption)
          obtain ⟨ad278, e278, hx278_0, hx278_1⟩ := at_T51 HR0.out x4_1 p278 q278
          cases e278
          replace hx278_0 := (HB.out.cell (World.block_lt_of_cell? w _ hx278_0)).trans hx278_0
          replace hx278_1 := (HB.out.cell (World.block_lt_of_cell? w _ hx278_1)).trans hx278_1
          replace p278 := eq_true p278
          replace q278 := eq_true q278
          have p279 : 0 ≤ (x4_1 : Int) := of_decide_eq_true (by first | (with_reducible assumption) | assumption)
          have q279 : x4_1 < (l0.length : Int) := of_decide_eq_true (by first | (with_reducible assumption) | assumption)
          obtain ⟨ad279, e279, hx279_0, hx279_1⟩ := at_T51 HR0.out x4_1 p279 q279
          obtain rfl : ad278 = ad279 := (by injection e279)
          replace hx279_0 := (HB.out.cell (World.block_lt_of_cell? w _ hx279_0)).trans hx279_0
          replace hx279_1 := (HB.out.cell (World.block_lt_of_cell? w _ hx279_1)).trans hx279_1
          replace p279 := eq_true p279
          replace q279 := eq_true q279
          go_wp2_with (first | ((with_reducible refine gate_builtin (b := .append) (xs := #[.tmp 21, .tmp 27]) rfl ?_); at_builtin; refine Kd.R_append (Kd.int .u64) (w0 := w) w.heap.size rfl (.tmp 21) (.tmp 27) 80 26 (.int .u64 0) 8 rfl Try.underlying80 info26 rfl (by decide) (by omega) u3 x3_2 ((rd_T51 l0 x4_1).f0) [.int .u64 ((rd_T51 l0 x4_1).f0)] (fun _ => True) (fun _ => False) rfl rfl ?aP (fun _ hk => hk.elim) ?aF ?aO ?aB ?aS ?aL ?_; (case aP => exact rfl); (case aB => exact (ey HB.out)); (case aF => exact (fun _ _ => trivial)); (case aO => exact (ry HO_3.out)); (case aS => exact (bZ (ey HB.out))); (case aL => have := LMc6.out; omega); intro v281 w7 ho hb hg hat; rw [← Ny280.out] at ho; have n0_ := aM (hb); have n1_ := aM (ho); clear HB HO_3; have HB := n0_; have HO282 := n1_; clear n0_ n1_; clear ho hb hg hat))
          go_roundg k2
          case measure => have := HK1.out; have := HK2.out; omega
          case rel => exact ⟨(y280), (wrap64 (x5_2 + 1)), (by first | rfl | (simp; done) | (simp [*]; done)), H', ⟨by have := HK1.out; have := HK2.out; omega⟩, ⟨by exact ry HO282.out⟩, ⟨by exact ey HB.out⟩⟩
         ·rw [if_neg c6] at H
          exact absurd H (by simp)
        ·rw [if_neg c5] at H
         have c5b0 : decide (x5_2 < ((rd_T51 l0 x4_1).f1)) = false := decide_eq_false c5
         clear c5
         have H' := aM H
         clear H
         have p278 : 0 ≤ (x4_1 : Int) := of_decide_eq_true (by first | (with_reducible assumption) | assumption)
         have q278 : x4_1 < (l0.length : Int) := of_decide_eq_true (by first | (with_reducible assumption) | assumption)
         obtain ⟨ad278, e278, hx278_0, hx278_1⟩ := at_T51 HR0.out x4_1 p278 q278
         cases e278
         replace hx278_0 := (HB.out.cell (World.block_lt_of_cell? w _ hx278_0)).trans hx278_0
         replace hx278_1 := (HB.out.cell (World.block_lt_of_cell? w _ hx278_1)).trans hx278_1
         replace p278 := eq_true p278
         replace q278 := eq_true q278
         go_wp2
         go_roundg k2
         case measure => have := HK1.out; have := HK2.out; omega
         case rel => exact ⟨(x3_2), (wrap64 (x4_1 + 1)), (by first | rfl | (simp; done) | (simp [*]; done)), H', ⟨by have := HK1.out; have := HK2.out; omega⟩, ⟨by exact ry HO_3.out⟩, ⟨by exact ey HB.out⟩⟩
       ·rw [if_neg c4] at H
        exact absurd H (by simp)
      ·rw [if_neg c3] at H
       exact absurd H (by simp)
   ·rw [if_neg c2] at H
    have c2b0 : decide (x4_1 < (l0.length : Int)) = false := decide_eq_false c2
    clear c2
    obtain rfl := Option.some.inj H
    go_wp2
    go_ret
    exact ⟨_, by first | rfl | (simp [errW_none, errW_some] <;> rfl) | (simp [*, errW_none, errW_some] <;> rfl), by exact ry HO_3.out, by exact ey HB.out⟩
end Go.Proofs.Ytnbdldpjiofafaa.PB
end

section
namespace Go.Proofs.Ytnbdldpjiofafaa.PB
open Go.RowKit Go.Proofs.YtnbdldpjiofafaaW.PrintWords Go.Proofs.YtnbdldpjiofafaaW.PrintLast Go.Proofs.YtnbdldpjiofafaaW.PrintMore
attribute [local go_sem] max2_int min2_int max_two min_two max_three min_three max_four min_four   
set_option linter.unusedVariables false
set_option linter.unusedSimpArgs false
theorem eqA51 (d : Nat) (w : World) (x0 y0 : Int) (x1 y1 : Int) :
  (Op.equalIn (d + 2) 51 (.agg #[.int .u64 x0, .int .i64 x1]) (.agg #[.int .u64 y0, .int .i64 y1])).run Try.prog w = .ok (x0 == y0 && (x1 == y1)) w := by
 refine eqA_of Try.underlying51 (by kernel_rfl) ?_
 refine eqf_cons (by rfl) (by go_simp; rfl) (by go_simp; rfl) (by go_simp) ?_
 exact eqf_last (by rfl) (by go_simp; rfl) (by go_simp; rfl) (by go_simp)
end Go.Proofs.Ytnbdldpjiofafaa.PB
end

section
namespace Go.Proofs.Ytnbdldpjiofafaa.PB
open Go.RowKit Go.Proofs.YtnbdldpjiofafaaW.PrintWords Go.Proofs.YtnbdldpjiofafaaW.PrintLast Go.Proofs.YtnbdldpjiofafaaW.PrintMore
attribute [local go_sem] max2_int min2_int max_two min_two max_three min_three max_four min_four   
set_option linter.unusedVariables false
set_option linter.unusedSimpArgs false
attribute [local go_sem high] eqA51
def bureauref03_Same.l0 : Nat → List (S51) → List (S51) → Int → Option (Bool)
 | 0, _, _, _ => none
 | k + 1, x0, x1, x5 => if x5 < (x0.length : Int) then (if 0 ≤ x5 then (if x5 < (x1.length : Int) then (if (!(((rd_T51 x0 x5).f0) == ((rd_T51 x1 x5).f0)) || (!(((rd_T51 x0 x5).f1) == ((rd_T51 x1 x5).f1)))) = true then (some false) else (bureauref03_Same.l0 k x0 x1 (wrap64 (x5 + 1)))) else (none)) else (none)) else (some true)
def bureauref03_Same.f (k : Nat) (l0 : List (S51)) (l1 : List (S51)) : Option (Bool) := if (l0.length : Int) = (l1.length : Int) then (bureauref03_Same.l0 k l0 l1 0) else (some false)
set_option maxHeartbeats 8000000 in
set_option maxRecDepth 100000 in
theorem bureauref03_Same.calls (k : Nat) (A0 : Option Addr) (c0 : Nat) (l0 : List (S51)) (A1 : Option Addr) (c1 : Nat) (l1 : List (S51)) (r : Bool) (w : World) (hr0 : Kd.C k51 w A0 l0.length l0) (hc0 : l0.length ≤ c0) (hr1 : Kd.C k51 w A1 l1.length l1) (hc1 : l1.length ≤ c1) (h : bureauref03_Same.f k l0 l1 = some r) :
  Calls Try.prog 42 #[.slice A0 l0.length c0, .slice A1 l1.length c1] w fun e w' => e = .returned (.bool r) ∧ Drawn0 w w' := by
 have hu51 := Try.underlying51
 have HR0 := aM hr0
 have HC0 := aM hc0
 clear hr0 hc0
 have HR1 := aM hr1
 have HC1 := aM hc1
 clear hr1 hc1
 have H : (if (l0.length : Int) = (l1.length : Int) then (bureauref03_Same.l0 k l0 l1 0) else (some false)) = some r := h
 clear h
 by_cases c3 : (l0.length : Int) = (l1.length : Int)
 ·rw [if_pos c3] at H
  have c3b0 : ((l0.length : Int) == (l1.length : Int)) = true := beq_iff_eq.mpr c3
  have c3b1 : ((l0.length : Int) != (l1.length : Int)) = false := bne_eq_false_iff_eq.mpr c3
  have c3b2 : (l0.length == l1.length) = true := by first | simpa using c3 | (simp at c3 ⊢; omega)
  clear c3
  have H' := aM H
  clear H
  go_enter Try.func42, Try.ntmps42
  go_wp2
  repeat (go_quiet (fail); try go_wp2)
  go_loopg [5] k (fun kq v5 w' => ∃ (x5_1 : Int), v5 = .int .i64 x5_1 ∧ Aside0 (bureauref03_Same.l0 kq l0 l1 x5_1 = some r) ∧ Aside0 (kq ≤ k) ∧ Drawn0 w w')
  case atStart => exact ⟨(0), (by first | rfl | (simp; done) | (simp [*]; done)), H', ⟨Nat.le_refl _⟩, by repeat (first | exact Drawn0.refl _ | apply Drawn0.step)⟩
  case round =>
   clear H'
   try clear c1
   try clear p2
   try clear c3
   try clear c3b0
   try clear c3b1
   try clear c3b2
   obtain ⟨x5_1, rfl, HA, HK1, ⟨m1, rfl⟩⟩ := hrel
   cases gk with
   | zero => exact absurd HA.out (by simp [bureauref03_Same.l0])
   | succ k1 =>
    have H := HA.out
    clear HA
    simp only [bureauref03_Same.l0] at H
    by_cases c4 : x5_1 < (l0.length : Int)
    ·rw [if_pos c4] at H
     have c4b0 : decide (x5_1 < (l0.length : Int)) = true := decide_eq_true c4
     clear c4
     by_cases c5 : 0 ≤ x5_1
     ·rw [if_pos c5] at H
      have c5b0 : decide (0 ≤ x5_1) = true := decide_eq_true c5
      clear c5
      by_cases c6 : x5_1 < (l1.length : Int)
      ·rw [if_pos c6] at H
       have c6b0 : decide (x5_1 < (l1.length : Int)) = true := decide_eq_true c6
       clear c6
       by_cases c7 : (!(((rd_T51 l0 x5_1).f0) == ((rd_T51 l1 x5_1).f0)) || (!(((rd_T51 l0 x5_1).f1) == ((rd_T51 l1 x5_1).f1)))) = true
       ·rw [if_pos c7] at H
        have c7b0 : (!(((rd_T51 l0 x5_1).f0) == ((rd_T51 l1 x5_1).f0)) || (!(((rd_T51 l0 x5_1).f1) == ((rd_T51 l1 x5_1).f1)))) = true := c7
        clear c7
        obtain rfl := Option.some.inj H
        have p283 : 0 ≤ (x5_1 : Int) := of_decide_eq_true (by first | (with_reducible assumption) | assumption)
        have q283 : x5_1 < (l0.length : Int) := of_decide_eq_true (by first | (with_reducible assumption) | assumption)
        obtain ⟨ad283, e283, hx283_0, hx283_1⟩ := at_T51 HR0.out x5_1 p283 q283
        cases e283
        replace p283 := eq_true p283
        replace q283 := eq_true q283
        have p284 : 0 ≤ (x5_1 : Int) := of_decide_eq_true (by first | (with_reducible assumption) | assumption)
        have q284 : x5_1 < (l1.length : Int) := of_decide_eq_true (by first | (with_reducible assumption) | assumption)
        obtain ⟨ad284, e284, hx284_0, hx284_1⟩ := at_T51 HR1.out x5_1 p284 q284
        cases e284
        replace p284 := eq_true p284
        replace q284 := eq_true q284
        go_wp2
        repeat (go_quiet (fail); try go_wp2)
        go_ret
        exact ⟨by first | rfl | (simp; done) | (simp [*]; done), by repeat (first | exact Drawn0.refl _ | apply Drawn0.step)⟩
       ·rw [if_neg c7] at H
        have c7b0 : (!(((rd_T51 l0 x5_1).f0) == ((rd_T51 l1 x5_1).f0)) || (!(((rd_T51 l0 x5_1).f1) == ((rd_T51 l1 x5_1).f1)))) = false := by simpa using c7
        clear c7
        have H' := aM H
        clear H
        have p283 : 0 ≤ (x5_1 : Int) := of_decide_eq_true (by first | (with_reducible assumption) | assumption)
        have q283 : x5_1 < (l0.length : Int) := of_decide_eq_true (by first | (with_reducible assumption) | assumption)
        obtain ⟨ad283, e283, hx283_0, hx283_1⟩ := at_T51 HR0.out x5_1 p283 q283
        cases e283
        replace p283 := eq_true p283
        replace q283 := eq_true q283
        have p284 : 0 ≤ (x5_1 : Int) := of_decide_eq_true (by first | (with_reducible assumption) | assumption)
        have q284 : x5_1 < (l1.length : Int) := of_decide_eq_true (by first | (with_reducible assumption) | assumption)
        obtain ⟨ad284, e284, hx284_0, hx284_1⟩ := at_T51 HR1.out x5_1 p284 q284
        cases e284
        replace p284 := eq_true p284
        replace q284 := eq_true q284
        go_wp2
        repeat (go_quiet (fail); try go_wp2)
        go_roundg k1
        case measure => have := HK1.out; omega
        case rel => exact ⟨(wrap64 (x5_1 + 1)), (by first | rfl | (simp; done) | (simp [*]; done)), H', ⟨by have := HK1.out; omega⟩, by repeat (first | exact Drawn0.refl _ | apply Drawn0.step)⟩
      ·rw [if_neg c6] at H
       exact absurd H (by simp)
     ·rw [if_neg c5] at H
      exact absurd H (by simp)
    ·rw [if_neg c4] at H
     have c4b0 : decide (x5_1 < (l0.length : Int)) = false := decide_eq_false c4
     clear c4
     obtain rfl := Option.some.inj H
     go_wp2
     repeat (go_quiet (fail); try go_wp2)
     go_ret
     exact ⟨by first | rfl | (simp; done) | (simp [*]; done), by repeat (first | exact Drawn0.refl _ | apply Drawn0.step)⟩
 ·rw [if_neg c3] at H
  have c3b0 : ((l0.length : Int) == (l1.length : Int)) = false := beq_eq_false_iff_ne.mpr c3
  have c3b1 : ((l0.length : Int) != (l1.length : Int)) = true := bne_iff_ne.mpr c3
  have c3b2 : (l0.length == l1.length) = false := by first | simpa using c3 | (simp at c3 ⊢; omega)
  obtain rfl := Option.some.inj H
  go_enter Try.func42, Try.ntmps42
  go_wp2
  repeat (go_quiet (fail); try go_wp2)
  go_ret
  exact ⟨by first | rfl | (simp; done) | (simp [*]; done), by repeat (first | exact Drawn0.refl _ | apply Drawn0.step)⟩
end Go.Proofs.Ytnbdldpjiofafaa.PB
end

section
namespace Go.Proofs.Ytnbdldpjiofafaa.PB
open Go.RowKit Go.Proofs.YtnbdldpjiofafaaW.PrintWords Go.Proofs.YtnbdldpjiofafaaW.PrintLast Go.Proofs.YtnbdldpjiofafaaW.PrintMore
attribute [local go_sem] max2_int min2_int max_two min_two max_three min_three max_four min_four   
set_option linter.unusedVariables false
set_option linter.unusedSimpArgs false
def bureauref03_Pack.l0 : Nat → List Int → List (S51) → Int → Option ((List (S51)))
 | 0, _, _, _ => none
 | k + 1, x0, x3, x4 => if x4 < (x0.length : Int) then (if (x3.length : Int) > 0 then (if 0 ≤ (wrap64 ((x3.length : Int) - 1)) then (if (wrap64 ((x3.length : Int) - 1)) < (x3.length : Int) then (if 0 ≤ x4 then (if ((rd_T51 x3 (wrap64 ((x3.length : Int) - 1))).f0) = (rd x0 x4) then (bureauref03_Pack.l0 k x0 (x3.set ((wrap64 ((x3.length : Int) - 1)) : Int).toNat (⟨(rd_T51 x3 (wrap64 ((x3.length : Int) - 1))).f0, wrap64 (((rd_T51 x3 (wrap64 ((x3.length : Int) - 1))).f1) + 1)⟩ : S51)) (wrap64 (x4 + 1))) else (if x3.length < 8796093022208 then (bureauref03_Pack.l0 k x0 (x3 ++ [(⟨rd x0 x4, 1⟩ : S51)]) (wrap64 (x4 + 1))) else (none))) else (none)) else (none)) else (none)) else (if 0 ≤ x4 then (if x3.length < 8796093022208 then (bureauref03_Pack.l0 k x0 (x3 ++ [(⟨rd x0 x4, 1⟩ : S51)]) (wrap64 (x4 + 1))) else (none)) else (none))) else (some x3)
def bureauref03_Pack.f (k : Nat) (l0 : List Int) : Option ((List (S51))) := bureauref03_Pack.l0 k l0 ([] : List (S51)) 0
set_option maxHeartbeats 8000000 in
set_option maxRecDepth 100000 in
theorem bureauref03_Pack.calls (k : Nat) (A0 : Option Addr) (c0 : Nat) (l0 : List Int) (r : List (S51)) (w : World) (hr0 : Kd.C (Kd.int .u64) w A0 l0.length l0) (hc0 : l0.length ≤ c0) (h : bureauref03_Pack.f k l0 = some r) :
  Calls Try.prog 57 #[.slice A0 l0.length c0] w fun e w' => ∃ v0_ : Value, e = .returned (v0_) ∧ Kd.R k51 51 w' w.heap.size (fun _ => True) v0_ r ∧ Below w.heap.size w w' := by
 have hu51 := Try.underlying51
 have HR0 := aM hr0
 have HC0 := aM hc0
 clear hr0 hc0
 have HB := aM (Below.refl w.heap.size w)
 have H : (bureauref03_Pack.l0 k l0 ([] : List (S51)) 0) = some r := h
 clear h
 have H' := aM H
 clear H
 go_enter Try.func57, Try.ntmps57
 go_wp2
 repeat (go_quiet (fail); try go_wp2)
 go_loopg [3, 4] k (fun kq v3 v4 w' => ∃ (x3_1 : List (S51)) (x4_1 : Int), v4 = .int .i64 x4_1 ∧ Aside0 (bureauref03_Pack.l0 kq l0 x3_1 x4_1 = some r) ∧ Aside0 (kq ≤ k) ∧ Aside0 (Kd.R k51 51 w' w.heap.size (fun _ => True) v3 x3_1) ∧ Aside0 (Below w.heap.size w w'))
 case atStart => exact ⟨(([] : List (S51))), (0), (by first | rfl | (simp; done) | (simp [*]; done)), H', ⟨Nat.le_refl _⟩, ⟨by first | exact Kd.R_nil _ _ _ _ _ | exact Kd.N_nil _ _ _ _ _ | exact Kd.V_nil _ _ _ _ _ | exact Kd.Q_nil _ _ _ _ _ | exact Kd.S_nil _ _ _ _ _⟩, ⟨by exact ey HB.out⟩⟩
 case round =>
  clear H'
  obtain ⟨x3_1, x4_1, rfl, HA, HK1, HO_3, HB⟩ := hrel
  cases gk with
  | zero => exact absurd HA.out (by simp [bureauref03_Pack.l0])
  | succ k1 =>
   have H := HA.out
   clear HA
   simp only [bureauref03_Pack.l0] at H
   by_cases c2 : x4_1 < (l0.length : Int)
   ·rw [if_pos c2] at H
    have c2b0 : decide (x4_1 < (l0.length : Int)) = true := decide_eq_true c2
    clear c2
    by_cases c3 : (x3_1.length : Int) > 0
    ·rw [if_pos c3] at H
     have c3b0 : decide (0 < (x3_1.length : Int)) = true := decide_eq_true c3
     have c3b1 : decide (0 < x3_1.length) = true := decide_eq_true (by omega)
     clear c3
     obtain ⟨ji4, hji4⟩ : ∃ j_ : Int, (wrap64 ((x3_1.length : Int) - 1)) = j_ := ⟨_, rfl⟩
     replace H : (if 0 ≤ (ji4) then (if (ji4) < (x3_1.length : Int) then (if 0 ≤ x4_1 then (if ((rd_T51 x3_1 (ji4)).f0) = (rd l0 x4_1) then (bureauref03_Pack.l0 k1 l0 (x3_1.set ((ji4) : Int).toNat (⟨(rd_T51 x3_1 (ji4)).f0, wrap64 (((rd_T51 x3_1 (ji4)).f1) + 1)⟩ : S51)) (wrap64 (x4_1 + 1))) else (if x3_1.length < 8796093022208 then (bureauref03_Pack.l0 k1 l0 (x3_1 ++ [(⟨rd l0 x4_1, 1⟩ : S51)]) (wrap64 (x4_1 + 1))) else (none))) else (none)) else (none)) else (none)) = some r := by first | (rw [hji4] at H; exact H) | (simp only [hji4] at H ⊢; exact H)
     have hji4w : (IntKind.i64.wrap ((x3_1.length : Int) - 1)) = ji4 := (i64_w _).trans hji4
     by_cases c5 : 0 ≤ (ji4)
     ·rw [if_pos c5] at H
      have c5b0 : decide (0 ≤ (ji4)) = true := decide_eq_true c5
      clear c5
      by_cases c6 : (ji4) < (x3_1.length : Int)
      ·rw [if_pos c6] at H
       have c6b0 : decide ((ji4) < (x3_1.length : Int)) = true := decide_eq_true c6
       clear c6
       by_cases c7 : 0 ≤ x4_1
       ·rw [if_pos c7] at H
        have c7b0 : decide (0 ≤ x4_1) = true := decide_eq_true c7
        clear c7
        by_cases c8 : ((rd_T51 x3_1 (ji4)).f0) = (rd l0 x4_1)
        ·rw [if_pos c8] at H
         have c8b0 : (((rd_T51 x3_1 (ji4)).f0) == (rd l0 x4_1)) = true := beq_iff_eq.mpr c8
         have c8b1 : (((rd_T51 x3_1 (ji4)).f0) != (rd l0 x4_1)) = false := bne_eq_false_iff_eq.mpr c8
         clear c8
         obtain ⟨y288, hy288⟩ : ∃ y_ : List (S51), y_ = (x3_1.set ((ji4) : Int).toNat (⟨(rd_T51 x3_1 (ji4)).f0, wrap64 (((rd_T51 x3_1 (ji4)).f1) + 1)⟩ : S51)) := ⟨_, rfl⟩
         replace H : (bureauref03_Pack.l0 k1 l0 y288 (wrap64 (x4_1 + 1))) = some r := by first | (rw [hy288]; with_reducible exact H) | (have H2_ := (Option.bind_some _ _).symm.trans H; rw [hy288]; with_reducible exact H2_) | (have H2_ := (Option.bind_some _ _).symm.trans H; with_reducible exact H2_) | with_reducible exact H | (rw [hy288]; exact H) | exact H
         have Ny288 := aM hy288
         clear hy288
         have H' := aM H
         clear H
         obtain ⟨Ao10, co10, eo10⟩ := Kd.R_slice HO_3.out
         subst eo10
         have p285 : 0 ≤ ((ji4) : Int) := of_decide_eq_true (by first | (with_reducible assumption) | assumption)
         have q285 : (ji4) < (x3_1.length : Int) := of_decide_eq_true (by first | (with_reducible assumption) | assumption)
         obtain ⟨ad285, e285, hx285_0, hx285_1⟩ := at_T51 (rR HO_3.out).2.2 (ji4) p285 q285
         cases e285
         replace p285 := eq_true p285
         replace q285 := eq_true q285
         have p286 : 0 ≤ (x4_1 : Int) := of_decide_eq_true (by first | (with_reducible assumption) | assumption)
         have q286 : x4_1 < (l0.length : Int) := of_decide_eq_true (by first | (with_reducible assumption) | assumption)
         obtain ⟨ad286, e286, hx286_0⟩ := Kd.at_int HR0.out x4_1 p286 q286
         cases e286
         replace hx286_0 := (HB.out.cell (World.block_lt_of_cell? w _ hx286_0)).trans hx286_0
         replace p286 := eq_true p286
         replace q286 := eq_true q286
         have p287 : 0 ≤ ((ji4) : Int) := of_decide_eq_true (by first | (with_reducible assumption) | assumption)
         have q287 : (ji4) < (x3_1.length : Int) := of_decide_eq_true (by first | (with_reducible assumption) | assumption)
         obtain ⟨ad287, e287, hx287_0, hx287_1⟩ := at_T51 (rR HO_3.out).2.2 (ji4) p287 q287
         obtain rfl : ad285 = ad287 := (by injection e287)
         replace p287 := eq_true p287
         replace q287 := eq_true q287
         have p9 : 0 ≤ ((ji4) : Int) := of_decide_eq_true (by first | (with_reducible assumption) | assumption)
         have q9 : ((ji4) : Int) < ((x3_1.length : Int) : Int) := of_decide_eq_true (by first | (with_reducible assumption) | assumption)
         obtain ⟨go9, co9, eo9, gb9, gl9, cl9, HG9⟩ := Kd.R_form HO_3.out (by omega)
         (first | cases eo9 | (injection eo9 with ea_ en_ ec_; (first | subst ea_ | (injection ea_ with ea_; subst ea_)); subst ec_; clear en_))
         have GB9 := aM gb9
         have GG9 := aM HG9
         clear gb9 gl9 HG9
         (first | simp only [add_plain] at hx285_0 | skip)
         (first | simp only [add_plain] at hx285_1 | skip)
         (first | simp only [add_plain] at hx287_0 | skip)
         (first | simp only [add_plain] at hx287_1 | skip)
         obtain ⟨ce9, hcl9, hM9, hcc9, hfr9⟩ := Kd.R_elem HO_3.out z51 ((ji4) : Int) p9 q9
         obtain rfl := k51_openM hM9
         have hx9_0 : wr.cell? ⟨go9, ((ji4) : Int).toNat * 2, none⟩ = some (.int .u64 ((rd_T51 x3_1 (ji4)).f0)) := hcc9 0 _ rfl
         have hx9_1 : wr.cell? ⟨go9, ((ji4) : Int).toNat * 2 + 1, none⟩ = some (.int .i64 ((rd_T51 x3_1 (ji4)).f1)) := hcc9 1 _ rfl
         have hf9_0 : wr.frozen? ⟨go9, ((ji4) : Int).toNat * 2, none⟩ = false := hfr9 0
         have hf9_1 : wr.frozen? ⟨go9, ((ji4) : Int).toNat * 2 + 1, none⟩ = false := hfr9 1
         clear hcl9 hcc9 hfr9 hM9
         replace p9 := eq_true p9
         replace q9 := eq_true q9
         have HX11 := aM (show Kd.R k51 51 wr w.heap.size (fun _ => True) (.slice (some ⟨go9, 0, none⟩) x3_1.length co10) x3_1 from (ry HO_3.out))
         obtain ⟨ce11, hcl11, hM11, hcc11, hfr11⟩ := Kd.R_elem HX11.out z51 ((ji4) : Int) (of_decide_eq_true (by first | (with_reducible assumption) | assumption)) (by have h_ : ((ji4) : Int) < ((x3_1.length : Int) : Int) := of_decide_eq_true (by first | (with_reducible assumption) | assumption); first | exact h_ | (have e_ := (rR HO_3.out).1; omega) | simpa using h_)
         obtain rfl := k51_openM hM11
         have HP11 := Kd.R_seg HX11.out ((ji4) : Int) (of_decide_eq_true (by first | (with_reducible assumption) | assumption)) (by have h_ : ((ji4) : Int) < ((x3_1.length : Int) : Int) := of_decide_eq_true (by first | (with_reducible assumption) | assumption); first | exact h_ | (have e_ := (rR HO_3.out).1; omega) | simpa using h_) (seg := [.int .i64 (wrap64 (((rd_T51 x3_1 (ji4)).f1) + 1))]) (j := 1) hcl11 hcc11 (show 2 ≤ 2 from by decide) (x' := (⟨(rd_T51 x3_1 (ji4)).f0, wrap64 (((rd_T51 x3_1 (ji4)).f1) + 1)⟩ : S51)) (k51_mkM _ _ _ (⟨(rd_T51 x3_1 (ji4)).f0, wrap64 (((rd_T51 x3_1 (ji4)).f1) + 1)⟩ : S51) ) (fun _ hk => hk)
         have hx11_1 := hcc11 1 _ rfl
         (try simp only [show (k51).sz = 2 from rfl, Nat.mul_one, Nat.add_zero] at hx11_1)
         have hf11_1 := hfr11 1
         (try simp only [show (k51).sz = 2 from rfl, Nat.mul_one, Nat.add_zero] at hf11_1)
         clear hcl11 hcc11 hfr11 hM11
         go_wp2_with (first | ((with_reducible refine gate_store (t := 3) (p := 37) rfl ?_); (try (rw [drewN_self wr]; generalize hq_ : World.drewN wr _ = wr; have n0_ := aM (Kd.R_at hq_ HO_3.out); have n1_ := aM (below_at hq_ HB.out); clear hq_ HO_3 HB; have HO_3 := n0_; have HB := n1_; clear n0_ n1_; (try (have HX11 := aM (show Kd.R k51 51 wr w.heap.size (fun _ => True) (.slice (some ⟨go9, 0, none⟩) x3_1.length co10) x3_1 from (ry HO_3.out)))); (try (obtain ⟨ce11, hcl11, hM11, hcc11, hfr11⟩ := Kd.R_elem HX11.out z51 ((ji4) : Int) (of_decide_eq_true (by first | (with_reducible assumption) | assumption)) (by have h_ : ((ji4) : Int) < ((x3_1.length : Int) : Int) := of_decide_eq_true (by first | (with_reducible assumption) | assumption); first | exact h_ | (have e_ := (rR HO_3.out).1; omega) | simpa using h_))); (try (obtain rfl := k51_openM hM11)); (try (have HP11 := Kd.R_seg HX11.out ((ji4) : Int) (of_decide_eq_true (by first | (with_reducible assumption) | assumption)) (by have h_ : ((ji4) : Int) < ((x3_1.length : Int) : Int) := of_decide_eq_true (by first | (with_reducible assumption) | assumption); first | exact h_ | (have e_ := (rR HO_3.out).1; omega) | simpa using h_) (seg := [.int .i64 (wrap64 (((rd_T51 x3_1 (ji4)).f1) + 1))]) (j := 1) hcl11 hcc11 (show 2 ≤ 2 from by decide) (x' := (⟨(rd_T51 x3_1 (ji4)).f0, wrap64 (((rd_T51 x3_1 (ji4)).f1) + 1)⟩ : S51)) (k51_mkM _ _ _ (⟨(rd_T51 x3_1 (ji4)).f0, wrap64 (((rd_T51 x3_1 (ji4)).f1) + 1)⟩ : S51) ) (fun _ hk => hk))); (try (have hx11_1 := hcc11 1 _ rfl)); (try (try simp only [show (k51).sz = 2 from rfl, Nat.mul_one, Nat.add_zero] at hx11_1)); (try (have hf11_1 := hfr11 1)); (try (try simp only [show (k51).sz = 2 from rfl, Nat.mul_one, Nat.add_zero] at hf11_1)); (try (clear hcl11 hcc11 hfr11 hM11)))); refine store_event (t := 3) (p := 37) (v := ?vo_w12) (w1 := (wr.setCell ⟨go9, ((ji4) : Int).toNat * 2 + 1, none⟩ (.int .i64 (wrap64 (((rd_T51 x3_1 (ji4)).f1) + 1))))) ?hg ?ho ?hn ?hr ?_; (case ho => rfl); (case hg => rfl); (case hn => rfl); (case hr => first | (go_simp; done) | (go_simp; rfl)); intro w12 hw; have hg : wr.grownBy w12 (some go9) := (by rw [hw]; exact HP11.2); have hp_ : Kd.R k51 51 w12 w.heap.size (fun _ => True) (.slice (some ⟨go9, 0, none⟩) x3_1.length co10) y288 := (by rw [hw, Ny288.out]; exact HP11.1); clear HP11; have n0_ := aM (hp_); have n1_ := aM ((by rw [hw]; exact below_set (HB.out) GB9.out : Below w.heap.size w w12)); clear HO_3 HB; have HO_3 := n0_; have HB := n1_; clear n0_ n1_; clear hg hw hp_))
         repeat (go_quiet (first | ((with_reducible refine gate_store (t := 3) (p := 37) rfl ?_); (try (rw [drewN_self wr]; generalize hq_ : World.drewN wr _ = wr; have n0_ := aM (Kd.R_at hq_ HO_3.out); have n1_ := aM (below_at hq_ HB.out); clear hq_ HO_3 HB; have HO_3 := n0_; have HB := n1_; clear n0_ n1_; (try (have HX11 := aM (show Kd.R k51 51 wr w.heap.size (fun _ => True) (.slice (some ⟨go9, 0, none⟩) x3_1.length co10) x3_1 from (ry HO_3.out)))); (try (obtain ⟨ce11, hcl11, hM11, hcc11, hfr11⟩ := Kd.R_elem HX11.out z51 ((ji4) : Int) (of_decide_eq_true (by first | (with_reducible assumption) | assumption)) (by have h_ : ((ji4) : Int) < ((x3_1.length : Int) : Int) := of_decide_eq_true (by first | (with_reducible assumption) | assumption); first | exact h_ | (have e_ := (rR HO_3.out).1; omega) | simpa using h_))); (try (obtain rfl := k51_openM hM11)); (try (have HP11 := Kd.R_seg HX11.out ((ji4) : Int) (of_decide_eq_true (by first | (with_reducible assumption) | assumption)) (by have h_ : ((ji4) : Int) < ((x3_1.length : Int) : Int) := of_decide_eq_true (by first | (with_reducible assumption) | assumption); first | exact h_ | (have e_ := (rR HO_3.out).1; omega) | simpa using h_) (seg := [.int .i64 (wrap64 (((rd_T51 x3_1 (ji4)).f1) + 1))]) (j := 1) hcl11 hcc11 (show 2 ≤ 2 from by decide) (x' := (⟨(rd_T51 x3_1 (ji4)).f0, wrap64 (((rd_T51 x3_1 (ji4)).f1) + 1)⟩ : S51)) (k51_mkM _ _ _ (⟨(rd_T51 x3_1 (ji4)).f0, wrap64 (((rd_T51 x3_1 (ji4)).f1) + 1)⟩ : S51) ) (fun _ hk => hk))); (try (have hx11_1 := hcc11 1 _ rfl)); (try (try simp only [show (k51).sz = 2 from rfl, Nat.mul_one, Nat.add_zero] at hx11_1)); (try (have hf11_1 := hfr11 1)); (try (try simp only [show (k51).sz = 2 from rfl, Nat.mul_one, Nat.add_zero] at hf11_1)); (try (clear hcl11 hcc11 hfr11 hM11)))); refine store_event (t := 3) (p := 37) (v := ?vo_w12) (w1 := (wr.setCell ⟨go9, ((ji4) : Int).toNat * 2 + 1, none⟩ (.int .i64 (wrap64 (((rd_T51 x3_1 (ji4)).f1) + 1))))) ?hg ?ho ?hn ?hr ?_; (case ho => rfl); (case hg => rfl); (case hn => rfl); (case hr => first | (go_simp; done) | (go_simp; rfl)); intro w12 hw; have hg : wr.grownBy w12 (some go9) := (by rw [hw]; exact HP11.2); have hp_ : Kd.R k51 51 w12 w.heap.size (fun _ => True) (.slice (some ⟨go9, 0, none⟩) x3_1.length co10) y288 := (by rw [hw, Ny288.out]; exact HP11.1); clear HP11; have n0_ := aM (hp_); have n1_ := aM ((by rw [hw]; exact below_set (HB.out) GB9.out : Below w.heap.size w w12)); clear HO_3 HB; have HO_3 := n0_; have HB := n1_; clear n0_ n1_; clear hg hw hp_)); try go_wp2_with (first | ((with_reducible refine gate_store (t := 3) (p := 37) rfl ?_); (try (rw [drewN_self wr]; generalize hq_ : World.drewN wr _ = wr; have n0_ := aM (Kd.R_at hq_ HO_3.out); have n1_ := aM (below_at hq_ HB.out); clear hq_ HO_3 HB; have HO_3 := n0_; have HB := n1_; clear n0_ n1_; (try (have HX11 := aM (show Kd.R k51 51 wr w.heap.size (fun _ => True) (.slice (some ⟨go9, 0, none⟩) x3_1.length co10) x3_1 from (ry HO_3.out)))); (try (obtain ⟨ce11, hcl11, hM11, hcc11, hfr11⟩ := Kd.R_elem HX11.out z51 ((ji4) : Int) (of_decide_eq_true (by first | (with_reducible assumption) | assumption)) (by have h_ : ((ji4) : Int) < ((x3_1.length : Int) : Int) := of_decide_eq_true (by first | (with_reducible assumption) | assumption); first | exact h_ | (have e_ := (rR HO_3.out).1; omega) | simpa using h_))); (try (obtain rfl := k51_openM hM11)); (try (have HP11 := Kd.R_seg HX11.out ((ji4) : Int) (of_decide_eq_true (by first | (with_reducible assumption) | assumption)) (by have h_ : ((ji4) : Int) < ((x3_1.length : Int) : Int) := of_decide_eq_true (by first | (with_reducible assumption) | assumption); first | exact h_ | (have e_ := (rR HO_3.out).1; omega) | simpa using h_) (seg := [.int .i64 (wrap64 (((rd_T51 x3_1 (ji4)).f1) + 1))]) (j := 1) hcl11 hcc11 (show 2 ≤ 2 from by decide) (x' := (⟨(rd_T51 x3_1 (ji4)).f0, wrap64 (((rd_T51 x3_1 (ji4)).f1) + 1)⟩ : S51)) (k51_mkM _ _ _ (⟨(rd_T51 x3_1 (ji4)).f0, wrap64 (((rd_T51 x3_1 (ji4)).f1) + 1)⟩ : S51) ) (fun _ hk => hk))); (try (have hx11_1 := hcc11 1 _ rfl)); (try (try simp only [show (k51).sz = 2 from rfl, Nat.mul_one, Nat.add_zero] at hx11_1)); (try (have hf11_1 := hfr11 1)); (try (try simp only [show (k51).sz = 2 from rfl, Nat.mul_one, Nat.add_zero] at hf11_1)); (try (clear hcl11 hcc11 hfr11 hM11)))); refine store_event (t := 3) (p := 37) (v := ?vo_w12) (w1 := (wr.setCell ⟨go9, ((ji4) : Int).toNat * 2 + 1, none⟩ (.int .i64 (wrap64 (((rd_T51 x3_1 (ji4)).f1) + 1))))) ?hg ?ho ?hn ?hr ?_; (case ho => rfl); (case hg => rfl); (case hn => rfl); (case hr => first | (go_simp; done) | (go_simp; rfl)); intro w12 hw; have hg : wr.grownBy w12 (some go9) := (by rw [hw]; exact HP11.2); have hp_ : Kd.R k51 51 w12 w.heap.size (fun _ => True) (.slice (some ⟨go9, 0, none⟩) x3_1.length co10) y288 := (by rw [hw, Ny288.out]; exact HP11.1); clear HP11; have n0_ := aM (hp_); have n1_ := aM ((by rw [hw]; exact below_set (HB.out) GB9.out : Below w.heap.size w w12)); clear HO_3 HB; have HO_3 := n0_; have HB := n1_; clear n0_ n1_; clear hg hw hp_)))
         go_roundg k1
         case measure => have := HK1.out; omega
         case rel => exact ⟨(y288), (wrap64 (x4_1 + 1)), (by first | rfl | (simp; done) | (simp [*]; done)), H', ⟨by have := HK1.out; omega⟩, ⟨by exact ry HO_3.out⟩, ⟨by exact ey HB.out⟩⟩
        ·rw [if_neg c8] at H
         have c8b0 : (((rd_T51 x3_1 (ji4)).f0) == (rd l0 x4_1)) = false := beq_eq_false_iff_ne.mpr c8
         have c8b1 : (((rd_T51 x3_1 (ji4)).f0) != (rd l0 x4_1)) = true := bne_iff_ne.mpr c8
         by_cases c13 : x3_1.length < 8796093022208
         ·rw [if_pos c13] at H
          have LMc13 := aM c13
          clear c13
          obtain ⟨y290, hy290⟩ : ∃ y_ : List (S51), y_ = (x3_1 ++ [(⟨rd l0 x4_1, 1⟩ : S51)]) := ⟨_, rfl⟩
          replace H : (bureauref03_Pack.l0 k1 l0 y290 (wrap64 (x4_1 + 1))) = some r := by first | (rw [hy290]; with_reducible exact H) | (have H2_ := (Option.bind_some _ _).symm.trans H; rw [hy290]; with_reducible exact H2_) | (have H2_ := (Option.bind_some _ _).symm.trans H; with_reducible exact H2_) | with_reducible exact H | (rw [hy290]; exact H) | exact H
          have Ny290 := aM hy290
          clear hy290
          have H' := aM H
          clear H
          obtain ⟨Ao14, co14, eo14⟩ := Kd.R_slice HO_3.out
          subst eo14
          have p285 : 0 ≤ ((ji4) : Int) := of_decide_eq_true (by first | (with_reducible assumption) | assumption)
          have q285 : (ji4) < (x3_1.length : Int) := of_decide_eq_true (by first | (with_reducible assumption) | assumption)
          obtain ⟨ad285, e285, hx285_0, hx285_1⟩ := at_T51 (rR HO_3.out).2.2 (ji4) p285 q285
          cases e285
          replace p285 := eq_true p285
          replace q285 := eq_true q285
          have p286 : 0 ≤ (x4_1 : Int) := of_decide_eq_true (by first | (with_reducible assumption) | assumption)
          have q286 : x4_1 < (l0.length : Int) := of_decide_eq_true (by first | (with_reducible assumption) | assumption)
          obtain ⟨ad286, e286, hx286_0⟩ := Kd.at_int HR0.out x4_1 p286 q286
          cases e286
          replace hx286_0 := (HB.out.cell (World.block_lt_of_cell? w _ hx286_0)).trans hx286_0
          replace p286 := eq_true p286
          replace q286 := eq_true q286
          have p289 : 0 ≤ (x4_1 : Int) := of_decide_eq_true (by first | (with_reducible assumption) | assumption)
          have q289 : x4_1 < (l0.length : Int) := of_decide_eq_true (by first | (with_reducible assumption) | assumption)
          obtain ⟨ad289, e289, hx289_0⟩ := Kd.at_int HR0.out x4_1 p289 q289
          obtain rfl : ad286 = ad289 := (by injection e289)
          replace hx289_0 := (HB.out.cell (World.block_lt_of_cell? w _ hx289_0)).trans hx289_0
          replace p289 := eq_true p289
          replace q289 := eq_true q289
          go_wp2_with (first | ((with_reducible refine gate_builtin (b := .append) (xs := #[.tmp 38, .tmp 44]) rfl ?_); at_builtin; refine Kd.R_append k51 (w0 := w) w.heap.size rfl (.tmp 38) (.tmp 44) 22 51 (.agg #[(.int .u64 0), (.int .i64 0)]) 16 rfl Try.underlying22 info51 rfl (by decide) (by omega) (.slice (some ad285) x3_1.length co14) x3_1 (⟨rd l0 x4_1, 1⟩ : S51) [.int .u64 (rd l0 x4_1), .int .i64 1] (fun _ => True) (fun _ => False) rfl rfl ?aP (fun _ hk => hk.elim) ?aF ?aO ?aB ?aS ?aL ?_; (case aP => exact k51_mkM _ _ _ (⟨rd l0 x4_1, 1⟩ : S51)); (case aB => exact (ey HB.out)); (case aF => exact (fun _ _ => trivial)); (case aO => exact (ry HO_3.out)); (case aS => exact (bZ (ey HB.out))); (case aL => have := LMc13.out; omega); intro v291 w15 ho hb hg hat; rw [← Ny290.out] at ho; have n0_ := aM (hb); have n1_ := aM (ho); clear HB HO_3; have HB := n0_; have HO292 := n1_; clear n0_ n1_; clear ho hb hg hat))
          repeat (go_quiet (first | ((with_reducible refine gate_builtin (b := .append) (xs := #[.tmp 38, .tmp 44]) rfl ?_); at_builtin; refine Kd.R_append k51 (w0 := w) w.heap.size rfl (.tmp 38) (.tmp 44) 22 51 (.agg #[(.int .u64 0), (.int .i64 0)]) 16 rfl Try.underlying22 info51 rfl (by decide) (by omega) (.slice (some ad285) x3_1.length co14) x3_1 (⟨rd l0 x4_1, 1⟩ : S51) [.int .u64 (rd l0 x4_1), .int .i64 1] (fun _ => True) (fun _ => False) rfl rfl ?aP (fun _ hk => hk.elim) ?aF ?aO ?aB ?aS ?aL ?_; (case aP => exact k51_mkM _ _ _ (⟨rd l0 x4_1, 1⟩ : S51)); (case aB => exact (ey HB.out)); (case aF => exact (fun _ _ => trivial)); (case aO => exact (ry HO_3.out)); (case aS => exact (bZ (ey HB.out))); (case aL => have := LMc13.out; omega); intro v291 w15 ho hb hg hat; rw [← Ny290.out] at ho; have n0_ := aM (hb); have n1_ := aM (ho); clear HB HO_3; have HB := n0_; have HO292 := n1_; clear n0_ n1_; clear ho hb hg hat)); try go_wp2_with (first | ((with_reducible refine gate_builtin (b := .append) (xs := #[.tmp 38, .tmp 44]) rfl ?_); at_builtin; refine Kd.R_append k51 (w0 := w) w.heap.size rfl (.tmp 38) (.tmp 44) 22 51 (.agg #[(.int .u64 0), (.int .i64 0)]) 16 rfl Try.underlying22 info51 rfl (by decide) (by omega) (.slice (some ad285) x3_1.length co14) x3_1 (⟨rd l0 x4_1, 1⟩ : S51) [.int .u64 (rd l0 x4_1), .int .i64 1] (fun _ => True) (fun _ => False) rfl rfl ?aP (fun _ hk => hk.elim) ?aF ?aO ?aB ?aS ?aL ?_; (case aP => exact k51_mkM _ _ _ (⟨rd l0 x4_1, 1⟩ : S51)); (case aB => exact (ey HB.out)); (case aF => exact (fun _ _ => trivial)); (case aO => exact (ry HO_3.out)); (case aS => exact (bZ (ey HB.out))); (case aL => have := LMc13.out; omega); intro v291 w15 ho hb hg hat; rw [← Ny290.out] at ho; have n0_ := aM (hb); have n1_ := aM (ho); clear HB HO_3; have HB := n0_; have HO292 := n1_; clear n0_ n1_; clear ho hb hg hat)))
          go_roundg k1
          case measure => have := HK1.out; omega
          case rel => exact ⟨(y290), (wrap64 (x4_1 + 1)), (by first | rfl | (simp; done) | (simp [*]; done)), H', ⟨by have := HK1.out; omega⟩, ⟨by exact ry HO292.out⟩, ⟨by exact ey HB.out⟩⟩
         ·rw [if_neg c13] at H
          exact absurd H (by simp)
       ·rw [if_neg c7] at H
        exact absurd H (by simp)
      ·rw [if_neg c6] at H
       exact absurd H (by simp)
     ·rw [if_neg c5] at H
      exact absurd H (by simp)
    ·rw [if_neg c3] at H
     have c3b0 : decide (0 < (x3_1.length : Int)) = false := decide_eq_false c3
     have c3b1 : decide (0 < x3_1.length) = false := decide_eq_false (by omega)
     clear c3
     by_cases c16 : 0 ≤ x4_1
     ·rw [if_pos c16] at H
      have c16b0 : decide (0 ≤ x4_1) = true := decide_eq_true c16
      clear c16
      by_cases c17 : x3_1.length < 8796093022208
      ·rw [if_pos c17] at H
       have LMc17 := aM c17
       clear c17
       obtain ⟨y294, hy294⟩ : ∃ y_ : List (S51), y_ = (x3_1 ++ [(⟨rd l0 x4_1, 1⟩ : S51)]) := ⟨_, rfl⟩
       replace H : (bureauref03_Pack.l0 k1 l0 y294 (wrap64 (x4_1 + 1))) = some r := by first | (rw [hy294]; with_reducible exact H) | (have H2_ := (Option.bind_some _ _).symm.trans H; rw [hy294]; with_reducible exact H2_) | (have H2_ := (Option.bind_some _ _).symm.trans H; with_reducible exact H2_) | with_reducible exact H | (rw [hy294]; exact H) | exact H
       have Ny294 := aM hy294
       clear hy294
       have H' := aM H
       clear H
       obtain ⟨Ao18, co18, eo18⟩ := Kd.R_slice HO_3.out
       subst eo18
       have p293 : 0 ≤ (x4_1 : Int) := of_decide_eq_true (by first | (with_reducible assumption) | assumption)
       have q293 : x4_1 < (l0.length : Int) := of_decide_eq_true (by first | (with_reducible assumption) | assumption)
       obtain ⟨ad293, e293, hx293_0⟩ := Kd.at_int HR0.out x4_1 p293 q293
       cases e293
       replace hx293_0 := (HB.out.cell (World.block_lt_of_cell? w _ hx293_0)).trans hx293_0
       replace p293 := eq_true p293
       replace q293 := eq_true q293
       go_wp2_with (first | ((with_reducible refine gate_builtin (b := .append) (xs := #[.tmp 38, .tmp 44]) rfl ?_); at_builtin; refine Kd.R_append k51 (w0 := w) w.heap.size rfl (.tmp 38) (.tmp 44) 22 51 (.agg #[(.int .u64 0), (.int .i64 0)]) 16 rfl Try.underlying22 info51 rfl (by decide) (by omega) (.slice Ao18 x3_1.length co18) x3_1 (⟨rd l0 x4_1, 1⟩ : S51) [.int .u64 (rd l0 x4_1), .int .i64 1] (fun _ => True) (fun _ => False) rfl rfl ?aP (fun _ hk => hk.elim) ?aF ?aO ?aB ?aS ?aL ?_; (case aP => exact k51_mkM _ _ _ (⟨rd l0 x4_1, 1⟩ : S51)); (case aB => exact (ey HB.out)); (case aF => exact (fun _ _ => trivial)); (case aO => exact (ry HO_3.out)); (case aS => exact (bZ (ey HB.out))); (case aL => have := LMc17.out; omega); intro v295 w19 ho hb hg hat; rw [← Ny294.out] at ho; have n0_ := aM (hb); have n1_ := aM (ho); clear HB HO_3; have HB := n0_; have HO296 := n1_; clear n0_ n1_; clear ho hb hg hat))
       repeat (go_quiet (first | ((with_reducible refine gate_builtin (b := .append) (xs := #[.tmp 38, .tmp 44]) rfl ?_); at_builtin; refine Kd.R_append k51 (w0 := w) w.heap.size rfl (.tmp 38) (.tmp 44) 22 51 (.agg #[(.int .u64 0), (.int .i64 0)]) 16 rfl Try.underlying22 info51 rfl (by decide) (by omega) (.slice Ao18 x3_1.length co18) x3_1 (⟨rd l0 x4_1, 1⟩ : S51) [.int .u64 (rd l0 x4_1), .int .i64 1] (fun _ => True) (fun _ => False) rfl rfl ?aP (fun _ hk => hk.elim) ?aF ?aO ?aB ?aS ?aL ?_; (case aP => exact k51_mkM _ _ _ (⟨rd l0 x4_1, 1⟩ : S51)); (case aB => exact (ey HB.out)); (case aF => exact (fun _ _ => trivial)); (case aO => exact (ry HO_3.out)); (case aS => exact (bZ (ey HB.out))); (case aL => have := LMc17.out; omega); intro v295 w19 ho hb hg hat; rw [← Ny294.out] at ho; have n0_ := aM (hb); have n1_ := aM (ho); clear HB HO_3; have HB := n0_; have HO296 := n1_; clear n0_ n1_; clear ho hb hg hat)); try go_wp2_with (first | ((with_reducible refine gate_builtin (b := .append) (xs := #[.tmp 38, .tmp 44]) rfl ?_); at_builtin; refine Kd.R_append k51 (w0 := w) w.heap.size rfl (.tmp 38) (.tmp 44) 22 51 (.agg #[(.int .u64 0), (.int .i64 0)]) 16 rfl Try.underlying22 info51 rfl (by decide) (by omega) (.slice Ao18 x3_1.length co18) x3_1 (⟨rd l0 x4_1, 1⟩ : S51) [.int .u64 (rd l0 x4_1), .int .i64 1] (fun _ => True) (fun _ => False) rfl rfl ?aP (fun _ hk => hk.elim) ?aF ?aO ?aB ?aS ?aL ?_; (case aP => exact k51_mkM _ _ _ (⟨rd l0 x4_1, 1⟩ : S51)); (case aB => exact (ey HB.out)); (case aF => exact (fun _ _ => trivial)); (case aO => exact (ry HO_3.out)); (case aS => exact (bZ (ey HB.out))); (case aL => have := LMc17.out; omega); intro v295 w19 ho hb hg hat; rw [← Ny294.out] at ho; have n0_ := aM (hb); have n1_ := aM (ho); clear HB HO_3; have HB := n0_; have HO296 := n1_; clear n0_ n1_; clear ho hb hg hat)))
       go_roundg k1
       case measure => have := HK1.out; omega
       case rel => exact ⟨(y294), (wrap64 (x4_1 + 1)), (by first | rfl | (simp; done) | (simp [*]; done)), H', ⟨by have := HK1.out; omega⟩, ⟨by exact ry HO296.out⟩, ⟨by exact ey HB.out⟩⟩
      ·rw [if_neg c17] at H
       exact absurd H (by simp)
     ·rw [if_neg c16] at H
      exact absurd H (by simp)
   ·rw [if_neg c2] at H
    have c2b0 : decide (x4_1 < (l0.length : Int)) = false := decide_eq_false c2
    clear c2
    obtain rfl := Option.some.inj H
    go_wp2
    repeat (go_quiet (fail); try go_wp2)
    go_ret
    exact ⟨_, by first | rfl | (simp [errW_none, errW_some] <;> rfl) | (simp [*, errW_none, errW_some] <;> rfl), by exact ry HO_3.out, by exact ey HB.out⟩
end Go.Proofs.Ytnbdldpjiofafaa.PB
end

section
namespace Go.Proofs.Ytnbdldpjiofafaa.PB
open Go.RowKit Go.Proofs.YtnbdldpjiofafaaW.PrintWords Go.Proofs.YtnbdldpjiofafaaW.PrintLast Go.Proofs.YtnbdldpjiofafaaW.PrintMore
attribute [local go_sem] max2_int min2_int max_two min_two max_three min_three max_four min_four   
set_option linter.unusedVariables false
set_option linter.unusedSimpArgs false
def bureauref03_Good.f (k : Nat) (l0 : List (S51)) : Option (Bool) := (bureauref03_Total.f k l0).bind fun t300 => (if t300 > 4096 then (some false) else ((bureauref03_Bytes.f k l0).bind fun t301 => ((bureauref03_Pack.f k t301).bind fun t304 => ((bureauref03_Same.f k l0 t304).bind fun t307 => (some t307)))))
set_option maxHeartbeats 8000000 in
set_option maxRecDepth 100000 in
theorem bureauref03_Good.calls (k : Nat) (A0 : Option Addr) (c0 : Nat) (l0 : List (S51)) (r : Bool) (w : World) (hr0 : Kd.C k51 w A0 l0.length l0) (hc0 : l0.length ≤ c0) (h : bureauref03_Good.f k l0 = some r) :
  Calls Try.prog 60 #[.slice A0 l0.length c0] w fun e w' => e = .returned (.bool r) ∧ Below w.heap.size w w' := by
 have HR0 := aM hr0
 have HC0 := aM hc0
 clear hr0 hc0
 have HB := aM (Below.refl w.heap.size w)
 have H : ((bureauref03_Total.f k l0).bind fun t300 => (if t300 > 4096 then (some false) else ((bureauref03_Bytes.f k l0).bind fun t301 => ((bureauref03_Pack.f k t301).bind fun t304 => ((bureauref03_Same.f k l0 t304).bind fun t307 => (some t307)))))) = some r := h
 clear h
 replace H := Option.bind_eq_some_iff.mp H
 obtain ⟨t300, A20, H⟩ := H
 replace H : (if t300 > 4096 then (some false) else ((bureauref03_Bytes.f k l0).bind fun t301 => ((bureauref03_Pack.f k t301).bind fun t304 => ((bureauref03_Same.f k l0 t304).bind fun t307 => (some t307))))) = some r := H
 have A2 := aM A20
 clear A20
 by_cases c3 : t300 > 4096
 ·rw [if_pos c3] at H
  have c3b0 : decide (4096 < t300) = true := decide_eq_true c3
  clear c3
  obtain rfl := Option.some.inj H
  go_enter Try.func60, Try.ntmps60
  go_wp2_with (first | ((with_reducible refine gate_callee (f := 61) rfl ?_); refine goesL_ (some 4) rfl rfl Try.func61 (by kernel_rfl) rfl #[.slice A0 l0.length c0] rfl (by (try simp only [mT, mC, mN]); first | done | rfl | (simp only [lD, lT]; rfl)) ?_; (with_reducible refine (bureauref03_Total.calls k _ _ l0 t300 _ ?side1 ?side2 A2.out).mono ?_); (case side1 => repeat (first | exact HR0.out | (with_reducible refine Kd.C_alloc ?_ _) | (with_reducible refine Kd.C_drewN ?_ _) | (with_reducible refine Kd.C_drew ?_))); (case side2 => exact HC0.out); rintro e w' ⟨rfl, ⟨nd, rfl⟩⟩; refine ⟨_, rfl, ?_⟩))
  go_ret
  exact ⟨by first | rfl | (simp [errW_none, errW_some] <;> rfl) | (simp [*, errW_none, errW_some] <;> rfl), by exact ey HB.out⟩
 ·rw [if_neg c3] at H
  have c3b0 : decide (4096 < t300) = false := decide_eq_false c3
  clear c3
  replace H := Option.bind_eq_some_iff.mp H
  obtain ⟨t301, A40, H⟩ := H
  replace H : ((bureauref03_Pack.f k t301).bind fun t304 => ((bureauref03_Same.f k l0 t304).bind fun t307 => (some t307))) = some r := H
  have A4 := aM A40
  clear A40
  replace H := Option.bind_eq_some_iff.mp H
  obtain ⟨t304, A50, H⟩ := H
  replace H : ((bureauref03_Same.f k l0 t304).bind fun t307 => (some t307)) = some r := H
  have A5 := aM A50
  clear A50
  replace H := Option.bind_eq_some_iff.mp H
  obtain ⟨t307, A60, H⟩ := H
  replace H : (some t307) = some r := H
  have A6 := aM A60
  clear A60
  obtain rfl := Option.some.inj H
  go_enter Try.func60, Try.ntmps60
  go_wp2_with (first | ((with_reducible refine gate_callee (f := 61) rfl ?_); refine goesL_ (some 4) rfl rfl Try.func61 (by kernel_rfl) rfl #[.slice A0 l0.length c0] rfl (by (try simp only [mT, mC, mN]); first | done | rfl | (simp only [lD, lT]; rfl)) ?_; (with_reducible refine (bureauref03_Total.calls k _ _ l0 t300 _ ?side1 ?side2 A2.out).mono ?_); (case side1 => repeat (first | exact HR0.out | (with_reducible refine Kd.C_alloc ?_ _) | (with_reducible refine Kd.C_drewN ?_ _) | (with_reducible refine Kd.C_drew ?_))); (case side2 => exact HC0.out); rintro e w' ⟨rfl, ⟨nd, rfl⟩⟩; refine ⟨_, rfl, ?_⟩) | ((with_reducible refine gate_callee (f := 40) rfl ?_); refine goesL_ (some 8) rfl rfl Try.func40 (by kernel_rfl) rfl #[.slice A0 l0.length c0] rfl (by (try simp only [mT, mC, mN]); first | done | rfl | (simp only [lD, lT]; rfl)) ?_; (with_reducible refine (bureauref03_Bytes.calls k _ _ l0 t301 _ ?side1 ?side2 A4.out).mono ?_); (case side1 => repeat (first | exact HR0.out | (with_reducible refine Kd.C_alloc ?_ _) | (with_reducible refine Kd.C_drewN ?_ _) | (with_reducible refine Kd.C_drew ?_))); (case side2 => exact HC0.out); rintro e w7 ⟨v302, rfl, ho0, hb⟩; refine ⟨_, rfl, ?_⟩; have n0_ := aM (rL ho0 (bZ (ey HB.out))); have n1_ := aM (bP (ey HB.out) hb); clear HB; have HO303 := n0_; have HB := n1_; clear n0_ n1_; (try clear hb); (try clear hb2); (try clear hk); (try clear hi); (try clear ho0); obtain ⟨Ao8, co8, eo8⟩ := Kd.R_slice HO303.out; subst eo8) | ((with_reducible refine gate_callee (f := 57) rfl ?_); refine goesL_ (some 9) rfl rfl Try.func57 (by kernel_rfl) rfl #[.slice Ao8 t301.length co8] rfl (by (try simp only [mT, mC, mN]); first | done | rfl | (simp only [lD, lT]; rfl)) ?_; (with_reducible refine (bureauref03_Pack.calls k _ _ t301 t304 _ ?side1 ?side2 A5.out).mono ?_); (case side1 => repeat (first | exact (rR HO303.out).2.2 | (with_reducible refine Kd.C_alloc ?_ _) | (with_reducible refine Kd.C_drewN ?_ _) | (with_reducible refine Kd.C_drew ?_))); (case side2 => exact (rR HO303.out).2.1); rintro e w9 ⟨v305, rfl, ho0, hb⟩; refine ⟨_, rfl, ?_⟩; have n0_ := aM (Kd.R_below (ry HO303.out) hb); have n1_ := aM (rL ho0 (bZ (ey HB.out))); have n2_ := aM (bP (ey HB.out) hb); clear HO303 HB; have HO303 := n0_; have HO306 := n1_; have HB := n2_; clear n0_ n1_ n2_; (try clear hb); (try clear hb2); (try clear hk); (try clear hi); (try clear ho0); obtain ⟨Ao10, co10, eo10⟩ := Kd.R_slice HO306.out; subst eo10) | ((with_reducible refine gate_callee (f := 42) rfl ?_); refine goesL_ (some 10) rfl rfl Try.func42 (by kernel_rfl) rfl #[.slice A0 l0.length c0, .slice Ao10 t304.length co10] rfl (by (try simp only [mT, mC, mN]); first | done | rfl | (simp only [lD, lT]; rfl)) ?_; (with_reducible refine (bureauref03_Same.calls k _ _ l0 _ _ t304 t307 _ ?side1 ?side2 ?side3 ?side4 A6.out).mono ?_); (case side1 => repeat (first | exact (cB_ HR0.out HB.out) | (with_reducible refine Kd.C_alloc ?_ _) | (with_reducible refine Kd.C_drewN ?_ _) | (with_reducible refine Kd.C_drew ?_))); (case side2 => exact HC0.out); (case side3 => repeat (first | exact (rR HO306.out).2.2 | (with_reducible refine Kd.C_alloc ?_ _) | (with_reducible refine Kd.C_drewN ?_ _) | (with_reducible refine Kd.C_drew ?_))); (case side4 => exact (rR HO306.out).2.1); rintro e w' ⟨rfl, ⟨nd, rfl⟩⟩; refine ⟨_, rfl, ?_⟩))
  go_ret
  exact ⟨by first | rfl | (simp [errW_none, errW_some] <;> rfl) | (simp [*, errW_none, errW_some] <;> rfl), by exact ey HB.out⟩
end Go.Proofs.Ytnbdldpjiofafaa.PB
end

section
namespace Go.Proofs.Ytnbdldpjiofafaa.PB
open Go.RowKit Go.Proofs.YtnbdldpjiofafaaW.PrintWords Go.Proofs.YtnbdldpjiofafaaW.PrintLast Go.Proofs.YtnbdldpjiofafaaW.PrintMore
attribute [local go_sem] max2_int min2_int max_two min_two max_three min_three max_four min_four   
set_option linter.unusedVariables false
set_option linter.unusedSimpArgs false
def bureauref04_Good.f (k : Nat) (a0_0 : ByteArray) (l0_1 : List (S51)) : Option (Bool) := (bureauref03_Good.f k l0_1).bind fun t309 => (if t309 = true then ((bureauref03_Total.f k l0_1).bind fun t310 => (some (t310 == (a0_0.size : Int)))) else (some false))
def bureauref04_Good.T1 : Bool × List (List Nat × List Nat) := (true, [([], []), ([0], [0]), ([1], [1]), ([2, 2], [2]), ([3], [3]), ([4, 3], [3, 4]), ([5, 3, 3], [3, 5]), ([3], [3]), ([7, 3], [3, 7]), ([8, 3], [3, 8]), ([6, 9, 3], [3, 6, 9]), ([3, 10], [3, 10]), ([11, 6, 0, 1, 2, 3, 4, 5, 6, 7, 8, 9, 10, 11], [11])])
def bureauref04_Good.B1 : List Nat := [0, 1, 3, 7, 15, 31, 63, 15, 143, 399, 1023, 2047, 4095]
theorem bureauref04_Good.tab1 : rtab .any (opsOf Try.f39 1) = bureauref04_Good.T1 := by kernel_rfl
theorem bureauref04_Good.bits1 : waitsOk bureauref04_Good.T1.2 bureauref04_Good.B1 = true := by kernel_rfl
set_option maxHeartbeats 8000000 in
set_option maxRecDepth 100000 in
theorem bureauref04_Good.calls (k : Nat) (a0_0 : ByteArray) (A0_1 : Option Addr) (c0_1 : Nat) (l0_1 : List (S51)) (r : Bool) (w : World) (hr0_1 : Kd.C k51 w A0_1 l0_1.length l0_1) (hc0_1 : l0_1.length ≤ c0_1) (h : bureauref04_Good.f k a0_0 l0_1 = some r) :
  Calls Try.prog 39 #[.agg #[.string a0_0, .slice A0_1 l0_1.length c0_1]] w fun e w' => e = .returned (.bool r) ∧ Below w.heap.size w w' := by
 have hu24 := Try.underlying24
 have HR0_1 := aM hr0_1
 have HC0_1 := aM hc0_1
 clear hr0_1 hc0_1
 have HB := aM (Below.refl w.heap.size w)
 have H : ((bureauref03_Good.f k l0_1).bind fun t309 => (if t309 = true then ((bureauref03_Total.f k l0_1).bind fun t310 => (some (t310 == (a0_0.size : Int)))) else (some false))) = some r := h
 clear h
 replace H := Option.bind_eq_some_iff.mp H
 obtain ⟨t309, A20, H⟩ := H
 replace H : (if t309 = true then ((bureauref03_Total.f k l0_1).bind fun t310 => (some (t310 == (a0_0.size : Int)))) else (some false)) = some r := H
 have A2 := aM A20
 clear A20
 by_cases c3 : t309 = true
 ·subst c3
  have H1 : ((bureauref03_Total.f k l0_1).bind fun t310 => (some (t310 == (a0_0.size : Int)))) = some r := by rw [if_pos rfl] at H; exact H
  clear H
  have H := H1
  clear H1
  replace H := Option.bind_eq_some_iff.mp H
  obtain ⟨t310, A40, H⟩ := H
  replace H : (some (t310 == (a0_0.size : Int))) = some r := H
  have A4 := aM A40
  clear A40
  obtain rfl := Option.some.inj H
  go_enter Try.func39, Try.ntmps39
  try go_wp2_with (first | ((with_reducible refine gate_dst (N := 1) rfl ?_); (try (refine gate_guard (by rfl) ?_; dsimp only)); refine box_event ?hg (N := 1) ?hd (cs := #[.string a0_0, .slice A0_1 l0_1.length c0_1]) (t := 24) ?hr ?_; (case hd | hg => rfl); (case hr => first | (go_simp; done) | (go_simp; rfl)); intro gb308 hg w5 hbox hb; have n0_ := aM (bP (ey HB.out) hb); have n1_ := aM (hbox); have n2_ := aM ((by rw [hg]; exact (bZ (ey HB.out)) : w.heap.size ≤ gb308)); have n3_ := n2_; clear HB; have HB := n0_; have BK308 := n1_; have GW308 := n2_; have GE308 := n3_; clear n0_ n1_ n2_ n3_; clear hb hbox hg))
  have n0_ := aM (blk_drew BK308.out)
  have n1_ := aM (below_drew1 HB.out)
  clear BK308
  clear HB
  have BK308 := n0_
  have HB := n1_
  clear n0_ n1_
  refine start_ (n := 13) (S := fun w' => w'.cell? ⟨gb308, 0, none⟩ = some (.string a0_0) ∧ w'.cell? ⟨gb308, 1, none⟩ = some (.slice A0_1 l0_1.length c0_1)) (ds := []) b0_ (by kernel_rfl) rfl rfl ⟨(bC BK308.out 0).trans rfl, (bC BK308.out 1).trans rfl⟩ (fun hHeld => ?_); refine with_tabW bureauref04_Good.tab1 bureauref04_Good.bits1 (fun HT_ HW_ => ?_)
  generalize w5.drew = w6 at BK308 HB hHeld ⊢
  refine pure_ (i := 0) (N := some 3) (v := ?_) (a' := ?_) b1_ rfl rfl (any_of HT_.out (by kernel_rfl)) (fun _ _ _ h => h) (Or.inl ⟨by rfl, ?_⟩) ?_ ?_
  rotate_left
  ·intro w'
   go_simp
   with_reducible rfl
  rotate_left
  ·simp only [Act.put, sA, sZ, sS, i64_w, i32_w]
   rfl
  refine take_ (i := 1) (N := some 4) (v := ?_) (a' := ?_) b2_ rfl rfl (take_ofW HT_.out HW_.out (by kernel_rfl)) (fun _ _ _ h => h) (Or.inl ⟨by rfl, ?_⟩) hHeld ?_ ?_
  rotate_left
  ·rintro w' ⟨s0, s1⟩
   go_simp
   with_reducible rfl
  rotate_left
  ·simp only [Act.put, sA, sZ, sS, i64_w, i32_w]
   rfl
  refine one_ (i := 2) (N := some 5) b3_ rfl rfl (one_of HT_.out (by kernel_rfl)) (by decide) (fun K hK => ?_)
  refine goes_ Try.func60 (by kernel_rfl) rfl #[.slice A0_1 l0_1.length c0_1] (by rfl) rfl rfl (by (try simp only [mT, mC, mN]); first | done | rfl | (simp only [lD, lT]; rfl)) ?_
  with_reducible refine (bureauref03_Good.calls k _ _ l0_1 true _ ?side1 ?side2 A2.out).mono ?_
  (case side1 => repeat (first | exact (cB_ HR0_1.out HB.out) | (with_reducible refine Kd.C_alloc ?_ _) | (with_reducible refine Kd.C_drewN ?_ _) | (with_reducible refine Kd.C_drew ?_)))
  (case side2 => exact HC0_1.out)
  rintro e w7 ⟨rfl, hb⟩
  refine ⟨_, rfl, ?_⟩
  have n0_ := aM (bB (g := gb308) (qy BK308.out) hb)
  have n1_ := aM (bP (by repeat (first | (with_reducible first | exact HB.out | apply ea | apply en | apply ed | refine es ?_ GE308.out) | exact HB.out)) hb)
  clear BK308
  clear HB
  have BK308 := n0_
  have HB := n1_
  clear n0_ n1_
  (try clear hb)
  (try clear hb2)
  (try clear hk)
  (try clear hi)
  refine hK.out _ _ ⟨(bC BK308.out 0).trans rfl, (bC BK308.out 1).trans rfl⟩ (fun hHeld => ?_)
  clear hK K
  refine norm_ (a' := ?_) ?_ ?_
  rotate_left
  ·show Act.put _ (some 5) _ = _
   simp only [Act.put, sA, sZ, sS, i64_w, i32_w]
   rfl
  refine pure_ (i := 3) (N := some 6) (v := ?_) (a' := ?_) b4_ rfl rfl (any_of HT_.out (by kernel_rfl)) (fun _ _ _ h => h) (Or.inl ⟨by rfl, ?_⟩) ?_ ?_
  rotate_left
  ·intro w'
   go_simp
   with_reducible rfl
  rotate_left
  ·simp only [Act.put, sA, sZ, sS, i64_w, i32_w]
   rfl
  refine pure_ (i := 4) (N := some 7) (v := ?_) (a' := ?_) b5_ rfl rfl (any_of HT_.out (by kernel_rfl)) (fun _ _ _ h => h) (Or.inl ⟨by rfl, ?_⟩) ?_ ?_
  rotate_left
  ·intro w'
   go_simp
   with_reducible rfl
  rotate_left
  ·simp only [Act.put, sA, sZ, sS, i64_w, i32_w]
   rfl
  refine pure_ (i := 7) (N := some 10) (v := ?_) (a' := ?_) b6_ rfl rfl (any_of HT_.out (by kernel_rfl)) (fun _ _ _ h => h) (Or.inl ⟨by rfl, ?_⟩) ?_ ?_
  rotate_left
  ·intro w'
   go_simp
   with_reducible rfl
  rotate_left
  ·simp only [Act.put, sA, sZ, sS, i64_w, i32_w]
   rfl
  refine take_ (i := 5) (N := some 8) (v := ?_) (a' := ?_) b7_ rfl rfl (take_ofW HT_.out HW_.out (by kernel_rfl)) (fun _ _ _ h => h) (Or.inl ⟨by rfl, ?_⟩) hHeld ?_ ?_
  rotate_left
  ·rintro w' ⟨s0, s1⟩
   go_simp
   with_reducible rfl
  rotate_left
  ·simp only [Act.put, sA, sZ, sS, i64_w, i32_w]
   rfl
  refine take_ (i := 8) (N := some 11) (v := ?_) (a' := ?_) b8_ rfl rfl (take_ofW HT_.out HW_.out (by kernel_rfl)) (fun _ _ _ h => h) (Or.inl ⟨by rfl, ?_⟩) hHeld ?_ ?_
  rotate_left
  ·rintro w' ⟨s0, s1⟩
   go_simp
   with_reducible rfl
  rotate_left
  ·simp only [Act.put, sA, sZ, sS, i64_w, i32_w]
   rfl
  refine pure_ (i := 9) (N := some 12) (v := ?_) (a' := ?_) b9_ rfl rfl (any_of HT_.out (by kernel_rfl)) (fun _ _ _ h => h) (Or.inl ⟨by rfl, ?_⟩) ?_ ?_
  rotate_left
  ·intro w'
   go_simp
   with_reducible rfl
  rotate_left
  ·simp only [Act.put, sA, sZ, sS, i64_w, i32_w]
   rfl
  refine one_ (i := 6) (N := some 9) b10_ rfl rfl (one_of HT_.out (by kernel_rfl)) (by decide) (fun K hK => ?_)
  refine goes_ Try.func61 (by kernel_rfl) rfl #[.slice A0_1 l0_1.length c0_1] (by rfl) rfl rfl (by (try simp only [mT, mC, mN]); first | done | rfl | (simp only [lD, lT]; rfl)) ?_
  with_reducible refine (bureauref03_Total.calls k _ _ l0_1 t310 _ ?side1 ?side2 A4.out).mono ?_
  (case side1 => repeat (first | exact (cB_ HR0_1.out HB.out) | (with_reducible refine Kd.C_alloc ?_ _) | (with_reducible refine Kd.C_drewN ?_ _) | (with_reducible refine Kd.C_drew ?_)))
  (case side2 => exact HC0_1.out)
  rintro e w' ⟨rfl, ⟨nd, rfl⟩⟩
  refine ⟨_, rfl, ?_⟩
  refine hK.out _ _ ⟨(bC BK308.out 0).trans rfl, (bC BK308.out 1).trans rfl⟩ (fun hHeld => ?_)
  clear hK K
  refine norm_ (a' := ?_) ?_ ?_
  rotate_left
  ·show Act.put _ (some 9) _ = _
   simp only [Act.put, sA, sZ, sS, i64_w, i32_w]
   rfl
  refine pure_ (i := 10) (N := some 13) (v := ?_) (a' := ?_) b11_ rfl rfl (any_of HT_.out (by kernel_rfl)) (fun _ _ _ h => h) (Or.inl ⟨by rfl, ?_⟩) ?_ ?_
  rotate_left
  ·intro w'
   go_simp
   with_reducible rfl
  rotate_left
  ·simp only [Act.put, sA, sZ, sS, i64_w, i32_w]
   rfl
  refine pure_ (i := 11) (N := some 14) (v := ?_) (a' := ?_) b12_ rfl rfl (any_of HT_.out (by kernel_rfl)) (fun _ _ _ h => h) (Or.inl ⟨by rfl, ?_⟩) ?_ ?_
  rotate_left
  ·intro w'
   go_simp
   with_reducible rfl
  rotate_left
  ·simp only [Act.put, sA, sZ, sS, i64_w, i32_w]
   rfl
  refine pure_ (i := 12) (N := some 2) (v := ?_) (a' := ?_) b13_ rfl rfl (any_of HT_.out (by kernel_rfl)) (fun _ _ _ h => h) (Or.inl ⟨by rfl, ?_⟩) ?_ ?_
  rotate_left
  ·intro w'
   go_simp
   with_reducible rfl
  rotate_left
  ·simp only [Act.put, sA, sZ, sS, i64_w, i32_w]
   rfl
  refine done_ (done_of HT_.out (by kernel_rfl)) ?_
  try go_wp2
  go_ret
  exact ⟨by first | rfl | (simp [errW_none, errW_some] <;> rfl) | (simp [*, errW_none, errW_some] <;> rfl), by repeat (first | (with_reducible first | exact HB.out | apply ea | apply en | apply ed | refine es ?_ GE308.out) | exact HB.out)⟩
 ·replace c3 := Bool.eq_false_iff.mpr c3
  subst c3
  have H1 : (some false) = some r := by rw [if_neg (show ¬ (false = true) by decide)] at H; exact H
  clear H
  have H := H1
  clear H1
  obtain rfl := Option.some.inj H
  go_enter Try.func39, Try.ntmps39
  try go_wp2_with (first | ((with_reducible refine gate_dst (N := 1) rfl ?_); (try (refine gate_guard (by rfl) ?_; dsimp only)); refine box_event ?hg (N := 1) ?hd (cs := #[.string a0_0, .slice A0_1 l0_1.length c0_1]) (t := 24) ?hr ?_; (case hd | hg => rfl); (case hr => first | (go_simp; done) | (go_simp; rfl)); intro gb308 hg w8 hbox hb; have n0_ := aM (bP (ey HB.out) hb); have n1_ := aM (hbox); have n2_ := aM ((by rw [hg]; exact (bZ (ey HB.out)) : w.heap.size ≤ gb308)); have n3_ := n2_; clear HB; have HB := n0_; have BK308 := n1_; have GW308 := n2_; have GE308 := n3_; clear n0_ n1_ n2_ n3_; clear hb hbox hg))
  have n0_ := aM (blk_drew BK308.out)
  have n1_ := aM (below_drew1 HB.out)
  clear BK308
  clear HB
  have BK308 := n0_
  have HB := n1_
  clear n0_ n1_
  refine start_ (n := 13) (S := fun w' => w'.cell? ⟨gb308, 0, none⟩ = some (.string a0_0) ∧ w'.cell? ⟨gb308, 1, none⟩ = some (.slice A0_1 l0_1.length c0_1)) (ds := []) b0_ (by kernel_rfl) rfl rfl ⟨(bC BK308.out 0).trans rfl, (bC BK308.out 1).trans rfl⟩ (fun hHeld => ?_); refine with_tabW bureauref04_Good.tab1 bureauref04_Good.bits1 (fun HT_ HW_ => ?_)
  generalize w8.drew = w9 at BK308 HB hHeld ⊢
  refine pure_ (i := 0) (N := some 3) (v := ?_) (a' := ?_) b1_ rfl rfl (any_of HT_.out (by kernel_rfl)) (fun _ _ _ h => h) (Or.inl ⟨by rfl, ?_⟩) ?_ ?_
  rotate_left
  ·intro w'
   go_simp
   with_reducible rfl
  rotate_left
  ·simp only [Act.put, sA, sZ, sS, i64_w, i32_w]
   rfl
  refine take_ (i := 1) (N := some 4) (v := ?_) (a' := ?_) b2_ rfl rfl (take_ofW HT_.out HW_.out (by kernel_rfl)) (fun _ _ _ h => h) (Or.inl ⟨by rfl, ?_⟩) hHeld ?_ ?_
  rotate_left
  ·rintro w' ⟨s0, s1⟩
   go_simp
   with_reducible rfl
  rotate_left
  ·simp only [Act.put, sA, sZ, sS, i64_w, i32_w]
   rfl
  refine one_ (i := 2) (N := some 5) b3_ rfl rfl (one_of HT_.out (by kernel_rfl)) (by decide) (fun K hK => ?_)
  refine goes_ Try.func60 (by kernel_rfl) rfl #[.slice A0_1 l0_1.length c0_1] (by rfl) rfl rfl (by (try simp only [mT, mC, mN]); first | done | rfl | (simp only [lD, lT]; rfl)) ?_
  with_reducible refine (bureauref03_Good.calls k _ _ l0_1 false _ ?side1 ?side2 A2.out).mono ?_
  (case side1 => repeat (first | exact (cB_ HR0_1.out HB.out) | (with_reducible refine Kd.C_alloc ?_ _) | (with_reducible refine Kd.C_drewN ?_ _) | (with_reducible refine Kd.C_drew ?_)))
  (case side2 => exact HC0_1.out)
  rintro e w10 ⟨rfl, hb⟩
  refine ⟨_, rfl, ?_⟩
  have n0_ := aM (bB (g := gb308) (qy BK308.out) hb)
  have n1_ := aM (bP (by repeat (first | (with_reducible first | exact HB.out | apply ea | apply en | apply ed | refine es ?_ GE308.out) | exact HB.out)) hb)
  clear BK308
  clear HB
  have BK308 := n0_
  have HB := n1_
  clear n0_ n1_
  (try clear hb)
  (try clear hb2)
  (try clear hk)
  (try clear hi)
  refine hK.out _ _ ⟨(bC BK308.out 0).trans rfl, (bC BK308.out 1).trans rfl⟩ (fun hHeld => ?_)
  clear hK K
  refine norm_ (a' := ?_) ?_ ?_
  rotate_left
  ·show Act.put _ (some 5) _ = _
   simp only [Act.put, sA, sZ, sS, i64_w, i32_w]
   rfl
  refine pure_ (i := 3) (N := some 6) (v := ?_) (a' := ?_) b4_ rfl rfl (any_of HT_.out (by kernel_rfl)) (fun _ _ _ h => h) (Or.inl ⟨by rfl, ?_⟩) ?_ ?_
  rotate_left
  ·intro w'
   go_simp
   with_reducible rfl
  rotate_left
  ·simp only [Act.put, sA, sZ, sS, i64_w, i32_w]
   rfl
  refine pure_ (i := 4) (N := some 7) (v := undef) (a' := ?_) b5_ rfl rfl (any_of HT_.out (by kernel_rfl)) (fun _ _ _ h => h) (Or.inr ⟨by rfl, rfl⟩) ?_ ?_
  rotate_left
  ·simp only [Act.put, sA, sZ, sS, i64_w, i32_w]
   rfl
  refine pure_ (i := 5) (N := some 8) (v := undef) (a' := ?_) b14_ rfl rfl (any_of HT_.out (by kernel_rfl)) (fun _ _ _ h => h) (Or.inr ⟨by rfl, rfl⟩) ?_ ?_
  rotate_left
  ·simp only [Act.put, sA, sZ, sS, i64_w, i32_w]
   rfl
  refine pure_ (i := 6) (N := some 9) (v := undef) (a' := ?_) b15_ rfl rfl (any_of HT_.out (by kernel_rfl)) (fun _ _ _ h => h) (Or.inr ⟨by rfl, rfl⟩) ?_ ?_
  rotate_left
  ·simp only [Act.put, sA, sZ, sS, i64_w, i32_w]
   rfl
  refine pure_ (i := 7) (N := some 10) (v := undef) (a' := ?_) b16_ rfl rfl (any_of HT_.out (by kernel_rfl)) (fun _ _ _ h => h) (Or.inr ⟨by rfl, rfl⟩) ?_ ?_
  rotate_left
  ·simp only [Act.put, sA, sZ, sS, i64_w, i32_w]
   rfl
  refine pure_ (i := 8) (N := some 11) (v := undef) (a' := ?_) b17_ rfl rfl (any_of HT_.out (by kernel_rfl)) (fun _ _ _ h => h) (Or.inr ⟨by rfl, rfl⟩) ?_ ?_
  rotate_left
  ·simp only [Act.put, sA, sZ, sS, i64_w, i32_w]
   rfl
  refine pure_ (i := 9) (N := some 12) (v := undef) (a' := ?_) b10_ rfl rfl (any_of HT_.out (by kernel_rfl)) (fun _ _ _ h => h) (Or.inr ⟨by rfl, rfl⟩) ?_ ?_
  rotate_left
  ·simp only [Act.put, sA, sZ, sS, i64_w, i32_w]
   rfl
  refine pure_ (i := 10) (N := some 13) (v := undef) (a' := ?_) b11_ rfl rfl (any_of HT_.out (by kernel_rfl)) (fun _ _ _ h => h) (Or.inr ⟨by rfl, rfl⟩) ?_ ?_
  rotate_left
  ·simp only [Act.put, sA, sZ, sS, i64_w, i32_w]
   rfl
  refine pure_ (i := 11) (N := some 14) (v := ?_) (a' := ?_) b12_ rfl rfl (any_of HT_.out (by kernel_rfl)) (fun _ _ _ h => h) (Or.inl ⟨by rfl, ?_⟩) ?_ ?_
  rotate_left
  ·intro w'
   go_simp
   with_reducible rfl
  rotate_left
  ·simp only [Act.put, sA, sZ, sS, i64_w, i32_w]
   rfl
  refine pure_ (i := 12) (N := some 2) (v := ?_) (a' := ?_) b13_ rfl rfl (any_of HT_.out (by kernel_rfl)) (fun _ _ _ h => h) (Or.inl ⟨by rfl, ?_⟩) ?_ ?_
  rotate_left
  ·intro w'
   go_simp
   with_reducible rfl
  rotate_left
  ·simp only [Act.put, sA, sZ, sS, i64_w, i32_w]
   rfl
  refine done_ (done_of HT_.out (by kernel_rfl)) ?_
  try go_wp2
  go_ret
  exact ⟨by first | rfl | (simp [errW_none, errW_some] <;> rfl) | (simp [*, errW_none, errW_some] <;> rfl), by repeat (first | (with_reducible first | exact HB.out | apply ea | apply en | apply ed | refine es ?_ GE308.out) | exact HB.out)⟩
end Go.Proofs.Ytnbdldpjiofafaa.PB
end

section
namespace Go.Proofs.Ytnbdldpjiofafaa.PB
open Go.RowKit Go.Proofs.YtnbdldpjiofafaaW.PrintWords Go.Proofs.YtnbdldpjiofafaaW.PrintLast Go.Proofs.YtnbdldpjiofafaaW.PrintMore
attribute [local go_sem] max2_int min2_int max_two min_two max_three min_three max_four min_four   
set_option linter.unusedVariables false
set_option linter.unusedSimpArgs false
def bureauref04_Within.f (k : Nat) (a0_0 : ByteArray) (l0_1 : List (S51)) (a1 : Int) (a2 : Int) : Option (Bool) := (bureauref04_Good.f k a0_0 l0_1).bind fun t365 => (if t365 = true then (if a1 ≥ 0 then (if a1 ≤ a2 then (some (decide (a2 ≤ (a0_0.size : Int)))) else (some false)) else (some false)) else (some false))
set_option maxHeartbeats 8000000 in
set_option maxRecDepth 100000 in
theorem bureauref04_Within.calls (k : Nat) (a0_0 : ByteArray) (A0_1 : Option Addr) (c0_1 : Nat) (l0_1 : List (S51)) (a1 : Int) (a2 : Int) (r : Bool) (w : World) (hr0_1 : Kd.C k51 w A0_1 l0_1.length l0_1) (hc0_1 : l0_1.length ≤ c0_1) (h : bureauref04_Within.f k a0_0 l0_1 a1 a2 = some r) :
  Calls Try.prog 58 #[.agg #[.string a0_0, .slice A0_1 l0_1.length c0_1], .int .i64 a1, .int .i64 a2] w fun e w' => e = .returned (.bool r) ∧ Below w.heap.size w w' := by
 have hu24 := Try.underlying24
 have HR0_1 := aM hr0_1
 have HC0_1 := aM hc0_1
 clear hr0_1 hc0_1
 have HB := aM (Below.refl w.heap.size w)
 have H : ((bureauref04_Good.f k a0_0 l0_1).bind fun t365 => (if t365 = true then (if a1 ≥ 0 then (if a1 ≤ a2 then (some (decide (a2 ≤ (a0_0.size : Int)))) else (some false)) else (some false)) else (some false))) = some r := h
 clear h
 replace H := Option.bind_eq_some_iff.mp H
 obtain ⟨t365, A40, H⟩ := H
 replace H : (if t365 = true then (if a1 ≥ 0 then (if a1 ≤ a2 then (some (decide (a2 ≤ (a0_0.size : Int)))) else (some false)) else (some false)) else (some false)) = some r := H
 have A4 := aM A40
 clear A40
 by_cases c5 : t365 = true
 ·subst c5
  have H1 : (if a1 ≥ 0 then (if a1 ≤ a2 then (some (decide (a2 ≤ (a0_0.size : Int)))) else (some false)) else (some false)) = some r := by rw [if_pos rfl] at H; exact H
  clear H
  have H := H1
  clear H1
  by_cases c6 : a1 ≥ 0
  ·rw [if_pos c6] at H
   have c6b0 : decide (0 ≤ a1) = true := decide_eq_true c6
   clear c6
   by_cases c7 : a1 ≤ a2
   ·rw [if_pos c7] at H
    have c7b0 : decide (a1 ≤ a2) = true := decide_eq_true c7
    clear c7
    obtain rfl := Option.some.inj H
    go_enter Try.func58, Try.ntmps58
    go_wp2_with (first | ((with_reducible refine gate_dst (N := 3) rfl ?_); (try (refine gate_guard (by rfl) ?_; dsimp only)); refine box_event ?hg (N := 3) ?hd (cs := #[.string a0_0, .slice A0_1 l0_1.length c0_1]) (t := 24) ?hr ?_; (case hd | hg => rfl); (case hr => first | (go_simp; done) | (go_simp; rfl)); intro gb364 hg w8 hbox hb; have n0_ := aM (bP (ey HB.out) hb); have n1_ := aM (hbox); have n2_ := aM ((by rw [hg]; exact (bZ (ey HB.out)) : w.heap.size ≤ gb364)); have n3_ := n2_; clear HB; have HB := n0_; have BK364 := n1_; have GW364 := n2_; have GE364 := n3_; clear n0_ n1_ n2_ n3_; clear hb hbox hg; have hcz9_0 : w8.cell? ⟨gb364, 0, none⟩ = some (.string a0_0) := (bC BK364.out 0).trans rfl; have hcz9_1 : w8.cell? ⟨gb364, 1, none⟩ = some (.slice A0_1 l0_1.length c0_1) := (bC BK364.out 1).trans rfl; have hfz9_0 := bF BK364.out 0; have hfz9_1 := bF BK364.out 1) | ((with_reducible refine gate_callee (f := 39) rfl ?_); refine goesL_ (some 8) rfl rfl Try.func39 (by kernel_rfl) rfl #[.agg #[.string a0_0, .slice A0_1 l0_1.length c0_1]] rfl (by (try simp only [mT, mC, mN]); first | done | rfl | (simp only [lD, lT]; rfl)) ?_; (with_reducible refine (bureauref04_Good.calls k a0_0 _ _ l0_1 true _ ?side1 ?side2 A4.out).mono ?_); (case side1 => repeat (first | exact (cB_ HR0_1.out HB.out) | (with_reducible refine Kd.C_alloc ?_ _) | (with_reducible refine Kd.C_drewN ?_ _) | (with_reducible refine Kd.C_drew ?_))); (case side2 => exact HC0_1.out); rintro e w10 ⟨rfl, hb⟩; refine ⟨_, rfl, ?_⟩; have n0_ := aM (bB (g := gb364) (qy BK364.out) hb); have n1_ := aM (bP (by repeat (first | (with_reducible first | exact HB.out | apply ea | apply en | apply ed | refine es ?_ GE364.out) | exact HB.out)) hb); clear BK364 HB; have BK364 := n0_; have HB := n1_; clear n0_ n1_; (try clear hb); (try clear hb2); (try clear hk); (try clear hi); have hcz11_0 : w10.cell? ⟨gb364, 0, none⟩ = some (.string a0_0) := (bC BK364.out 0).trans rfl; have hcz11_1 : w10.cell? ⟨gb364, 1, none⟩ = some (.slice A0_1 l0_1.length c0_1) := (bC BK364.out 1).trans rfl; have hfz11_0 := bF BK364.out 0; have hfz11_1 := bF BK364.out 1))
    go_ret
    exact ⟨by first | rfl | (simp [errW_none, errW_some] <;> rfl) | (simp [*, errW_none, errW_some] <;> rfl), by repeat (first | (with_reducible first | exact HB.out | apply ea | apply en | apply ed | refine es ?_ GE364.out) | exact HB.out)⟩
   ·rw [if_neg c7] at H
    have c7b0 : decide (a1 ≤ a2) = false := decide_eq_false c7
    clear c7
    obtain rfl := Option.some.inj H
    go_enter Try.func58, Try.ntmps58
    go_wp2_with (first | ((with_reducible refine gate_dst (N := 3) rfl ?_); (try (refine gate_guard (by rfl) ?_; dsimp only)); refine box_event ?hg (N := 3) ?hd (cs := #[.string a0_0, .slice A0_1 l0_1.length c0_1]) (t := 24) ?hr ?_; (case hd | hg => rfl); (case hr => first | (go_simp; done) | (go_simp; rfl)); intro gb364 hg w12 hbox hb; have n0_ := aM (bP (ey HB.out) hb); have n1_ := aM (hbox); have n2_ := aM ((by rw [hg]; exact (bZ (ey HB.out)) : w.heap.size ≤ gb364)); have n3_ := n2_; clear HB; have HB := n0_; have BK364 := n1_; have GW364 := n2_; have GE364 := n3_; clear n0_ n1_ n2_ n3_; clear hb hbox hg; have hcz13_0 : w12.cell? ⟨gb364, 0, none⟩ = some (.string a0_0) := (bC BK364.out 0).trans rfl; have hcz13_1 : w12.cell? ⟨gb364, 1, none⟩ = some (.slice A0_1 l0_1.length c0_1) := (bC BK364.out 1).trans rfl; have hfz13_0 := bF BK364.out 0; have hfz13_1 := bF BK364.out 1) | ((with_reducible refine gate_callee (f := 39) rfl ?_); refine goesL_ (some 8) rfl rfl Try.func39 (by kernel_rfl) rfl #[.agg #[.string a0_0, .slice A0_1 l0_1.length c0_1]] rfl (by (try simp only [mT, mC, mN]); first | done | rfl | (simp only [lD, lT]; rfl)) ?_; (with_reducible refine (bureauref04_Good.calls k a0_0 _ _ l0_1 true _ ?side1 ?side2 A4.out).mono ?_); (case side1 => repeat (first | exact (cB_ HR0_1.out HB.out) | (with_reducible refine Kd.C_alloc ?_ _) | (with_reducible refine Kd.C_drewN ?_ _) | (with_reducible refine Kd.C_drew ?_))); (case side2 => exact HC0_1.out); rintro e w14 ⟨rfl, hb⟩; refine ⟨_, rfl, ?_⟩; have n0_ := aM (bB (g := gb364) (qy BK364.out) hb); have n1_ := aM (bP (by repeat (first | (with_reducible first | exact HB.out | apply ea | apply en | apply ed | refine es ?_ GE364.out) | exact HB.out)) hb); clear BK364 HB; have BK364 := n0_; have HB := n1_; clear n0_ n1_; (try clear hb); (try clear hb2); (try clear hk); (try clear hi)))
    go_ret
    exact ⟨by first | rfl | (simp [errW_none, errW_some] <;> rfl) | (simp [*, errW_none, errW_some] <;> rfl), by repeat (first | (with_reducible first | exact HB.out | apply ea | apply en | apply ed | refine es ?_ GE364.out) | exact HB.out)⟩
  ·rw [if_neg c6] at H
   have c6b0 : decide (0 ≤ a1) = false := decide_eq_false c6
   clear c6
   obtain rfl := Option.some.inj H
   go_enter Try.func58, Try.ntmps58
   go_wp2_with (first | ((with_reducible refine gate_dst (N := 3) rfl ?_); (try (refine gate_guard (by rfl) ?_; dsimp only)); refine box_event ?hg (N := 3) ?hd (cs := #[.string a0_0, .slice A0_1 l0_1.length c0_1]) (t := 24) ?hr ?_; (case hd | hg => rfl); (case hr => first | (go_simp; done) | (go_simp; rfl)); intro gb364 hg w15 hbox hb; have n0_ := aM (bP (ey HB.out) hb); have n1_ := aM (hbox); have n2_ := aM ((by rw [hg]; exact (bZ (ey HB.out)) : w.heap.size ≤ gb364)); have n3_ := n2_; clear HB; have HB := n0_; have BK364 := n1_; have GW364 := n2_; have GE364 := n3_; clear n0_ n1_ n2_ n3_; clear hb hbox hg; have hcz16_0 : w15.cell? ⟨gb364, 0, none⟩ = some (.string a0_0) := (bC BK364.out 0).trans rfl; have hcz16_1 : w15.cell? ⟨gb364, 1, none⟩ = some (.slice A0_1 l0_1.length c0_1) := (bC BK364.out 1).trans rfl; have hfz16_0 := bF BK364.out 0; have hfz16_1 := bF BK364.out 1) | ((with_reducible refine gate_callee (f := 39) rfl ?_); refine goesL_ (some 8) rfl rfl Try.func39 (by kernel_rfl) rfl #[.agg #[.string a0_0, .slice A0_1 l0_1.length c0_1]] rfl (by (try simp only [mT, mC, mN]); first | done | rfl | (simp only [lD, lT]; rfl)) ?_; (with_reducible refine (bureauref04_Good.calls k a0_0 _ _ l0_1 true _ ?side1 ?side2 A4.out).mono ?_); (case side1 => repeat (first | exact (cB_ HR0_1.out HB.out) | (with_reducible refine Kd.C_alloc ?_ _) | (with_reducible refine Kd.C_drewN ?_ _) | (with_reducible refine Kd.C_drew ?_))); (case side2 => exact HC0_1.out); rintro e w17 ⟨rfl, hb⟩; refine ⟨_, rfl, ?_⟩; have n0_ := aM (bB (g := gb364) (qy BK364.out) hb); have n1_ := aM (bP (by repeat (first | (with_reducible first | exact HB.out | apply ea | apply en | apply ed | refine es ?_ GE364.out) | exact HB.out)) hb); clear BK364 HB; have BK364 := n0_; have HB := n1_; clear n0_ n1_; (try clear hb); (try clear hb2); (try clear hk); (try clear hi)))
   go_ret
   exact ⟨by first | rfl | (simp [errW_none, errW_some] <;> rfl) | (simp [*, errW_none, errW_some] <;> rfl), by repeat (first | (with_reducible first | exact HB.out | apply ea | apply en | apply ed | refine es ?_ GE364.out) | exact HB.out)⟩
 ·replace c5 := Bool.eq_false_iff.mpr c5
  subst c5
  have H1 : (some false) = some r := by rw [if_neg (show ¬ (false = true) by decide)] at H; exact H
  clear H
  have H := H1
  clear H1
  obtain rfl := Option.some.inj H
  go_enter Try.func58, Try.ntmps58
  go_wp2_with (first | ((with_reducible refine gate_dst (N := 3) rfl ?_); (try (refine gate_guard (by rfl) ?_; dsimp only)); refine box_event ?hg (N := 3) ?hd (cs := #[.string a0_0, .slice A0_1 l0_1.length c0_1]) (t := 24) ?hr ?_; (case hd | hg => rfl); (case hr => first | (go_simp; done) | (go_simp; rfl)); intro gb364 hg w18 hbox hb; have n0_ := aM (bP (ey HB.out) hb); have n1_ := aM (hbox); have n2_ := aM ((by rw [hg]; exact (bZ (ey HB.out)) : w.heap.size ≤ gb364)); have n3_ := n2_; clear HB; have HB := n0_; have BK364 := n1_; have GW364 := n2_; have GE364 := n3_; clear n0_ n1_ n2_ n3_; clear hb hbox hg; have hcz19_0 : w18.cell? ⟨gb364, 0, none⟩ = some (.string a0_0) := (bC BK364.out 0).trans rfl; have hcz19_1 : w18.cell? ⟨gb364, 1, none⟩ = some (.slice A0_1 l0_1.length c0_1) := (bC BK364.out 1).trans rfl; have hfz19_0 := bF BK364.out 0; have hfz19_1 := bF BK364.out 1) | ((with_reducible refine gate_callee (f := 39) rfl ?_); refine goesL_ (some 8) rfl rfl Try.func39 (by kernel_rfl) rfl #[.agg #[.string a0_0, .slice A0_1 l0_1.length c0_1]] rfl (by (try simp only [mT, mC, mN]); first | done | rfl | (simp only [lD, lT]; rfl)) ?_; (with_reducible refine (bureauref04_Good.calls k a0_0 _ _ l0_1 false _ ?side1 ?side2 A4.out).mono ?_); (case side1 => repeat (first | exact (cB_ HR0_1.out HB.out) | (with_reducible refine Kd.C_alloc ?_ _) | (with_reducible refine Kd.C_drewN ?_ _) | (with_reducible refine Kd.C_drew ?_))); (case side2 => exact HC0_1.out); rintro e w20 ⟨rfl, hb⟩; refine ⟨_, rfl, ?_⟩; have n0_ := aM (bB (g := gb364) (qy BK364.out) hb); have n1_ := aM (bP (by repeat (first | (with_reducible first | exact HB.out | apply ea | apply en | apply ed | refine es ?_ GE364.out) | exact HB.out)) hb); clear BK364 HB; have BK364 := n0_; have HB := n1_; clear n0_ n1_; (try clear hb); (try clear hb2); (try clear hk); (try clear hi)))
  go_ret
  exact ⟨by first | rfl | (simp [errW_none, errW_some] <;> rfl) | (simp [*, errW_none, errW_some] <;> rfl), by repeat (first | (with_reducible first | exact HB.out | apply ea | apply en | apply ed | refine es ?_ GE364.out) | exact HB.out)⟩
end Go.Proofs.Ytnbdldpjiofafaa.PB
end

section
namespace Go.Proofs.Ytnbdldpjiofafaa.PB
open Go.RowKit Go.Proofs.YtnbdldpjiofafaaW.PrintWords Go.Proofs.YtnbdldpjiofafaaW.PrintLast Go.Proofs.YtnbdldpjiofafaaW.PrintMore
attribute [local go_sem] max2_int min2_int max_two min_two max_three min_three max_four min_four   
set_option linter.unusedVariables false
set_option linter.unusedSimpArgs false
def bureauref04_Cut.f (k : Nat) (a0_0 : ByteArray) (l0_1 : List (S51)) (a1 : Int) (a2 : Int) : Option (ByteArray × (List (S51)) × Int) := (bureauref04_Within.f k a0_0 l0_1 a1 a2).bind fun t368 => (if t368 = true then ((bureauref03_Bytes.f k l0_1).bind fun t369 => (if 0 ≤ a1 then (if a1 ≤ a2 then (if a2 ≤ (a0_0.size : Int) then (if a2 ≤ (t369.length : Int) then ((bureauref03_Pack.f k ((t369.take (a2 : Int).toNat).drop (a1 : Int).toNat)).bind fun t376 => (some (a0_0.extract (a1 : Int).toNat (a2 : Int).toNat, t376, 0))) else (none)) else (none)) else (none)) else (none))) else (some ((⟨#[]⟩ : ByteArray), ([] : List (S51)), 2)))
def bureauref04_Cut.T4 : Bool × List (List Nat × List Nat) := (true, [([], []), ([0], [0]), ([], []), ([], []), ([1, 2, 3], [1, 2, 3]), ([], []), ([], []), ([], []), ([5, 6, 7], [5, 6, 7]), ([8], [8]), ([4, 9], [4, 9]), ([10, 9, 0, 1, 2, 3, 4, 5, 6, 7, 8, 9, 10], [10]), ([11, 0, 1, 2, 3, 4, 5, 6, 7, 8, 9, 10, 11], [])])
def bureauref04_Cut.B4 : List Nat := [0, 1, 0, 0, 15, 0, 0, 0, 224, 480, 1023, 2047, 4095]
theorem bureauref04_Cut.tab4 : rtab .any (opsOf Try.f33 4) = bureauref04_Cut.T4 := by kernel_rfl
theorem bureauref04_Cut.bits4 : waitsOk bureauref04_Cut.T4.2 bureauref04_Cut.B4 = true := by kernel_rfl
set_option maxHeartbeats 8000000 in
set_option maxRecDepth 100000 in
theorem bureauref04_Cut.calls (k : Nat) (a0_0 : ByteArray) (A0_1 : Option Addr) (c0_1 : Nat) (l0_1 : List (S51)) (a1 : Int) (a2 : Int) (r1 : ByteArray) (r2 : List (S51)) (r3 : Int) (w : World) (hr0_1 : Kd.C k51 w A0_1 l0_1.length l0_1) (hc0_1 : l0_1.length ≤ c0_1) (h : bureauref04_Cut.f k a0_0 l0_1 a1 a2 = some (r1, r2, r3)) :
  Calls Try.prog 33 #[.agg #[.string a0_0, .slice A0_1 l0_1.length c0_1], .int .i64 a1, .int .i64 a2] w fun e w' => ∃ v1_ : Value, e = .returned (.tuple #[.agg #[.string r1, v1_], .int .i64 r3]) ∧ Kd.R k51 51 w' w.heap.size (fun _ => True) v1_ r2 ∧ Below w.heap.size w w' := by
 have hu24 := Try.underlying24
 have HR0_1 := aM hr0_1
 have HC0_1 := aM hc0_1
 clear hr0_1 hc0_1
 have HB := aM (Below.refl w.heap.size w)
 have H : ((bureauref04_Within.f k a0_0 l0_1 a1 a2).bind fun t368 => (if t368 = true then ((bureauref03_Bytes.f k l0_1).bind fun t369 => (if 0 ≤ a1 then (if a1 ≤ a2 then (if a2 ≤ (a0_0.size : Int) then (if a2 ≤ (t369.length : Int) then ((bureauref03_Pack.f k ((t369.take (a2 : Int).toNat).drop (a1 : Int).toNat)).bind fun t376 => (some (a0_0.extract (a1 : Int).toNat (a2 : Int).toNat, t376, 0))) else (none)) else (none)) else (none)) else (none))) else (some ((⟨#[]⟩ : ByteArray), ([] : List (S51)), 2)))) = some (r1, r2, r3) := h
 clear h
 replace H := Option.bind_eq_some_iff.mp H
 obtain ⟨t368, A40, H⟩ := H
 replace H : (if t368 = true then ((bureauref03_Bytes.f k l0_1).bind fun t369 => (if 0 ≤ a1 then (if a1 ≤ a2 then (if a2 ≤ (a0_0.size : Int) then (if a2 ≤ (t369.length : Int) then ((bureauref03_Pack.f k ((t369.take (a2 : Int).toNat).drop (a1 : Int).toNat)).bind fun t376 => (some (a0_0.extract (a1 : Int).toNat (a2 : Int).toNat, t376, 0))) else (none)) else (none)) else (none)) else (none))) else (some ((⟨#[]⟩ : ByteArray), ([] : List (S51)), 2))) = some (r1, r2, r3) := H
 have A4 := aM A40
 clear A40
 by_cases c5 : t368 = true
 ·subst c5
  have H1 : ((bureauref03_Bytes.f k l0_1).bind fun t369 => (if 0 ≤ a1 then (if a1 ≤ a2 then (if a2 ≤ (a0_0.size : Int) then (if a2 ≤ (t369.length : Int) then ((bureauref03_Pack.f k ((t369.take (a2 : Int).toNat).drop (a1 : Int).toNat)).bind fun t376 => (some (a0_0.extract (a1 : Int).toNat (a2 : Int).toNat, t376, 0))) else (none)) else (none)) else (none)) else (none))) = some (r1, r2, r3) := by rw [if_pos rfl] at H; exact H
  clear H
  have H := H1
  clear H1
  replace H := Option.bind_eq_some_iff.mp H
  obtain ⟨t369, A60, H⟩ := H
  replace H : (if 0 ≤ a1 then (if a1 ≤ a2 then (if a2 ≤ (a0_0.size : Int) then (if a2 ≤ (t369.length : Int) then ((bureauref03_Pack.f k ((t369.take (a2 : Int).toNat).drop (a1 : Int).toNat)).bind fun t376 => (some (a0_0.extract (a1 : Int).toNat (a2 : Int).toNat, t376, 0))) else (none)) else (none)) else (none)) else (none)) = some (r1, r2, r3) := H
  have A6 := aM A60
  clear A60
  by_cases c7 : 0 ≤ a1
  ·rw [if_pos c7] at H
   have c7b0 := eq_true c7
   have c7b1 : decide (0 ≤ a1) = true := decide_eq_true c7
   clear c7
   by_cases c8 : a1 ≤ a2
   ·rw [if_pos c8] at H
    have c8b0 := eq_true c8
    have c8b1 : decide (a1 ≤ a2) = true := decide_eq_true c8
    clear c8
    by_cases c9 : a2 ≤ (a0_0.size : Int)
    ·rw [if_pos c9] at H
     have c9b0 := eq_true c9
     have c9b1 : decide (a2 ≤ (a0_0.size : Int)) = true := decide_eq_true c9
     clear c9
     have c10b0 := eq_true (of_decide_eq_true (by first | (with_reducible assumption) | assumption) : 0 ≤ a1)
     have c11b0 := eq_true (of_decide_eq_true (by first | (with_reducible assumption) | assumption) : a1 ≤ a2)
     by_cases c12 : a2 ≤ (t369.length : Int)
     ·rw [if_pos c12] at H
      have c12b0 := eq_true c12
      have c12b1 : decide (a2 ≤ (t369.length : Int)) = true := decide_eq_true c12
      clear c12
      obtain ⟨y372, hy372⟩ : ∃ y_ : List Int, y_ = ((t369.take (a2 : Int).toNat).drop (a1 : Int).toNat) := ⟨_, rfl⟩
      replace H : ((bureauref03_Pack.f k y372).bind fun t376 => (some (a0_0.extract (a1 : Int).toNat (a2 : Int).toNat, t376, 0))) = some (r1, r2, r3) := by first | (rw [hy372]; with_reducible exact H) | (have H2_ := (Option.bind_some _ _).symm.trans H; rw [hy372]; with_reducible exact H2_) | (have H2_ := (Option.bind_some _ _).symm.trans H; with_reducible exact H2_) | with_reducible exact H | (rw [hy372]; exact H) | exact H
      have Ny372 := aM hy372
      clear hy372
      replace H := Option.bind_eq_some_iff.mp H
      obtain ⟨t376, A130, H⟩ := H
      replace H : (some (a0_0.extract (a1 : Int).toNat (a2 : Int).toNat, t376, 0)) = some (r1, r2, r3) := H
      have A13 := aM A130
      clear A130
      simp only [Option.some.injEq, Prod.mk.injEq] at H
      obtain ⟨rfl, rfl, rfl⟩ := H
      go_enter Try.func33, Try.ntmps33
      try go_wp2_with (first | ((with_reducible refine gate_dst (N := 3) rfl ?_); refine box_event ?hg (N := 3) ?hd (cs := #[.string a0_0, .slice A0_1 l0_1.length c0_1]) (t := 24) ?hr ?_; (case hd | hg => rfl); (case hr => first | (go_simp; done) | (go_simp; rfl)); intro gb366 hg w14 hbox hb; have n0_ := aM (bP (ey HB.out) hb); have n1_ := aM (hbox); have n2_ := aM ((by rw [hg]; exact (bZ (ey HB.out)) : w.heap.size ≤ gb366)); have n3_ := n2_; clear HB; have HB := n0_; have BK366 := n1_; have GW366 := n2_; have GE366 := n3_; clear n0_ n1_ n2_ n3_; clear hb hbox hg) | ((with_reducible refine gate_dst (N := 6) rfl ?_); refine box_event ?hg (N := 6) ?hd (cs := #[.string (⟨#[]⟩ : ByteArray), .slice none 0 0]) (t := 24) ?hr ?_; (case hd | hg => rfl); (case hr => first | (go_simp; done) | (go_simp; rfl)); intro gb367 hg w15 hbox hb; have n0_ := aM (bB (g := gb366) (qy BK366.out) hb); have n1_ := aM (bP (by repeat (first | (with_reducible first | exact HB.out | apply ea | apply en | apply ed | refine es ?_ GE366.out) | exact HB.out)) hb); have n2_ := aM (hbox); have n3_ := aM ((by rw [hg]; exact (bZ (by repeat (first | (with_reducible first | exact HB.out | apply ea | apply en | apply ed | refine es ?_ GE366.out) | exact HB.out))) : w.heap.size ≤ gb367)); have n4_ := n3_; have n5_ := aM ((by rw [hg]; exact Nat.ne_of_lt (blk_lt (g := gb366) (qy BK366.out)) : gb366 ≠ gb367)); have n6_ := aM ((by rw [hg]; exact Nat.ne_of_gt (blk_lt (g := gb366) (qy BK366.out)) : gb367 ≠ gb366)); clear BK366 HB; have BK366 := n0_; have HB := n1_; have BK367 := n2_; have GW367 := n3_; have GE367 := n4_; have NB366_367 := n5_; have NB367_366 := n6_; clear n0_ n1_ n2_ n3_ n4_ n5_ n6_; clear hb hbox hg; have hnb16 := NB366_367.out; have hnc16 := NB367_366.out; have hcz17_0 : w15.cell? ⟨gb366, 0, none⟩ = some (.string a0_0) := (bC BK366.out 0).trans rfl; have hcz17_1 : w15.cell? ⟨gb366, 1, none⟩ = some (.slice A0_1 l0_1.length c0_1) := (bC BK366.out 1).trans rfl; have hfz17_0 := bF BK366.out 0; have hfz17_1 := bF BK366.out 1) | ((with_reducible refine gate_callee (f := 58) rfl ?_); refine goesL_ (some 12) rfl rfl Try.func58 (by kernel_rfl) rfl #[.agg #[.string a0_0, .slice A0_1 l0_1.length c0_1], .int .i64 a1, .int .i64 a2] rfl (by (try simp only [mT, mC, mN]); first | done | rfl | (simp only [lD, lT]; rfl)) ?_; (with_reducible refine (bureauref04_Within.calls k a0_0 _ _ l0_1 a1 a2 true _ ?side1 ?side2 A4.out).mono ?_); (case side1 => repeat (first | exact (cB_ HR0_1.out HB.out) | (with_reducible refine Kd.C_alloc ?_ _) | (with_reducible refine Kd.C_drewN ?_ _) | (with_reducible refine Kd.C_drew ?_))); (case side2 => exact HC0_1.out); rintro e w18 ⟨rfl, hb⟩; refine ⟨_, rfl, ?_⟩; have n0_ := aM (bB (g := gb366) (qy BK366.out) hb); have n1_ := aM (bB (g := gb367) (qy BK367.out) hb); have n2_ := aM (bP (by repeat (first | (with_reducible first | exact HB.out | apply ea | apply en | apply ed | refine es ?_ GE366.out | refine es ?_ GE367.out) | exact HB.out)) hb); clear BK366 BK367 HB; have BK366 := n0_; have BK367 := n1_; have HB := n2_; clear n0_ n1_ n2_; (try clear hb); (try clear hb2); (try clear hk); (try clear hi); have hcz19_0 : w18.cell? ⟨gb366, 0, none⟩ = some (.string a0_0) := (bC BK366.out 0).trans rfl; have hcz19_1 : w18.cell? ⟨gb366, 1, none⟩ = some (.slice A0_1 l0_1.length c0_1) := (bC BK366.out 1).trans rfl; have hfz19_0 := bF BK366.out 0; have hfz19_1 := bF BK366.out 1) | ((with_reducible refine gate_callee (f := 40) rfl ?_); refine goesL_ (some 17) rfl rfl Try.func40 (by kernel_rfl) rfl #[.slice A0_1 l0_1.length c0_1] rfl (by (try simp only [mT, mC, mN]); first | done | rfl | (simp only [lD, lT]; rfl)) ?_; (with_reducible refine (bureauref03_Bytes.calls k _ _ l0_1 t369 _ ?side1 ?side2 A6.out).mono ?_); (case side1 => repeat (first | exact (cB_ HR0_1.out HB.out) | (with_reducible refine Kd.C_alloc ?_ _) | (with_reducible refine Kd.C_drewN ?_ _) | (with_reducible refine Kd.C_drew ?_))); (case side2 => exact HC0_1.out); rintro e w20 ⟨v370, rfl, ho0, hb⟩; refine ⟨_, rfl, ?_⟩; have n0_ := aM (rL ho0 (bZ (by repeat (first | (with_reducible first | exact HB.out | apply ea | apply en | apply ed | refine es ?_ GE366.out | refine es ?_ GE367.out) | exact HB.out)))); have n1_ := aM (bB (g := gb366) (qy BK366.out) hb); have n2_ := aM (bB (g := gb367) (qy BK367.out) hb); have n3_ := aM (bP (by repeat (first | (with_reducible first | exact HB.out | apply ea | apply en | apply ed | refine es ?_ GE366.out | refine es ?_ GE367.out) | exact HB.out)) hb); clear BK366 BK367 HB; have HO371 := n0_; have BK366 := n1_; have BK367 := n2_; have HB := n3_; clear n0_ n1_ n2_ n3_; (try clear hb); (try clear hb2); (try clear hk); (try clear hi); (try clear ho0)))
      have n0_ := aM (Kd.R_drew HO371.out)
      have n1_ := aM (blk_drew BK366.out)
      have n2_ := aM (blk_drew BK367.out)
      have n3_ := aM (below_drew1 HB.out)
      clear HO371
      clear BK366
      clear BK367
      clear HB
      have HO371 := n0_
      have BK366 := n1_
      have BK367 := n2_
      have HB := n3_
      clear n0_ n1_ n2_ n3_
      obtain ⟨Ao23, co23, eo23⟩ := Kd.R_slice HO371.out
      (first | subst eo23 | (injection eo23 with f1_ f2_ f3_; have f4_ := f1_.symm; have f5_ := f3_.symm; clear f1_ f2_ f3_; subst f4_; subst f5_))
      have q22 : (a2 : Int) ≤ ((t369.length : Int) : Int) := of_decide_eq_true (by first | (with_reducible assumption) | assumption)
      obtain ⟨i022, hi022, _, hsz22, _⟩ := info_parts info26
      have hroom22 : t369.length ≤ co23 := (rR HO371.out).2.1
      have hC22 : Kd.C (Kd.int .u64) _ Ao23 t369.length t369 := (rR HO371.out).2.2
      have ql22 : (a1 : Int) ≤ (a2 : Int) := of_decide_eq_true (by first | (with_reducible assumption) | assumption)
      have q022 : (0 : Int) ≤ (a1 : Int) := of_decide_eq_true (by first | (with_reducible assumption) | assumption)
      have hcut22 := cut_mid (P := Try.prog) 80 26 .i64 .i64 Try.underlying80 hi022 1 hsz22 Ao23 t369.length co23 a1 a2 q022 ql22 q22 hroom22
      have hr22 := Kd.C_mid (lo := (a1 : Int).toNat) (hi := (a2 : Int).toNat) (c := co23) hC22 (by omega) (by omega) hroom22
      obtain ⟨A22, hA22⟩ : ∃ A1, A1 = (if co23 = (a1 : Int).toNat then Ao23 else (Ao23 : Option Addr).map (·.add ((a1 : Int).toNat * 1))) := ⟨_, rfl⟩
      obtain ⟨c22, hc22⟩ : ∃ c1, c1 = co23 - (a1 : Int).toNat := ⟨_, rfl⟩
      have hy22 : y372.length = (a2 : Int).toNat - (a1 : Int).toNat := (by rw [Ny372.out, lD, lT] <;> omega)
      rw [show ((t369).take (a2 : Int).toNat).drop (a1 : Int).toNat = y372 from Ny372.out.symm] at hr22
      replace hr22 : Kd.C (Kd.int .u64) _ A22 y372.length y372 := (by rw [hA22]; exact hr22)
      rw [← hy22, ← hA22, ← hc22] at hcut22
      have HR375 := aM hr22
      have HC375 := aM (show y372.length ≤ c22 from by rw [hy22, hc22]; exact Nat.sub_le_sub_right (Nat.le_trans (by omega) hroom22) _)
      clear hr22 hC22 hroom22 hi022 hsz22 hc22
      have KY22 := aM hy22
      have KA22 := aM hA22
      clear hy22 hA22
      have KL22 := aM (show (a2 : Int).toNat ≤ t369.length from by omega)
      have KM22 := aM (show (a1 : Int).toNat ≤ (a2 : Int).toNat from by omega)
      replace q22 := eq_true q22
      refine start_ (n := 13) (S := fun w' => w'.cell? ⟨gb366, 0, none⟩ = some (.string a0_0) ∧ w'.cell? ⟨gb366, 1, none⟩ = some (.slice A0_1 l0_1.length c0_1)) (ds := []) b0_ (by kernel_rfl) rfl rfl ⟨(bC BK366.out 0).trans rfl, (bC BK366.out 1).trans rfl⟩ (fun hHeld => ?_); refine with_tabW bureauref04_Cut.tab4 bureauref04_Cut.bits4 (fun HT_ HW_ => ?_)
      generalize w20.drew = w21 at HO371 BK366 BK367 HB HR375 hHeld ⊢
      refine pure_ (i := 0) (N := some 18) (v := ?_) (a' := ?_) b1_ rfl rfl (any_of HT_.out (by kernel_rfl)) (fun _ _ _ h => h) (Or.inl ⟨by rfl, ?_⟩) ?_ ?_
      rotate_left
      ·intro w'
       go_simp
       with_reducible rfl
      rotate_left
      ·simp only [Act.put, sA, sZ, sS, i64_w, i32_w]
       rfl
      refine pure_ (i := 2) (N := some 20) (v := ?_) (a' := ?_) b18_ rfl rfl (any_of HT_.out (by kernel_rfl)) (fun _ _ _ h => h) (Or.inl ⟨by rfl, ?_⟩) ?_ ?_
      rotate_left
      ·intro w'
       go_simp
       with_reducible rfl
      rotate_left
      ·simp only [Act.put, sA, sZ, sS, i64_w, i32_w]
       rfl
      refine pure_ (i := 3) (N := some 21) (v := ?_) (a' := ?_) b19_ rfl rfl (any_of HT_.out (by kernel_rfl)) (fun _ _ _ h => h) (Or.inl ⟨by rfl, ?_⟩) ?_ ?_
      rotate_left
      ·intro w'
       go_simp
       with_reducible rfl
      rotate_left
      ·simp only [Act.put, sA, sZ, sS, i64_w, i32_w]
       rfl
      refine pure_ (i := 5) (N := some 23) (v := ?_) (a' := ?_) b20_ rfl rfl (any_of HT_.out (by kernel_rfl)) (fun _ _ _ h => h) (Or.inl ⟨by rfl, ?_⟩) ?_ ?_
      rotate_left
      ·intro w'
       go_simp
       with_reducible rfl
      rotate_left
      ·simp only [Act.put, sA, sZ, sS, i64_w, i32_w]
       rfl
      refine pure_ (i := 6) (N := some 24) (v := ?_) (a' := ?_) b21_ rfl rfl (any_of HT_.out (by kernel_rfl)) (fun _ _ _ h => h) (Or.inl ⟨by rfl, ?_⟩) ?_ ?_
      rotate_left
      ·intro w'
       go_simp
       with_reducible rfl
      rotate_left
      ·simp only [Act.put, sA, sZ, sS, i64_w, i32_w]
       rfl
      refine pure_ (i := 7) (N := some 25) (v := ?_) (a' := ?_) b22_ rfl rfl (any_of HT_.out (by kernel_rfl)) (fun _ _ _ h => h) (Or.inl ⟨by rfl, ?_⟩) ?_ ?_
      rotate_left
      ·intro w'
       go_simp
       with_reducible rfl
      rotate_left
      ·simp only [Act.put, sA, sZ, sS, i64_w, i32_w]
       rfl
      refine pure_ (i := 8) (N := some 26) (v := ?_) (a' := ?_) b23_ rfl rfl (any_of HT_.out (by kernel_rfl)) (fun _ _ _ h => h) (Or.inl ⟨by rfl, ?_⟩) ?_ ?_
      rotate_left
      ·intro w'
       go_simp
       with_reducible rfl
      rotate_left
      ·simp only [Act.put, sA, sZ, sS, i64_w, i32_w]
       rfl
      refine take_ (i := 1) (N := some 19) (v := ?_) (a' := ?_) b24_ rfl rfl (take_ofW HT_.out HW_.out (by kernel_rfl)) (fun _ _ _ h => h) (Or.inl ⟨by rfl, ?_⟩) hHeld ?_ ?_
      rotate_left
      ·rintro w' ⟨s0, s1⟩
       go_simp
       with_reducible rfl
      rotate_left
      ·simp only [Act.put, sA, sZ, sS, i64_w, i32_w]
       rfl
      refine pure_ (i := 4) (N := some 22) (v := ?_) (a' := ?_) b17_ rfl rfl (any_of HT_.out (by kernel_rfl)) (fun _ _ _ h => h) (Or.inl ⟨by rfl, ?_⟩) ?_ ?_
      rotate_left
      ·intro w'
       go_simp
       with_reducible rfl
      rotate_left
      ·simp only [Act.put, sA, sZ, sS, i64_w, i32_w]
       rfl
      refine one_ (i := 9) (N := some 27) b10_ rfl rfl (one_of HT_.out (by kernel_rfl)) (by decide) (fun K hK => ?_)
      refine goes_ Try.func57 (by kernel_rfl) rfl #[.slice A22 y372.length c22] (by rfl) rfl rfl (by (try simp only [mT, mC, mN]); first | done | rfl | (simp only [lD, lT]; rfl)) ?_
      with_reducible refine (bureauref03_Pack.calls k _ _ y372 t376 _ ?side1 ?side2 A13.out).mono ?_
      (case side1 => repeat (first | exact (by repeat (first | (with_reducible exact HR375.out) | (with_reducible refine Kd.C_alloc ?_ _) | (with_reducible refine Kd.C_drewN ?_ _) | (with_reducible refine Kd.C_drew ?_) | exact HR375.out)) | (with_reducible refine Kd.C_alloc ?_ _) | (with_reducible refine Kd.C_drewN ?_ _) | (with_reducible refine Kd.C_drew ?_)))
      (case side2 => exact HC375.out)
      rintro e w24 ⟨v377, rfl, ho0, hb⟩
      refine ⟨_, rfl, ?_⟩
      have n0_ := aM (Kd.R_below (ry HO371.out) hb)
      have n1_ := aM (rL ho0 (bZ (by repeat (first | (with_reducible first | exact HB.out | apply ea | apply en | apply ed | refine es ?_ GE366.out | refine es ?_ GE367.out) | exact HB.out))))
      have n2_ := aM (bB (g := gb366) (qy BK366.out) hb)
      have n3_ := aM (bB (g := gb367) (qy BK367.out) hb)
      have n4_ := aM (cB_ (by repeat (first | (with_reducible exact HR375.out) | (with_reducible refine Kd.C_alloc ?_ _) | (with_reducible refine Kd.C_drewN ?_ _) | (with_reducible refine Kd.C_drew ?_) | exact HR375.out)) hb)
      have n5_ := aM (bP (by repeat (first | (with_reducible first | exact HB.out | apply ea | apply en | apply ed | refine es ?_ GE366.out | refine es ?_ GE367.out) | exact HB.out)) hb)
      clear HO371
      clear BK366
      clear BK367
      clear HR375
      clear HB
      have HO371 := n0_
      have HO378 := n1_
      have BK366 := n2_
      have BK367 := n3_
      have HR375 := n4_
      have HB := n5_
      clear n0_ n1_ n2_ n3_ n4_ n5_
      (try clear hb)
      (try clear hb2)
      (try clear hk)
      (try clear hi)
      (try clear ho0)
      obtain ⟨Ao25, co25, eo25⟩ := Kd.R_slice HO378.out
      (first | subst eo25 | (injection eo25 with f1_ f2_ f3_; have f4_ := f1_.symm; have f5_ := f3_.symm; clear f1_ f2_ f3_; subst f4_; subst f5_))
      refine hK.out _ _ ⟨(bC BK366.out 0).trans rfl, (bC BK366.out 1).trans rfl⟩ (fun hHeld => ?_)
      clear hK K
      refine norm_ (a' := ?_) ?_ ?_
      rotate_left
      ·show Act.put _ (some 27) _ = _
       simp only [Act.put, sA, sZ, sS, i64_w, i32_w]
       rfl
      refine pure_ (i := 10) (N := some 28) (v := ?_) (a' := ?_) b11_ rfl rfl (any_of HT_.out (by kernel_rfl)) (fun _ _ _ h => h) (Or.inl ⟨by rfl, ?_⟩) ?_ ?_
      rotate_left
      ·intro w'
       go_simp
       with_reducible rfl
      rotate_left
      ·simp only [Act.put, sA, sZ, sS, i64_w, i32_w]
       rfl
      refine one_ (i := 11) (N := none) b12_ rfl rfl (one_of HT_.out (by kernel_rfl)) (by decide) (fun K hK => ?_)
      have hs26 : w24.cell? ⟨gb367, 0, none⟩ = some (.string (⟨#[]⟩ : ByteArray)) := (bC BK367.out 0).trans rfl
      have hfs26 := bF BK367.out 0
      have hns26_0 := NB366_367.out
      have hms26_0 := NB367_366.out
      have hs27 : w24.cell? ⟨gb367, 1, none⟩ = some (.slice none 0 0) := (bC BK367.out 1).trans rfl
      have hfs27 := bF BK367.out 1
      have hns27_0 := NB366_367.out
      have hms27_0 := NB367_366.out
      refine skip_ (w1 := ?_) (by rfl) rfl ?_ ?_
      rotate_left
      ·go_simp
       rfl
      refine hK.out _ _ ⟨((cell_far (p := ⟨gb367, _, none⟩) NB366_367.out _).trans (((cell_far (p := ⟨gb367, _, none⟩) NB366_367.out _).trans (hHeld.1)))), ((cell_far (p := ⟨gb367, _, none⟩) NB366_367.out _).trans (((cell_far (p := ⟨gb367, _, none⟩) NB366_367.out _).trans (hHeld.2))))⟩ (fun hHeld => ?_)
      clear hK K
      refine pure_ (i := 12) (N := some 7) (v := ?_) (a' := ?_) b13_ rfl rfl (any_of HT_.out (by kernel_rfl)) (fun _ _ _ h => h) (Or.inl ⟨by rfl, ?_⟩) ?_ ?_
      rotate_left
      ·intro w'
       go_simp
       with_reducible rfl
      rotate_left
      ·simp only [Act.put, sA, sZ, sS, i64_w, i32_w]
       rfl
      refine done_ (done_of HT_.out (by kernel_rfl)) ?_
      try go_wp2
      refine bodyPost_ret (results_ct rfl _ _ gb367 24 #[.string (a0_0.extract (a1 : Int).toNat (a2 : Int).toNat), .slice Ao25 t376.length co25] (0, 0) _ rfl (by (with_reducible repeat (first | apply qn | apply qd | apply qa)); refine bU (cs := #[.string (a0_0.extract (a1 : Int).toNat (a2 : Int).toNat), .slice none 0 0]) ?_ 1 _ rfl; (with_reducible repeat (first | apply qn | apply qd | apply qa)); refine bU (cs := #[.string (⟨#[]⟩ : ByteArray), .slice none 0 0]) ?_ 0 _ rfl; exact qy BK367.out) Try.underlying24 rfl (by kernel_rfl)) rfl ?_
      exact ⟨_, by first | rfl | (simp [errW_none, errW_some] <;> rfl) | (simp [*, errW_none, errW_some] <;> rfl), by (with_reducible repeat (first | apply ra | apply rn | apply rd_)); exact rM (rF (p := ⟨gb367, 1, none⟩) (rF (p := ⟨gb367, 0, none⟩) (rT HO378.out BK367.out (by decide)) (fun _ hk => hk.2) (.string (a0_0.extract (a1 : Int).toNat (a2 : Int).toNat))) (fun _ hk => hk.2) (.slice Ao25 t376.length co25)) (fun _ hk => trivial), by repeat (first | (with_reducible first | exact HB.out | apply ea | apply en | apply ed | refine es ?_ GE366.out | refine es ?_ GE367.out) | exact HB.out)⟩
     ·rw [if_neg c12] at H
      exact absurd H (by simp)
    ·rw [if_neg c9] at H
     exact absurd H (by simp)
   ·rw [if_neg c8] at H
    exact absurd H (by simp)
  ·rw [if_neg c7] at H
   exact absurd H (by simp)
 ·replace c5 := Bool.eq_false_iff.mpr c5
  subst c5
  have H1 : (some ((⟨#[]⟩ : ByteArray), ([] : List (S51)), 2)) = some (r1, r2, r3) := by rw [if_neg (show ¬ (false = true) by decide)] at H; exact H
  clear H
  have H := H1
  clear H1
  simp only [Option.some.injEq, Prod.mk.injEq] at H
  obtain ⟨rfl, rfl, rfl⟩ := H
  go_enter Try.func33, Try.ntmps33
  go_wp2_with (first | ((with_reducible refine gate_dst (N := 3) rfl ?_); refine box_event ?hg (N := 3) ?hd (cs := #[.string a0_0, .slice A0_1 l0_1.length c0_1]) (t := 24) ?hr ?_; (case hd | hg => rfl); (case hr => first | (go_simp; done) | (go_simp; rfl)); intro gb366 hg w28 hbox hb; have n0_ := aM (bP (ey HB.out) hb); have n1_ := aM (hbox); have n2_ := aM ((by rw [hg]; exact (bZ (ey HB.out)) : w.heap.size ≤ gb366)); have n3_ := n2_; clear HB; have HB := n0_; have BK366 := n1_; have GW366 := n2_; have GE366 := n3_; clear n0_ n1_ n2_ n3_; clear hb hbox hg) | ((with_reducible refine gate_dst (N := 6) rfl ?_); refine box_event ?hg (N := 6) ?hd (cs := #[.string (⟨#[]⟩ : ByteArray), .slice none 0 0]) (t := 24) ?hr ?_; (case hd | hg => rfl); (case hr => first | (go_simp; done) | (go_simp; rfl)); intro gb367 hg w29 hbox hb; have n0_ := aM (bB (g := gb366) (qy BK366.out) hb); have n1_ := aM (bP (by repeat (first | (with_reducible first | exact HB.out | apply ea | apply en | apply ed | refine es ?_ GE366.out) | exact HB.out)) hb); have n2_ := aM (hbox); have n3_ := aM ((by rw [hg]; exact (bZ (by repeat (first | (with_reducible first | exact HB.out | apply ea | apply en | apply ed | refine es ?_ GE366.out) | exact HB.out))) : w.heap.size ≤ gb367)); have n4_ := n3_; have n5_ := aM ((by rw [hg]; exact Nat.ne_of_lt (blk_lt (g := gb366) (qy BK366.out)) : gb366 ≠ gb367)); have n6_ := aM ((by rw [hg]; exact Nat.ne_of_gt (blk_lt (g := gb366) (qy BK366.out)) : gb367 ≠ gb366)); clear BK366 HB; have BK366 := n0_; have HB := n1_; have BK367 := n2_; have GW367 := n3_; have GE367 := n4_; have NB366_367 := n5_; have NB367_366 := n6_; clear n0_ n1_ n2_ n3_ n4_ n5_ n6_; clear hb hbox hg; have hnb30 := NB366_367.out; have hnc30 := NB367_366.out; have hcz31_0 : w29.cell? ⟨gb366, 0, none⟩ = some (.string a0_0) := (bC BK366.out 0).trans rfl; have hcz31_1 : w29.cell? ⟨gb366, 1, none⟩ = some (.slice A0_1 l0_1.length c0_1) := (bC BK366.out 1).trans rfl; have hfz31_0 := bF BK366.out 0; have hfz31_1 := bF BK366.out 1) | ((with_reducible refine gate_callee (f := 58) rfl ?_); refine goesL_ (some 12) rfl rfl Try.func58 (by kernel_rfl) rfl #[.agg #[.string a0_0, .slice A0_1 l0_1.length c0_1], .int .i64 a1, .int .i64 a2] rfl (by (try simp only [mT, mC, mN]); first | done | rfl | (simp only [lD, lT]; rfl)) ?_; (with_reducible refine (bureauref04_Within.calls k a0_0 _ _ l0_1 a1 a2 false _ ?side1 ?side2 A4.out).mono ?_); (case side1 => repeat (first | exact (cB_ HR0_1.out HB.out) | (with_reducible refine Kd.C_alloc ?_ _) | (with_reducible refine Kd.C_drewN ?_ _) | (with_reducible refine Kd.C_drew ?_))); (case side2 => exact HC0_1.out); rintro e w32 ⟨rfl, hb⟩; refine ⟨_, rfl, ?_⟩; have n0_ := aM (bB (g := gb366) (qy BK366.out) hb); have n1_ := aM (bB (g := gb367) (qy BK367.out) hb); have n2_ := aM (bP (by repeat (first | (with_reducible first | exact HB.out | apply ea | apply en | apply ed | refine es ?_ GE366.out | refine es ?_ GE367.out) | exact HB.out)) hb); clear BK366 BK367 HB; have BK366 := n0_; have BK367 := n1_; have HB := n2_; clear n0_ n1_ n2_; (try clear hb); (try clear hb2); (try clear hk); (try clear hi); have hcz33_0 : w32.cell? ⟨gb367, 0, none⟩ = some (.string (⟨#[]⟩ : ByteArray)) := (bC BK367.out 0).trans rfl; have hcz33_1 : w32.cell? ⟨gb367, 1, none⟩ = some (.slice none 0 0) := (bC BK367.out 1).trans rfl; have hfz33_0 := bF BK367.out 0; have hfz33_1 := bF BK367.out 1))
  refine bodyPost_ret (results_ct rfl _ _ gb367 24 #[.string (⟨#[]⟩ : ByteArray), .slice none 0 0] (0, 0) _ rfl (by (with_reducible repeat (first | apply qn | apply qd | apply qa)); refine bU (cs := #[.string (⟨#[]⟩ : ByteArray), .slice none 0 0]) ?_ 1 _ rfl; (with_reducible repeat (first | apply qn | apply qd | apply qa)); refine bU (cs := #[.string (⟨#[]⟩ : ByteArray), .slice none 0 0]) ?_ 0 _ rfl; exact qy BK367.out) Try.underlying24 rfl (by kernel_rfl)) rfl ?_
  exact ⟨_, by first | rfl | (simp [errW_none, errW_some] <;> rfl) | (simp [*, errW_none, errW_some] <;> rfl), by first | exact Kd.R_nil _ _ _ _ _ | exact Kd.N_nil _ _ _ _ _ | exact Kd.V_nil _ _ _ _ _ | exact Kd.Q_nil _ _ _ _ _ | exact Kd.S_nil _ _ _ _ _, by repeat (first | (with_reducible first | exact HB.out | apply ea | apply en | apply ed | refine es ?_ GE366.out | refine es ?_ GE367.out) | exact HB.out)⟩
end Go.Proofs.Ytnbdldpjiofafaa.PB
end

section
namespace Go.Proofs.Ytnbdldpjiofafaa.PB
open Go.RowKit Go.Proofs.YtnbdldpjiofafaaW.PrintWords Go.Proofs.YtnbdldpjiofafaaW.PrintLast Go.Proofs.YtnbdldpjiofafaaW.PrintMore
attribute [local go_sem] max2_int min2_int max_two min_two max_three min_three max_four min_four   
set_option linter.unusedVariables false
set_option linter.unusedSimpArgs false
def bureauref04_Same.f (k : Nat) (a0_0 : ByteArray) (l0_1 : List (S51)) (a1_0 : ByteArray) (l1_1 : List (S51)) : Option (Bool) := if a0_0.toList = a1_0.toList then ((bureauref03_Same.f k l0_1 l1_1).bind fun t460 => (some t460)) else (some false)
set_option maxHeartbeats 8000000 in
set_option maxRecDepth 100000 in
theorem bureauref04_Same.calls (k : Nat) (a0_0 : ByteArray) (A0_1 : Option Addr) (c0_1 : Nat) (l0_1 : List (S51)) (a1_0 : ByteArray) (A1_1 : Option Addr) (c1_1 : Nat) (l1_1 : List (S51)) (r : Bool) (w : World) (hr0_1 : Kd.C k51 w A0_1 l0_1.length l0_1) (hc0_1 : l0_1.length ≤ c0_1) (hr1_1 : Kd.C k51 w A1_1 l1_1.length l1_1) (hc1_1 : l1_1.length ≤ c1_1) (h : bureauref04_Same.f k a0_0 l0_1 a1_0 l1_1 = some r) :
  Calls Try.prog 36 #[.agg #[.string a0_0, .slice A0_1 l0_1.length c0_1], .agg #[.string a1_0, .slice A1_1 l1_1.length c1_1]] w fun e w' => e = .returned (.bool r) ∧ Below w.heap.size w w' := by
 have hu24 := Try.underlying24
 have HR0_1 := aM hr0_1
 have HC0_1 := aM hc0_1
 clear hr0_1 hc0_1
 have HR1_1 := aM hr1_1
 have HC1_1 := aM hc1_1
 clear hr1_1 hc1_1
 have HB := aM (Below.refl w.heap.size w)
 have H : (if a0_0.toList = a1_0.toList then ((bureauref03_Same.f k l0_1 l1_1).bind fun t460 => (some t460)) else (some false)) = some r := h
 clear h
 by_cases c3 : a0_0.toList = a1_0.toList
 ·rw [if_pos c3] at H
  have c3b0 : (a0_0.toList == a1_0.toList) = true := beq_iff_eq.mpr c3
  have c3b1 : (a0_0.toList != a1_0.toList) = false := bne_eq_false_iff_eq.mpr c3
  clear c3
  replace H := Option.bind_eq_some_iff.mp H
  obtain ⟨t460, A40, H⟩ := H
  replace H : (some t460) = some r := H
  have A4 := aM A40
  clear A40
  obtain rfl := Option.some.inj H
  go_enter Try.func36, Try.ntmps36
  go_wp2_with (first | ((with_reducible refine gate_dst (N := 2) rfl ?_); refine box_event ?hg (N := 2) ?hd (cs := #[.string a0_0, .slice A0_1 l0_1.length c0_1]) (t := 24) ?hr ?_; (case hd | hg => rfl); (case hr => first | (go_simp; done) | (go_simp; rfl)); intro gb458 hg w5 hbox hb; have n0_ := aM (bP (ey HB.out) hb); have n1_ := aM (hbox); have n2_ := aM ((by rw [hg]; exact (bZ (ey HB.out)) : w.heap.size ≤ gb458)); have n3_ := n2_; clear HB; have HB := n0_; have BK458 := n1_; have GW458 := n2_; have GE458 := n3_; clear n0_ n1_ n2_ n3_; clear hb hbox hg) | ((with_reducible refine gate_dst (N := 3) rfl ?_); refine box_event ?hg (N := 3) ?hd (cs := #[.string a1_0, .slice A1_1 l1_1.length c1_1]) (t := 24) ?hr ?_; (case hd | hg => rfl); (case hr => first | (go_simp; done) | (go_simp; rfl)); intro gb459 hg w6 hbox hb; have n0_ := aM (bB (g := gb458) (qy BK458.out) hb); have n1_ := aM (bP (by repeat (first | (with_reducible first | exact HB.out | apply ea | apply en | apply ed | refine es ?_ GE458.out) | exact HB.out)) hb); have n2_ := aM (hbox); have n3_ := aM ((by rw [hg]; exact (bZ (by repeat (first | (with_reducible first | exact HB.out | apply ea | apply en | apply ed | refine es ?_ GE458.out) | exact HB.out))) : w.heap.size ≤ gb459)); have n4_ := n3_; have n5_ := aM ((by rw [hg]; exact Nat.ne_of_lt (blk_lt (g := gb458) (qy BK458.out)) : gb458 ≠ gb459)); have n6_ := aM ((by rw [hg]; exact Nat.ne_of_gt (blk_lt (g := gb458) (qy BK458.out)) : gb459 ≠ gb458)); clear BK458 HB; have BK458 := n0_; have HB := n1_; have BK459 := n2_; have GW459 := n3_; have GE459 := n4_; have NB458_459 := n5_; have NB459_458 := n6_; clear n0_ n1_ n2_ n3_ n4_ n5_ n6_; clear hb hbox hg; have hnb7 := NB458_459.out; have hnc7 := NB459_458.out; have hcz8_0 : w6.cell? ⟨gb458, 0, none⟩ = some (.string a0_0) := (bC BK458.out 0).trans rfl; have hcz8_1 : w6.cell? ⟨gb458, 1, none⟩ = some (.slice A0_1 l0_1.length c0_1) := (bC BK458.out 1).trans rfl; have hfz8_0 := bF BK458.out 0; have hfz8_1 := bF BK458.out 1; have hcz9_0 : w6.cell? ⟨gb459, 0, none⟩ = some (.string a1_0) := (bC BK459.out 0).trans rfl; have hcz9_1 : w6.cell? ⟨gb459, 1, none⟩ = some (.slice A1_1 l1_1.length c1_1) := (bC BK459.out 1).trans rfl; have hfz9_0 := bF BK459.out 0; have hfz9_1 := bF BK459.out 1) | (go_at_call 42; (with_reducible refine (bureauref03_Same.calls k _ _ l0_1 _ _ l1_1 t460 _ ?side1 ?side2 ?side3 ?side4 A4.out).mono ?_); (case side1 => repeat (first | exact (cB_ HR0_1.out HB.out) | (with_reducible refine Kd.C_alloc ?_ _) | (with_reducible refine Kd.C_drewN ?_ _) | (with_reducible refine Kd.C_drew ?_))); (case side2 => exact HC0_1.out); (case side3 => repeat (first | exact (cB_ HR1_1.out HB.out) | (with_reducible refine Kd.C_alloc ?_ _) | (with_reducible refine Kd.C_drewN ?_ _) | (with_reducible refine Kd.C_drew ?_))); (case side4 => exact HC1_1.out); rintro e w' ⟨rfl, ⟨nd, rfl⟩⟩))
  go_ret
  exact ⟨by first | rfl | (simp [errW_none, errW_some] <;> rfl) | (simp [*, errW_none, errW_some] <;> rfl), by repeat (first | (with_reducible first | exact HB.out | apply ea | apply en | apply ed | refine es ?_ GE458.out | refine es ?_ GE459.out) | exact HB.out)⟩
 ·rw [if_neg c3] at H
  have c3b0 : (a0_0.toList == a1_0.toList) = false := beq_eq_false_iff_ne.mpr c3
  have c3b1 : (a0_0.toList != a1_0.toList) = true := bne_iff_ne.mpr c3
  obtain rfl := Option.some.inj H
  go_enter Try.func36, Try.ntmps36
  go_wp2_with (first | ((with_reducible refine gate_dst (N := 2) rfl ?_); refine box_event ?hg (N := 2) ?hd (cs := #[.string a0_0, .slice A0_1 l0_1.length c0_1]) (t := 24) ?hr ?_; (case hd | hg => rfl); (case hr => first | (go_simp; done) | (go_simp; rfl)); intro gb458 hg w10 hbox hb; have n0_ := aM (bP (ey HB.out) hb); have n1_ := aM (hbox); have n2_ := aM ((by rw [hg]; exact (bZ (ey HB.out)) : w.heap.size ≤ gb458)); have n3_ := n2_; clear HB; have HB := n0_; have BK458 := n1_; have GW458 := n2_; have GE458 := n3_; clear n0_ n1_ n2_ n3_; clear hb hbox hg) | ((with_reducible refine gate_dst (N := 3) rfl ?_); refine box_event ?hg (N := 3) ?hd (cs := #[.string a1_0, .slice A1_1 l1_1.length c1_1]) (t := 24) ?hr ?_; (case hd | hg => rfl); (case hr => first | (go_simp; done) | (go_simp; rfl)); intro gb459 hg w11 hbox hb; have n0_ := aM (bB (g := gb458) (qy BK458.out) hb); have n1_ := aM (bP (by repeat (first | (with_reducible first | exact HB.out | apply ea | apply en | apply ed | refine es ?_ GE458.out) | exact HB.out)) hb); have n2_ := aM (hbox); have n3_ := aM ((by rw [hg]; exact (bZ (by repeat (first | (with_reducible first | exact HB.out | apply ea | apply en | apply ed | refine es ?_ GE458.out) | exact HB.out))) : w.heap.size ≤ gb459)); have n4_ := n3_; have n5_ := aM ((by rw [hg]; exact Nat.ne_of_lt (blk_lt (g := gb458) (qy BK458.out)) : gb458 ≠ gb459)); have n6_ := aM ((by rw [hg]; exact Nat.ne_of_gt (blk_lt (g := gb458) (qy BK458.out)) : gb459 ≠ gb458)); clear BK458 HB; have BK458 := n0_; have HB := n1_; have BK459 := n2_; have GW459 := n3_; have GE459 := n4_; have NB458_459 := n5_; have NB459_458 := n6_; clear n0_ n1_ n2_ n3_ n4_ n5_ n6_; clear hb hbox hg; have hnb12 := NB458_459.out; have hnc12 := NB459_458.out; have hcz13_0 : w11.cell? ⟨gb458, 0, none⟩ = some (.string a0_0) := (bC BK458.out 0).trans rfl; have hcz13_1 : w11.cell? ⟨gb458, 1, none⟩ = some (.slice A0_1 l0_1.length c0_1) := (bC BK458.out 1).trans rfl; have hfz13_0 := bF BK458.out 0; have hfz13_1 := bF BK458.out 1; have hcz14_0 : w11.cell? ⟨gb459, 0, none⟩ = some (.string a1_0) := (bC BK459.out 0).trans rfl; have hcz14_1 : w11.cell? ⟨gb459, 1, none⟩ = some (.slice A1_1 l1_1.length c1_1) := (bC BK459.out 1).trans rfl; have hfz14_0 := bF BK459.out 0; have hfz14_1 := bF BK459.out 1))
  go_ret
  exact ⟨by first | rfl | (simp [errW_none, errW_some] <;> rfl) | (simp [*, errW_none, errW_some] <;> rfl), by repeat (first | (with_reducible first | exact HB.out | apply ea | apply en | apply ed | refine es ?_ GE458.out | refine es ?_ GE459.out) | exact HB.out)⟩
end Go.Proofs.Ytnbdldpjiofafaa.PB
end

section
namespace Go.Proofs.Ytnbdldpjiofafaa.PB
open Go.RowKit Go.Proofs.YtnbdldpjiofafaaW.PrintWords Go.Proofs.YtnbdldpjiofafaaW.PrintLast Go.Proofs.YtnbdldpjiofafaaW.PrintMore
attribute [local go_sem] max2_int min2_int max_two min_two max_three min_three max_four min_four   
set_option linter.unusedVariables false
set_option linter.unusedSimpArgs false
def bureauref07_Good.f (k : Nat) (a0_0 : Int) (a0_1 : ByteArray) (l0_2 : List (S51)) (a0_3 : ByteArray) (l0_4 : List (S51)) : Option (Bool) := (bureauref04_Good.f k a0_1 l0_2).bind fun t500 => (if t500 = true then ((bureauref04_Good.f k a0_3 l0_4).bind fun t501 => (if t501 = true then (if a0_0 ≥ 0 then (some (decide (a0_0 ≤ 4096))) else (some false)) else (some false))) else (some false))
set_option maxHeartbeats 8000000 in
set_option maxRecDepth 100000 in
theorem bureauref07_Good.calls (k : Nat) (a0_0 : Int) (a0_1 : ByteArray) (A0_2 : Option Addr) (c0_2 : Nat) (l0_2 : List (S51)) (a0_3 : ByteArray) (A0_4 : Option Addr) (c0_4 : Nat) (l0_4 : List (S51)) (r : Bool) (w : World) (hr0_2 : Kd.C k51 w A0_2 l0_2.length l0_2) (hc0_2 : l0_2.length ≤ c0_2) (hr0_4 : Kd.C k51 w A0_4 l0_4.length l0_4) (hc0_4 : l0_4.length ≤ c0_4) (h : bureauref07_Good.f k a0_0 a0_1 l0_2 a0_3 l0_4 = some r) :
  Calls Try.prog 59 #[.agg #[.int .i64 a0_0, .string a0_1, .slice A0_2 l0_2.length c0_2, .string a0_3, .slice A0_4 l0_4.length c0_4]] w fun e w' => e = .returned (.bool r) ∧ Below w.heap.size w w' := by
 have hu32 := Try.underlying32
 have hu24 := Try.underlying24
 have HR0_2 := aM hr0_2
 have HC0_2 := aM hc0_2
 clear hr0_2 hc0_2
 have HR0_4 := aM hr0_4
 have HC0_4 := aM hc0_4
 clear hr0_4 hc0_4
 have HB := aM (Below.refl w.heap.size w)
 have H : ((bureauref04_Good.f k a0_1 l0_2).bind fun t500 => (if t500 = true then ((bureauref04_Good.f k a0_3 l0_4).bind fun t501 => (if t501 = true then (if a0_0 ≥ 0 then (some (decide (a0_0 ≤ 4096))) else (some false)) else (some false))) else (some false))) = some r := h
 clear h
 replace H := Option.bind_eq_some_iff.mp H
 obtain ⟨t500, A20, H⟩ := H
 replace H : (if t500 = true then ((bureauref04_Good.f k a0_3 l0_4).bind fun t501 => (if t501 = true then (if a0_0 ≥ 0 then (some (decide (a0_0 ≤ 4096))) else (some false)) else (some false))) else (some false)) = some r := H
 have A2 := aM A20
 clear A20
 by_cases c3 : t500 = true
 ·subst c3
  have H1 : ((bureauref04_Good.f k a0_3 l0_4).bind fun t501 => (if t501 = true then (if a0_0 ≥ 0 then (some (decide (a0_0 ≤ 4096))) else (some false)) else (some false))) = some r := by rw [if_pos rfl] at H; exact H
  clear H
  have H := H1
  clear H1
  replace H := Option.bind_eq_some_iff.mp H
  obtain ⟨t501, A40, H⟩ := H
  replace H : (if t501 = true then (if a0_0 ≥ 0 then (some (decide (a0_0 ≤ 4096))) else (some false)) else (some false)) = some r := H
  have A4 := aM A40
  clear A40
  by_cases c5 : t501 = true
  ·subst c5
   have H1 : (if a0_0 ≥ 0 then (some (decide (a0_0 ≤ 4096))) else (some false)) = some r := by rw [if_pos rfl] at H; exact H
   clear H
   have H := H1
   clear H1
   by_cases c6 : a0_0 ≥ 0
   ·rw [if_pos c6] at H
    have c6b0 : decide (0 ≤ a0_0) = true := decide_eq_true c6
    clear c6
    obtain rfl := Option.some.inj H
    go_enter Try.func59, Try.ntmps59
    go_wp2_with (first | ((with_reducible refine gate_dst (N := 1) rfl ?_); refine box_event ?hg (N := 1) ?hd (cs := #[.int .i64 a0_0, .string a0_1, .slice A0_2 l0_2.length c0_2, .string a0_3, .slice A0_4 l0_4.length c0_4]) (t := 32) ?hr ?_; (case hd | hg => rfl); (case hr => first | (go_simp; done) | (go_simp; rfl)); intro gb499 hg w7 hbox hb; have n0_ := aM (bP (ey HB.out) hb); have n1_ := aM (hbox); have n2_ := aM ((by rw [hg]; exact (bZ (ey HB.out)) : w.heap.size ≤ gb499)); have n3_ := n2_; clear HB; have HB := n0_; have BK499 := n1_; have GW499 := n2_; have GE499 := n3_; clear n0_ n1_ n2_ n3_; clear hb hbox hg; have hcz8_0 : w7.cell? ⟨gb499, 0, none⟩ = some (.int .i64 a0_0) := (bC BK499.out 0).trans rfl; have hcz8_1 : w7.cell? ⟨gb499, 1, none⟩ = some (.string a0_1) := (bC BK499.out 1).trans rfl; have hcz8_2 : w7.cell? ⟨gb499, 2, none⟩ = some (.slice A0_2 l0_2.length c0_2) := (bC BK499.out 2).trans rfl; have hcz8_3 : w7.cell? ⟨gb499, 3, none⟩ = some (.string a0_3) := (bC BK499.out 3).trans rfl; have hcz8_4 : w7.cell? ⟨gb499, 4, none⟩ = some (.slice A0_4 l0_4.length c0_4) := (bC BK499.out 4).trans rfl; have hfz8_0 := bF BK499.out 0; have hfz8_1 := bF BK499.out 1; have hfz8_2 := bF BK499.out 2; have hfz8_3 := bF BK499.out 3; have hfz8_4 := bF BK499.out 4) | ((with_reducible refine gate_callee (f := 39) rfl ?_); refine goesL_ (some 5) rfl rfl Try.func39 (by kernel_rfl) rfl #[.agg #[.string a0_1, .slice A0_2 l0_2.length c0_2]] rfl (by (try simp only [mT, mC, mN]); first | done | rfl | (simp only [lD, lT]; rfl)) ?_; (with_reducible refine (bureauref04_Good.calls k a0_1 _ _ l0_2 true _ ?side1 ?side2 A2.out).mono ?_); (case side1 => repeat (first | exact (cB_ HR0_2.out HB.out) | (with_reducible refine Kd.C_alloc ?_ _) | (with_reducible refine Kd.C_drewN ?_ _) | (with_reducible refine Kd.C_drew ?_))); (case side2 => exact HC0_2.out); rintro e w9 ⟨rfl, hb⟩; refine ⟨_, rfl, ?_⟩; have n0_ := aM (bB (g := gb499) (qy BK499.out) hb); have n1_ := aM (bP (by repeat (first | (with_reducible first | exact HB.out | apply ea | apply en | apply ed | refine es ?_ GE499.out) | exact HB.out)) hb); clear BK499 HB; have BK499 := n0_; have HB := n1_; clear n0_ n1_; (try clear hb); (try clear hb2); (try clear hk); (try clear hi); have hcz10_0 : w9.cell? ⟨gb499, 0, none⟩ = some (.int .i64 a0_0) := (bC BK499.out 0).trans rfl; have hcz10_1 : w9.cell? ⟨gb499, 1, none⟩ = some (.string a0_1) := (bC BK499.out 1).trans rfl; have hcz10_2 : w9.cell? ⟨gb499, 2, none⟩ = some (.slice A0_2 l0_2.length c0_2) := (bC BK499.out 2).trans rfl; have hcz10_3 : w9.cell? ⟨gb499, 3, none⟩ = some (.string a0_3) := (bC BK499.out 3).trans rfl; have hcz10_4 : w9.cell? ⟨gb499, 4, none⟩ = some (.slice A0_4 l0_4.length c0_4) := (bC BK499.out 4).trans rfl; have hfz10_0 := bF BK499.out 0; have hfz10_1 := bF BK499.out 1; have hfz10_2 := bF BK499.out 2; have hfz10_3 := bF BK499.out 3; have hfz10_4 := bF BK499.out 4) | (go_at_call 39; (with_reducible refine (bureauref04_Good.calls k a0_3 _ _ l0_4 true _ ?side1 ?side2 A4.out).mono ?_); (case side1 => repeat (first | exact (cB_ HR0_4.out HB.out) | (with_reducible refine Kd.C_alloc ?_ _) | (with_reducible refine Kd.C_drewN ?_ _) | (with_reducible refine Kd.C_drew ?_))); (case side2 => exact HC0_4.out); rintro e w11 ⟨rfl, hb⟩; have n0_ := aM (bB (g := gb499) (qy BK499.out) hb); have n1_ := aM (bP (by repeat (first | (with_reducible first | exact HB.out | apply ea | apply en | apply ed | refine es ?_ GE499.out) | exact HB.out)) hb); clear BK499 HB; have BK499 := n0_; have HB := n1_; clear n0_ n1_; (try clear hb); (try clear hb2); (try clear hk); (try clear hi); have hcz12_0 : w11.cell? ⟨gb499, 0, none⟩ = some (.int .i64 a0_0) := (bC BK499.out 0).trans rfl; have hcz12_1 : w11.cell? ⟨gb499, 1, none⟩ = some (.string a0_1) := (bC BK499.out 1).trans rfl; have hcz12_2 : w11.cell? ⟨gb499, 2, none⟩ = some (.slice A0_2 l0_2.length c0_2) := (bC BK499.out 2).trans rfl; have hcz12_3 : w11.cell? ⟨gb499, 3, none⟩ = some (.string a0_3) := (bC BK499.out 3).trans rfl; have hcz12_4 : w11.cell? ⟨gb499, 4, none⟩ = some (.slice A0_4 l0_4.length c0_4) := (bC BK499.out 4).trans rfl; have hfz12_0 := bF BK499.out 0; have hfz12_1 := bF BK499.out 1; have hfz12_2 := bF BK499.out 2; have hfz12_3 := bF BK499.out 3; have hfz12_4 := bF BK499.out 4))
    go_ret
    exact ⟨by first | rfl | (simp [errW_none, errW_some] <;> rfl) | (simp [*, errW_none, errW_some] <;> rfl), by repeat (first | (with_reducible first | exact HB.out | apply ea | apply en | apply ed | refine es ?_ GE499.out) | exact HB.out)⟩
   ·rw [if_neg c6] at H
    have c6b0 : decide (0 ≤ a0_0) = false := decide_eq_false c6
    clear c6
    obtain rfl := Option.some.inj H
    go_enter Try.func59, Try.ntmps59
    go_wp2_with (first | ((with_reducible refine gate_dst (N := 1) rfl ?_); refine box_event ?hg (N := 1) ?hd (cs := #[.int .i64 a0_0, .string a0_1, .slice A0_2 l0_2.length c0_2, .string a0_3, .slice A0_4 l0_4.length c0_4]) (t := 32) ?hr ?_; (case hd | hg => rfl); (case hr => first | (go_simp; done) | (go_simp; rfl)); intro gb499 hg w13 hbox hb; have n0_ := aM (bP (ey HB.out) hb); have n1_ := aM (hbox); have n2_ := aM ((by rw [hg]; exact (bZ (ey HB.out)) : w.heap.size ≤ gb499)); have n3_ := n2_; clear HB; have HB := n0_; have BK499 := n1_; have GW499 := n2_; have GE499 := n3_; clear n0_ n1_ n2_ n3_; clear hb hbox hg; have hcz14_0 : w13.cell? ⟨gb499, 0, none⟩ = some (.int .i64 a0_0) := (bC BK499.out 0).trans rfl; have hcz14_1 : w13.cell? ⟨gb499, 1, none⟩ = some (.string a0_1) := (bC BK499.out 1).trans rfl; have hcz14_2 : w13.cell? ⟨gb499, 2, none⟩ = some (.slice A0_2 l0_2.length c0_2) := (bC BK499.out 2).trans rfl; have hcz14_3 : w13.cell? ⟨gb499, 3, none⟩ = some (.string a0_3) := (bC BK499.out 3).trans rfl; have hcz14_4 : w13.cell? ⟨gb499, 4, none⟩ = some (.slice A0_4 l0_4.length c0_4) := (bC BK499.out 4).trans rfl; have hfz14_0 := bF BK499.out 0; have hfz14_1 := bF BK499.out 1; have hfz14_2 := bF BK499.out 2; have hfz14_3 := bF BK499.out 3; have hfz14_4 := bF BK499.out 4) | ((with_reducible refine gate_callee (f := 39) rfl ?_); refine goesL_ (some 5) rfl rfl Try.func39 (by kernel_rfl) rfl #[.agg #[.string a0_1, .slice A0_2 l0_2.length c0_2]] rfl (by (try simp only [mT, mC, mN]); first | done | rfl | (simp only [lD, lT]; rfl)) ?_; (with_reducible refine (bureauref04_Good.calls k a0_1 _ _ l0_2 true _ ?side1 ?side2 A2.out).mono ?_); (case side1 => repeat (first | exact (cB_ HR0_2.out HB.out) | (with_reducible refine Kd.C_alloc ?_ _) | (with_reducible refine Kd.C_drewN ?_ _) | (with_reducible refine Kd.C_drew ?_))); (case side2 => exact HC0_2.out); rintro e w15 ⟨rfl, hb⟩; refine ⟨_, rfl, ?_⟩; have n0_ := aM (bB (g := gb499) (qy BK499.out) hb); have n1_ := aM (bP (by repeat (first | (with_reducible first | exact HB.out | apply ea | apply en | apply ed | refine es ?_ GE499.out) | exact HB.out)) hb); clear BK499 HB; have BK499 := n0_; have HB := n1_; clear n0_ n1_; (try clear hb); (try clear hb2); (try clear hk); (try clear hi); have hcz16_0 : w15.cell? ⟨gb499, 0, none⟩ = some (.int .i64 a0_0) := (bC BK499.out 0).trans rfl; have hcz16_1 : w15.cell? ⟨gb499, 1, none⟩ = some (.string a0_1) := (bC BK499.out 1).trans rfl; have hcz16_2 : w15.cell? ⟨gb499, 2, none⟩ = some (.slice A0_2 l0_2.length c0_2) := (bC BK499.out 2).trans rfl; have hcz16_3 : w15.cell? ⟨gb499, 3, none⟩ = some (.string a0_3) := (bC BK499.out 3).trans rfl; have hcz16_4 : w15.cell? ⟨gb499, 4, none⟩ = some (.slice A0_4 l0_4.length c0_4) := (bC BK499.out 4).trans rfl; have hfz16_0 := bF BK499.out 0; have hfz16_1 := bF BK499.out 1; have hfz16_2 := bF BK499.out 2; have hfz16_3 := bF BK499.out 3; have hfz16_4 := bF BK499.out 4) | (go_at_call 39; (with_reducible refine (bureauref04_Good.calls k a0_3 _ _ l0_4 true _ ?side1 ?side2 A4.out).mono ?_); (case side1 => repeat (first | exact (cB_ HR0_4.out HB.out) | (with_reducible refine Kd.C_alloc ?_ _) | (with_reducible refine Kd.C_drewN ?_ _) | (with_reducible refine Kd.C_drew ?_))); (case side2 => exact HC0_4.out); rintro e w17 ⟨rfl, hb⟩; have n0_ := aM (bB (g := gb499) (qy BK499.out) hb); have n1_ := aM (bP (by repeat (first | (with_reducible first | exact HB.out | apply ea | apply en | apply ed | refine es ?_ GE499.out) | exact HB.out)) hb); clear BK499 HB; have BK499 := n0_; have HB := n1_; clear n0_ n1_; (try clear hb); (try clear hb2); (try clear hk); (try clear hi); have hcz18_0 : w17.cell? ⟨gb499, 0, none⟩ = some (.int .i64 a0_0) := (bC BK499.out 0).trans rfl; have hcz18_1 : w17.cell? ⟨gb499, 1, none⟩ = some (.string a0_1) := (bC BK499.out 1).trans rfl; have hcz18_2 : w17.cell? ⟨gb499, 2, none⟩ = some (.slice A0_2 l0_2.length c0_2) := (bC BK499.out 2).trans rfl; have hcz18_3 : w17.cell? ⟨gb499, 3, none⟩ = some (.string a0_3) := (bC BK499.out 3).trans rfl; have hcz18_4 : w17.cell? ⟨gb499, 4, none⟩ = some (.slice A0_4 l0_4.length c0_4) := (bC BK499.out 4).trans rfl; have hfz18_0 := bF BK499.out 0; have hfz18_1 := bF BK499.out 1; have hfz18_2 := bF BK499.out 2; have hfz18_3 := bF BK499.out 3; have hfz18_4 := bF BK499.out 4))
    go_ret
    exact ⟨by first | rfl | (simp [errW_none, errW_some] <;> rfl) | (simp [*, errW_none, errW_some] <;> rfl), by repeat (first | (with_reducible first | exact HB.out | apply ea | apply en | apply ed | refine es ?_ GE499.out) | exact HB.out)⟩
  ·replace c5 := Bool.eq_false_iff.mpr c5
   subst c5
   have H1 : (some false) = some r := by rw [if_neg (show ¬ (false = true) by decide)] at H; exact H
   clear H
   have H := H1
   clear H1
   obtain rfl := Option.some.inj H
   go_enter Try.func59, Try.ntmps59
   go_wp2_with (first | ((with_reducible refine gate_dst (N := 1) rfl ?_); refine box_event ?hg (N := 1) ?hd (cs := #[.int .i64 a0_0, .string a0_1, .slice A0_2 l0_2.length c0_2, .string a0_3, .slice A0_4 l0_4.length c0_4]) (t := 32) ?hr ?_; (case hd | hg => rfl); (case hr => first | (go_simp; done) | (go_simp; rfl)); intro gb499 hg w19 hbox hb; have n0_ := aM (bP (ey HB.out) hb); have n1_ := aM (hbox); have n2_ := aM ((by rw [hg]; exact (bZ (ey HB.out)) : w.heap.size ≤ gb499)); have n3_ := n2_; clear HB; have HB := n0_; have BK499 := n1_; have GW499 := n2_; have GE499 := n3_; clear n0_ n1_ n2_ n3_; clear hb hbox hg; have hcz20_0 : w19.cell? ⟨gb499, 0, none⟩ = some (.int .i64 a0_0) := (bC BK499.out 0).trans rfl; have hcz20_1 : w19.cell? ⟨gb499, 1, none⟩ = some (.string a0_1) := (bC BK499.out 1).trans rfl; have hcz20_2 : w19.cell? ⟨gb499, 2, none⟩ = some (.slice A0_2 l0_2.length c0_2) := (bC BK499.out 2).trans rfl; have hcz20_3 : w19.cell? ⟨gb499, 3, none⟩ = some (.string a0_3) := (bC BK499.out 3).trans rfl; have hcz20_4 : w19.cell? ⟨gb499, 4, none⟩ = some (.slice A0_4 l0_4.length c0_4) := (bC BK499.out 4).trans rfl; have hfz20_0 := bF BK499.out 0; have hfz20_1 := bF BK499.out 1; have hfz20_2 := bF BK499.out 2; have hfz20_3 := bF BK499.out 3; have hfz20_4 := bF BK499.out 4) | ((with_reducible refine gate_callee (f := 39) rfl ?_); refine goesL_ (some 5) rfl rfl Try.func39 (by kernel_rfl) rfl #[.agg #[.string a0_1, .slice A0_2 l0_2.length c0_2]] rfl (by (try simp only [mT, mC, mN]); first | done | rfl | (simp only [lD, lT]; rfl)) ?_; (with_reducible refine (bureauref04_Good.calls k a0_1 _ _ l0_2 true _ ?side1 ?side2 A2.out).mono ?_); (case side1 => repeat (first | exact (cB_ HR0_2.out HB.out) | (with_reducible refine Kd.C_alloc ?_ _) | (with_reducible refine Kd.C_drewN ?_ _) | (with_reducible refine Kd.C_drew ?_))); (case side2 => exact HC0_2.out); rintro e w21 ⟨rfl, hb⟩; refine ⟨_, rfl, ?_⟩; have n0_ := aM (bB (g := gb499) (qy BK499.out) hb); have n1_ := aM (bP (by repeat (first | (with_reducible first | exact HB.out | apply ea | apply en | apply ed | refine es ?_ GE499.out) | exact HB.out)) hb); clear BK499 HB; have BK499 := n0_; have HB := n1_; clear n0_ n1_; (try clear hb); (try clear hb2); (try clear hk); (try clear hi); have hcz22_0 : w21.cell? ⟨gb499, 0, none⟩ = some (.int .i64 a0_0) := (bC BK499.out 0).trans rfl; have hcz22_1 : w21.cell? ⟨gb499, 1, none⟩ = some (.string a0_1) := (bC BK499.out 1).trans rfl; have hcz22_2 : w21.cell? ⟨gb499, 2, none⟩ = some (.slice A0_2 l0_2.length c0_2) := (bC BK499.out 2).trans rfl; have hcz22_3 : w21.cell? ⟨gb499, 3, none⟩ = some (.string a0_3) := (bC BK499.out 3).trans rfl; have hcz22_4 : w21.cell? ⟨gb499, 4, none⟩ = some (.slice A0_4 l0_4.length c0_4) := (bC BK499.out 4).trans rfl; have hfz22_0 := bF BK499.out 0; have hfz22_1 := bF BK499.out 1; have hfz22_2 := bF BK499.out 2; have hfz22_3 := bF BK499.out 3; have hfz22_4 := bF BK499.out 4) | (go_at_call 39; (with_reducible refine (bureauref04_Good.calls k a0_3 _ _ l0_4 false _ ?side1 ?side2 A4.out).mono ?_); (case side1 => repeat (first | exact (cB_ HR0_4.out HB.out) | (with_reducible refine Kd.C_alloc ?_ _) | (with_reducible refine Kd.C_drewN ?_ _) | (with_reducible refine Kd.C_drew ?_))); (case side2 => exact HC0_4.out); rintro e w23 ⟨rfl, hb⟩; have n0_ := aM (bB (g := gb499) (qy BK499.out) hb); have n1_ := aM (bP (by repeat (first | (with_reducible first | exact HB.out | apply ea | apply en | apply ed | refine es ?_ GE499.out) | exact HB.out)) hb); clear BK499 HB; have BK499 := n0_; have HB := n1_; clear n0_ n1_; (try clear hb); (try clear hb2); (try clear hk); (try clear hi)))
   go_ret
   exact ⟨by first | rfl | (simp [errW_none, errW_some] <;> rfl) | (simp [*, errW_none, errW_some] <;> rfl), by repeat (first | (with_reducible first | exact HB.out | apply ea | apply en | apply ed | refine es ?_ GE499.out) | exact HB.out)⟩
 ·replace c3 := Bool.eq_false_iff.mpr c3
  subst c3
  have H1 : (some false) = some r := by rw [if_neg (show ¬ (false = true) by decide)] at H; exact H
  clear H
  have H := H1
  clear H1
  obtain rfl := Option.some.inj H
  go_enter Try.func59, Try.ntmps59
  go_wp2_with (first | ((with_reducible refine gate_dst (N := 1) rfl ?_); refine box_event ?hg (N := 1) ?hd (cs := #[.int .i64 a0_0, .string a0_1, .slice A0_2 l0_2.length c0_2, .string a0_3, .slice A0_4 l0_4.length c0_4]) (t := 32) ?hr ?_; (case hd | hg => rfl); (case hr => first | (go_simp; done) | (go_simp; rfl)); intro gb499 hg w24 hbox hb; have n0_ := aM (bP (ey HB.out) hb); have n1_ := aM (hbox); have n2_ := aM ((by rw [hg]; exact (bZ (ey HB.out)) : w.heap.size ≤ gb499)); have n3_ := n2_; clear HB; have HB := n0_; have BK499 := n1_; have GW499 := n2_; have GE499 := n3_; clear n0_ n1_ n2_ n3_; clear hb hbox hg; have hcz25_0 : w24.cell? ⟨gb499, 0, none⟩ = some (.int .i64 a0_0) := (bC BK499.out 0).trans rfl; have hcz25_1 : w24.cell? ⟨gb499, 1, none⟩ = some (.string a0_1) := (bC BK499.out 1).trans rfl; have hcz25_2 : w24.cell? ⟨gb499, 2, none⟩ = some (.slice A0_2 l0_2.length c0_2) := (bC BK499.out 2).trans rfl; have hcz25_3 : w24.cell? ⟨gb499, 3, none⟩ = some (.string a0_3) := (bC BK499.out 3).trans rfl; have hcz25_4 : w24.cell? ⟨gb499, 4, none⟩ = some (.slice A0_4 l0_4.length c0_4) := (bC BK499.out 4).trans rfl; have hfz25_0 := bF BK499.out 0; have hfz25_1 := bF BK499.out 1; have hfz25_2 := bF BK499.out 2; have hfz25_3 := bF BK499.out 3; have hfz25_4 := bF BK499.out 4) | ((with_reducible refine gate_callee (f := 39) rfl ?_); refine goesL_ (some 5) rfl rfl Try.func39 (by kernel_rfl) rfl #[.agg #[.string a0_1, .slice A0_2 l0_2.length c0_2]] rfl (by (try simp only [mT, mC, mN]); first | done | rfl | (simp only [lD, lT]; rfl)) ?_; (with_reducible refine (bureauref04_Good.calls k a0_1 _ _ l0_2 false _ ?side1 ?side2 A2.out).mono ?_); (case side1 => repeat (first | exact (cB_ HR0_2.out HB.out) | (with_reducible refine Kd.C_alloc ?_ _) | (with_reducible refine Kd.C_drewN ?_ _) | (with_reducible refine Kd.C_drew ?_))); (case side2 => exact HC0_2.out); rintro e w26 ⟨rfl, hb⟩; refine ⟨_, rfl, ?_⟩; have n0_ := aM (bB (g := gb499) (qy BK499.out) hb); have n1_ := aM (bP (by repeat (first | (with_reducible first | exact HB.out | apply ea | apply en | apply ed | refine es ?_ GE499.out) | exact HB.out)) hb); clear BK499 HB; have BK499 := n0_; have HB := n1_; clear n0_ n1_; (try clear hb); (try clear hb2); (try clear hk); (try clear hi)))
  go_ret
  exact ⟨by first | rfl | (simp [errW_none, errW_some] <;> rfl) | (simp [*, errW_none, errW_some] <;> rfl), by repeat (first | (with_reducible first | exact HB.out | apply ea | apply en | apply ed | refine es ?_ GE499.out) | exact HB.out)⟩
end Go.Proofs.Ytnbdldpjiofafaa.PB
end

section
namespace Go.Proofs.Ytnbdldpjiofafaa.PB
open Go.RowKit Go.Proofs.YtnbdldpjiofafaaW.PrintWords Go.Proofs.YtnbdldpjiofafaaW.PrintLast Go.Proofs.YtnbdldpjiofafaaW.PrintMore
attribute [local go_sem] max2_int min2_int max_two min_two max_three min_three max_four min_four   
set_option linter.unusedVariables false
set_option linter.unusedSimpArgs false
def bureauref07_Check.j0 : Nat → Bool → ByteArray → List (S51) → Int → ByteArray → List (S51) → ByteArray → List (S51) → Option (Int)
 | 0, _, _, _, _, _, _, _, _ => none
 | k + 1, x27, x503000, x503001, x504000, x504001, x504002, x504003, x504004 => if x27 = true then (some 2) else ((bureauref04_Cut.f k x503000 x503001 x504000 (wrap64 (x504000 + (x504001.size : Int)))).bind fun bt506 => ((bureauref04_Same.f k bt506.1 bt506.2.1 x504001 x504002).bind fun t512 => (if t512 = true then (if (wrap64 ((wrap64 ((x503000.size : Int) - (x504001.size : Int))) + (x504003.size : Int))) > 4096 then (some 3) else (some 0)) else (some 7))))
def bureauref07_Check.f (k : Nat) (a0_0 : ByteArray) (l0_1 : List (S51)) (a1_0 : Int) (a1_1 : ByteArray) (l1_2 : List (S51)) (a1_3 : ByteArray) (l1_4 : List (S51)) : Option (Int) := (bureauref04_Good.f k a0_0 l0_1).bind fun t504 => (if t504 = true then ((bureauref07_Good.f k a1_0 a1_1 l1_2 a1_3 l1_4).bind fun t505 => (if t505 = true then (bureauref07_Check.j0 k (decide ((wrap64 ((a0_0.size : Int) - a1_0)) < (a1_1.size : Int))) a0_0 l0_1 a1_0 a1_1 l1_2 a1_3 l1_4) else (bureauref07_Check.j0 k true a0_0 l0_1 a1_0 a1_1 l1_2 a1_3 l1_4))) else (bureauref07_Check.j0 k true a0_0 l0_1 a1_0 a1_1 l1_2 a1_3 l1_4))
set_option maxHeartbeats 8000000 in
set_option maxRecDepth 100000 in
theorem bureauref07_Check.calls (k : Nat) (a0_0 : ByteArray) (A0_1 : Option Addr) (c0_1 : Nat) (l0_1 : List (S51)) (a1_0 : Int) (a1_1 : ByteArray) (A1_2 : Option Addr) (c1_2 : Nat) (l1_2 : List (S51)) (a1_3 : ByteArray) (A1_4 : Option Addr) (c1_4 : Nat) (l1_4 : List (S51)) (r : Int) (w : World) (hr0_1 : Kd.C k51 w A0_1 l0_1.length l0_1) (hc0_1 : l0_1.length ≤ c0_1) (hr1_2 : Kd.C k51 w A1_2 l1_2.length l1_2) (hc1_2 : l1_2.length ≤ c1_2) (hr1_4 : Kd.C k51 w A1_4 l1_4.length l1_4) (hc1_4 : l1_4.length ≤ c1_4) (h : bureauref07_Check.f k a0_0 l0_1 a1_0 a1_1 l1_2 a1_3 l1_4 = some r) :
  Calls Try.prog 37 #[.agg #[.string a0_0, .slice A0_1 l0_1.length c0_1], .agg #[.int .i64 a1_0, .string a1_1, .slice A1_2 l1_2.length c1_2, .string a1_3, .slice A1_4 l1_4.length c1_4]] w fun e w' => e = .returned (.int .i64 r) ∧ Below w.heap.size w w' := by
 have hu24 := Try.underlying24
 have hu32 := Try.underlying32
 have HR0_1 := aM hr0_1
 have HC0_1 := aM hc0_1
 clear hr0_1 hc0_1
 have HR1_2 := aM hr1_2
 have HC1_2 := aM hc1_2
 clear hr1_2 hc1_2
 have HR1_4 := aM hr1_4
 have HC1_4 := aM hc1_4
 clear hr1_4 hc1_4
 have HB := aM (Below.refl w.heap.size w)
 have H : ((bureauref04_Good.f k a0_0 l0_1).bind fun t504 => (if t504 = true then ((bureauref07_Good.f k a1_0 a1_1 l1_2 a1_3 l1_4).bind fun t505 => (if t505 = true then (bureauref07_Check.j0 k (decide ((wrap64 ((a0_0.size : Int) - a1_0)) < (a1_1.size : Int))) a0_0 l0_1 a1_0 a1_1 l1_2 a1_3 l1_4) else (bureauref07_Check.j0 k true a0_0 l0_1 a1_0 a1_1 l1_2 a1_3 l1_4))) else (bureauref07_Check.j0 k true a0_0 l0_1 a1_0 a1_1 l1_2 a1_3 l1_4))) = some r := h
 clear h
 have HC3 := aM H
 clear H
 go_enter Try.func37, Try.ntmps37
 go_upto_region 1 with (first | ((with_reducible refine gate_dst (N := 2) rfl ?_); (try (refine gate_guard (by rfl) ?_; dsimp only)); refine box_event ?hg (N := 2) ?hd (cs := #[.string a0_0, .slice A0_1 l0_1.length c0_1]) (t := 24) ?hr ?_; (case hd | hg => rfl); (case hr => first | (go_simp; done) | (go_simp; rfl)); intro gb502 hg w4 hbox hb; have n0_ := aM (bP (ey HB.out) hb); have n1_ := aM (hbox); have n2_ := aM ((by rw [hg]; exact (bZ (ey HB.out)) : w.heap.size ≤ gb502)); have n3_ := n2_; clear HB; have HB := n0_; have BK502 := n1_; have GW502 := n2_; have GE502 := n3_; clear n0_ n1_ n2_ n3_; clear hb hbox hg) | ((with_reducible refine gate_dst (N := 3) rfl ?_); (try (refine gate_guard (by rfl) ?_; dsimp only)); refine box_event ?hg (N := 3) ?hd (cs := #[.int .i64 a1_0, .string a1_1, .slice A1_2 l1_2.length c1_2, .string a1_3, .slice A1_4 l1_4.length c1_4]) (t := 32) ?hr ?_; (case hd | hg => rfl); (case hr => first | (go_simp; done) | (go_simp; rfl)); intro gb503 hg w5 hbox hb; have n0_ := aM (bB (g := gb502) (qy BK502.out) hb); have n1_ := aM (bP (by repeat (first | (with_reducible first | exact HB.out | apply ea | apply en | apply ed | refine es ?_ GE502.out) | exact HB.out)) hb); have n2_ := aM (hbox); have n3_ := aM ((by rw [hg]; exact (bZ (by repeat (first | (with_reducible first | exact HB.out | apply ea | apply en | apply ed | refine es ?_ GE502.out) | exact HB.out))) : w.heap.size ≤ gb503)); have n4_ := n3_; have n5_ := aM ((by rw [hg]; exact Nat.ne_of_lt (blk_lt (g := gb502) (qy BK502.out)) : gb502 ≠ gb503)); have n6_ := aM ((by rw [hg]; exact Nat.ne_of_gt (blk_lt (g := gb502) (qy BK502.out)) : gb503 ≠ gb502)); clear BK502 HB; have BK502 := n0_; have HB := n1_; have BK503 := n2_; have GW503 := n3_; have GE503 := n4_; have NB502_503 := n5_; have NB503_502 := n6_; clear n0_ n1_ n2_ n3_ n4_ n5_ n6_; clear hb hbox hg))
 (try simp only [Act.put, sA, sZ, sS])
 go_cut [27] (fun v27 wc => ∃ (kq : Nat) (x27_2 : Bool), v27 = .bool x27_2 ∧ Aside0 (bureauref07_Check.j0 kq x27_2 a0_0 l0_1 a1_0 a1_1 l1_2 a1_3 l1_4 = some r) ∧ Aside0 (kq ≤ k) ∧ Aside0 (wc.heap[gb502]? = some (.cells #[.string a0_0, (.slice A0_1 l0_1.length c0_1)] 24 (0, 0))) ∧ Aside0 (wc.heap[gb503]? = some (.cells #[.int .i64 a1_0, .string a1_1, (.slice A1_2 l1_2.length c1_2), .string a1_3, (.slice A1_4 l1_4.length c1_4)] 32 (0, 0))) ∧ Aside0 (Below w.heap.size w wc))
 case first =>
  have H := HC3.out
  clear HC3
  replace H := Option.bind_eq_some_iff.mp H
  obtain ⟨t504, A60, H⟩ := H
  replace H : (if t504 = true then ((bureauref07_Good.f k a1_0 a1_1 l1_2 a1_3 l1_4).bind fun t505 => (if t505 = true then (bureauref07_Check.j0 k (decide ((wrap64 ((a0_0.size : Int) - a1_0)) < (a1_1.size : Int))) a0_0 l0_1 a1_0 a1_1 l1_2 a1_3 l1_4) else (bureauref07_Check.j0 k true a0_0 l0_1 a1_0 a1_1 l1_2 a1_3 l1_4))) else (bureauref07_Check.j0 k true a0_0 l0_1 a1_0 a1_1 l1_2 a1_3 l1_4)) = some r := H
  have A6 := aM A60
  clear A60
  by_cases c7 : t504 = true
  ·subst c7
   have H1 : ((bureauref07_Good.f k a1_0 a1_1 l1_2 a1_3 l1_4).bind fun t505 => (if t505 = true then (bureauref07_Check.j0 k (decide ((wrap64 ((a0_0.size : Int) - a1_0)) < (a1_1.size : Int))) a0_0 l0_1 a1_0 a1_1 l1_2 a1_3 l1_4) else (bureauref07_Check.j0 k true a0_0 l0_1 a1_0 a1_1 l1_2 a1_3 l1_4))) = some r := by rw [if_pos rfl] at H; exact H
   clear H
   have H := H1
   clear H1
   replace H := Option.bind_eq_some_iff.mp H
   obtain ⟨t505, A80, H⟩ := H
   replace H : (if t505 = true then (bureauref07_Check.j0 k (decide ((wrap64 ((a0_0.size : Int) - a1_0)) < (a1_1.size : Int))) a0_0 l0_1 a1_0 a1_1 l1_2 a1_3 l1_4) else (bureauref07_Check.j0 k true a0_0 l0_1 a1_0 a1_1 l1_2 a1_3 l1_4)) = some r := H
   have A8 := aM A80
   clear A80
   by_cases c9 : t505 = true
   ·subst c9
    have H1 : (bureauref07_Check.j0 k (decide ((wrap64 ((a0_0.size : Int) - a1_0)) < (a1_1.size : Int))) a0_0 l0_1 a1_0 a1_1 l1_2 a1_3 l1_4) = some r := by rw [if_pos rfl] at H; exact H
    clear H
    have H := H1
    clear H1
    have H' := aM H
    clear H
    have hnb10 := NB502_503.out
    have hnc10 := NB503_502.out
    have hcz11_0 : w5.cell? ⟨gb502, 0, none⟩ = some (.string a0_0) := (bC BK502.out 0).trans rfl
    have hcz11_1 : w5.cell? ⟨gb502, 1, none⟩ = some (.slice A0_1 l0_1.length c0_1) := (bC BK502.out 1).trans rfl
    have hfz11_0 := bF BK502.out 0
    have hfz11_1 := bF BK502.out 1
    go_wp2_with (first | ((with_reducible refine gate_callee (f := 39) rfl ?_); refine goesL_ (some 8) rfl rfl Try.func39 (by kernel_rfl) rfl #[.agg #[.string a0_0, .slice A0_1 l0_1.length c0_1]] rfl (by (try simp only [mT, mC, mN]); first | done | rfl | (simp only [lD, lT]; rfl)) ?_; (with_reducible refine (bureauref04_Good.calls k a0_0 _ _ l0_1 true _ ?side1 ?side2 A6.out).mono ?_); (case side1 => repeat (first | exact (cB_ HR0_1.out HB.out) | (with_reducible refine Kd.C_alloc ?_ _) | (with_reducible refine Kd.C_drewN ?_ _) | (with_reducible refine Kd.C_drew ?_))); (case side2 => exact HC0_1.out); rintro e w12 ⟨rfl, hb⟩; refine ⟨_, rfl, ?_⟩; have n0_ := aM (bB (g := gb502) (qy BK502.out) hb); have n1_ := aM (bB (g := gb503) (qy BK503.out) hb); have n2_ := aM (bP (by repeat (first | (with_reducible first | exact HB.out | apply ea | apply en | apply ed | refine es ?_ GE502.out | refine es ?_ GE503.out) | exact HB.out)) hb); clear BK502 BK503 HB; have BK502 := n0_; have BK503 := n1_; have HB := n2_; clear n0_ n1_ n2_; (try clear hb); (try clear hb2); (try clear hk); (try clear hi); have hcz13_0 : w12.cell? ⟨gb503, 0, none⟩ = some (.int .i64 a1_0) := (bC BK503.out 0).trans rfl; have hcz13_1 : w12.cell? ⟨gb503, 1, none⟩ = some (.string a1_1) := (bC BK503.out 1).trans rfl; have hcz13_2 : w12.cell? ⟨gb503, 2, none⟩ = some (.slice A1_2 l1_2.length c1_2) := (bC BK503.out 2).trans rfl; have hcz13_3 : w12.cell? ⟨gb503, 3, none⟩ = some (.string a1_3) := (bC BK503.out 3).trans rfl; have hcz13_4 : w12.cell? ⟨gb503, 4, none⟩ = some (.slice A1_4 l1_4.length c1_4) := (bC BK503.out 4).trans rfl; have hfz13_0 := bF BK503.out 0; have hfz13_1 := bF BK503.out 1; have hfz13_2 := bF BK503.out 2; have hfz13_3 := bF BK503.out 3; have hfz13_4 := bF BK503.out 4) | (go_at_call 59; (with_reducible refine (bureauref07_Good.calls k a1_0 a1_1 _ _ l1_2 a1_3 _ _ l1_4 true _ ?side1 ?side2 ?side3 ?side4 A8.out).mono ?_); (case side1 => repeat (first | exact (cB_ HR1_2.out HB.out) | (with_reducible refine Kd.C_alloc ?_ _) | (with_reducible refine Kd.C_drewN ?_ _) | (with_reducible refine Kd.C_drew ?_))); (case side2 => exact HC1_2.out); (case side3 => repeat (first | exact (cB_ HR1_4.out HB.out) | (with_reducible refine Kd.C_alloc ?_ _) | (with_reducible refine Kd.C_drewN ?_ _) | (with_reducible refine Kd.C_drew ?_))); (case side4 => exact HC1_4.out); rintro e w14 ⟨rfl, hb⟩; have n0_ := aM (bB (g := gb502) (qy BK502.out) hb); have n1_ := aM (bB (g := gb503) (qy BK503.out) hb); have n2_ := aM (bP (by repeat (first | (with_reducible first | exact HB.out | apply ea | apply en | apply ed | refine es ?_ GE502.out | refine es ?_ GE503.out) | exact HB.out)) hb); clear BK502 BK503 HB; have BK502 := n0_; have BK503 := n1_; have HB := n2_; clear n0_ n1_ n2_; (try clear hb); (try clear hb2); (try clear hk); (try clear hi); have hcz15_0 : w14.cell? ⟨gb502, 0, none⟩ = some (.string a0_0) := (bC BK502.out 0).trans rfl; have hcz15_1 : w14.cell? ⟨gb502, 1, none⟩ = some (.slice A0_1 l0_1.length c0_1) := (bC BK502.out 1).trans rfl; have hfz15_0 := bF BK502.out 0; have hfz15_1 := bF BK502.out 1; have hcz16_0 : w14.cell? ⟨gb503, 0, none⟩ = some (.int .i64 a1_0) := (bC BK503.out 0).trans rfl; have hcz16_1 : w14.cell? ⟨gb503, 1, none⟩ = some (.string a1_1) := (bC BK503.out 1).trans rfl; have hcz16_2 : w14.cell? ⟨gb503, 2, none⟩ = some (.slice A1_2 l1_2.length c1_2) := (bC BK503.out 2).trans rfl; have hcz16_3 : w14.cell? ⟨gb503, 3, none⟩ = some (.string a1_3) := (bC BK503.out 3).trans rfl; have hcz16_4 : w14.cell? ⟨gb503, 4, none⟩ = some (.slice A1_4 l1_4.length c1_4) := (bC BK503.out 4).trans rfl; have hfz16_0 := bF BK503.out 0; have hfz16_1 := bF BK503.out 1; have hfz16_2 := bF BK503.out 2; have hfz16_3 := bF BK503.out 3; have hfz16_4 := bF BK503.out 4))
    go_meet
    case rel => exact ⟨_, (decide ((wrap64 ((a0_0.size : Int) - a1_0)) < (a1_1.size : Int))), (by first | rfl | (simp; done) | (simp [*]; done)), H', ⟨by first | omega | exact Nat.le_refl _⟩, ⟨by exact qy BK502.out⟩, ⟨by exact qy BK503.out⟩, ⟨by repeat (first | (with_reducible first | exact HB.out | apply ea | apply en | apply ed | refine es ?_ GE502.out | refine es ?_ GE503.out) | exact HB.out)⟩⟩
   ·replace c9 := Bool.eq_false_iff.mpr c9
    subst c9
    have H1 : (bureauref07_Check.j0 k true a0_0 l0_1 a1_0 a1_1 l1_2 a1_3 l1_4) = some r := by rw [if_neg (show ¬ (false = true) by decide)] at H; exact H
    clear H
    have H := H1
    clear H1
    have H' := aM H
    clear H
    have hnb17 := NB502_503.out
    have hnc17 := NB503_502.out
    have hcz18_0 : w5.cell? ⟨gb502, 0, none⟩ = some (.string a0_0) := (bC BK502.out 0).trans rfl
    have hcz18_1 : w5.cell? ⟨gb502, 1, none⟩ = some (.slice A0_1 l0_1.length c0_1) := (bC BK502.out 1).trans rfl
    have hfz18_0 := bF BK502.out 0
    have hfz18_1 := bF BK502.out 1
    go_wp2_with (first | ((with_reducible refine gate_callee (f := 39) rfl ?_); refine goesL_ (some 8) rfl rfl Try.func39 (by kernel_rfl) rfl #[.agg #[.string a0_0, .slice A0_1 l0_1.length c0_1]] rfl (by (try simp only [mT, mC, mN]); first | done | rfl | (simp only [lD, lT]; rfl)) ?_; (with_reducible refine (bureauref04_Good.calls k a0_0 _ _ l0_1 true _ ?side1 ?side2 A6.out).mono ?_); (case side1 => repeat (first | exact (cB_ HR0_1.out HB.out) | (with_reducible refine Kd.C_alloc ?_ _) | (with_reducible refine Kd.C_drewN ?_ _) | (with_reducible refine Kd.C_drew ?_))); (case side2 => exact HC0_1.out); rintro e w19 ⟨rfl, hb⟩; refine ⟨_, rfl, ?_⟩; have n0_ := aM (bB (g := gb502) (qy BK502.out) hb); have n1_ := aM (bB (g := gb503) (qy BK503.out) hb); have n2_ := aM (bP (by repeat (first | (with_reducible first | exact HB.out | apply ea | apply en | apply ed | refine es ?_ GE502.out | refine es ?_ GE503.out) | exact HB.out)) hb); clear BK502 BK503 HB; have BK502 := n0_; have BK503 := n1_; have HB := n2_; clear n0_ n1_ n2_; (try clear hb); (try clear hb2); (try clear hk); (try clear hi); have hcz20_0 : w19.cell? ⟨gb503, 0, none⟩ = some (.int .i64 a1_0) := (bC BK503.out 0).trans rfl; have hcz20_1 : w19.cell? ⟨gb503, 1, none⟩ = some (.string a1_1) := (bC BK503.out 1).trans rfl; have hcz20_2 : w19.cell? ⟨gb503, 2, none⟩ = some (.slice A1_2 l1_2.length c1_2) := (bC BK503.out 2).trans rfl; have hcz20_3 : w19.cell? ⟨gb503, 3, none⟩ = some (.string a1_3) := (bC BK503.out 3).trans rfl; have hcz20_4 : w19.cell? ⟨gb503, 4, none⟩ = some (.slice A1_4 l1_4.length c1_4) := (bC BK503.out 4).trans rfl; have hfz20_0 := bF BK503.out 0; have hfz20_1 := bF BK503.out 1; have hfz20_2 := bF BK503.out 2; have hfz20_3 := bF BK503.out 3; have hfz20_4 := bF BK503.out 4) | (go_at_call 59; (with_reducible refine (bureauref07_Good.calls k a1_0 a1_1 _ _ l1_2 a1_3 _ _ l1_4 false _ ?side1 ?side2 ?side3 ?side4 A8.out).mono ?_); (case side1 => repeat (first | exact (cB_ HR1_2.out HB.out) | (with_reducible refine Kd.C_alloc ?_ _) | (with_reducible refine Kd.C_drewN ?_ _) | (with_reducible refine Kd.C_drew ?_))); (case side2 => exact HC1_2.out); (case side3 => repeat (first | exact (cB_ HR1_4.out HB.out) | (with_reducible refine Kd.C_alloc ?_ _) | (with_reducible refine Kd.C_drewN ?_ _) | (with_reducible refine Kd.C_drew ?_))); (case side4 => exact HC1_4.out); rintro e w21 ⟨rfl, hb⟩; have n0_ := aM (bB (g := gb502) (qy BK502.out) hb); have n1_ := aM (bB (g := gb503) (qy BK503.out) hb); have n2_ := aM (bP (by repeat (first | (with_reducible first | exact HB.out | apply ea | apply en | apply ed | refine es ?_ GE502.out | refine es ?_ GE503.out) | exact HB.out)) hb); clear BK502 BK503 HB; have BK502 := n0_; have BK503 := n1_; have HB := n2_; clear n0_ n1_ n2_; (try clear hb); (try clear hb2); (try clear hk); (try clear hi)))
    go_meet
    case rel => exact ⟨_, (true), (by first | rfl | (simp; done) | (simp [*]; done)), H', ⟨by first | omega | exact Nat.le_refl _⟩, ⟨by exact qy BK502.out⟩, ⟨by exact qy BK503.out⟩, ⟨by repeat (first | (with_reducible first | exact HB.out | apply ea | apply en | apply ed | refine es ?_ GE502.out | refine es ?_ GE503.out) | exact HB.out)⟩⟩
  ·replace c7 := Bool.eq_false_iff.mpr c7
   subst c7
   have H1 : (bureauref07_Check.j0 k true a0_0 l0_1 a1_0 a1_1 l1_2 a1_3 l1_4) = some r := by rw [if_neg (show ¬ (false = true) by decide)] at H; exact H
   clear H
   have H := H1
   clear H1
   have H' := aM H
   clear H
   have hnb22 := NB502_503.out
   have hnc22 := NB503_502.out
   have hcz23_0 : w5.cell? ⟨gb502, 0, none⟩ = some (.string a0_0) := (bC BK502.out 0).trans rfl
   have hcz23_1 : w5.cell? ⟨gb502, 1, none⟩ = some (.slice A0_1 l0_1.length c0_1) := (bC BK502.out 1).trans rfl
   have hfz23_0 := bF BK502.out 0
   have hfz23_1 := bF BK502.out 1
   go_wp2_with (first | ((with_reducible refine gate_callee (f := 39) rfl ?_); refine goesL_ (some 8) rfl rfl Try.func39 (by kernel_rfl) rfl #[.agg #[.string a0_0, .slice A0_1 l0_1.length c0_1]] rfl (by (try simp only [mT, mC, mN]); first | done | rfl | (simp only [lD, lT]; rfl)) ?_; (with_reducible refine (bureauref04_Good.calls k a0_0 _ _ l0_1 false _ ?side1 ?side2 A6.out).mono ?_); (case side1 => repeat (first | exact (cB_ HR0_1.out HB.out) | (with_reducible refine Kd.C_alloc ?_ _) | (with_reducible refine Kd.C_drewN ?_ _) | (with_reducible refine Kd.C_drew ?_))); (case side2 => exact HC0_1.out); rintro e w24 ⟨rfl, hb⟩; refine ⟨_, rfl, ?_⟩; have n0_ := aM (bB (g := gb502) (qy BK502.out) hb); have n1_ := aM (bB (g := gb503) (qy BK503.out) hb); have n2_ := aM (bP (by repeat (first | (with_reducible first | exact HB.out | apply ea | apply en | apply ed | refine es ?_ GE502.out | refine es ?_ GE503.out) | exact HB.out)) hb); clear BK502 BK503 HB; have BK502 := n0_; have BK503 := n1_; have HB := n2_; clear n0_ n1_ n2_; (try clear hb); (try clear hb2); (try clear hk); (try clear hi)))
   go_meet
   case rel => exact ⟨_, (true), (by first | rfl | (simp; done) | (simp [*]; done)), H', ⟨by first | omega | exact Nat.le_refl _⟩, ⟨by exact qy BK502.out⟩, ⟨by exact qy BK503.out⟩, ⟨by repeat (first | (with_reducible first | exact HB.out | apply ea | apply en | apply ed | refine es ?_ GE502.out | refine es ?_ GE503.out) | exact HB.out)⟩⟩
 case rest =>
  clear HC3
  try clear c1
  try clear c2
  try clear p2
  try clear c3
  try clear p6
  try clear c7
  try clear c9
  try clear c10
  try clear c17
  try clear c22
  try clear hcz11_0
  try clear hcz11_1
  try clear hcz13_0
  try clear hcz13_1
  try clear hcz13_2
  try clear hcz13_3
  try clear hcz13_4
  try clear hcz15_0
  try clear hcz15_1
  try clear hcz16_0
  try clear hcz16_1
  try clear hcz16_2
  try clear hcz16_3
  try clear hcz16_4
  try clear hcz18_0
  try clear hcz18_1
  try clear hcz20_0
  try clear hcz20_1
  try clear hcz20_2
  try clear hcz20_3
  try clear hcz20_4
  try clear hcz23_0
  try clear hcz23_1
  try clear hfz11_0
  try clear hfz11_1
  try clear hfz13_0
  try clear hfz13_1
  try clear hfz13_2
  try clear hfz13_3
  try clear hfz13_4
  try clear hfz15_0
  try clear hfz15_1
  try clear hfz16_0
  try clear hfz16_1
  try clear hfz16_2
  try clear hfz16_3
  try clear hfz16_4
  try clear hfz18_0
  try clear hfz18_1
  try clear hfz20_0
  try clear hfz20_1
  try clear hfz20_2
  try clear hfz20_3
  try clear hfz20_4
  try clear hfz23_0
  try clear hfz23_1
  obtain ⟨kq, x27_2, rfl, HA, HJ2, BK502, BK503, HB⟩ := hcut
  cases kq with
  | zero => exact absurd HA.out (by simp [bureauref07_Check.j0])
  | succ kj2 =>
   have H := HA.out
   clear HA
   simp only [bureauref07_Check.j0] at H
   by_cases c25 : x27_2 = true
   ·subst c25
    have H1 : (some 2) = some r := by rw [if_pos rfl] at H; exact H
    clear H
    have H := H1
    clear H1
    obtain rfl := Option.some.inj H
    go_wp2
    go_ret
    exact ⟨by first | rfl | (simp [errW_none, errW_some] <;> rfl) | (simp [*, errW_none, errW_some] <;> rfl), by repeat (first | (with_reducible first | exact HB.out | apply ea | apply en | apply ed | refine es ?_ GE502.out | refine es ?_ GE503.out) | exact HB.out)⟩
   ·replace c25 := Bool.eq_false_iff.mpr c25
    subst c25
    have H1 : ((bureauref04_Cut.f kj2 a0_0 l0_1 a1_0 (wrap64 (a1_0 + (a1_1.size : Int)))).bind fun bt506 => ((bureauref04_Same.f kj2 bt506.1 bt506.2.1 a1_1 l1_2).bind fun t512 => (if t512 = true then (if (wrap64 ((wrap64 ((a0_0.size : Int) - (a1_1.size : Int))) + (a1_3.size : Int))) > 4096 then (some 3) else (some 0)) else (some 7)))) = some r := by rw [if_neg (show ¬ (false = true) by decide)] at H; exact H
    clear H
    have H := H1
    clear H1
    replace H := Option.bind_eq_some_iff.mp H
    obtain ⟨⟨t506, t507, t510⟩, A260, H⟩ := H
    replace H : ((bureauref04_Same.f kj2 t506 t507 a1_1 l1_2).bind fun t512 => (if t512 = true then (if (wrap64 ((wrap64 ((a0_0.size : Int) - (a1_1.size : Int))) + (a1_3.size : Int))) > 4096 then (some 3) else (some 0)) else (some 7))) = some r := H
    have A26 := aM A260
    clear A260
    replace H := Option.bind_eq_some_iff.mp H
    obtain ⟨t512, A270, H⟩ := H
    replace H : (if t512 = true then (if (wrap64 ((wrap64 ((a0_0.size : Int) - (a1_1.size : Int))) + (a1_3.size : Int))) > 4096 then (some 3) else (some 0)) else (some 7)) = some r := H
    have A27 := aM A270
    clear A270
    by_cases c28 : t512 = true
    ·subst c28
     have H1 : (if (wrap64 ((wrap64 ((a0_0.size : Int) - (a1_1.size : Int))) + (a1_3.size : Int))) > 4096 then (some 3) else (some 0)) = some r := by rw [if_pos rfl] at H; exact H
     clear H
     have H := H1
     clear H1
     by_cases c29 : (wrap64 ((wrap64 ((a0_0.size : Int) - (a1_1.size : Int))) + (a1_3.size : Int))) > 4096
     ·rw [if_pos c29] at H
      have c29b0 : decide (4096 < (wrap64 ((wrap64 ((a0_0.size : Int) - (a1_1.size : Int))) + (a1_3.size : Int)))) = true := decide_eq_true c29
      clear c29
      obtain rfl := Option.some.inj H
      have hnb30 := NB502_503.out
      have hnc30 := NB503_502.out
      have hcz31_0 : wc.cell? ⟨gb502, 0, none⟩ = some (.string a0_0) := (bC BK502.out 0).trans rfl
      have hcz31_1 : wc.cell? ⟨gb502, 1, none⟩ = some (.slice A0_1 l0_1.length c0_1) := (bC BK502.out 1).trans rfl
      have hfz31_0 := bF BK502.out 0
      have hfz31_1 := bF BK502.out 1
      have hcz32_0 : wc.cell? ⟨gb503, 0, none⟩ = some (.int .i64 a1_0) := (bC BK503.out 0).trans rfl
      have hcz32_1 : wc.cell? ⟨gb503, 1, none⟩ = some (.string a1_1) := (bC BK503.out 1).trans rfl
      have hcz32_2 : wc.cell? ⟨gb503, 2, none⟩ = some (.slice A1_2 l1_2.length c1_2) := (bC BK503.out 2).trans rfl
      have hcz32_3 : wc.cell? ⟨gb503, 3, none⟩ = some (.string a1_3) := (bC BK503.out 3).trans rfl
      have hcz32_4 : wc.cell? ⟨gb503, 4, none⟩ = some (.slice A1_4 l1_4.length c1_4) := (bC BK503.out 4).trans rfl
      have hfz32_0 := bF BK503.out 0
      have hfz32_1 := bF BK503.out 1
      have hfz32_2 := bF BK503.out 2
      have hfz32_3 := bF BK503.out 3
      have hfz32_4 := bF BK503.out 4
      go_wp2_with (first | ((with_reducible refine gate_callee (f := 33) rfl ?_); refine goesL_ (some 39) rfl rfl Try.func33 (by kernel_rfl) rfl #[.agg #[.string a0_0, .slice A0_1 l0_1.length c0_1], .int .i64 a1_0, .int .i64 (wrap64 (a1_0 + (a1_1.size : Int)))] rfl (by (try simp only [mT, mC, mN]); first | done | rfl | (simp only [lD, lT]; rfl)) ?_; (with_reducible refine (bureauref04_Cut.calls kj2 a0_0 _ _ l0_1 a1_0 (wrap64 (a1_0 + (a1_1.size : Int))) t506 t507 t510 _ ?side1 ?side2 A26.out).mono ?_); (case side1 => repeat (first | exact (cB_ HR0_1.out HB.out) | (with_reducible refine Kd.C_alloc ?_ _) | (with_reducible refine Kd.C_drewN ?_ _) | (with_reducible refine Kd.C_drew ?_))); (case side2 => exact HC0_1.out); rintro e w33 ⟨v508, rfl, ho0, hb⟩; refine ⟨_, rfl, ?_⟩; have n0_ := aM (rL ho0 (bZ (by repeat (first | (with_reducible first | exact HB.out | apply ea | apply en | apply ed | refine es ?_ GE502.out | refine es ?_ GE503.out) | exact HB.out)))); have n1_ := aM (bB (g := gb502) (qy BK502.out) hb); have n2_ := aM (bB (g := gb503) (qy BK503.out) hb); have n3_ := aM (bP (by repeat (first | (with_reducible first | exact HB.out | apply ea | apply en | apply ed | refine es ?_ GE502.out | refine es ?_ GE503.out) | exact HB.out)) hb); clear BK502 BK503 HB; have HO509 := n0_; have BK502 := n1_; have BK503 := n2_; have HB := n3_; clear n0_ n1_ n2_ n3_; (try clear hb); (try clear hb2); (try clear hk); (try clear hi); (try clear ho0)) | ((with_reducible refine gate_dst (N := 5) rfl ?_); (try (refine gate_guard (by rfl) ?_; dsimp only)); refine box_event ?hg (N := 5) ?hd (cs := #[.string (⟨#[]⟩ : ByteArray), .slice none 0 0]) (t := 24) ?hr ?_; (case hd | hg => rfl); (case hr => first | (go_simp; done) | (go_simp; rfl)); intro gb511 hg w34 hbox hb; have n0_ := aM (Kd.R_below (ry HO509.out) hb); have n1_ := aM (bB (g := gb502) (qy BK502.out) hb); have n2_ := aM (bB (g := gb503) (qy BK503.out) hb); have n3_ := aM (bP (by repeat (first | (with_reducible first | exact HB.out | apply ea | apply en | apply ed | refine es ?_ GE502.out | refine es ?_ GE503.out) | exact HB.out)) hb); have n4_ := aM (hbox); have n5_ := aM ((by rw [hg]; exact (bZ (by repeat (first | (with_reducible first | exact HB.out | apply ea | apply en | apply ed | refine es ?_ GE502.out | refine es ?_ GE503.out) | exact HB.out))) : w.heap.size ≤ gb511)); have n6_ := n5_; have n7_ := aM ((by rw [hg]; exact Nat.ne_of_lt (blk_lt (g := gb502) (qy BK502.out)) : gb502 ≠ gb511)); have n8_ := aM ((by rw [hg]; exact Nat.ne_of_gt (blk_lt (g := gb502) (qy BK502.out)) : gb511 ≠ gb502)); have n9_ := aM ((by rw [hg]; exact Nat.ne_of_lt (blk_lt (g := gb503) (qy BK503.out)) : gb503 ≠ gb511)); have n10_ := aM ((by rw [hg]; exact Nat.ne_of_gt (blk_lt (g := gb503) (qy BK503.out)) : gb511 ≠ gb503)); clear HO509 BK502 BK503 HB; have HO509 := n0_; have BK502 := n1_; have BK503 := n2_; have HB := n3_; have BK511 := n4_; have GW511 := n5_; have GE511 := n6_; have NB502_511 := n7_; have NB511_502 := n8_; have NB503_511 := n9_; have NB511_503 := n10_; clear n0_ n1_ n2_ n3_ n4_ n5_ n6_ n7_ n8_ n9_ n10_; clear hb hbox hg; have hnb35 := NB511_502.out; have hnc35 := NB502_511.out; have hnb36 := NB511_503.out; have hnc36 := NB503_511.out; have hcz37_0 : w34.cell? ⟨gb511, 0, none⟩ = some (.string (⟨#[]⟩ : ByteArray)) := (bC BK511.out 0).trans rfl; have hcz37_1 : w34.cell? ⟨gb511, 1, none⟩ = some (.slice none 0 0) := (bC BK511.out 1).trans rfl; have hfz37_0 := bF BK511.out 0; have hfz37_1 := bF BK511.out 1; obtain ⟨Ao38, co38, eo38⟩ := Kd.R_slice HO509.out; subst eo38; have hcz39_0 : w34.cell? ⟨gb503, 0, none⟩ = some (.int .i64 a1_0) := (bC BK503.out 0).trans rfl; have hcz39_1 : w34.cell? ⟨gb503, 1, none⟩ = some (.string a1_1) := (bC BK503.out 1).trans rfl; have hcz39_2 : w34.cell? ⟨gb503, 2, none⟩ = some (.slice A1_2 l1_2.length c1_2) := (bC BK503.out 2).trans rfl; have hcz39_3 : w34.cell? ⟨gb503, 3, none⟩ = some (.string a1_3) := (bC BK503.out 3).trans rfl; have hcz39_4 : w34.cell? ⟨gb503, 4, none⟩ = some (.slice A1_4 l1_4.length c1_4) := (bC BK503.out 4).trans rfl; have hfz39_0 := bF BK503.out 0; have hfz39_1 := bF BK503.out 1; have hfz39_2 := bF BK503.out 2; have hfz39_3 := bF BK503.out 3; have hfz39_4 := bF BK503.out 4) | ((with_reducible refine gate_callee (f := 36) rfl ?_); refine goesL_ (some 45) rfl rfl Try.func36 (by kernel_rfl) rfl #[.agg #[.string t506, .slice Ao38 t507.length co38], .agg #[.string a1_1, .slice A1_2 l1_2.length c1_2]] rfl (by (try simp only [mT, mC, mN]); first | done | rfl | (simp only [lD, lT]; rfl)) ?_; (with_reducible refine (bureauref04_Same.calls kj2 t506 _ _ t507 a1_1 _ _ l1_2 true _ ?side1 ?side2 ?side3 ?side4 A27.out).mono ?_); (case side1 => refine (rR (e := 51) (base := w.heap.size) (ok := fun k_ => True) (n := t507.length) (c := co38) ?_).2.2; exact (by (with_reducible repeat (first | apply ra | apply rn | apply rd_)); exact (rM (rF (p := ⟨gb511, 1, none⟩) (rF (p := ⟨gb511, 0, none⟩) (rT HO509.out BK511.out (by decide)) (fun _ hk => hk.2) (.string t506)) (fun _ hk => hk.2) (.slice Ao38 t507.length co38)) (fun _ h_ => h_.1)))); (case side2 => exact (rR HO509.out).2.1); (case side3 => exact cB_ HR1_2.out (by repeat (first | (with_reducible first | exact HB.out | apply ea | apply en | apply ed | refine es ?_ GE502.out | refine es ?_ GE503.out | refine es ?_ GE511.out) | exact HB.out))); (case side4 => exact HC1_2.out); rintro e w40 ⟨rfl, hb⟩; refine ⟨_, rfl, ?_⟩; have n0_ := aM (Kd.R_below (by (with_reducible repeat (first | apply ra | apply rn | apply rd_)); exact (rM (rF (p := ⟨gb511, 1, none⟩) (rF (p := ⟨gb511, 0, none⟩) (rT HO509.out BK511.out (by decide)) (fun _ hk => hk.2) (.string t506)) (fun _ hk => hk.2) (.slice Ao38 t507.length co38)) (fun _ h_ => h_.1))) hb); have n1_ := aM (bB (g := gb502) (o := .cells #[.string a0_0, .slice A0_1 l0_1.length c0_1] 24 (0, 0)) (by (with_reducible repeat (first | apply qn | apply qd | apply qa)); refine bR ?_ NB502_511.out _; (with_reducible repeat (first | apply qn | apply qd | apply qa)); refine bR ?_ NB502_511.out _; exact qy BK502.out) hb); have n2_ := aM (bB (g := gb503) (o := .cells #[.int .i64 a1_0, .string a1_1, .slice A1_2 l1_2.length c1_2, .string a1_3, .slice A1_4 l1_4.length c1_4] 32 (0, 0)) (by (with_reducible repeat (first | apply qn | apply qd | apply qa)); refine bR ?_ NB503_511.out _; (with_reducible repeat (first | apply qn | apply qd | apply qa)); refine bR ?_ NB503_511.out _; exact qy BK503.out) hb); have n3_ := aM (bB (g := gb511) (o := .cells #[.string t506, .slice Ao38 t507.length co38] 24 (0, 0)) (by (with_reducible repeat (first | apply qn | apply qd | apply qa)); refine bU (cs := #[.string t506, .slice none 0 0]) ?_ 1 _ rfl; (with_reducible repeat (first | apply qn | apply qd | apply qa)); refine bU (cs := #[.string (⟨#[]⟩ : ByteArray), .slice none 0 0]) ?_ 0 _ rfl; exact qy BK511.out) hb); have n4_ := aM (bP (by repeat (first | (with_reducible first | exact HB.out | apply ea | apply en | apply ed | refine es ?_ GE502.out | refine es ?_ GE503.out | refine es ?_ GE511.out) | exact HB.out)) hb); clear HO509 BK502 BK503 BK511 HB; have HO509 := n0_; have BK502 := n1_; have BK503 := n2_; have BK511 := n3_; have HB := n4_; clear n0_ n1_ n2_ n3_ n4_; (try clear hb); (try clear hb2); (try clear hk); (try clear hi); have hcz41_0 : w40.cell? ⟨gb502, 0, none⟩ = some (.string a0_0) := (bC BK502.out 0).trans rfl; have hcz41_1 : w40.cell? ⟨gb502, 1, none⟩ = some (.slice A0_1 l0_1.length c0_1) := (bC BK502.out 1).trans rfl; have hfz41_0 := bF BK502.out 0; have hfz41_1 := bF BK502.out 1; have hcz42_0 : w40.cell? ⟨gb503, 0, none⟩ = some (.int .i64 a1_0) := (bC BK503.out 0).trans rfl; have hcz42_1 : w40.cell? ⟨gb503, 1, none⟩ = some (.string a1_1) := (bC BK503.out 1).trans rfl; have hcz42_2 : w40.cell? ⟨gb503, 2, none⟩ = some (.slice A1_2 l1_2.length c1_2) := (bC BK503.out 2).trans rfl; have hcz42_3 : w40.cell? ⟨gb503, 3, none⟩ = some (.string a1_3) := (bC BK503.out 3).trans rfl; have hcz42_4 : w40.cell? ⟨gb503, 4, none⟩ = some (.slice A1_4 l1_4.length c1_4) := (bC BK503.out 4).trans rfl; have hfz42_0 := bF BK503.out 0; have hfz42_1 := bF BK503.out 1; have hfz42_2 := bF BK503.out 2; have hfz42_3 := bF BK503.out 3; have hfz42_4 := bF BK503.out 4))
      go_ret
      exact ⟨by first | rfl | (simp [errW_none, errW_some] <;> rfl) | (simp [*, errW_none, errW_some] <;> rfl), by repeat (first | (with_reducible first | exact HB.out | apply ea | apply en | apply ed | refine es ?_ GE502.out | refine es ?_ GE503.out | refine es ?_ GE511.out) | exact HB.out)⟩
     ·rw [if_neg c29] at H
      have c29b0 : decide (4096 < (wrap64 ((wrap64 ((a0_0.size : Int) - (a1_1.size : Int))) + (a1_3.size : Int)))) = false := decide_eq_false c29
      clear c29
      obtain rfl := Option.some.inj H
      have hnb43 := NB502_503.out
      have hnc43 := NB503_502.out
      have hcz44_0 : wc.cell? ⟨gb502, 0, none⟩ = some (.string a0_0) := (bC BK502.out 0).trans rfl
      have hcz44_1 : wc.cell? ⟨gb502, 1, none⟩ = some (.slice A0_1 l0_1.length c0_1) := (bC BK502.out 1).trans rfl
      have hfz44_0 := bF BK502.out 0
      have hfz44_1 := bF BK502.out 1
      have hcz45_0 : wc.cell? ⟨gb503, 0, none⟩ = some (.int .i64 a1_0) := (bC BK503.out 0).trans rfl
      have hcz45_1 : wc.cell? ⟨gb503, 1, none⟩ = some (.string a1_1) := (bC BK503.out 1).trans rfl
      have hcz45_2 : wc.cell? ⟨gb503, 2, none⟩ = some (.slice A1_2 l1_2.length c1_2) := (bC BK503.out 2).trans rfl
      have hcz45_3 : wc.cell? ⟨gb503, 3, none⟩ = some (.string a1_3) := (bC BK503.out 3).trans rfl
      have hcz45_4 : wc.cell? ⟨gb503, 4, none⟩ = some (.slice A1_4 l1_4.length c1_4) := (bC BK503.out 4).trans rfl
      have hfz45_0 := bF BK503.out 0
      have hfz45_1 := bF BK503.out 1
      have hfz45_2 := bF BK503.out 2
      have hfz45_3 := bF BK503.out 3
      have hfz45_4 := bF BK503.out 4
      go_wp2_with (first | ((with_reducible refine gate_callee (f := 33) rfl ?_); refine goesL_ (some 39) rfl rfl Try.func33 (by kernel_rfl) rfl #[.agg #[.string a0_0, .slice A0_1 l0_1.length c0_1], .int .i64 a1_0, .int .i64 (wrap64 (a1_0 + (a1_1.size : Int)))] rfl (by (try simp only [mT, mC, mN]); first | done | rfl | (simp only [lD, lT]; rfl)) ?_; (with_reducible refine (bureauref04_Cut.calls kj2 a0_0 _ _ l0_1 a1_0 (wrap64 (a1_0 + (a1_1.size : Int))) t506 t507 t510 _ ?side1 ?side2 A26.out).mono ?_); (case side1 => repeat (first | exact (cB_ HR0_1.out HB.out) | (with_reducible refine Kd.C_alloc ?_ _) | (with_reducible refine Kd.C_drewN ?_ _) | (with_reducible refine Kd.C_drew ?_))); (case side2 => exact HC0_1.out); rintro e w46 ⟨v508, rfl, ho0, hb⟩; refine ⟨_, rfl, ?_⟩; have n0_ := aM (rL ho0 (bZ (by repeat (first | (with_reducible first | exact HB.out | apply ea | apply en | apply ed | refine es ?_ GE502.out | refine es ?_ GE503.out) | exact HB.out)))); have n1_ := aM (bB (g := gb502) (qy BK502.out) hb); have n2_ := aM (bB (g := gb503) (qy BK503.out) hb); have n3_ := aM (bP (by repeat (first | (with_reducible first | exact HB.out | apply ea | apply en | apply ed | refine es ?_ GE502.out | refine es ?_ GE503.out) | exact HB.out)) hb); clear BK502 BK503 HB; have HO509 := n0_; have BK502 := n1_; have BK503 := n2_; have HB := n3_; clear n0_ n1_ n2_ n3_; (try clear hb); (try clear hb2); (try clear hk); (try clear hi); (try clear ho0)) | ((with_reducible refine gate_dst (N := 5) rfl ?_); (try (refine gate_guard (by rfl) ?_; dsimp only)); refine box_event ?hg (N := 5) ?hd (cs := #[.string (⟨#[]⟩ : ByteArray), .slice none 0 0]) (t := 24) ?hr ?_; (case hd | hg => rfl); (case hr => first | (go_simp; done) | (go_simp; rfl)); intro gb511 hg w47 hbox hb; have n0_ := aM (Kd.R_below (ry HO509.out) hb); have n1_ := aM (bB (g := gb502) (qy BK502.out) hb); have n2_ := aM (bB (g := gb503) (qy BK503.out) hb); have n3_ := aM (bP (by repeat (first | (with_reducible first | exact HB.out | apply ea | apply en | apply ed | refine es ?_ GE502.out | refine es ?_ GE503.out) | exact HB.out)) hb); have n4_ := aM (hbox); have n5_ := aM ((by rw [hg]; exact (bZ (by repeat (first | (with_reducible first | exact HB.out | apply ea | apply en | apply ed | refine es ?_ GE502.out | refine es ?_ GE503.out) | exact HB.out))) : w.heap.size ≤ gb511)); have n6_ := n5_; have n7_ := aM ((by rw [hg]; exact Nat.ne_of_lt (blk_lt (g := gb502) (qy BK502.out)) : gb502 ≠ gb511)); have n8_ := aM ((by rw [hg]; exact Nat.ne_of_gt (blk_lt (g := gb502) (qy BK502.out)) : gb511 ≠ gb502)); have n9_ := aM ((by rw [hg]; exact Nat.ne_of_lt (blk_lt (g := gb503) (qy BK503.out)) : gb503 ≠ gb511)); have n10_ := aM ((by rw [hg]; exact Nat.ne_of_gt (blk_lt (g := gb503) (qy BK503.out)) : gb511 ≠ gb503)); clear HO509 BK502 BK503 HB; have HO509 := n0_; have BK502 := n1_; have BK503 := n2_; have HB := n3_; have BK511 := n4_; have GW511 := n5_; have GE511 := n6_; have NB502_511 := n7_; have NB511_502 := n8_; have NB503_511 := n9_; have NB511_503 := n10_; clear n0_ n1_ n2_ n3_ n4_ n5_ n6_ n7_ n8_ n9_ n10_; clear hb hbox hg; have hnb48 := NB511_502.out; have hnc48 := NB502_511.out; have hnb49 := NB511_503.out; have hnc49 := NB503_511.out; have hcz50_0 : w47.cell? ⟨gb511, 0, none⟩ = some (.string (⟨#[]⟩ : ByteArray)) := (bC BK511.out 0).trans rfl; have hcz50_1 : w47.cell? ⟨gb511, 1, none⟩ = some (.slice none 0 0) := (bC BK511.out 1).trans rfl; have hfz50_0 := bF BK511.out 0; have hfz50_1 := bF BK511.out 1; obtain ⟨Ao51, co51, eo51⟩ := Kd.R_slice HO509.out; subst eo51; have hcz52_0 : w47.cell? ⟨gb503, 0, none⟩ = some (.int .i64 a1_0) := (bC BK503.out 0).trans rfl; have hcz52_1 : w47.cell? ⟨gb503, 1, none⟩ = some (.string a1_1) := (bC BK503.out 1).trans rfl; have hcz52_2 : w47.cell? ⟨gb503, 2, none⟩ = some (.slice A1_2 l1_2.length c1_2) := (bC BK503.out 2).trans rfl; have hcz52_3 : w47.cell? ⟨gb503, 3, none⟩ = some (.string a1_3) := (bC BK503.out 3).trans rfl; have hcz52_4 : w47.cell? ⟨gb503, 4, none⟩ = some (.slice A1_4 l1_4.length c1_4) := (bC BK503.out 4).trans rfl; have hfz52_0 := bF BK503.out 0; have hfz52_1 := bF BK503.out 1; have hfz52_2 := bF BK503.out 2; have hfz52_3 := bF BK503.out 3; have hfz52_4 := bF BK503.out 4) | ((with_reducible refine gate_callee (f := 36) rfl ?_); refine goesL_ (some 45) rfl rfl Try.func36 (by kernel_rfl) rfl #[.agg #[.string t506, .slice Ao51 t507.length co51], .agg #[.string a1_1, .slice A1_2 l1_2.length c1_2]] rfl (by (try simp only [mT, mC, mN]); first | done | rfl | (simp only [lD, lT]; rfl)) ?_; (with_reducible refine (bureauref04_Same.calls kj2 t506 _ _ t507 a1_1 _ _ l1_2 true _ ?side1 ?side2 ?side3 ?side4 A27.out).mono ?_); (case side1 => refine (rR (e := 51) (base := w.heap.size) (ok := fun k_ => True) (n := t507.length) (c := co51) ?_).2.2; exact (by (with_reducible repeat (first | apply ra | apply rn | apply rd_)); exact (rM (rF (p := ⟨gb511, 1, none⟩) (rF (p := ⟨gb511, 0, none⟩) (rT HO509.out BK511.out (by decide)) (fun _ hk => hk.2) (.string t506)) (fun _ hk => hk.2) (.slice Ao51 t507.length co51)) (fun _ h_ => h_.1)))); (case side2 => exact (rR HO509.out).2.1); (case side3 => exact cB_ HR1_2.out (by repeat (first | (with_reducible first | exact HB.out | apply ea | apply en | apply ed | refine es ?_ GE502.out | refine es ?_ GE503.out | refine es ?_ GE511.out) | exact HB.out))); (case side4 => exact HC1_2.out); rintro e w53 ⟨rfl, hb⟩; refine ⟨_, rfl, ?_⟩; have n0_ := aM (Kd.R_below (by (with_reducible repeat (first | apply ra | apply rn | apply rd_)); exact (rM (rF (p := ⟨gb511, 1, none⟩) (rF (p := ⟨gb511, 0, none⟩) (rT HO509.out BK511.out (by decide)) (fun _ hk => hk.2) (.string t506)) (fun _ hk => hk.2) (.slice Ao51 t507.length co51)) (fun _ h_ => h_.1))) hb); have n1_ := aM (bB (g := gb502) (o := .cells #[.string a0_0, .slice A0_1 l0_1.length c0_1] 24 (0, 0)) (by (with_reducible repeat (first | apply qn | apply qd | apply qa)); refine bR ?_ NB502_511.out _; (with_reducible repeat (first | apply qn | apply qd | apply qa)); refine bR ?_ NB502_511.out _; exact qy BK502.out) hb); have n2_ := aM (bB (g := gb503) (o := .cells #[.int .i64 a1_0, .string a1_1, .slice A1_2 l1_2.length c1_2, .string a1_3, .slice A1_4 l1_4.length c1_4] 32 (0, 0)) (by (with_reducible repeat (first | apply qn | apply qd | apply qa)); refine bR ?_ NB503_511.out _; (with_reducible repeat (first | apply qn | apply qd | apply qa)); refine bR ?_ NB503_511.out _; exact qy BK503.out) hb); have n3_ := aM (bB (g := gb511) (o := .cells #[.string t506, .slice Ao51 t507.length co51] 24 (0, 0)) (by (with_reducible repeat (first | apply qn | apply qd | apply qa)); refine bU (cs := #[.string t506, .slice none 0 0]) ?_ 1 _ rfl; (with_reducible repeat (first | apply qn | apply qd | apply qa)); refine bU (cs := #[.string (⟨#[]⟩ : ByteArray), .slice none 0 0]) ?_ 0 _ rfl; exact qy BK511.out) hb); have n4_ := aM (bP (by repeat (first | (with_reducible first | exact HB.out | apply ea | apply en | apply ed | refine es ?_ GE502.out | refine es ?_ GE503.out | refine es ?_ GE511.out) | exact HB.out)) hb); clear HO509 BK502 BK503 BK511 HB; have HO509 := n0_; have BK502 := n1_; have BK503 := n2_; have BK511 := n3_; have HB := n4_; clear n0_ n1_ n2_ n3_ n4_; (try clear hb); (try clear hb2); (try clear hk); (try clear hi); have hcz54_0 : w53.cell? ⟨gb502, 0, none⟩ = some (.string a0_0) := (bC BK502.out 0).trans rfl; have hcz54_1 : w53.cell? ⟨gb502, 1, none⟩ = some (.slice A0_1 l0_1.length c0_1) := (bC BK502.out 1).trans rfl; have hfz54_0 := bF BK502.out 0; have hfz54_1 := bF BK502.out 1; have hcz55_0 : w53.cell? ⟨gb503, 0, none⟩ = some (.int .i64 a1_0) := (bC BK503.out 0).trans rfl; have hcz55_1 : w53.cell? ⟨gb503, 1, none⟩ = some (.string a1_1) := (bC BK503.out 1).trans rfl; have hcz55_2 : w53.cell? ⟨gb503, 2, none⟩ = some (.slice A1_2 l1_2.length c1_2) := (bC BK503.out 2).trans rfl; have hcz55_3 : w53.cell? ⟨gb503, 3, none⟩ = some (.string a1_3) := (bC BK503.out 3).trans rfl; have hcz55_4 : w53.cell? ⟨gb503, 4, none⟩ = some (.slice A1_4 l1_4.length c1_4) := (bC BK503.out 4).trans rfl; have hfz55_0 := bF BK503.out 0; have hfz55_1 := bF BK503.out 1; have hfz55_2 := bF BK503.out 2; have hfz55_3 := bF BK503.out 3; have hfz55_4 := bF BK503.out 4))
      go_ret
      exact ⟨by first | rfl | (simp [errW_none, errW_some] <;> rfl) | (simp [*, errW_none, errW_some] <;> rfl), by repeat (first | (with_reducible first | exact HB.out | apply ea | apply en | apply ed | refine es ?_ GE502.out | refine es ?_ GE503.out | refine es ?_ GE511.out) | exact HB.out)⟩
    ·replace c28 := Bool.eq_false_iff.mpr c28
     subst c28
     have H1 : (some 7) = some r := by rw [if_neg (show ¬ (false = true) by decide)] at H; exact H
     clear H
     have H := H1
     clear H1
     obtain rfl := Option.some.inj H
     have hnb56 := NB502_503.out
     have hnc56 := NB503_502.out
     have hcz57_0 : wc.cell? ⟨gb502, 0, none⟩ = some (.string a0_0) := (bC BK502.out 0).trans rfl
     have hcz57_1 : wc.cell? ⟨gb502, 1, none⟩ = some (.slice A0_1 l0_1.length c0_1) := (bC BK502.out 1).trans rfl
     have hfz57_0 := bF BK502.out 0
     have hfz57_1 := bF BK502.out 1
     have hcz58_0 : wc.cell? ⟨gb503, 0, none⟩ = some (.int .i64 a1_0) := (bC BK503.out 0).trans rfl
     have hcz58_1 : wc.cell? ⟨gb503, 1, none⟩ = some (.string a1_1) := (bC BK503.out 1).trans rfl
     have hcz58_2 : wc.cell? ⟨gb503, 2, none⟩ = some (.slice A1_2 l1_2.length c1_2) := (bC BK503.out 2).trans rfl
     have hcz58_3 : wc.cell? ⟨gb503, 3, none⟩ = some (.string a1_3) := (bC BK503.out 3).trans rfl
     have hcz58_4 : wc.cell? ⟨gb503, 4, none⟩ = some (.slice A1_4 l1_4.length c1_4) := (bC BK503.out 4).trans rfl
     have hfz58_0 := bF BK503.out 0
     have hfz58_1 := bF BK503.out 1
     have hfz58_2 := bF BK503.out 2
     have hfz58_3 := bF BK503.out 3
     have hfz58_4 := bF BK503.out 4
     go_wp2_with (first | ((with_reducible refine gate_callee (f := 33) rfl ?_); refine goesL_ (some 39) rfl rfl Try.func33 (by kernel_rfl) rfl #[.agg #[.string a0_0, .slice A0_1 l0_1.length c0_1], .int .i64 a1_0, .int .i64 (wrap64 (a1_0 + (a1_1.size : Int)))] rfl (by (try simp only [mT, mC, mN]); first | done | rfl | (simp only [lD, lT]; rfl)) ?_; (with_reducible refine (bureauref04_Cut.calls kj2 a0_0 _ _ l0_1 a1_0 (wrap64 (a1_0 + (a1_1.size : Int))) t506 t507 t510 _ ?side1 ?side2 A26.out).mono ?_); (case side1 => repeat (first | exact (cB_ HR0_1.out HB.out) | (with_reducible refine Kd.C_alloc ?_ _) | (with_reducible refine Kd.C_drewN ?_ _) | (with_reducible refine Kd.C_drew ?_))); (case side2 => exact HC0_1.out); rintro e w59 ⟨v508, rfl, ho0, hb⟩; refine ⟨_, rfl, ?_⟩; have n0_ := aM (rL ho0 (bZ (by repeat (first | (with_reducible first | exact HB.out | apply ea | apply en | apply ed | refine es ?_ GE502.out | refine es ?_ GE503.out) | exact HB.out)))); have n1_ := aM (bB (g := gb502) (qy BK502.out) hb); have n2_ := aM (bB (g := gb503) (qy BK503.out) hb); have n3_ := aM (bP (by repeat (first | (with_reducible first | exact HB.out | apply ea | apply en | apply ed | refine es ?_ GE502.out | refine es ?_ GE503.out) | exact HB.out)) hb); clear BK502 BK503 HB; have HO509 := n0_; have BK502 := n1_; have BK503 := n2_; have HB := n3_; clear n0_ n1_ n2_ n3_; (try clear hb); (try clear hb2); (try clear hk); (try clear hi); (try clear ho0)) | ((with_reducible refine gate_dst (N := 5) rfl ?_); (try (refine gate_guard (by rfl) ?_; dsimp only)); refine box_event ?hg (N := 5) ?hd (cs := #[.string (⟨#[]⟩ : ByteArray), .slice none 0 0]) (t := 24) ?hr ?_; (case hd | hg => rfl); (case hr => first | (go_simp; done) | (go_simp; rfl)); intro gb511 hg w60 hbox hb; have n0_ := aM (Kd.R_below (ry HO509.out) hb); have n1_ := aM (bB (g := gb502) (qy BK502.out) hb); have n2_ := aM (bB (g := gb503) (qy BK503.out) hb); have n3_ := aM (bP (by repeat (first | (with_reducible first | exact HB.out | apply ea | apply en | apply ed | refine es ?_ GE502.out | refine es ?_ GE503.out) | exact HB.out)) hb); have n4_ := aM (hbox); have n5_ := aM ((by rw [hg]; exact (bZ (by repeat (first | (with_reducible first | exact HB.out | apply ea | apply en | apply ed | refine es ?_ GE502.out | refine es ?_ GE503.out) | exact HB.out))) : w.heap.size ≤ gb511)); have n6_ := n5_; have n7_ := aM ((by rw [hg]; exact Nat.ne_of_lt (blk_lt (g := gb502) (qy BK502.out)) : gb502 ≠ gb511)); have n8_ := aM ((by rw [hg]; exact Nat.ne_of_gt (blk_lt (g := gb502) (qy BK502.out)) : gb511 ≠ gb502)); have n9_ := aM ((by rw [hg]; exact Nat.ne_of_lt (blk_lt (g := gb503) (qy BK503.out)) : gb503 ≠ gb511)); have n10_ := aM ((by rw [hg]; exact Nat.ne_of_gt (blk_lt (g := gb503) (qy BK503.out)) : gb511 ≠ gb503)); clear HO509 BK502 BK503 HB; have HO509 := n0_; have BK502 := n1_; have BK503 := n2_; have HB := n3_; have BK511 := n4_; have GW511 := n5_; have GE511 := n6_; have NB502_511 := n7_; have NB511_502 := n8_; have NB503_511 := n9_; have NB511_503 := n10_; clear n0_ n1_ n2_ n3_ n4_ n5_ n6_ n7_ n8_ n9_ n10_; clear hb hbox hg; have hnb61 := NB511_502.out; have hnc61 := NB502_511.out; have hnb62 := NB511_503.out; have hnc62 := NB503_511.out; have hcz63_0 : w60.cell? ⟨gb511, 0, none⟩ = some (.string (⟨#[]⟩ : ByteArray)) := (bC BK511.out 0).trans rfl; have hcz63_1 : w60.cell? ⟨gb511, 1, none⟩ = some (.slice none 0 0) := (bC BK511.out 1).trans rfl; have hfz63_0 := bF BK511.out 0; have hfz63_1 := bF BK511.out 1; obtain ⟨Ao64, co64, eo64⟩ := Kd.R_slice HO509.out; subst eo64; have hcz65_0 : w60.cell? ⟨gb503, 0, none⟩ = some (.int .i64 a1_0) := (bC BK503.out 0).trans rfl; have hcz65_1 : w60.cell? ⟨gb503, 1, none⟩ = some (.string a1_1) := (bC BK503.out 1).trans rfl; have hcz65_2 : w60.cell? ⟨gb503, 2, none⟩ = some (.slice A1_2 l1_2.length c1_2) := (bC BK503.out 2).trans rfl; have hcz65_3 : w60.cell? ⟨gb503, 3, none⟩ = some (.string a1_3) := (bC BK503.out 3).trans rfl; have hcz65_4 : w60.cell? ⟨gb503, 4, none⟩ = some (.slice A1_4 l1_4.length c1_4) := (bC BK503.out 4).trans rfl; have hfz65_0 := bF BK503.out 0; have hfz65_1 := bF BK503.out 1; have hfz65_2 := bF BK503.out 2; have hfz65_3 := bF BK503.out 3; have hfz65_4 := bF BK503.out 4) | ((with_reducible refine gate_callee (f := 36) rfl ?_); refine goesL_ (some 45) rfl rfl Try.func36 (by kernel_rfl) rfl #[.agg #[.string t506, .slice Ao64 t507.length co64], .agg #[.string a1_1, .slice A1_2 l1_2.length c1_2]] rfl (by (try simp only [mT, mC, mN]); first | done | rfl | (simp only [lD, lT]; rfl)) ?_; (with_reducible refine (bureauref04_Same.calls kj2 t506 _ _ t507 a1_1 _ _ l1_2 false _ ?side1 ?side2 ?side3 ?side4 A27.out).mono ?_); (case side1 => refine (rR (e := 51) (base := w.heap.size) (ok := fun k_ => True) (n := t507.length) (c := co64) ?_).2.2; exact (by (with_reducible repeat (first | apply ra | apply rn | apply rd_)); exact (rM (rF (p := ⟨gb511, 1, none⟩) (rF (p := ⟨gb511, 0, none⟩) (rT HO509.out BK511.out (by decide)) (fun _ hk => hk.2) (.string t506)) (fun _ hk => hk.2) (.slice Ao64 t507.length co64)) (fun _ h_ => h_.1)))); (case side2 => exact (rR HO509.out).2.1); (case side3 => exact cB_ HR1_2.out (by repeat (first | (with_reducible first | exact HB.out | apply ea | apply en | apply ed | refine es ?_ GE502.out | refine es ?_ GE503.out | refine es ?_ GE511.out) | exact HB.out))); (case side4 => exact HC1_2.out); rintro e w66 ⟨rfl, hb⟩; refine ⟨_, rfl, ?_⟩; have n0_ := aM (Kd.R_below (by (with_reducible repeat (first | apply ra | apply rn | apply rd_)); exact (rM (rF (p := ⟨gb511, 1, none⟩) (rF (p := ⟨gb511, 0, none⟩) (rT HO509.out BK511.out (by decide)) (fun _ hk => hk.2) (.string t506)) (fun _ hk => hk.2) (.slice Ao64 t507.length co64)) (fun _ h_ => h_.1))) hb); have n1_ := aM (bB (g := gb502) (o := .cells #[.string a0_0, .slice A0_1 l0_1.length c0_1] 24 (0, 0)) (by (with_reducible repeat (first | apply qn | apply qd | apply qa)); refine bR ?_ NB502_511.out _; (with_reducible repeat (first | apply qn | apply qd | apply qa)); refine bR ?_ NB502_511.out _; exact qy BK502.out) hb); have n2_ := aM (bB (g := gb503) (o := .cells #[.int .i64 a1_0, .string a1_1, .slice A1_2 l1_2.length c1_2, .string a1_3, .slice A1_4 l1_4.length c1_4] 32 (0, 0)) (by (with_reducible repeat (first | apply qn | apply qd | apply qa)); refine bR ?_ NB503_511.out _; (with_reducible repeat (first | apply qn | apply qd | apply qa)); refine bR ?_ NB503_511.out _; exact qy BK503.out) hb); have n3_ := aM (bB (g := gb511) (o := .cells #[.string t506, .slice Ao64 t507.length co64] 24 (0, 0)) (by (with_reducible repeat (first | apply qn | apply qd | apply qa)); refine bU (cs := #[.string t506, .slice none 0 0]) ?_ 1 _ rfl; (with_reducible repeat (first | apply qn | apply qd | apply qa)); refine bU (cs := #[.string (⟨#[]⟩ : ByteArray), .slice none 0 0]) ?_ 0 _ rfl; exact qy BK511.out) hb); have n4_ := aM (bP (by repeat (first | (with_reducible first | exact HB.out | apply ea | apply en | apply ed | refine es ?_ GE502.out | refine es ?_ GE503.out | refine es ?_ GE511.out) | exact HB.out)) hb); clear HO509 BK502 BK503 BK511 HB; have HO509 := n0_; have BK502 := n1_; have BK503 := n2_; have BK511 := n3_; have HB := n4_; clear n0_ n1_ n2_ n3_ n4_; (try clear hb); (try clear hb2); (try clear hk); (try clear hi)))
     go_ret
     exact ⟨by first | rfl | (simp [errW_none, errW_some] <;> rfl) | (simp [*, errW_none, errW_some] <;> rfl), by repeat (first | (with_reducible first | exact HB.out | apply ea | apply en | apply ed | refine es ?_ GE502.out | refine es ?_ GE503.out | refine es ?_ GE511.out) | exact HB.out)⟩
end Go.Proofs.Ytnbdldpjiofafaa.PB
end
