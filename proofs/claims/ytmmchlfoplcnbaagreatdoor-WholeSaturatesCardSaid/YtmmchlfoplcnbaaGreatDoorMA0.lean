/- Short names for what is said often. -/
import Derived.ProofKit
import Derived.OpenShut
import Derived.Lib.Hide
import Derived.Test.YtmmchlfoplcnbaaGreatDoorProg
set_option linter.all false
namespace Go.Value
abbrev i (x:Int):Value:=.int .i64 x
end Go.Value
namespace Go.Proofs.YtmmchlfoplcnbaaGreatDoor
open Go
theorem J {p:Prop}(h:p):RowKit.Hid p:=h
theorem ae {a b:Prop}(x:a)(y:b):a∧b:=⟨x,y⟩
theorem aE {α:Sort _}(a:α):∃ w,a=w:=⟨a,rfl⟩
theorem ai {P:Prop}(h:P:=by kernel_rfl):P:=h
theorem af {P:Prop}(h:P:=by omega):P:=h
theorem ak {P:Prop}(h:P:=by decide):P:=h
theorem av {P:Prop}(h:P:=by simp):P:=h
theorem As {P:Prop}(h:P:=by assumption):P:=h
theorem aH {P:Prop}(h:P:=by rfl):P:=h
theorem cm {P:Prop}(h:P:=by go_num):P:=h
theorem cc {P:Prop}(h:P:=by simp [Value.oneCell']):P:=h
theorem dP {P:Prop}(h:P:=by intro k hk;cases hk;omega):P:=h
theorem c4 {P:Prop}(h:P:=by simp [intOf];omega):P:=h
theorem ef {P:Prop}(h:P:=by simp [intOf]):P:=h
theorem alK {α β γ:Sort _}{P:α→β→γ→Prop}(a:α)(b:β)(c:γ)(h:P a b c):P a b c:=h
theorem aF {n:Nat}:n≤n:=Nat.le_refl n
theorem aY {α:Type _}(l:List α)(i:Nat)(a:α):l.toArray.setIfInBounds i a=(l.set i a).toArray:=List.setIfInBounds_toArray l i a
theorem aZ {α:Type _}(x:α)(l:List α)(a:α):(x::l).set 0 a=a::l:=List.set_cons_zero
theorem a1 {α:Type _}(x:α)(l:List α)(i:Nat)(a:α):(x::l).set (i+1) a=x::l.set i a:=List.set_cons_succ
def aO:=@Go.RowKit.Below.refl
def bp:=@if_neg
def bB:=@if_pos
def bO:=@decide_eq_true
def cd:=@List.length_append
def cy:=@List.length_cons
def cS:=@Go.bodyPost_ret
def cX:=@decide_eq_false
def dD:=@List.length_nil
def dF:=@List.getElem?_eq_getElem
def e3:=@Nat.le_refl
def fb:=@List.mem_cons
def fw:=@Nat.zero_add
def fv:=@List.length_take
def gB:=@Nat.lt_or_ge
def gS:=@List.take_succ_eq_append_getElem
def gT:=@Nat.le_trans
def iO:=@List.getElem_mem
def ji:=@beq_eq_false_iff_ne
def jl:=@List.mem_append
def jv:=@List.getElem?_eq_some_iff
def s8:=@List.getElem?_toArray
def jZ:=@decide_eq_true_eq
def yC:=@List.getElem?_cons_succ
def yQ:=@List.getElem?_cons_zero
def kn:=@List.take_length
def mS:=@Go.IntKind.wrap_i64
def kM:=@List.mem_map
def kN:=@Go.Sem.run_bind
def ll:=@if_true
def lJ:=@List.length_map
def l1:=@or_false
def ml:=@if_false
def mm:=@Array.length_toList
def mn:=@Go.run_underlying
def mq:=@List.append_assoc
def mr:=@List.not_mem_nil
def mD:=@List.mem_singleton
def nv:=@Go.Sem.run_pure
def ny:=@List.map_cons
def nB:=@List.pairwise_cons
def nQ:=@List.map_append
def nW:=@Nat.mul_one
def oF:=@Nat.min_eq_left
def oG:=@Go.ByteArray.toList_eq
def oQ:=@Bool.false_eq_true
def oU:=@Int.le_refl
def pj:=@List.getElem_of_mem
def pp:=@List.size_toArray
def pz:=@congrArg
def pB:=@List.take_of_length_le
def oP:=@List.foldl_cons
def pZ:=@Go.Result.andThen_ok
def p1:=@List.take_append_drop
def p3:=@Nat.zero_le
def qb:=@Nat.lt_of_lt_of_le
def qh:=@Nat.le_succ
def qB:=@List.mem_of_getElem?
def qQ:=@beq_iff_eq
def qW:=@List.getElem?_map
def rk:=@Go.Calls.mono
def qN:=@Bool.and_eq_true
def rT:=@List.map_nil
def rU:=@List.take_left'
def rV:=@List.length_drop
def r3:=@Nat.min_def
def rR:=@List.append_nil
def s4:=@Array.getElem?_eq_getElem
def td:=@List.getElem?_eq_none
def tx:=@List.length_filter_le
def tA:=@List.length_set
def tF:=@UInt8.toNat_ofNat'
def tJ:=@List.pairwise_iff_getElem
def vu:=@List.take_take
def vw:=@Nat.add_zero
def vB:=@Nat.mul_le_mul_right
def vD:=@List.filter_append
def vI:=@List.mem_filter
def wk:=@Array.toList_push
def wF:=@Go.MapKept.run_getObj_map
def w1:=@Nat.add_mul
def w2:=@Nat.one_mul
def w4:=@Nat.zero_mul
def w5:=@Array.getElem?_eq_some_iff
def vr:=@Array.getElem?_eq_none
def w8:=@Bool.eq_iff_iff
def w9:=@Go.size_zeroCells
def vL:=@List.foldl_append
def ya:=@Go.heap_alloc_new
def yd:=@getElem!_pos
def yJ:=@List.getElem_cons_zero
def yK:=@Nat.pow_zero
def zp:=@Go.World.size_alloc
def An:=@decide_eq_false_iff_not
def Ap:=@Go.wpList_plain
def Aq:=@List.drop_eq_getElem_cons
def AF:=@List.mergeSort_perm
def AG:=@List.Perm.refl
def AR:=@Nat.shiftLeft_eq
def Cw:=@List.any_eq_true
def x9:=@of_decide_eq_true
def Cx:=@List.eq_nil_of_length_eq_zero
def CC:=@Nat.mod_lt
def CZ:=@Nat.pow_pos
def C0:=@Nat.pow_add
def C1:=@Nat.shiftLeft_zero
def C2:=@Nat.le_mul_of_pos_right
def DF:=@List.setIfInBounds_toArray
def DZ:=@List.length_pos_iff
def D0:=@Go.run_equalIn_int
def D3:=@List.drop_eq_nil_of_le
def D4:=@Nat.add_assoc
def D6:=@List.map_toArray
def D7:=@List.take_append_of_le_length
def Ep:=@List.not_lt
def Ez:=@List.mem_of_mem_take
def EB:=@Nat.pow_le_pow_right
def EI:=@List.mem_cons_of_mem
def EV:=@List.nodup_append
def Ff:=@Option.some.injEq
def FB:=@List.mem_iff_getElem
def FC:=@List.getElem_map
def FD:=@Go.MapKept.run_setObj_map
def Gt:=@List.any_append
def Gz:=@Go.World.cell?_of_block
def Kd:=@List.getElem_set_self
def GA:=@List.ext_getElem?
def GH:=@List.cons.injEq
def GL:=@List.getElem?_drop
def GM:=@List.getElem?_take
def GN:=@Go.grownCap_le_maxLen
def GO:=@Std.Legacy.Range.forIn_eq_forIn_range'
def GP:=@List.forIn_cons
def GV:=@Array.toList_setIfInBounds
def GY:=@List.map_congr_left
def G8:=@Option.map_some
def Hq:=@Nat.div_eq_of_lt
def Hz:=@List.perm_middle
def HA:=@Nat.lt_trichotomy
def HJ:=@List.cons_append
def HR:=@Array.toList_inj
def HT:=@List.perm_append_comm
def HU:=@List.Sublist.refl
def HX:=@List.pairwise_mergeSort
def HY:=@List.pairwise_map
def H8:=@List.length_replicate
def Ib:=@Go.MapKept.heap_set
def Is:=@Go.MapKept.heap_alloc
def I4:=@List.length_zipWith
def Jb:=@List.getElem_set
def Jk:=@List.drop_drop
def J8:=@List.mem_append_left
def J':=@List.getElem?_append_left
def Ka:=@List.getElem?_append_right
def Kb:=@Nat.add_sub_cancel_left
def Kc:=@Array.getElem?_modify
def Kk:=@List.countP_le_length
def Kl:=@List.countP_cons_of_pos
def Kr:=@List.eq_nil_or_concat
def KJ:=@List.set_eq_take_append_cons_drop
def KS:=@List.getElem?_take_of_lt
def K5:=@List.mem_take_iff_getElem
def K6:=@List.mem_drop_iff_getElem
def K7:=@List.getElem_cons_succ
def M2:=@List.mem_of_find?_eq_some
def Nz:=@List.nodup_iff_pairwise_ne
def NS:=@Array.getD_eq_getD_getElem?
def N4:=@List.mem_of_mem_drop
end Go.Proofs.YtmmchlfoplcnbaaGreatDoor
