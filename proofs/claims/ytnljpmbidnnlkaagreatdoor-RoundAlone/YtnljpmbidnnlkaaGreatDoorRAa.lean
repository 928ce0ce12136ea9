/- A part of the proof of RoundAlone. -/
import GoSem.Step
import Derived.RangeFuncRecord
import Derived.Laws.Cells
import Derived.Laws.CopyRow
import Derived.Laws.Entries
import Derived.IntWalk
import Derived.Laws.Tables
import Derived.Great.BuildSlice
import Derived.Laws.Strings
import Derived.Lib.Strings
import Derived.Laws.Concat
import Derived.Laws.StructEq
import Derived.Laws.Cover3
import Derived.Laws.Pointers
import Derived.Laws.Small
import Derived.Lib.Builder
import Derived.WideLaws
import Derived.Lib.UnsafeStr
import Derived.Laws.MakeOwn
set_option linter.unusedVariables false
set_option linter.unusedSimpArgs false
namespace Go.Ev
theorem bU:type_of% @decide_eq_true_eq:=@decide_eq_true_eq
theorem bp:type_of% @Int.ofNat_lt:=@Int.ofNat_lt
theorem cw:type_of% @Nat.eq_of_beq_eq_true:=@Nat.eq_of_beq_eq_true
theorem bh:type_of% @Nat.le_refl:=@Nat.le_refl
theorem co:type_of% @List.mem_cons_of_mem:=@List.mem_cons_of_mem
theorem cU:type_of% @decide_eq_false_iff_not:=@decide_eq_false_iff_not
theorem bX:type_of% @Bool.and_eq_true:=@Bool.and_eq_true
theorem cE:type_of% @List.mem_cons_self:=@List.mem_cons_self
theorem aW:type_of% @trivial:=@trivial
theorem cg:type_of% @Bool.eq_iff_iff:=@Bool.eq_iff_iff
theorem cN:type_of% @List.take_of_length_le:=@List.take_of_length_le
theorem bN:type_of% @Nat.zero_le:=@Nat.zero_le
theorem dW:type_of% @List.getElem?_eq_getElem:=@List.getElem?_eq_getElem
theorem bW:type_of% @Nat.beq_refl:=@Nat.beq_refl
theorem ca:type_of% @Nat.zero_add:=@Nat.zero_add
theorem cO:type_of% @List.getElem_mem:=@List.getElem_mem
theorem dK:type_of% @Nat.le_of_ble_eq_true:=@Nat.le_of_ble_eq_true
theorem cy:type_of% @List.mem_cons:=@List.mem_cons
theorem dI:type_of% @Bool.false_eq_true:=@Bool.false_eq_true
theorem eB:type_of% @Bool.and_eq_false_iff:=@Bool.and_eq_false_iff
theorem dF:type_of% @List.mem_append:=@List.mem_append
theorem dR:type_of% @List.length_cons:=@List.length_cons
theorem et:type_of% @Bool.not_eq_true':=@Bool.not_eq_true'
theorem dE:type_of% @Bool.and_self:=@Bool.and_self
theorem cT:type_of% @Nat.blt_eq:=@Nat.blt_eq
theorem jd:type_of% @List.take_succ_eq_append_getElem:=@List.take_succ_eq_append_getElem
theorem cm:type_of% @eq_false:=@eq_false
theorem eI:type_of% @List.all_eq_true:=@List.all_eq_true
theorem ir:type_of% @Array.getElem?_eq_some_iff:=@Array.getElem?_eq_some_iff
theorem dL:type_of% @decide_true:=@decide_true
theorem fc:type_of% @Option.some.inj:=@Option.some.inj
theorem eP:type_of% @Bool.not_false:=@Bool.not_false
theorem iu:type_of% @List.drop_of_length_le:=@List.drop_of_length_le
theorem jb:type_of% @List.getElem?_eq_some_iff:=@List.getElem?_eq_some_iff
theorem ku:type_of% @List.mem_of_getElem?:=@List.mem_of_getElem?
theorem gR:type_of% @List.mem_append_left:=@List.mem_append_left
theorem dZ:type_of% @Nat.mul_one:=@Nat.mul_one
theorem fi:type_of% @List.drop_zero:=@List.drop_zero
theorem fW:type_of% @Bool.not_eq_true:=@Bool.not_eq_true
theorem fK:type_of% @decide_eq_false:=@decide_eq_false
theorem fm:type_of% @Nat.add_assoc:=@Nat.add_assoc
theorem fq:type_of% @Bool.not_true:=@Bool.not_true
theorem gY:type_of% @Nat.lt_of_lt_of_le:=@Nat.lt_of_lt_of_le
theorem gZ:type_of% @List.length_append:=@List.length_append
theorem fM:type_of% @decide_eq_true:=@decide_eq_true
theorem kj:type_of% @List.getElem?_append_right:=@List.getElem?_append_right
theorem gO:type_of% @List.getElem?_map:=@List.getElem?_map
theorem gv:type_of% @List.nil_append:=@List.nil_append
theorem de:type_of% @Iff.rfl:=@Iff.rfl
theorem fC:type_of% @Nat.le_trans:=@Nat.le_trans
theorem gW:type_of% @List.length_take:=@List.length_take
theorem du:type_of% @eq_true:=@eq_true
theorem eW:type_of% @eq_iff_iff:=@eq_iff_iff
theorem iv:type_of% @Array.toList_inj:=@Array.toList_inj
theorem lw:type_of% @Option.map_eq_some_iff:=@Option.map_eq_some_iff
theorem mV:type_of% @Array.getD_eq_getD_getElem?:=@Array.getD_eq_getD_getElem?
theorem fV:type_of% @Nat.succ_mul:=@Nat.succ_mul
theorem je:type_of% @List.mem_singleton:=@List.mem_singleton
theorem kz:type_of% @List.mem_append_right:=@List.mem_append_right
theorem eJ:type_of% @false_iff:=@false_iff
theorem eQ:type_of% @iff_false:=@iff_false
theorem eE:type_of% @if_false:=@if_false
theorem eL:type_of% @true_iff:=@true_iff
theorem eH:type_of% @iff_true:=@iff_true
theorem kB:type_of% @List.getElem?_drop:=@List.getElem?_drop
theorem lu:type_of% @Nat.mul_le_mul_right:=@Nat.mul_le_mul_right
theorem oe:type_of% @Array.getElem?_eq_getElem:=@Array.getElem?_eq_getElem
theorem ot:type_of% @List.getElem?_append_left:=@List.getElem?_append_left
theorem lK:type_of% @List.mem_map_of_mem:=@List.mem_map_of_mem
theorem ki:type_of% @List.append_assoc:=@List.append_assoc
theorem jL:type_of% @List.nodup_cons:=@List.nodup_cons
theorem jG:type_of% @List.length_nil:=@List.length_nil
theorem nS:type_of% @List.getElem?_cons_succ:=@List.getElem?_cons_succ
theorem kw:type_of% @List.length_set:=@List.length_set
theorem nY:type_of% @List.getElem?_toArray:=@List.getElem?_toArray
theorem i9:type_of% @decide_false:=@decide_false
theorem uA:type_of% @Option.bind_some:=@Option.bind_some
theorem lA:type_of% @List.cons_append:=@List.cons_append
theorem lE:type_of% @List.take_length:=@List.take_length
theorem kq:type_of% @List.drop_drop:=@List.drop_drop
theorem uC:type_of% @Option.bind_eq_some_iff:=@Option.bind_eq_some_iff
theorem lI:type_of% @Nat.min_eq_left:=@Nat.min_eq_left
theorem lJ:type_of% @List.length_map:=@List.length_map
theorem nJ:type_of% @Array.toList_append:=@Array.toList_append
theorem kb:type_of% @Bool.true_and:=@Bool.true_and
theorem mR:type_of% @List.length_drop:=@List.length_drop
theorem pS:type_of% @List.take_append_drop:=@List.take_append_drop
theorem od:type_of% @List.append_of_mem:=@List.append_of_mem
theorem i7:type_of% @Nat.beq_eq:=@Nat.beq_eq
theorem mL:type_of% @List.mem_filter:=@List.mem_filter
theorem ko:type_of% @Nat.add_zero:=@Nat.add_zero
theorem nW:type_of% @List.nodup_append:=@List.nodup_append
theorem rV:type_of% @List.getElem?_cons_zero:=@List.getElem?_cons_zero
theorem sj:type_of% @List.filter_cons_of_neg:=@List.filter_cons_of_neg
theorem rT:type_of% @List.filter_cons_of_pos:=@List.filter_cons_of_pos
theorem nM:type_of% @Nat.lt_succ_self:=@Nat.lt_succ_self
theorem ou:type_of% @Array.toList_map:=@Array.toList_map
theorem mY:type_of% @Nat.mul_le_mul:=@Nat.mul_le_mul
theorem pY:type_of% @List.getElem?_take:=@List.getElem?_take
theorem lF:type_of% @List.mem_map:=@List.mem_map
theorem nI:type_of% @List.pairwise_cons:=@List.pairwise_cons
theorem kG:type_of% @List.map_cons:=@List.map_cons
theorem kM:type_of% @List.all_cons:=@List.all_cons
theorem qY:type_of% @Array.getElem?_append_left:=@Array.getElem?_append_left
theorem nF:type_of% @of_decide_eq_true:=@of_decide_eq_true
theorem jF:type_of% @Nat.add_mul:=@Nat.add_mul
theorem zg:type_of% @Int.le_refl:=@Int.le_refl
theorem gh:type_of% @if_true:=@if_true
theorem kR:type_of% @Nat.ne_of_lt:=@Nat.ne_of_lt
theorem qV:type_of% @Option.isSome_iff_exists:=@Option.isSome_iff_exists
theorem kC:type_of% @Nat.sub_zero:=@Nat.sub_zero
theorem kF:type_of% @Nat.zero_mul:=@Nat.zero_mul
theorem pD:type_of% @List.length_pos_iff:=@List.length_pos_iff
theorem oW:type_of% @Nat.mul_le_mul_left:=@Nat.mul_le_mul_left
theorem lT:type_of% @Bool.false_or:=@Bool.false_or
theorem nC:type_of% @Option.map_some:=@Option.map_some
theorem o9:type_of% @not_true_eq_false:=@not_true_eq_false
theorem pa:type_of% @Int.toNat_natCast:=@Int.toNat_natCast
theorem mh:type_of% @List.all_nil:=@List.all_nil
theorem mj:type_of% @Nat.le_of_lt:=@Nat.le_of_lt
theorem kI:type_of% @Nat.mod_lt:=@Nat.mod_lt
theorem nq:type_of% @Bool.and_true:=@Bool.and_true
theorem ml:type_of% @Nat.ble_eq:=@Nat.ble_eq
noncomputable section
inductive Box (α:Type) where
 | mk (a:α)
inductive D where
 | bool (b:Bool)
 | int (k:IntKind) (n:Int)
 | str (s:List Nat)
 | nilp
 | ptr (cs:List D) (off:Nat)
 | nils
 | sl (sz:Nat) (cs:List D) (len:Nat)
 | nilm
 | map (ks vs:List D)
 | fn (f:FuncId) (first cap:List D)
 | nilf
 | ifc (t:TypeId) (v:D)
 | nili
 | agg (cs:List D)
 | tup (cs:List D)
inductive AV where
 | bool (b:Bool)
 | int (k:IntKind) (n:Int)
 | str (s:List Nat)
 | ptr (b off:Nat)
 | nilp
 | gptr (g off:Nat)
 | sl (b off len sz:Nat) (cap:Option Nat)
 | nils
 | map (b:Nat)
 | nilm
 | fn (f:FuncId) (first captured:List AV)
 | yld (b:Nat)
 | nilf
 | ifc (t:TypeId) (v:AV)
 | nili
 | agg (cs:List AV)
 | tup (vs:List AV)
 | dat (d:D)
mutual
def ofD:D->AV
 | .bool b=>.bool b
 | .int k n=>.int k n
 | .str s=>.str s
 | .nilp=>.nilp
 | .nils=>.nils
 | .nilm=>.nilm
 | .fn f a c=>.fn f (aq a) (aq c)
 | .nilf=>.nilf
 | .ifc t v=>.ifc t (ofD v)
 | .nili=>.nili
 | .agg cs=>.agg (aq cs)
 | .tup cs=>.tup (aq cs)
 | .ptr cs off=>.dat (.ptr cs off)
 | .sl sz cs len=>.dat (.sl sz cs len)
 | .map ks vs=>.dat (.map ks vs)
def aq:List D->List AV
 | []=>[]
 | d::ds=>ofD d::aq ds
end
structure R (α:Type) where
 (a0:α)
 (a1:α)
 (a2:α)
 (a3:α)
 (a4:α)
 (a5:α)
 (a6:α)
 (a7:α)
 (a8:α)
 (a9:α)
 (a10:α)
 (a11:α)
 (a12:α)
 (a13:α)
 (a14:α)
 (a15:α)
def mJ {α:Type} (d:Nat):Box (R α->α):=
 match d with
 | 0=>.mk fun r=>R.casesOn r fun a0 _ _ _ _ _ _ _ _ _ _ _ _ _ _ _=>a0
 | 1=>.mk fun r=>R.casesOn r fun _ a1 _ _ _ _ _ _ _ _ _ _ _ _ _ _=>a1
 | 2=>.mk fun r=>R.casesOn r fun _ _ a2 _ _ _ _ _ _ _ _ _ _ _ _ _=>a2
 | 3=>.mk fun r=>R.casesOn r fun _ _ _ a3 _ _ _ _ _ _ _ _ _ _ _ _=>a3
 | 4=>.mk fun r=>R.casesOn r fun _ _ _ _ a4 _ _ _ _ _ _ _ _ _ _ _=>a4
 | 5=>.mk fun r=>R.casesOn r fun _ _ _ _ _ a5 _ _ _ _ _ _ _ _ _ _=>a5
 | 6=>.mk fun r=>R.casesOn r fun _ _ _ _ _ _ a6 _ _ _ _ _ _ _ _ _=>a6
 | 7=>.mk fun r=>R.casesOn r fun _ _ _ _ _ _ _ a7 _ _ _ _ _ _ _ _=>a7
 | 8=>.mk fun r=>R.casesOn r fun _ _ _ _ _ _ _ _ a8 _ _ _ _ _ _ _=>a8
 | 9=>.mk fun r=>R.casesOn r fun _ _ _ _ _ _ _ _ _ a9 _ _ _ _ _ _=>a9
 | 10=>.mk fun r=>R.casesOn r fun _ _ _ _ _ _ _ _ _ _ a10 _ _ _ _ _=>a10
 | 11=>.mk fun r=>R.casesOn r fun _ _ _ _ _ _ _ _ _ _ _ a11 _ _ _ _=>a11
 | 12=>.mk fun r=>R.casesOn r fun _ _ _ _ _ _ _ _ _ _ _ _ a12 _ _ _=>a12
 | 13=>.mk fun r=>R.casesOn r fun _ _ _ _ _ _ _ _ _ _ _ _ _ a13 _ _=>a13
 | 14=>.mk fun r=>R.casesOn r fun _ _ _ _ _ _ _ _ _ _ _ _ _ _ a14 _=>a14
 | _=>.mk fun r=>R.casesOn r fun _ _ _ _ _ _ _ _ _ _ _ _ _ _ _ a15=>a15
def kL {α:Type} (d:Nat):Box (R α->(α->(α->Bool)->Bool)->(R α->Bool)->Bool):=
 match d with
 | 0=>.mk fun r f k=>R.casesOn r fun a0 a1 a2 a3 a4 a5 a6 a7 a8 a9 a10 a11 a12 a13 a14 a15=>f a0 fun x=>k ⟨x,a1,a2,a3,a4,a5,a6,a7,a8,a9,a10,a11,a12,a13,a14,a15⟩
 | 1=>.mk fun r f k=>R.casesOn r fun a0 a1 a2 a3 a4 a5 a6 a7 a8 a9 a10 a11 a12 a13 a14 a15=>f a1 fun x=>k ⟨a0,x,a2,a3,a4,a5,a6,a7,a8,a9,a10,a11,a12,a13,a14,a15⟩
 | 2=>.mk fun r f k=>R.casesOn r fun a0 a1 a2 a3 a4 a5 a6 a7 a8 a9 a10 a11 a12 a13 a14 a15=>f a2 fun x=>k ⟨a0,a1,x,a3,a4,a5,a6,a7,a8,a9,a10,a11,a12,a13,a14,a15⟩
 | 3=>.mk fun r f k=>R.casesOn r fun a0 a1 a2 a3 a4 a5 a6 a7 a8 a9 a10 a11 a12 a13 a14 a15=>f a3 fun x=>k ⟨a0,a1,a2,x,a4,a5,a6,a7,a8,a9,a10,a11,a12,a13,a14,a15⟩
 | 4=>.mk fun r f k=>R.casesOn r fun a0 a1 a2 a3 a4 a5 a6 a7 a8 a9 a10 a11 a12 a13 a14 a15=>f a4 fun x=>k ⟨a0,a1,a2,a3,x,a5,a6,a7,a8,a9,a10,a11,a12,a13,a14,a15⟩
 | 5=>.mk fun r f k=>R.casesOn r fun a0 a1 a2 a3 a4 a5 a6 a7 a8 a9 a10 a11 a12 a13 a14 a15=>f a5 fun x=>k ⟨a0,a1,a2,a3,a4,x,a6,a7,a8,a9,a10,a11,a12,a13,a14,a15⟩
 | 6=>.mk fun r f k=>R.casesOn r fun a0 a1 a2 a3 a4 a5 a6 a7 a8 a9 a10 a11 a12 a13 a14 a15=>f a6 fun x=>k ⟨a0,a1,a2,a3,a4,a5,x,a7,a8,a9,a10,a11,a12,a13,a14,a15⟩
 | 7=>.mk fun r f k=>R.casesOn r fun a0 a1 a2 a3 a4 a5 a6 a7 a8 a9 a10 a11 a12 a13 a14 a15=>f a7 fun x=>k ⟨a0,a1,a2,a3,a4,a5,a6,x,a8,a9,a10,a11,a12,a13,a14,a15⟩
 | 8=>.mk fun r f k=>R.casesOn r fun a0 a1 a2 a3 a4 a5 a6 a7 a8 a9 a10 a11 a12 a13 a14 a15=>f a8 fun x=>k ⟨a0,a1,a2,a3,a4,a5,a6,a7,x,a9,a10,a11,a12,a13,a14,a15⟩
 | 9=>.mk fun r f k=>R.casesOn r fun a0 a1 a2 a3 a4 a5 a6 a7 a8 a9 a10 a11 a12 a13 a14 a15=>f a9 fun x=>k ⟨a0,a1,a2,a3,a4,a5,a6,a7,a8,x,a10,a11,a12,a13,a14,a15⟩
 | 10=>.mk fun r f k=>R.casesOn r fun a0 a1 a2 a3 a4 a5 a6 a7 a8 a9 a10 a11 a12 a13 a14 a15=>f a10 fun x=>k ⟨a0,a1,a2,a3,a4,a5,a6,a7,a8,a9,x,a11,a12,a13,a14,a15⟩
 | 11=>.mk fun r f k=>R.casesOn r fun a0 a1 a2 a3 a4 a5 a6 a7 a8 a9 a10 a11 a12 a13 a14 a15=>f a11 fun x=>k ⟨a0,a1,a2,a3,a4,a5,a6,a7,a8,a9,a10,x,a12,a13,a14,a15⟩
 | 12=>.mk fun r f k=>R.casesOn r fun a0 a1 a2 a3 a4 a5 a6 a7 a8 a9 a10 a11 a12 a13 a14 a15=>f a12 fun x=>k ⟨a0,a1,a2,a3,a4,a5,a6,a7,a8,a9,a10,a11,x,a13,a14,a15⟩
 | 13=>.mk fun r f k=>R.casesOn r fun a0 a1 a2 a3 a4 a5 a6 a7 a8 a9 a10 a11 a12 a13 a14 a15=>f a13 fun x=>k ⟨a0,a1,a2,a3,a4,a5,a6,a7,a8,a9,a10,a11,a12,x,a14,a15⟩
 | 14=>.mk fun r f k=>R.casesOn r fun a0 a1 a2 a3 a4 a5 a6 a7 a8 a9 a10 a11 a12 a13 a14 a15=>f a14 fun x=>k ⟨a0,a1,a2,a3,a4,a5,a6,a7,a8,a9,a10,a11,a12,a13,x,a15⟩
 | _=>.mk fun r f k=>R.casesOn r fun a0 a1 a2 a3 a4 a5 a6 a7 a8 a9 a10 a11 a12 a13 a14 a15=>f a15 fun x=>k ⟨a0,a1,a2,a3,a4,a5,a6,a7,a8,a9,a10,a11,a12,a13,a14,x⟩
def R.all {α:Type} (x:α):R α:=⟨x,x,x,x,x,x,x,x,x,x,x,x,x,x,x,x⟩
abbrev E2:=R (R AV)
def E2.empty:E2:=R.all (R.all (.tup []))
def Dr (t:Nat):Box (E2->AV):=Box.casesOn (mJ (α:=R AV) (Nat.div t 16)) fun g=>Box.casesOn (mJ (α:=AV) (Nat.mod t 16)) fun h=>.mk fun e=>h (g e)
def oz (t:Nat):Box (E2->AV->(E2->Bool)->Bool):=
 Box.casesOn (kL (α:=R AV) (Nat.div t 16)) fun g=>Box.casesOn (kL (α:=AV) (Nat.mod t 16)) fun h=>
  .mk fun e v k=>g e (fun r kr=>h r (fun _ kx=>kx v) kr) k
inductive Blk where
 | cells (el:Option TypeId) (ro:Bool) (cs:List AV)
 | map (ro:Bool) (es:List (AV×AV×Nat)) (clock:Nat)
 | siter (s:List Nat) (pos:Nat)
 | miter (m:Option Nat) (since:Nat) (seen:List Nat) (stepped:Nat)
 | loop (st:LoopState) (pend:Option Code) (env:E2) (nt:Nat) (params:List Nat) (assign body:Code) (defers:Nat)
 | dfr (opened:Bool)
abbrev H4:=R (R (R (R (Option Blk))))
def H4.empty:H4:=R.all (R.all (R.all (R.all none)))
def DN (b:Nat):Box (H4->Option Blk):=
 Box.casesOn (mJ (α:=R (R (R (Option Blk)))) (Nat.mod (Nat.div b 4096) 16)) fun g=>Box.casesOn (mJ (α:=R (R (Option Blk))) (Nat.mod (Nat.div b 256) 16)) fun h=>
 Box.casesOn (mJ (α:=R (Option Blk)) (Nat.mod (Nat.div b 16) 16)) fun i=>Box.casesOn (mJ (α:=Option Blk) (Nat.mod b 16)) fun j=>.mk fun t=>j (i (h (g t)))
def Ap (b:Nat):Box (H4->Option Blk->(H4->Bool)->Bool):=
 Box.casesOn (kL (α:=R (R (R (Option Blk)))) (Nat.mod (Nat.div b 4096) 16)) fun g=>Box.casesOn (kL (α:=R (R (Option Blk))) (Nat.mod (Nat.div b 256) 16)) fun h=>
 Box.casesOn (kL (α:=R (Option Blk)) (Nat.mod (Nat.div b 16) 16)) fun i=>Box.casesOn (kL (α:=Option Blk) (Nat.mod b 16)) fun j=>
  .mk fun t v k=>g t (fun r kr=>h r (fun r kr=>i r (fun r kr=>j r (fun _ kx=>kx v) kr) kr) kr) k
structure T4 where
 h:H4
 r:Nat->Option Blk
structure Hp where
 t:T4
 nx:Nat
def Hp.empty:Hp:=⟨⟨H4.empty,fun _=>none⟩,0⟩
inductive Dm where
 | mark (b:Nat)
 | call (f:FuncId) (args:List AV)
structure En where
 t:E2
 dm:List Dm
inductive AEx where
 | normal
 | exit (id:Nat)
 | ret
 | pan (v:AV) (bad:List Nat)
inductive fk where
 | ret (v:AV)
 | pan (v:AV)
def ef (n:Nat) (k:Nat->Bool):Bool:=Nat.casesOn n (k 0) (fun m=>k (Nat.succ m))
def gE (n:Int) (k:Int->Bool):Bool:=
 Int.casesOn n (fun m=>ef m fun m=>k (.ofNat m)) (fun m=>ef m fun m=>k (.negSucc m))
def fF {α:Type} (l:List α) (k:List α->Bool):Bool:=
 (List.rec (motive:=fun _=>(List α->Bool)->Bool) (fun k=>k []) (fun x _ ih k=>ih fun ys=>k (x::ys)) l:(List α->Bool)->Bool) k
def ip (b:Bool) (k:Bool->Bool):Bool:=Bool.casesOn b (k false) (k true)
def Hp.get (H:Hp) (b:Nat):Option Blk:=Hp.casesOn H fun t _=>T4.casesOn t fun t r=>Bool.casesOn (Nat.blt b 65536) (r b) (Box.casesOn (DN b) fun g=>g t)
def Hp.put (H:Hp) (b:Nat) (x:Option Blk) (k:Hp->Bool):Bool:=Hp.casesOn H fun t nx=>T4.casesOn t fun t r=>
 Bool.casesOn (Nat.blt b 65536) (k ⟨⟨t,fun c=>Bool.casesOn (Nat.beq c b) (r c) x⟩,nx⟩) (Box.casesOn (Ap b) fun g=>g t x fun t=>k ⟨⟨t,r⟩,nx⟩)
def Hp.reserve (H:Hp) (k:Nat->Hp->Bool):Bool:=Hp.casesOn H fun t nx=>ef (Nat.succ nx) fun nx'=>k nx ⟨t,nx'⟩
def Hp.new (H:Hp) (x:Blk) (k:Nat->Hp->Bool):Bool:=H.reserve fun b H=>H.put b (some x) fun H=>k b H
def ofC:Nat->Value->Option AV
 | 0,_=>none
 | d+1,v=>
  match v with
  | .bool b=>some (.bool b)
  | .int k n=>some (.int k n)
  | .string s=>some (.str (s.data.toList.map UInt8.toNat))
  | .pointer none=>some .nilp
  | .slice none 0 0=>some .nils
  | .map none=>some .nilm
  | .nilFunc=>some .nilf
  | .nilIface=>some .nili
  | .iface t v=>match ofC d v with
   | some a=>some (.ifc t a)
   | none=>none
  | .agg cs=>match cs.toList.mapM (ofC d) with
   | some l=>some (.agg l)
   | none=>none
  | .tuple cs=>match cs.toList.mapM (ofC d) with
   | some l=>some (.tup l)
   | none=>none
  | _=>none
def cst (v:Value):AV:=(ofC 6 v).getD .nilp
abbrev Zw:=En->AV
def eO:Operand->Box Zw
 | .tmp t=>Box.casesOn (Dr t) fun g=>.mk fun e=>En.casesOn e fun x _=>g x
 | .const v=>.mk fun _=>cst v
 | .global g=>.mk fun _=>.gptr g 0
 | .func f=>.mk fun _=>.fn f [] []
def Jw:Option Operand->Box (En->Option AV)
 | none=>.mk fun _=>none
 | some o=>Box.casesOn (eO o) fun g=>.mk fun e=>some (g e)
def wR (l:List Operand):Box (En->List AV):=
 List.rec (.mk fun _=>[]) (fun o _ r=>Box.casesOn (eO o) fun g=>Box.casesOn r fun r=>.mk fun e=>g e::r e) l
def yU (l:List (Nat×Operand)):Box (En->List (Nat×AV)):=
 List.rec (.mk fun _=>[]) (fun o _ r=>Prod.casesOn o fun i o=>Box.casesOn (eO o) fun g=>Box.casesOn r fun r=>.mk fun e=>(i,g e)::r e) l
def opd (e:En) (o:Operand):AV:=Box.casesOn (eO o) fun g=>g e
def mz:Operand->Bool
 | .tmp t=>Nat.blt t 256
 | .const v=>(ofC 6 v).isSome
 | _=>true
inductive Sc where
 | b
 | i
 | s
structure Fl where
 ag:Bool
 sc:List Sc
section
variable (P : Program)
def kU (t:TypeId):Option Bool:=
 match P.underlying t with
 | some (.struct _)=>some true
 | some (.array _ _)=>some true
 | some _=>some false
 | none=>none
def zro (t:TypeId):Option AV:=
 match P.info? t with
 | some i=>match i.zero with
  | some v=>ofC 6 v
  | none=>none
 | none=>none
def bS (t:TypeId):Option TypeId:=
 match P.underlying t with
 | some (.slice e)=>match P.info? e with
  | some _=>some e
  | none=>none
 | _=>none
def sS (t:TypeId):Bool:=
 match P.underlying t with
 | some (.interface _)=>true
 | some _=>false
 | none=>true
def mi (t:TypeId):Bool:=
 match P.underlying t with
 | some .string=>true
 | _=>false
def qy (t:TypeId):Bool:=
 match P.underlying t with
 | some (.int _)=>true
 | some _=>false
 | none=>true
def jg (P:Program) (rec:TypeId->Option Fl):List Field->Nat->Option (List Sc)
 | [],_=>some []
 | f::fs,o=>match f.name != "_",Nat.beq f.offset o,rec f.type with
  | true,true,some fl=>match Nat.beq fl.sc.length (P.cellsOf f.type),jg P rec fs (o+fl.sc.length) with
   | true,some r=>some (fl.sc++r)
   | _,_=>none
  | _,_,_=>none
def flat (P:Program):Nat->TypeId->Option Fl
 | 0,_=>none
 | d+1,t=>
  match P.underlying t with
  | some .bool=>some ⟨false,[.b]⟩
  | some (.int _)=>some ⟨false,[.i]⟩
  | some .string=>some ⟨false,[.s]⟩
  | some (.struct fs)=>match P.stoodInHeld t with
   | true=>none
   | false=>match jg P (flat P d) fs.toList 0 with
    | some sc=>some ⟨true,sc⟩
    | none=>none
  | some (.array n e)=>match flat P d e with
   | some fl=>match Nat.beq fl.sc.length (P.cellsOf e) with
    | true=>some ⟨true,(List.replicate n fl.sc).flatten⟩
    | false=>none
   | none=>none
  | _=>none
def U3 (t:TypeId):Option Fl:=
 match P.eqGuardType P.depth t with
 | true=>none
 | false=>flat P 8 t
end
def oB:IntKind->Nat
 | .i8=>0 | .i16=>1 | .i32=>2 | .i64=>3 | .u8=>4 | .u16=>5 | .u32=>6 | .u64=>7
def ilt:Int->Int->Bool
 | .ofNat a,.ofNat b=>Nat.blt a b
 | .negSucc _,.ofNat _=>true
 | .ofNat _,.negSucc _=>false
 | .negSucc a,.negSucc b=>Nat.blt b a
def ieq:Int->Int->Bool
 | .ofNat a,.ofNat b=>Nat.beq a b
 | .negSucc a,.negSucc b=>Nat.beq a b
 | _,_=>false
def wrp (k:IntKind) (n:Int):Int:=
 match k,n with
 | .i64,.ofNat m=>match Nat.blt m 9223372036854775808 with
  | true=>.ofNat m
  | false=>IntKind.wrap .i64 (.ofNat m)
 | .i64,.negSucc m=>match Nat.blt m 9223372036854775808 with
  | true=>.negSucc m
  | false=>IntKind.wrap .i64 (.negSucc m)
 | k,n=>k.wrap n
def mM:List Nat->List Nat->Bool
 | [],[]=>true
 | a::x,b::y=>match Nat.beq a b with
  | true=>mM x y
  | false=>false
 | _,_=>false
def kO:List Nat->List Nat->Bool
 | _,[]=>false
 | [],_::_=>true
 | a::x,b::y=>match Nat.blt a b with
  | true=>true
  | false=>match Nat.beq a b with
   | true=>kO x y
   | false=>false
def Ez:Sc->AV->AV->Option Bool
 | .b,.bool true,.bool b=>some b
 | .b,.bool false,.bool b=>some (!b)
 | .i,.int k a,.int k' b=>match Nat.beq (oB k) (oB k') with
  | true=>some (ieq a b)
  | false=>none
 | .s,.str a,.str b=>some (mM a b)
 | _,_,_=>none
def jT:List Sc->List AV->List AV->Option Bool
 | [],[],[]=>some true
 | c::sc,a::x,b::y=>match Ez c a b,jT sc x y with
  | some p,some q=>some (p&&q)
  | _,_=>none
 | _,_,_=>none
def CB (fl:Fl) (x y:AV):Option Bool:=
 match fl.ag,x,y with
 | true,.agg a,.agg b=>jT fl.sc a b
 | true,_,_=>none
 | false,x,y=>jT fl.sc [x] [y]
def GH:Sc->AV->Bool
 | .b,.bool _=>true
 | .i,.int _ _=>true
 | .s,.str _=>true
 | _,_=>false
def qv:List Sc->List AV->Bool
 | [],[]=>true
 | c::sc,a::x=>match GH c a with
  | true=>qv sc x
  | false=>false
 | _,_=>false
def zF (fl:Fl) (x:AV):Bool:=
 match fl.ag,x with
 | true,.agg a=>qv fl.sc a
 | true,_=>false
 | false,x=>qv fl.sc [x]
def AV.cells:AV->List AV
 | .agg cs=>cs
 | v=>[v]
def eqV (P:Program) (t:TypeId) (nc:Bool) (x y:AV):Option Bool:=
 match P.underlying t with
 | some (.slice _)=>match x,y with
  | .nils,.nils=>some true
  | .nils,.sl .. =>some false
  | .sl ..,.nils=>some false
  | .nils,.dat (.sl ..)=>some false
  | .dat (.sl ..),.nils=>some false
  | _,_=>none
 | some (.map _ _)=>match x,y with
  | .nilm,.nilm=>some true
  | .nilm,.map _=>some false
  | .map _,.nilm=>some false
  | _,_=>none
 | some (.func _ _ _)=>match x,y with
  | .nilf,.nilf=>some true
  | .nilf,.fn .. =>some false
  | .fn ..,.nilf=>some false
  | _,_=>none
 | some (.pointer el)=>match x,y with
  | .nilp,.nilp=>some true
  | .nilp,.ptr .. =>some false
  | .ptr ..,.nilp=>some false
  | .ptr a i,.ptr b j=>match Nat.beq a b&&Nat.beq i j,(P.info? el).isSome with
   | true,true=>some true
   | _,_=>none
  | _,_=>none
 | some (.interface _)=>match x,y with
  | .nili,.nili=>match nc with
   | true=>some true
   | false=>none
  | .nili,.ifc .. =>some false
  | .ifc ..,.nili=>some false
  | _,_=>none
 | _=>match U3 P t with
  | some fl=>CB fl x y
  | none=>none
def jN (op:BinOp) (ik:IntKind) (a b:Int) (k:AV->Bool):Bool:=
 match op with
 | .add=>gE (wrp ik (a+b)) fun n=>k (.int ik n)
 | .sub=>gE (wrp ik (a - b)) fun n=>k (.int ik n)
 | .mul=>gE (wrp ik (a * b)) fun n=>k (.int ik n)
 | .quo=>match ieq b 0 with
  | true=>false
  | false=>gE (wrp ik (a.tdiv b)) fun n=>k (.int ik n)
 | .rem=>match ieq b 0 with
  | true=>false
  | false=>gE (a.tmod b) fun n=>k (.int ik n)
 | .eql=>ip (ieq a b) fun r=>k (.bool r)
 | .neq=>ip (!(ieq a b)) fun r=>k (.bool r)
 | .lss=>ip (ilt a b) fun r=>k (.bool r)
 | .leq=>ip (!(ilt b a)) fun r=>k (.bool r)
 | .gtr=>ip (ilt b a) fun r=>k (.bool r)
 | .geq=>ip (!(ilt a b)) fun r=>k (.bool r)
 | .and=>gE (ik.wrap ((BitVec.ofInt ik.bits a)&&& (BitVec.ofInt ik.bits b)).toNat) fun n=>k (.int ik n)
 | .or=>gE (ik.wrap ((BitVec.ofInt ik.bits a)||| (BitVec.ofInt ik.bits b)).toNat) fun n=>k (.int ik n)
 | .xor=>gE (ik.wrap ((BitVec.ofInt ik.bits a) ^^^ (BitVec.ofInt ik.bits b)).toNat) fun n=>k (.int ik n)
 | .andNot=>gE (ik.wrap ((BitVec.ofInt ik.bits a)&&& ~~~(BitVec.ofInt ik.bits b)).toNat) fun n=>k (.int ik n)
 | _=>false
def sB (op:BinOp) (ik:IntKind) (a b:Int) (k:AV->Bool):Bool:=
 match ilt b 0 with
 | true=>false
 | false=>match op with
  | .shl=>gE (ik.wrap (a * 2 ^(min b.toNat ik.bits))) fun n=>k (.int ik n)
  | .shr=>gE (a.fdiv (2 ^(min b.toNat ik.bits))) fun n=>k (.int ik n)
  | _=>false
def ia:BinOp->Bool
 | .shl=>true
 | .shr=>true
 | _=>false
def tg (op:BinOp) (a b:List Nat) (k:AV->Bool):Bool:=
 match op with
 | .add=>match Nat.ble (a.length+b.length) 1048576 with
  | true=>fF (a++b) fun s=>k (.str s)
  | false=>false
 | .eql=>ip (mM a b) fun r=>k (.bool r)
 | .neq=>ip (!(mM a b)) fun r=>k (.bool r)
 | .lss=>ip (kO a b) fun r=>k (.bool r)
 | .leq=>ip (kO a b||mM a b) fun r=>k (.bool r)
 | .gtr=>ip (!(kO a b||mM a b)) fun r=>k (.bool r)
 | .geq=>ip (!(kO a b)) fun r=>k (.bool r)
 | _=>false
def Od (P:Program) (op:BinOp) (t:TypeId) (nc:Bool) (x y:AV) (k:AV->Bool):Bool:=
 match op with
 | .eql=>match eqV P t nc x y with
  | some r=>ip r fun r=>k (.bool r)
  | none=>false
 | .neq=>match eqV P t nc x y with
  | some r=>ip (!r) fun r=>k (.bool r)
  | none=>false
 | _=>false
def fP (P:Program) (op:BinOp) (t:TypeId) (nc:Bool) (x y:AV) (k:AV->Bool):Bool:=
 match x,y with
 | .int ik a,.int ik' b=>match ia op with
  | true=>sB op ik a b k
  | false=>match Nat.beq (oB ik) (oB ik') with
   | true=>jN op ik a b k
   | false=>false
 | .str a,.str b=>tg op a b k
 | x,y=>Od P op t nc x y k
def unK (op:UnOp) (x:AV) (k:AV->Bool):Bool:=
 match op,x with
 | .neg,.int ik n=>gE (wrp ik (0 - n)) fun n=>k (.int ik n)
 | .not,.bool b=>ip (!b) fun b=>k (.bool b)
 | .xor,.int ik n=>gE (ik.wrap ((BitVec.ofInt ik.bits (if ik.signed then -1 else ik.max)) ^^^ (BitVec.ofInt ik.bits n)).toNat) fun n=>k (.int ik n)
 | _,_=>false
def ew:Nat->List AV->Option (List AV)
 | 0,_=>some []
 | _+1,[]=>none
 | n+1,x::xs=>match ew n xs with
  | some ys=>some (x::ys)
  | none=>none
def qf (P:Program) (t:TypeId) (cs:List AV) (off:Nat) (k:AV->Bool):Bool:=
 match kU P t with
 | some true=>match ew (P.cellsOf t) (cs.drop off) with
  | some ys=>fF ys fun ys=>k (.agg ys)
  | none=>false
 | some false=>match cs[off]? with
  | some v=>k v
  | none=>false
 | none=>false
def one:AV->Bool
 | .agg _=>false
 | .tup _=>false
 | _=>true
def fg:List AV->Nat->List AV->Option (List AV)
 | cs,0,[]=>some cs
 | [],0,_::_=>none
 | _::cs,0,v::vs=>match fg cs 0 vs with
  | some r=>some (v::r)
  | none=>none
 | [],_+1,_=>none
 | c::cs,n+1,vs=>match fg cs n vs with
  | some r=>some (c::r)
  | none=>none
def fd (z:List AV):Nat->List AV
 | 0=>[]
 | n+1=>z++fd z n
def yS (b:Nat):AV:= .ptr b 0
def Gr (b:Nat):AV:= .map b
def jr (n sz:Nat) (b:Nat):AV:= .sl b 0 n sz (some n)
structure Evs where
 code:Nat->Code->Option Nat->En->Hp->(AEx->En->Hp->Bool)->Bool
 call:FuncId->List AV->Hp->(fk->Hp->Bool)->Bool
abbrev bg:=Nat->Option (List AV)
abbrev nv:=FuncId->Option (List D->Option D)
section
variable (P : Program) (G : bg) (pr : nv)
def mw (H:Hp) (t:TypeId) (a:AV) (k:AV->Bool):Bool:=
 match a with
 | .ptr b off=>match H.get b with
  | some (.cells _ _ cs)=>qf P t cs off k
  | _=>false
 | .gptr g off=>match G g with
  | some cs=>qf P t cs off k
  | none=>false
 | .dat (.ptr cs off)=>qf P t (aq cs) off k
 | _=>false
def lU (H:Hp) (t:TypeId) (a v:AV) (k:Hp->Bool):Bool:=
 match a with
 | .ptr b off=>match H.get b with
  | some (.cells el false cs)=>
   match Nat.beq v.cells.length (P.cellsOf t),kU P t,v.cells.all one,fg cs off v.cells with
   | true,some _,true,some cs=>fF cs fun cs=>H.put b (some (.cells el false cs)) k
   | _,_,_,_=>false
  | _=>false
 | _=>false
def qj (places:List (Nat×Nat)):List (Nat×AV)->List AV->Option (List AV)
 | [],cs=>some cs
 | (i,v)::rest,cs=>
  match places[i]? with
  | some (off,size)=>match Nat.beq v.cells.length size with
   | true=>match fg cs off v.cells with
    | some cs=>qj places rest cs
    | none=>none
   | false=>none
  | none=>none
def oK (size:Nat):List (Nat×AV)->List AV->Option (List AV)
 | [],cs=>some cs
 | (i,v)::rest,cs=>
  match Nat.beq v.cells.length size with
  | true=>match fg cs (i * size) v.cells with
   | some cs=>oK size rest cs
   | none=>none
  | false=>none
def ma (t:TypeId) (parts:List (Nat×AV)) (k:AV->Bool):Bool:=
 match zro P t,P.underlying t with
 | some (.agg z),some (.struct fs)=>
  match fs.toList.all fun f=>(P.info? f.type).isSome with
  | true=>match qj (fs.toList.map fun f=>(f.offset,P.cellsOf f.type)) parts z with
   | some cs=>fF cs fun cs=>k (.agg cs)
   | none=>false
  | false=>false
 | some (.agg z),some (.array _ e)=>
  match (P.info? e).isSome with
  | true=>match oK (P.cellsOf e) parts z with
   | some cs=>fF cs fun cs=>k (.agg cs)
   | none=>false
  | false=>false
 | _,_=>false
def EA (e:TypeId):List AV:=
 match zro P e with
 | some z=>z.cells
 | none=>[]
def pm (e:TypeId):Bool:=
 match zro P e with
 | some z=>Nat.beq z.cells.length (P.cellsOf e)
 | none=>false
def jp (t:TypeId) (len:Nat) (parts:List (Nat×AV)) (k:Blk->(Nat->AV)->Bool):Bool:=
 match bS P t with
 | some e=>match zro P e,Nat.beq (EA P e).length (P.cellsOf e),Nat.ble (len * P.cellsOf e) 16777216 with
  | some _,true,true=>match oK (P.cellsOf e) parts (fd (EA P e) len) with
   | some cs=>fF cs fun cs=>k (.cells (some e) false cs) (jr len (P.cellsOf e))
   | none=>false
  | _,_,_=>false
 | none=>false
def gu (t:TypeId) (x i:AV) (k:AV->Bool):Bool:=
 match i with
 | .int _ (.ofNat i)=>
  match P.underlying t,x with
  | some (.array len e),.ptr b off=>match Nat.blt i len,(P.info? e).isSome with
   | true,true=>ef (off+i * P.cellsOf e) fun o=>k (.ptr b o)
   | _,_=>false
  | some (.array len e),.gptr b off=>match Nat.blt i len,(P.info? e).isSome with
   | true,true=>ef (off+i * P.cellsOf e) fun o=>k (.gptr b o)
   | _,_=>false
  | some (.slice e),.sl b off len sz _=>match Nat.blt i len,(P.info? e).isSome,Nat.beq sz (P.cellsOf e) with
   | true,true,true=>ef (off+i * sz) fun o=>k (.ptr b o)
   | _,_,_=>false
  | some (.slice e),.dat (.sl sz cs len)=>match Nat.blt i len,(P.info? e).isSome,Nat.beq sz (P.cellsOf e) with
   | true,true,true=>ef (i * sz) fun o=>k (.dat (.ptr cs o))
   | _,_,_=>false
  | _,_=>false
 | _=>false
def mP:AV->Option Nat
 | .int _ (.ofNat n)=>some n
 | _=>none
def gz (d:Nat):Option AV->Option Nat
 | none=>some d
 | some v=>mP v
def oy (H:Hp) (sz b off len:Nat) (c:Option Nat) (h:Nat):Bool:=
 match Nat.ble h len with
 | true=>true
 | false=>match c with
  | some c=>Nat.ble h c
  | none=>match sz,H.get b with
   | sz+1,some (.cells _ _ cs)=>Nat.ble (off+h * (sz+1)) cs.length
   | _,_=>false
def cK (H:Hp) (t:TypeId) (x:AV) (lo hi mx:Option AV) (k:AV->Bool):Bool:=
 match x with
 | .str s=>match mi P t,gz 0 lo,gz s.length hi,mx with
  | true,some l,some h,none=>match Nat.ble l h,Nat.ble h s.length with
   | true,true=>fF ((s.drop l).take (h - l)) fun s=>k (.str s)
   | _,_=>false
  | _,_,_,_=>false
 | .sl b off len sz c=>match bS P t,gz 0 lo,gz len hi with
  | some e,some l,some h=>
   match Nat.beq sz (P.cellsOf e) with
   | false=>false
   | true=>match mx with
    | none=>match Nat.ble l h,oy H sz b off len c h,c with
     | true,true,none=>ef (off+l * sz) fun o=>ef (h - l) fun n=>k (.sl b o n sz none)
     | true,true,some c=>match Nat.beq c l with
      | true=>k (.sl b off 0 sz (some 0))
      | false=>ef (off+l * sz) fun o=>ef (h - l) fun n=>ef (c - l) fun m=>k (.sl b o n sz (some m))
     | _,_,_=>false
    | some m=>match mP m,hi with
     | some m,some _=>match Nat.ble l h,Nat.ble h m,oy H sz b off len c m with
      | true,true,true=>match Nat.beq m l with
       | true=>k (.sl b off 0 sz (some 0))
       | false=>ef (off+l * sz) fun o=>ef (h - l) fun n=>ef (m - l) fun m=>k (.sl b o n sz (some m))
      | _,_,_=>false
     | _,_=>false
  | _,_,_=>false
 | .dat (.sl sz cs len)=>match bS P t,gz 0 lo,gz len hi,mx with
  | some e,some l,some h,none=>match Nat.beq sz (P.cellsOf e),Nat.ble l h,Nat.ble h len with
   | true,true,true=>ef (h - l) fun n=>k (.dat (.sl sz ((cs.drop (l * sz)).take (n * sz)) n))
   | _,_,_=>false
  | _,_,_,_=>false
 | .nils=>match bS P t,gz 0 lo,gz 0 hi,gz 0 mx,mx.isSome&& !hi.isSome with
  | some _,some 0,some 0,some 0,false=>k .nils
  | _,_,_,_,_=>false
 | .ptr b off=>match P.underlying t,H.get b with
  | some (.array n e),some (.cells _ _ cs)=>match (P.info? e).isSome,gz 0 lo,gz n hi,mx with
   | true,some l,some h,none=>match Nat.ble l h,Nat.ble h n,Nat.beq n l,Nat.ble (off+n * P.cellsOf e) cs.length with
    | true,true,false,true=>ef (off+l * P.cellsOf e) fun o=>ef (h - l) fun m=>ef (n - l) fun c=>k (.sl b o m (P.cellsOf e) (some c))
    | _,_,_,_=>false
   | _,_,_,_=>false
  | _,_=>false
 | _=>false
def kJ (t:TypeId) (x:AV) (H:Hp) (k:AV->Bool):Bool:=
 match P.underlying t,x with
 | some .string,.str s=>ef s.length fun n=>k (.int .i64 (.ofNat n))
 | some (.array n _),_=>k (.int .i64 (.ofNat n))
 | some (.slice _),.sl _ _ n _ _=>k (.int .i64 (.ofNat n))
 | some (.slice _),.nils=>k (.int .i64 (.ofNat 0))
 | some (.slice _),.dat (.sl _ _ n)=>k (.int .i64 (.ofNat n))
 | some (.map _ _),.nilm=>k (.int .i64 (.ofNat 0))
 | some (.map _ _),.map b=>match H.get b with
  | some (.map _ es _)=>ef es.length fun n=>k (.int .i64 (.ofNat n))
  | _=>false
 | _,_=>false
def dX (H:Hp) (sz:Nat) (x:AV) (k:Nat->List AV->Bool):Bool:=
 match x with
 | .nils=>k 0 []
 | .sl b off n z _=>match Nat.beq z sz,H.get b with
  | true,some (.cells _ _ cs)=>match ew (n * sz) (cs.drop off) with
   | some ys=>fF ys fun ys=>k n ys
   | none=>false
  | _,_=>false
 | .dat (.sl z cs n)=>match Nat.beq z sz,ew (n * sz) (aq cs) with
  | true,some ys=>fF ys fun ys=>k n ys
  | _,_=>false
 | .str s=>match Nat.beq sz 1 with
  | true=>fF (s.map fun c=>AV.int .u8 (.ofNat c)) fun ys=>ef s.length fun n=>k n ys
  | false=>false
 | _=>false
def lZ (c:Option Nat) (n:Nat):Bool:=
 match c with
 | some c=>Nat.blt c n
 | none=>false
def oC (off:Nat) (c:Option Nat) (el:Option TypeId) (e:TypeId):Option TypeId:=
 match off,c,el with
 | 0,none,some t=>match Nat.beq t e with
  | true=>some e
  | false=>none
 | _,_,_=>none
def fj (H:Hp) (t tx:TypeId) (s x:AV) (k:AV->Hp->Bool):Bool:=
 match bS P t with
 | none=>false
 | some e=>
  match qy P tx,pm P e,Nat.beq (P.cellsOf e) 0,Nat.ble (P.bytesOf e) 65536 with
  | false,true,false,true=>
   dX H (P.cellsOf e) x fun m new=>
   match new.all one with
   | false=>false
   | true=>match m with
    | 0=>match s with
     | .nils=>k s H
     | .sl .. =>k s H
     | _=>false
    | m+1=>match s with
     | .nils=>match Nat.ble (m+1) 1048576 with
      | true=>H.new (.cells (some e) false new) fun b H=>k (.sl b 0 (m+1) (P.cellsOf e) none) H
      | false=>false
     | .sl b off n z c=>match Nat.beq z (P.cellsOf e),Nat.ble (n+(m+1)) 1048576,H.get b with
      | true,true,some (.cells el ro cs)=>
       match ew (n * z) (cs.drop off) with
       | none=>false
       | some old=>
        match lZ c (n+(m+1)) with
        | true=>fF (old++new) fun cs=>H.new (.cells (some e) false cs) fun b H=>ef (n+(m+1)) fun l=>k (.sl b 0 l z none) H
        | false=>match ro with
         | true=>false
         | false=>match Nat.ble (off+(n+(m+1)) * z) cs.length with
          | true=>match fg cs (off+n * z) new with
           | some cs=>fF cs fun cs=>H.put b (some (.cells el false cs)) fun H=>ef (n+(m+1)) fun l=>k (.sl b off l z c) H
           | none=>false
          | false=>fF (old++new) fun cs'=>H.put b none fun H=>H.new (.cells (oC off c el e) false cs') fun b H=>ef (n+(m+1)) fun l=>k (.sl b 0 l z none) H
      | _,_,_=>false
     | _=>false
  | _,_,_,_=>false
def Gz (H:Hp) (t:TypeId) (d s:AV) (k:AV->Hp->Bool):Bool:=(fun _=>false) P
def te (H:Hp) (t:TypeId) (x:AV) (k:AV->Hp->Bool):Bool:=
 match bS P t,x with
 | some _,.nils=>k (.tup []) H
 | some e,.sl b off n z _=>match n with
  | 0=>k (.tup []) H
  | n+1=>match Nat.beq z (P.cellsOf e),pm P e,(EA P e).all one,H.get b with
   | true,true,true,some (.cells el false cs)=>match fg cs off (fd (EA P e) (n+1)) with
    | some cs=>fF cs fun cs=>H.put b (some (.cells el false cs)) fun H=>k (.tup []) H
    | none=>false
   | _,_,_,_=>false
 | _,_=>false
def findKey (fl:Fl) (x:AV):List (AV×AV×Nat)->Nat->Option (Option (Nat×AV))
 | [],_=>some none
 | (y,v,_)::es,i=>match CB fl x y with
  | some true=>some (some (i,v))
  | some false=>findKey fl x es (i+1)
  | none=>none
def setVal (v:AV):List (AV×AV×Nat)->Nat->List (AV×AV×Nat)
 | [],_=>[]
 | (y,_,s)::es,0=>(y,v,s)::es
 | e::es,i+1=>e::setVal v es i
structure MT where
 elem:TypeId
 fl:Fl
def iI (t:TypeId):Option MT:=
 match P.underlying t with
 | some (.map kt e)=>match flat P 8 kt with
  | some fl=>some ⟨e,fl⟩
  | none=>none
 | _=>none
def ox (mt:MT) (es:List (AV×AV×Nat)) (i:AV):Option (Option (Nat×AV)):=
 match zF mt.fl i with
 | true=>findKey mt.fl i es 0
 | false=>none
def iG (es:List (AV×AV×Nat)) (mt:MT) (i:AV) (ok:Bool) (k:AV->Bool):Bool:=
 match ox mt es i with
 | some (some (_,v))=>match ok with
  | true=>k (.tup [v,.bool true])
  | false=>k v
 | some none=>match zro P mt.elem with
  | some z=>match ok with
   | true=>k (.tup [z,.bool false])
   | false=>k z
  | none=>false
 | none=>false
def jf (H:Hp) (t:TypeId) (m i:AV) (ok:Bool) (k:AV->Bool):Bool:=
 match iI P t,m with
 | some mt,.nilm=>iG P [] mt i ok k
 | some mt,.map b=>match H.get b with
  | some (.map _ es _)=>iG P es mt i ok k
  | _=>false
 | _,_=>false
def eM (H:Hp) (t:TypeId) (m i v:AV) (k:Hp->Bool):Bool:=
 match iI P t,m with
 | some mt,.map b=>match H.get b with
  | some (.map false es cl)=>match ox mt es i with
   | some (some (j,_))=>fF (setVal v es j) fun es=>H.put b (some (.map false es cl)) k
   | some none=>fF (es++[(i,v,cl)]) fun es=>ef (cl+1) fun cl=>H.put b (some (.map false es cl)) k
   | none=>false
  | _=>false
 | _,_=>false
def tt (H:Hp) (t:TypeId) (m i:AV) (k:AV->Hp->Bool):Bool:=(fun _=>false) P
def j0 (s:Nat):List (AV×AV×Nat)->Nat->Option Nat
 | [],_=>none
 | (_,_,z)::es,i=>match Nat.beq z s with
  | true=>some i
  | false=>j0 s es (i+1)
def oS (H:Hp) (m s v:AV) (k:Hp->Bool):Bool:=false
def qB (H:Hp) (t:TypeId) (x:AV) (k:AV->Hp->Bool):Bool:=
 match P.underlying t,x with
 | some .string,.str s=>H.new (.siter s 0) fun b H=>k (.ptr b 0) H
 | some (.map _ _),.nilm=>H.new (.miter none 0 [] 0) fun b H=>k (.ptr b 0) H
 | some (.map _ _),.map m=>match H.get m with
  | some (.map _ _ cl)=>H.new (.miter (some m) cl [] cl) fun b H=>k (.ptr b 0) H
  | _=>false
 | _,_=>false
def qx (n:Nat):List Nat->Bool
 | []=>false
 | m::l=>match Nat.beq n m with
  | true=>true
  | false=>qx n l
def fJ (seen:List Nat):List (AV×AV×Nat)->List (AV×AV×Nat)
 | []=>[]
 | (y,v,s)::es=>match qx s seen with
  | true=>fJ seen es
  | false=>(y,v,s)::fJ seen es
def lP (n:Nat):List (AV×AV×Nat)->Bool
 | []=>true
 | (_,_,s)::es=>match Nat.blt s n with
  | true=>lP n es
  | false=>false
def Eu {α:Type}:List α->(α->Bool)->Bool
 | [],_=>true
 | x::l,k=>match k x with
  | true=>Eu l k
  | false=>false
def wM (H:Hp) (x:AV) (k:AV->Hp->Bool):Bool:=
 match x with
 | .ptr b 0=>match H.get b with
  | some (.miter none _ _ _)=>k (.tup [.bool false]) H
  | some (.miter (some m) since seen stepped)=>match H.get m with
   | some (.map _ es cl)=>match Nat.beq cl since,Nat.beq stepped since,lP since es with
    | true,true,true=>match fJ seen es with
     | []=>k (.tup [.bool false]) H
     | l=>Eu l fun y=>Prod.casesOn y fun y z=>Prod.casesOn z fun v s=>H.put b (some (.miter (some m) since (s::seen) cl)) fun H=>k (.tup [.bool true,y,v]) H
    | _,_,_=>false
   | _=>false
  | _=>false
 | _=>false
def uT (H:Hp) (x:AV) (k:AV->Hp->Bool):Bool:=false
def sI (H:Hp) (x:AV) (k:AV->Bool):Bool:=
 match x with
 | .ptr b 0=>match H.get b with
  | some (.miter (some m) _ (s::_) stepped)=>match H.get m with
   | some (.map _ es cl)=>match Nat.beq cl stepped,j0 s es 0 with
    | true,some j=>match es[j]? with
     | some (y,v,_)=>k (.tup [y,v])
     | none=>false
    | _,_=>false
   | _=>false
  | _=>false
 | _=>false
def yW (x:AV) (t:TypeId) (ok:Bool) (k:AV->Bool):Bool:=
 match P.underlying t with
 | none=>false
 | some (.interface _)=>false
 | some _=>match x with
  | .nili=>match ok,zro P t with
   | true,some z=>k (.tup [z,.bool false])
   | _,_=>false
  | .ifc u v=>match Nat.beq u t with
   | true=>match ok with
    | true=>k (.tup [v,.bool true])
    | false=>k v
   | false=>match ok,zro P t with
    | true,some z=>k (.tup [z,.bool false])
    | _,_=>false
  | _=>false
def Eo (mx:Bool):AV->List AV->(AV->Bool)->Bool
 | x,[],kk=>kk x
 | .int k a,.int _ b::rest,kk=>
  Eo mx (match mx with
   | true=>match ilt a b with
    | true=>.int k b
    | false=>.int k a
   | false=>match ilt b a with
    | true=>.int k b
    | false=>.int k a) rest kk
 | _,_::_,_=>false
def IJ (s d:TypeId) (x:AV) (k:AV->Bool):Bool:=
 match P.underlying s,P.underlying d,x with
 | some _,some (.int ik),.int _ n=>gE (wrp ik n) fun n=>k (.int ik n)
 | some _,some .string,.str s=>k (.str s)
 | _,_,_=>false
def D3 (s d:TypeId):Bool:=
 match P.underlying s,P.underlying d with
 | some (.pointer _),some .unsafePointer=>true
 | some .unsafePointer,some (.pointer _)=>true
 | _,_=>false
def vz (s d:TypeId) (x:AV) (H:Hp) (k:AV->Bool):Bool:=(fun _=>false) P
def SK (x:AV) (k:AV->Bool):Bool:=false
def G4 (H:Hp) (pt:TypeId) (p n:AV) (k:AV->Hp->Bool):Bool:=(fun _=>false) P
def kf (f:FuncId):Bool:=
 match P.funcs[f]? with
 | some fn=>fn.body.isNone&&(fn.name== "internal/abi.NoEscape" &&fn.origin== "")
 | none=>false
def mn:List (AV×AV×Nat)->Nat->Bool
 | [],_=>true
 | (_,_,s)::es,i=>match Nat.beq s i with
  | true=>mn es (i+1)
  | false=>false
mutual
def rdx (own:Bool):Nat->Hp->AV->Option (D×List Nat)
 | 0,_,_=>none
 | n+1,H,v=>
  match v with
  | .bool b=>some (.bool b,[])
  | .int k a=>some (.int k a,[])
  | .str s=>some (.str s,[])
  | .nilp=>some (.nilp,[])
  | .nils=>some (.nils,[])
  | .nilm=>some (.nilm,[])
  | .nilf=>some (.nilf,[])
  | .nili=>some (.nili,[])
  | .ptr b off=>match H.get b with
   | some (.cells _ ro cs)=>match own&&ro,sv own n H cs with
    | false,some (ds,I)=>some (.ptr ds off,b::I)
    | _,_=>none
   | _=>none
  | .sl b off len sz _=>match H.get b with
   | some (.cells _ ro cs)=>match own&&ro,ew (len * sz) (cs.drop off) with
    | false,some cs=>match sv own n H cs with
     | some (ds,I)=>some (.sl sz ds len,b::I)
     | none=>none
    | _,_=>none
   | _=>none
  | .map b=>match H.get b with
   | some (.map ro es cl)=>match own&&ro,Nat.beq cl es.length&&mn es 0 with
    | false,true=>match sv own n H (es.map (·.1)),sv own n H (es.map (·.2.1)) with
     | some (ks,I),some (vs,J)=>some (.map ks vs,b::(I++J))
     | _,_=>none
    | _,_=>none
   | _=>none
  | .fn f a c=>match sv own n H a,sv own n H c with
   | some (a,I),some (c,J)=>some (.fn f a c,I++J)
   | _,_=>none
  | .ifc t v=>match rdx own n H v with
   | some (v,I)=>some (.ifc t v,I)
   | none=>none
  | .agg cs=>match sv own n H cs with
   | some (cs,I)=>some (.agg cs,I)
   | none=>none
  | .tup cs=>match sv own n H cs with
   | some (cs,I)=>some (.tup cs,I)
   | none=>none
  | .gptr _ _=>none
  | .yld _=>none
  | .dat _=>none
def sv (own:Bool):Nat->Hp->List AV->Option (List D×List Nat)
 | 0,_,_=>none
 | _+1,_,[]=>some ([],[])
 | n+1,H,v::vs=>match rdx own n H v,sv own n H vs with
  | some (d,I),some (ds,J)=>some (d::ds,I++J)
  | _,_=>none
end
def rds (n:Nat) (H:Hp) (vs:List AV):Option (List D):=
 match sv false n H vs with
 | some (ds,_)=>some ds
 | none=>none
def xT:List AV->List AV->Nat->List (AV×AV×Nat)
 | k::ks,v::vs,i=>(k,v,i)::xT ks vs (i+1)
 | _,_,_=>[]
mutual
def al (ro:Bool):Nat->D->Hp->(AV->Hp->Bool)->Bool
 | 0,_,_,_=>false
 | n+1,d,H,k=>
  match d with
  | .bool b=>k (.bool b) H
  | .int i a=>k (.int i a) H
  | .str s=>k (.str s) H
  | .nilp=>k .nilp H
  | .nils=>k .nils H
  | .nilm=>k .nilm H
  | .nilf=>k .nilf H
  | .nili=>k .nili H
  | .ptr ds off=>als ro n ds H fun vs H=>H.new (.cells none ro vs) fun b H=>k (.ptr b off) H
  | .sl sz ds len=>als ro n ds H fun vs H=>H.new (.cells none ro vs) fun b H=>k (.sl b 0 len sz none) H
  | .map ks vs=>als ro n ks H fun as H=>als ro n vs H fun bs H=>fF (xT as bs 0) fun es=>H.new (.map ro es ks.length) fun b H=>k (.map b) H
  | .fn f a c=>als ro n a H fun a H=>als ro n c H fun c H=>k (.fn f a c) H
  | .ifc t v=>al ro n v H fun v H=>k (.ifc t v) H
  | .agg cs=>als ro n cs H fun cs H=>k (.agg cs) H
  | .tup cs=>als ro n cs H fun cs H=>k (.tup cs) H
def als (ro:Bool):Nat->List D->Hp->(List AV->Hp->Bool)->Bool
 | 0,_,_,_=>false
 | _+1,[],H,k=>k [] H
 | n+1,d::ds,H,k=>al ro n d H fun v H=>als ro n ds H fun vs H=>k (v::vs) H
end
def qA:List AV->Nat->E2->(E2->Bool)->Bool
 | [],_,t,k=>k t
 | v::vs,i,t,k=>Box.casesOn (oz i) fun g=>g t v fun t=>qA vs (i+1) t k
def jD:List Nat->List AV->E2->Nat->(E2->Bool)->Bool
 | [],[],t,_,k=>k t
 | p::ps,v::vs,t,n,k=>match Nat.blt p n,Nat.blt p 256 with
  | true,true=>Box.casesOn (oz p) fun g=>g t v fun t=>jD ps vs t n k
  | _,_=>false
 | _,_,_,_,_=>false
def one1 (l:List AV) (k:AV->Bool):Bool:=
 match l with
 | [x]=>k x
 | _=>false
def uX (t:TypeId) (name:String):Option FuncId:=
 match P.info? t with
 | some i=>match i.methods.find? (·.name==name) with
  | some m=>match m.path.toList,m.func with
   | [],some (f,p)=>match P.underlying t,p with
    | some (.pointer _),true=>some f
    | some (.pointer _),false=>none
    | some _,false=>some f
    | _,_=>none
   | _,_=>none
  | none=>none
 | none=>none
def iz (f:FuncId):Bool:=
 match P.funcs[f]? with
 | some fn=>fn.body.isSome&& !(fn.name== "runtime.NumGoroutine")
 | none=>false
abbrev OpF:=Evs->En->Hp->(AV->Hp->Bool)->(AV->Hp->Bool)->Bool
def tw (ih:Evs) (f:FuncId) (args:List AV) (H:Hp) (k:AV->Hp->Bool) (kp:AV->Hp->Bool):Bool:=
 match iz P f with
 | true=>ih.call f args H fun e H=>match e with
  | .ret v=>k v H
  | .pan v=>kp v H
 | false=>false
def oV (ih:Evs) (l:Nat) (args:List AV) (H:Hp) (k:AV->Hp->Bool) (kp:AV->Hp->Bool):Bool:=
 match H.get l with
 | some (.loop _ _ env nt ps asg body _)=>
  jD ps args env nt fun env=>
  ih.code nt asg (some l) ⟨env,[]⟩ H fun x e H=>
  match x,e.dm with
  | .normal,[]=>match H.get l with
   | some (.loop .ready pe en nt' ps a b d)=>H.put l (some (.loop .busy pe en nt' ps a b d)) fun H=>
    ih.code nt body (some l) e H fun x e H=>
    match e.dm,H.get l with
    | [],some (.loop _ _ en nt' ps a b d)=>
     match x with
     | .normal=>H.put l (some (.loop .ready none en nt' ps a b d)) fun H=>k (.bool true) H
     | .ret=>H.put l (some (.loop .done (some .ret) en nt' ps a b d)) fun H=>k (.bool false) H
     | .exit i=>H.put l (some (.loop .done (some (.exit i)) en nt' ps a b d)) fun H=>k (.bool false) H
     | .pan _ _=>false
    | _,_=>false
   | _=>false
  | _,_=>false
 | _=>false
def Di (f:AV) (as:List AV) (ih:Evs) (H:Hp) (k:AV->Hp->Bool) (kp:AV->Hp->Bool):Bool:=
 match f with
 | .fn g first cap=>fF (first++as++cap) fun args=>match kf P g with
  | true=>one1 args fun x=>k x H
  | false=>tw P ih g args H k kp
 | .yld l=>oV ih l as H k kp
 | _=>false
def uG (m:String) (r:AV) (as:List AV) (ih:Evs) (H:Hp) (k:AV->Hp->Bool) (kp:AV->Hp->Bool):Bool:=
 match r with
 | .ifc t v=>match uX P t m with
  | some g=>tw P ih g (v::as) H k kp
  | none=>false
 | _=>false
def aT (c a b:AV) (k:AV->Bool):Bool:=
 match c with
 | .bool true=>k a
 | .bool false=>k b
 | _=>false
def bw (x:AV) (k:AV->Bool):Bool:=
 match x with
 | .nilp=>false
 | .nili=>false
 | .nilf=>false
 | v=>k v
def gw (el:TypeId) (sz bytes:Nat) (z:List AV) (l c:AV) (k:Blk->(Nat->AV)->Bool):Bool:=
 match mP l,mP c with
 | some l,some c=>match Nat.beq l c,Nat.ble (bytes * c) 1048576,Nat.ble c 1048576,Nat.beq z.length sz with
  | true,true,true,true=>fF (fd z l) fun cs=>k (.cells (some el) false cs) (jr l sz)
  | _,_,_,_=>false
 | _,_=>false
def B6 (t:TypeId) (off:Nat) (x:AV) (k:AV->Bool):Bool:=
 match x with
 | .agg cs=>qf P t cs off k
 | _=>false
def ej (t:TypeId) (x i:AV) (k:AV->Bool):Bool:=
 match x,i with
 | .str s,.int _ (.ofNat i)=>match mi P t,s[i]? with
  | true,some c=>k (.int .u8 (.ofNat c))
  | _,_=>false
 | .agg cs,.int _ (.ofNat i)=>match P.underlying t with
  | some (.array len el)=>match Nat.blt i len,(P.info? el).isSome with
   | true,true=>qf P el cs (i * P.cellsOf el) k
   | _,_=>false
  | _=>false
 | _,_=>false
def aX (x:AV) (i:Nat) (k:AV->Bool):Bool:=
 match x with
 | .tup vs=>match vs[i]? with
  | some v=>k v
  | none=>false
 | _=>false
def BE (x:AV) (H:Hp) (kp:AV->Hp->Bool):Bool:=
 match x with
 | .ifc t v=>kp (.ifc t v) H
 | _=>false
def U (x:AV) (n:Nat) (k:AV->Bool):Bool:=
 match x with
 | .ptr b off=>ef (off+n) fun o=>k (.ptr b o)
 | .gptr g off=>ef (off+n) fun o=>k (.gptr g o)
 | .dat (.ptr cs off)=>ef (off+n) fun o=>k (.dat (.ptr cs o))
 | _=>false
def mr:Operand->Bool
 | .const _=>true
 | _=>false
abbrev PF:=En->(AV->Bool)->Bool
abbrev LF:=En->Hp->(AV->Bool)->Bool
abbrev AF:=En->(Blk->(Nat->AV)->Bool)->Bool
inductive Cls where
 | p (f:PF)
 | l (f:LF)
 | a (f:AF)
 | m (f:OpF)
def no:Cls:= .m fun _ _ _ _ _=>false
def I7 (l:List AV) (k:AV->AV->Bool):Bool:=
 match l with
 | [x,y]=>k x y
 | _=>false
def JY (mx:Bool) (l:List AV) (k:AV->Bool):Bool:=
 match l with
 | x::l=>Eo mx x l k
 | []=>false
def pi (b:Builtin) (ts:Array TypeId) (as:En->List AV):Cls:=
 match b with
 | .append=>match ts.toList with
  | [t,u]=>.m fun _ e H k _=>I7 (as e) fun s x=>fj P H t u s x k
  | _=>no
 | .len=>match ts.toList with
  | [t]=>.l fun e H k=>one1 (as e) fun x=>kJ P t x H k
  | _=>no
 | .copy=>match ts.toList with
  | t::_=>.m fun _ e H k _=>I7 (as e) fun d s=>Gz P H t d s k
  | _=>no
 | .clear=>match ts.toList with
  | t::_=>.m fun _ e H k _=>one1 (as e) fun x=>te P H t x k
  | _=>no
 | .unsafeSliceData=>.p fun e k=>one1 (as e) fun x=>SK x k
 | .unsafeString=>match ts.toList with
  | [t,_]=>.m fun _ e H k _=>I7 (as e) fun p n=>G4 P H t p n k
  | _=>no
 | .min=>.p fun e k=>JY false (as e) k
 | .max=>.p fun e k=>JY true (as e) k
 | _=>no
def zG (c:Call):Cls:=
 Box.casesOn (wR c.args.toList) fun as=>
 match c.callee with
 | .builtin b=>pi P b c.argTypes as
 | .value f=>Box.casesOn (eO f) fun f=>.m fun ih e H k kp=>Di P (f e) (as e) ih H k kp
 | .invoke r m=>Box.casesOn (eO r) fun r=>.m fun ih e H k kp=>uG P m (r e) (as e) ih H k kp
def opC (o:Oper):Cls:=
 match o.op with
 | .move x=>Box.casesOn (eO x) fun x=>.p fun e k=>k (x e)
 | .assign x=>Box.casesOn (eO x) fun x=>.p fun e k=>k (x e)
 | .pick c a b=>Box.casesOn (eO c) fun c=>Box.casesOn (eO a) fun a=>Box.casesOn (eO b) fun b=>.p fun e k=>aT (c e) (a e) (b e) k
 | .alloc t=>match zro P t with
  | some z=>.a fun _ k=>k (.cells (some t) false z.cells) yS
  | none=>no
 | .box t x=>Box.casesOn (eO x) fun x=>.a fun e k=>k (.cells (some t) false (x e).cells) yS
 | .build t ps=>Box.casesOn (yU ps.toList) fun ps=>.p fun e k=>ma P t (ps e) k
 | .buildSlice t n ps=>Box.casesOn (yU ps.toList) fun ps=>.a fun e k=>jp P t n (ps e) k
 | .load t a=>Box.casesOn (eO a) fun a=>.l fun e H k=>mw P G H t (a e) k
 | .store t a v=>Box.casesOn (eO a) fun a=>Box.casesOn (eO v) fun v=>.m fun _ e H k _=>lU P H t (a e) (v e) fun H=>k (.tup []) H
 | .nilCheck x=>Box.casesOn (eO x) fun x=>.p fun e k=>bw (x e) k
 | .binOp op t x y _=>Box.casesOn (eO x) fun a=>Box.casesOn (eO y) fun b=>.p fun e k=>fP P op t (mr x||mr y) (a e) (b e) k
 | .unOp op _ x=>Box.casesOn (eO x) fun x=>.p fun e k=>unK op (x e) k
 | .convert s d x=>Box.casesOn (eO x) fun x=>match D3 P s d with
  | true=>.l fun e H k=>vz P s d (x e) H k
  | false=>.p fun e k=>IJ P s d (x e) k
 | .makeInterface t x=>Box.casesOn (eO x) fun x=>match sS P t with
  | true=>no
  | false=>.p fun e k=>k (.ifc t (x e))
 | .makeFunc (.func f) first cap=>Box.casesOn (wR first.toList) fun a=>Box.casesOn (wR cap.toList) fun c=>.p fun e k=>k (.fn f (a e) (c e))
 | .makeMap _ none=>.a fun _ k=>k (.map false [] 0) Gr
 | .makeSlice t l c=>match bS P t with
  | some el=>match zro P el with
   | some _=>Box.casesOn (eO l) fun l=>Box.casesOn (eO c) fun c=>.a fun e k=>gw el (P.cellsOf el) (P.bytesOf el) (EA P el) (l e) (c e) k
   | none=>no
  | none=>no
 | .slice t x lo hi mx=>Box.casesOn (eO x) fun x=>Box.casesOn (Jw lo) fun lo=>Box.casesOn (Jw hi) fun hi=>Box.casesOn (Jw mx) fun mx=>
  .l fun e H k=>cK P H t (x e) (lo e) (hi e) (mx e) k
 | .fieldAddr s x f=>match P.underlying s with
  | some (.struct fs)=>match fs[f]? with
   | some f=>match Nat.beq (P.cellsOf f.type) 0 with
    | true=>no
    | false=>Box.casesOn (eO x) fun x=>.p fun e k=>U (x e) f.offset k
   | none=>no
  | _=>no
 | .field s x f=>match P.underlying s with
  | some (.struct fs)=>match fs[f]? with
   | some f=>Box.casesOn (eO x) fun x=>.p fun e k=>B6 P f.type f.offset (x e) k
   | none=>no
  | _=>no
 | .indexAddr t x i=>Box.casesOn (eO x) fun x=>Box.casesOn (eO i) fun i=>.p fun e k=>gu P t (x e) (i e) k
 | .index t x i=>Box.casesOn (eO x) fun x=>Box.casesOn (eO i) fun i=>.p fun e k=>ej P t (x e) (i e) k
 | .lookup t m i ok=>Box.casesOn (eO m) fun m=>Box.casesOn (eO i) fun i=>.l fun e H k=>jf P H t (m e) (i e) ok k
 | .mapUpdate t m i v=>Box.casesOn (eO m) fun m=>Box.casesOn (eO i) fun i=>Box.casesOn (eO v) fun v=>.m fun _ e H k _=>eM P H t (m e) (i e) (v e) fun H=>k (.tup []) H
 | .insert t m i v=>Box.casesOn (eO m) fun m=>Box.casesOn (eO i) fun i=>Box.casesOn (eO v) fun v=>.m fun _ e H k _=>eM P H t (m e) (i e) (v e) fun H=>k (.tup []) H
 | .mapEntry t m i=>Box.casesOn (eO m) fun m=>Box.casesOn (eO i) fun i=>.m fun _ e H k _=>tt P H t (m e) (i e) k
 | .entryStore _ m s v=>Box.casesOn (eO m) fun m=>Box.casesOn (eO s) fun s=>Box.casesOn (eO v) fun v=>.m fun _ e H k _=>oS H (m e) (s e) (v e) fun H=>k (.tup []) H
 | .range t x=>Box.casesOn (eO x) fun x=>.m fun _ e H k _=>qB P H t (x e) k
 | .next i false=>Box.casesOn (eO i) fun i=>.m fun _ e H k _=>wM H (i e) k
 | .next i true=>Box.casesOn (eO i) fun i=>.m fun _ e H k _=>uT H (i e) k
 | .entry i=>Box.casesOn (eO i) fun i=>.l fun e H k=>sI H (i e) k
 | .typeAssert x _ t ok=>Box.casesOn (eO x) fun x=>.p fun e k=>yW P (x e) t ok k
 | .extract x i=>Box.casesOn (eO x) fun x=>.p fun e k=>aX (x e) i k
 | .call c=>zG P c
 | .panic x=>Box.casesOn (eO x) fun x=>.m fun _ e H _ kp=>BE (x e) H kp
 | _=>no
def opK (o:Oper):Cls:=
 match o.op.operands.toList.all mz with
 | true=>opC P G o
 | false=>no
def Jk (o:Oper):Box OpF:=
 match opK P G o with
 | .p f=>.mk fun _ e H k _=>f e fun v=>k v H
 | .l f=>.mk fun _ e H k _=>f e H fun v=>k v H
 | .a f=>.mk fun _ e H k _=>f e fun blk r=>H.new blk fun b H=>k (r b) H
 | .m f=>.mk f
def gD (w:Bool) (v:AV):Bool:=
 match v with
 | .bool true=>w
 | .bool false=> !w
 | _=>false
def ry (all:List Oper) (j:Nat) (w:Bool):Box (En->Bool):=
 match all[j]? with
 | some oj=>match oj.dst with
  | some d=>match Nat.blt d 256 with
   | true=>Box.casesOn (eO (.tmp d)) fun g=>.mk fun e=>gD w (g e)
   | false=>.mk fun _=>false
  | none=>.mk fun _=>false
 | none=>.mk fun _=>false
def nX (all:List Oper) (g:Option (Nat×Bool)):Bool:=
 match g with
 | none=>true
 | some (j,_)=>match all[j]? with
  | some oj=>match oj.dst with
   | some d=>Nat.blt d 256
   | none=>true
  | none=>true
abbrev WY:=En->AV->(En->Bool)->Bool
def oN (nt:Nat):Option Tmp->Box WY
 | some d=>match Nat.blt d nt,Nat.blt d 256 with
  | true,true=>Box.casesOn (oz d) fun g=>.mk fun e v k=>En.casesOn e fun t dm=>g t v fun t=>k ⟨t,dm⟩
  | _,_=>.mk fun _ _ _=>false
 | none=>.mk fun e _ k=>k e
abbrev Ih:=Evs->En->Hp->(AEx->En->Hp->Bool)->Bool
def lh (w:Bool) (F:AV->Hp->Bool) (run:(AV->Hp->Bool)->Bool) (H:Hp):Bool:=Bool.casesOn w (F (.tup []) H) (run F)
def y4 (nt:Nat) (all:List Oper) (f:OpF) (dst:Option Tmp) (r:Ih) (g:Option (Nat×Bool)):Box Ih:=
 Box.casesOn (oN nt dst) fun put=>
 match g with
 | none=>.mk fun ih e H k=>f ih e H (fun v H=>put e v fun e=>r ih e H k) (fun v H=>k (.pan v []) e H)
 | some (j,w)=>match nX all (some (j,w)) with
  | false=>.mk fun _ _ _ _=>false
  | true=>Box.casesOn (ry all j w) fun want=>.mk fun ih e H k=>
   lh (want e) (fun v H=>put e v fun e=>r ih e H k) (fun F=>f ih e H F (fun v H=>k (.pan v []) e H)) H
def Hi (nt:Nat) (all:List Oper) (l:List Oper):Box Ih:=
 List.rec (.mk fun _ e H k=>k .normal e H) (fun o _ r=>Box.casesOn (Jk P G o) fun f=>Box.casesOn r fun r=>y4 nt all f o.dst r o.guard) l
mutual
def av:Nat->AV->AV->Bool
 | 0,_,_=>false
 | n+1,x,y=>
  match x,y with
  | .bool true,.bool b=>b
  | .bool false,.bool b=> !b
  | .int k a,.int l b=>Nat.beq (oB k) (oB l)&&ieq a b
  | .str a,.str b=>mM a b
  | .ptr a i,.ptr b j=>Nat.beq a b&&Nat.beq i j
  | .nilp,.nilp=>true
  | .gptr a i,.gptr b j=>Nat.beq a b&&Nat.beq i j
  | .sl a i l z c,.sl b j m y d=>Nat.beq a b&&(Nat.beq i j&&(Nat.beq l m&&(Nat.beq z y&&(match c,d with
   | none,none=>true
   | some c,some d=>Nat.beq c d
   | _,_=>false))))
  | .nils,.nils=>true
  | .map a,.map b=>Nat.beq a b
  | .nilm,.nilm=>true
  | .fn f a b,.fn g c d=>Nat.beq f g&&(ja n a c&&ja n b d)
  | .yld a,.yld b=>Nat.beq a b
  | .nilf,.nilf=>true
  | .ifc t a,.ifc u b=>Nat.beq t u&&av n a b
  | .nili,.nili=>true
  | .agg a,.agg b=>ja n a b
  | .tup a,.tup b=>ja n a b
  | .dat a,.dat b=> @decide (a=b) (Classical.propDecidable _)
  | _,_=>false
def ja:Nat->List AV->List AV->Bool
 | 0,_,_=>false
 | _+1,[],[]=>true
 | n+1,a::x,b::y=>av n a b&&ja n x y
 | _+1,_,_=>false
end
def Cls.isM:Cls->Bool
 | .m _=>true
 | _=>false
structure It where
 i:Nat
 o:Oper
 anc:Nat
def xz:List Oper->List Nat->Nat->List It
 | o::os,a::as,i=>⟨i,o,a⟩::xz os as (i+1)
 | _,_,_=>[]
def its (ops:Array Oper):List It:=xz ops.toList (Region.before ops).toList 0
def itM (it:It):Bool:=(opK P G it.o).isM
def HL (m s:Nat):Bool:=Nat.beq (Nat.land m s) m
def qK (i:Nat):Nat:=Nat.pow 2 i
def zL:List It->List (It×Bool)
 | []=>[]
 | it::l=>(it,itM P G it)::zL l
def GR:List (It×Bool)->Nat->Nat
 | [],m=>m
 | (it,true)::l,m=>GR l (Nat.lor m (qK it.i))
 | (_,false)::l,m=>GR l m
def yO (mm done:Nat) (it:It):Bool:=HL (Nat.land it.anc mm) done
def A9 (mm done:Nat):List (It×Bool)->List It
 | []=>[]
 | (it,true)::l=>A9 mm done l
 | (it,false)::l=>match yO mm done it with
  | true=>it::A9 mm done l
  | false=>A9 mm done l
def vP (mm done:Nat):List (It×Bool)->List (It×Bool)
 | []=>[]
 | (it,true)::l=>(it,true)::vP mm done l
 | (it,false)::l=>match yO mm done it with
  | true=>vP mm done l
  | false=>(it,false)::vP mm done l
def AK (mm done:Nat):List (It×Bool)->Option It
 | []=>none
 | (it,true)::l=>match yO mm done it with
  | true=>some it
  | false=>AK mm done l
 | (_,false)::l=>AK mm done l
def vH (i:Nat):List (It×Bool)->List (It×Bool)
 | []=>[]
 | (it,b)::l=>match Nat.beq it.i i with
  | true=>vH i l
  | false=>(it,b)::vH i l
def yF (mm:Nat):Nat->List (It×Bool)->Nat->List It
 | 0,_,_=>[]
 | f+1,l,done=>A9 mm done l++(match AK mm done (vP mm done l) with
  | some y=>y::yF mm f (vH y.i (vP mm done l)) (Nat.lor done (qK y.i))
  | none=>[])
def canon (ops:Array Oper):List It:=yF (GR (zL P G (its ops)) 0) (ops.size+1) (zL P G (its ops)) 0
def looks (all:List Oper) (o:Oper):List Tmp:=
 (o.op.operands.toList.filterMap fun | .tmp t=>some t | _=>none)++
 (match o.guard with
   | some (g,_)=>match all[g]? with
     | some og=>og.dst.toList
     | none=>[]
   | none=>[])
def lg (t:Nat) (o:Oper):Bool:=
 match o.dst with
 | some d=>Nat.beq d t
 | none=>false
def sZ:List It->Bool
 | []=>true
 | it::l=>(match it.o.dst with
  | some d=>l.all fun x=> !lg d x.o
  | none=>true)&&sZ l
def pQ (all:List Oper):List It->List It->Bool
 | _,[]=>true
 | pre,it::l=>((looks all it.o).all fun t=>(pre.all fun y=> !lg t y.o||it.anc.testBit y.i)&&(l.all fun y=> !lg t y.o||y.anc.testBit it.i))&&pQ all (it::pre) l
def Iw (l:List It):Bool:=l.all fun it=>match it.o.guard with
 | some (j,_)=>it.anc.testBit j
 | none=>true
def lz (n:Nat):List It->Nat->Nat->Bool
 | [],seen,_=>Nat.beq seen (Nat.sub (qK n) 1)
 | it::l,seen,mm=>match HL it.anc seen,seen.testBit it.i,HL mm it.anc with
  | true,false,true=>lz n l (Nat.lor seen (qK it.i)) (match itM P G it with
   | true=>Nat.lor mm (qK it.i)
   | false=>mm)
  | _,_,_=>false
def zE (j:Nat):List It->Nat
 | []=>0
 | x::l=>match Nat.beq x.i j with
  | true=>x.anc
  | false=>zE j l
def rN (l:List It):List Edge->Nat->Nat
 | [],s=>s
 | e::es,s=>match Region.binds .any e with
  | true=>rN l es (Nat.lor s (Nat.lor (qK e.on) (zE e.on l)))
  | false=>rN l es s
def Ox (l:List It):Bool:=l.all fun it=>Nat.beq it.anc (rN l it.o.after.toList 0)
def qG (md:Region.Mode):List Edge->Nat->Nat
 | [],s=>s
 | e::es,s=>match Region.binds md e with
  | true=>qG md es (Nat.lor s (qK e.on))
  | false=>qG md es s
def xu (md:Region.Mode):List It->List (Nat×Nat)
 | []=>[]
 | it::l=>(it.i,qG md it.o.after.toList 0)::xu md l
def o6:List (Nat×Nat)->Nat->Nat
 | [],s=>s
 | (i,m)::l,s=>match HL m s with
  | true=>o6 l (Nat.lor s (qK i))
  | false=>o6 l s
def oL (full:Nat) (l:List (Nat×Nat)):Nat->Nat->Bool
 | 0,s=>Nat.beq s full
 | f+1,s=>match Nat.beq s full with
  | true=>true
  | false=>ef (o6 l s) fun s=>oL full l f s
def CI (ops:Array Oper) (l:List It):Bool:=
 match Region.departs ops with
 | false=>oL (Nat.sub (qK ops.size) 1) (xu .any l) (ops.size+1) 0
 | true=>oL (Nat.sub (qK ops.size) 1) (xu .text l) (ops.size+1) 0&&oL (Nat.sub (qK ops.size) 1) (xu .gc l) (ops.size+1) 0
def G7 (ops:Array Oper) (l c:List It):Bool:=
 sZ c&&(pQ ops.toList [] c&&(Iw c&&(lz P G ops.size c 0 0&&(Ox l&&CI ops l))))
abbrev fR:=List (Nat×(Hp->Bool))
abbrev fT:=List (Nat×Nat×Blk)
abbrev uL:=Evs->En->Hp->fR->fT->(AEx->En->Hp->Bool)->Bool
def bf (anc:Nat):fR->Hp->Bool
 | [],_=>true
 | l::ls,H=>Prod.casesOn l fun i c=>match anc.testBit i with
  | true=>bf anc ls H
  | false=>match c H with
   | true=>bf anc ls H
   | false=>false
def bF (anc:Nat):fT->Hp->(fT->Hp->Bool)->Bool
 | [],H,k=>k [] H
 | p::ps,H,k=>Prod.casesOn p fun i q=>Prod.casesOn q fun b blk=>match anc.testBit i with
  | true=>H.put b (some blk) fun H=>bF anc ps H k
  | false=>bF anc ps H fun ps H=>k ((i,b,blk)::ps) H
def cG:fT->Hp->(Hp->Bool)->Bool
 | [],H,k=>k H
 | p::ps,H,k=>Prod.casesOn p fun _ q=>Prod.casesOn q fun b blk=>H.put b (some blk) fun H=>cG ps H k
abbrev DJ:=AV->Hp->fR->fT->Bool
def jC (w:Bool) (F:DJ) (run:DJ->Bool) (H:Hp) (L:fR) (Q:fT):Bool:=Bool.casesOn w (F (.tup []) H L Q) (run F)
def DF (bad:List Nat) (i anc:Nat) (c:Cls) (ih:Evs) (e:En) (H:Hp) (L:fR) (Q:fT) (k:AEx->En->Hp->Bool) (F:DJ):Bool:=
 match c with
 | .p f=>f e fun v=>F v H L Q
 | .l f=>f e H fun v=>F v H ((i,fun H'=>f e H' fun v'=>av 1000 v v')::L) Q
 | .a f=>f e fun blk mk=>H.reserve fun b H=>F (mk b) H L ((i,b,blk)::Q)
 | .m f=>bF anc Q H fun Q H=>f ih e H (fun v H=>Bool.casesOn (bf anc L H) false (F v H L Q)) (fun v H=>k (.pan v bad) e H)
def qO (bad:List Nat) (i anc:Nat) (put:WY) (r:uL) (c:Cls):uL:=fun ih e H L Q k=>DF bad i anc c ih e H L Q k fun v H L Q=>put e v fun e=>r ih e H L Q k
def pg (bad:List Nat) (nt:Nat) (all:List Oper) (it:It) (r:uL):Box uL:=
 Box.casesOn (oN nt it.o.dst) fun put=>
 match it.o.guard with
 | none=>.mk (qO bad it.i it.anc put r (opK P G it.o))
 | some (j,w)=>match nX all (some (j,w)) with
  | false=>.mk fun _ _ _ _ _ _=>false
  | true=>Box.casesOn (ry all j w) fun want=>.mk fun ih e H L Q k=>
   jC (want e) (fun v H L Q=>put e v fun e=>r ih e H L Q k) (fun F=>DF bad it.i it.anc (opK P G it.o) ih e H L Q k F) H L Q
def wd (bad:List Nat) (nt:Nat) (all:List Oper) (l:List It):Box uL:=
 List.rec (.mk fun _ e H _ Q k=>cG Q H fun H=>k .normal e H) (fun it _ r=>Box.casesOn r fun r=>pg P G bad nt all it r) l
def gL:List Oper->List Nat
 | []=>[]
 | o::l=>match o.dst with
  | some d=>d::gL l
  | none=>gL l
def Im (nt:Nat) (ops:Array Oper):Box Ih:=
 match fF (its ops) fun l=>fF (canon P G ops) fun c=>G7 P G ops l c with
 | true=>Box.casesOn (wd P G (gL ops.toList) nt ops.toList (canon P G ops)) fun f=>.mk fun ih e H k=>f ih e H [] [] k
 | false=>.mk fun _ _ _ _=>false
abbrev Mp:=Evs->Option Nat->En->Hp->(AEx->En->Hp->Bool)->Bool
def aE (c:AV) (a b:Unit->Bool):Bool:=
 match c with
 | .bool true=>a ()
 | .bool false=>b ()
 | _=>false
def kE (l:Nat) (e:En) (H:Hp) (k:AEx->En->Hp->Bool):Bool:=
 match H.get l with
 | some (.loop st pe en nt ps a b d)=>match st with
  | .busy=>false
  | _=>H.put l (some (.loop .exhausted pe en nt ps a b d)) fun H=>
   match pe with
   | none=>k .normal e H
   | some (.exit i)=>k (.exit i) e H
   | some .ret=>k .ret e H
   | some _=>false
 | _=>false
def rL (nt:Nat) (ps:List Nat) (asg body:Code) (g:FuncId) (first cap:List AV) (ih:Evs) (d:Nat) (e:En) (H:Hp) (k:AEx->En->Hp->Bool):Bool:=
 H.new (.loop .ready none e.t nt ps asg body d) fun l H=>
 fF (first++[.yld l]++cap) fun args=>
 match iz P g with
 | true=>ih.call g args H fun en H=>match en with
  | .pan v=>k (.pan v []) e H
  | .ret _=>kE l e H k
 | false=>false
def fG (nt:Nat) (ps:List Nat) (asg body:Code) (f:AV) (ih:Evs) (ro:Option Nat) (e:En) (H:Hp) (k:AEx->En->Hp->Bool):Bool:=
 match f with
 | .fn g first cap=>match ro with
  | none=>H.new (.dfr true) fun d H=>rL P nt ps asg body g first cap ih d ⟨e.t,.mark d::e.dm⟩ H k
  | some l=>match H.get l with
   | some (.loop _ _ _ _ _ _ _ d)=>rL P nt ps asg body g first cap ih d e H k
   | _=>false
 | _=>false
def bz (id:Nat) (x:AEx) (y:Unit->Bool) (n:AEx->Bool):Bool:=
 match x with
 | .exit i=>match Nat.beq i id with
  | true=>y ()
  | false=>n (.exit i)
 | x=>n x
def aY (x:AEx) (y:Unit->Bool) (n:AEx->Bool):Bool:=
 match x with
 | .normal=>y ()
 | x=>n x
def nN:List Oper->Option (List Oper×Call)
 | []=>none
 | o::l=>match l with
  | []=>match o.op,o.guard,o.dst with
   | .defer c,none,none=>some ([],c)
   | _,_,_=>none
  | _=>match nN l with
   | some (i,c)=>some (o::i,c)
   | none=>none
def Cf (f:AV) (as:List AV) (e:En) (H:Hp) (k:AEx->En->Hp->Bool):Bool:=
 match f with
 | .fn g first cap=>fF (first++as++cap) fun args=>k .normal ⟨e.t,.call g args::e.dm⟩ H
 | _=>false
def Ba (nt:Nat) (all init:List Oper) (c:Call):Box Mp:=
 match c.callee with
 | .value f=>match mz f,c.args.toList.all mz with
  | true,true=>Box.casesOn (Hi P G nt all init) fun g=>Box.casesOn (eO f) fun f=>Box.casesOn (wR c.args.toList) fun as=>.mk fun ih ro e H k=>match ro with
   | none=>g ih e H fun x e H=>aY x (fun _=>Cf (f e) (as e) e H k) (fun x=>k x e H)
   | some _=>false
  | _,_=>.mk fun _ _ _ _ _=>false
 | _=>.mk fun _ _ _ _ _=>false
def mO (nt:Nat) (c:Code):Box Mp:=
 match c with
 | .skip=>.mk fun _ _ e H k=>k .normal e H
 | .label _=>.mk fun _ _ e H k=>k .normal e H
 | .region _ ops false=>match nN ops.toList with
  | none=>Box.casesOn (Hi P G nt ops.toList ops.toList) fun f=>.mk fun ih _ e H k=>f ih e H k
  | some (init,d)=>Ba P G nt ops.toList init d
 | .region _ ops true=>Box.casesOn (Im P G nt ops) fun f=>.mk fun ih _ e H k=>f ih e H k
 | .seq a b=>.mk fun ih ro e H k=>ih.code nt a ro e H fun x e H=>aY x (fun _=>ih.code nt b ro e H k) (fun x=>k x e H)
 | .cond c a b=>match mz c with
  | true=>Box.casesOn (eO c) fun c=>.mk fun ih ro e H k=>aE (c e) (fun _=>ih.code nt a ro e H k) (fun _=>ih.code nt b ro e H k)
  | false=>.mk fun _ _ _ _ _=>false
 | .block id b=>.mk fun ih ro e H k=>ih.code nt b ro e H fun x e H=>bz id x (fun _=>k .normal e H) (fun x=>k x e H)
 | .loop b=>.mk fun ih ro e H k=>ih.code nt b ro e H fun x e H=>aY x (fun _=>ih.code nt (.loop b) ro e H k) (fun x=>k x e H)
 | .exit i=>.mk fun _ _ e H k=>k (.exit i) e H
 | .ret=>.mk fun _ _ e H k=>k .ret e H
 | .scope b=>.mk fun ih ro e H k=>ih.code nt b ro e H k
 | .rangeFunc f ps asg body=>match mz f with
  | true=>Box.casesOn (eO f) fun f=>.mk fun ih ro e H k=>fG P nt ps.toList asg body (f e) ih ro e H k
  | false=>.mk fun _ _ _ _ _=>false
 | .goto _=>.mk fun _ _ _ _ _=>false
 | .refuse _=>.mk fun _ _ _ _ _=>false
def ta:List ResultVar->En->Hp->(List AV->Bool)->Bool
 | [],_,_,k=>k []
 | .tmp t::rs,e,H,k=>match Nat.blt t 256 with
  | true=>ta rs e H fun vs=>k (opd e (.tmp t)::vs)
  | false=>false
 | .cell a t::rs,e,H,k=>match Nat.blt a 256 with
  | true=>mw P G H t (opd e (.tmp a)) fun v=>ta rs e H fun vs=>k (v::vs)
  | false=>false
def rA (vs:List AV):AV:=
 match vs with
 | [v]=>v
 | vs=>.tup vs
def rf (bad:List Nat):List ResultVar->Bool
 | []=>true
 | .tmp t::rs=>match qx t bad with
  | true=>false
  | false=>rf bad rs
 | .cell a _::rs=>match qx a bad with
  | true=>false
  | false=>rf bad rs
def GI (o:Oper):Bool:=
 match o.op with
 | .call c=>match c.callee,c.args.toList with
  | .builtin .recover,[]=>true
  | _,_=>false
 | _=>false
def sY (nt:Nat):List Oper->Option AV->Bool->En->(Bool->En->Bool)->Bool
 | [],_,rc,e,k=>k rc e
 | o::l,pv,rc,e,k=>
  match o.guard with
  | some _=>false
  | none=>match GI o with
   | true=>match pv,rc with
    | some v,false=>Box.casesOn (oN nt o.dst) fun put=>put e v fun e=>sY nt l pv true e k
    | pv,rc=>Box.casesOn (oN nt o.dst) fun put=>put e .nili fun e=>sY nt l pv rc e k
   | false=>match opK P G o with
    | .p f=>f e fun v=>Box.casesOn (oN nt o.dst) fun put=>put e v fun e=>sY nt l pv rc e k
    | _=>false
def Il (fn:Func) (rc:Bool) (k:Bool->Hp->Bool) (x:AEx) (e:En) (H:Hp):Bool:=
 match x,e.dm with
 | .normal,[]=>ta P G fn.results.toList e H fun _=>k rc H
 | .ret,[]=>ta P G fn.results.toList e H fun _=>k rc H
 | _,_=>false
def yz (ih:Evs) (f:FuncId) (args:List AV) (pv:Option AV) (H:Hp) (k:Bool->Hp->Bool):Bool:=
 match P.funcs[f]? with
 | some fn=>match fn.body with
  | some (.seq (.region _ ops false) rest)=>
   match Nat.ble args.length fn.ntmps&&Nat.ble args.length 256 with
   | true=>qA args 0 E2.empty fun t=>sY P G fn.ntmps ops.toList pv false ⟨t,[]⟩ fun rc e=>ih.code fn.ntmps rest none e H (Il P G fn rc k)
   | false=>false
  | _=>false
 | none=>false
def mf (ih:Evs):List Dm->Option AV->Hp->(Option AV->Hp->Bool)->Bool
 | [],pv,H,k=>k pv H
 | .mark d::ds,pv,H,k=>match H.get d with
  | some (.dfr true)=>H.put d (some (.dfr false)) fun H=>mf ih ds pv H k
  | _=>false
 | .call f args::ds,pv,H,k=>match iz P f with
  | true=>yz P G ih f args pv H fun rc H=>match rc with
   | true=>mf ih ds none H k
   | false=>mf ih ds pv H k
  | false=>false
def lr (fn:Func) (ih:Evs) (k:fk->Hp->Bool) (x:AEx) (e:En) (H:Hp):Bool:=
 match x with
 | .exit _=>false
 | .pan v bad=>mf P G ih e.dm (some v) H fun pv H=>match pv with
  | some v=>k (.pan v) H
  | none=>match rf bad fn.results.toList with
   | true=>ta P G fn.results.toList e H fun vs=>k (.ret (rA vs)) H
   | false=>false
 | _=>mf P G ih e.dm none H fun pv H=>match pv with
  | some _=>false
  | none=>ta P G fn.results.toList e H fun vs=>k (.ret (rA vs)) H
abbrev VJ:=Evs->List AV->Hp->(fk->Hp->Bool)->Bool
def Ms (f:FuncId):Box VJ:=
 match P.funcs[f]? with
 | some fn=>match fn.body with
  | some c=>.mk fun ih args H k=>
   ef fn.ntmps fun nt=>
   Bool.casesOn (Nat.ble args.length nt&&Nat.ble args.length 256) false<|
   qA args 0 E2.empty fun t=>
   ih.code nt c none ⟨t,[]⟩ H (lr P G fn ih k)
  | none=>.mk fun _ _ _ _=>false
 | none=>.mk fun _ _ _ _=>false
def iZ (ih:Evs) (f:FuncId) (args:List AV) (H:Hp) (k:fk->Hp->Bool):Bool:=Box.casesOn (Ms P G f) fun b=>b ih args H k
def vZ (ih:Evs) (f:FuncId) (args:List AV) (H:Hp) (k:fk->Hp->Bool):Bool:=
 match pr f with
 | none=>iZ P G ih f args H k
 | some g=>match rds 1000 H args with
  | some ds=>match g ds with
   | some d=>al false 1000 d H fun v H=>k (.ret v) H
   | none=>iZ P G ih f args H k
  | none=>iZ P G ih f args H k
end
def evs (P:Program) (G:bg) (pr:nv):Nat->Evs
 | 0=>⟨fun _ _ _ _ _ _=>false,fun _ _ _ _=>false⟩
 | n+1=>⟨fun nt c ro e H k=>Box.casesOn (mO P G nt c) fun f=>f (evs P G pr n) ro e H k,fun f a H k=>vZ P G pr (evs P G pr n) f a H k⟩
end
section
variable {α : Type}
def R.get (r:R α) (d:Nat):α:=Box.casesOn (mJ (α:=α) d) fun g=>g r
def R.set (r:R α) (d:Nat) (x:α):R α:=
 match d with
 | 0=>{r with a0:=x}
 | 1=>{r with a1:=x}
 | 2=>{r with a2:=x}
 | 3=>{r with a3:=x}
 | 4=>{r with a4:=x}
 | 5=>{r with a5:=x}
 | 6=>{r with a6:=x}
 | 7=>{r with a7:=x}
 | 8=>{r with a8:=x}
 | 9=>{r with a9:=x}
 | 10=>{r with a10:=x}
 | 11=>{r with a11:=x}
 | 12=>{r with a12:=x}
 | 13=>{r with a13:=x}
 | 14=>{r with a14:=x}
 | _=>{r with a15:=x}
theorem jq (r:R α) (d:Nat) (f:α->(α->Bool)->Bool) (k:R α->Bool) (h:d<16):
  (Box.casesOn (kL (α:=α) d) fun g=>g r f k:Bool)=f (r.get d) fun x=>k (r.set d x):=by
 have:d=0∨d=1∨d=2∨d=3∨d=4∨d=5∨d=6∨d=7∨d=8∨d=9∨d=10∨d=11∨d=12∨d=13∨d=14∨d=15:=by omega
 rcases this with rfl|rfl|rfl|rfl|rfl|rfl|rfl|rfl|rfl|rfl|rfl|rfl|rfl|rfl|rfl|rfl<;>rfl
theorem dG (r:R α) (d:Nat) (x:α) (h:d<16):(r.set d x).get d=x:=by
 have:d=0∨d=1∨d=2∨d=3∨d=4∨d=5∨d=6∨d=7∨d=8∨d=9∨d=10∨d=11∨d=12∨d=13∨d=14∨d=15:=by omega
 rcases this with rfl|rfl|rfl|rfl|rfl|rfl|rfl|rfl|rfl|rfl|rfl|rfl|rfl|rfl|rfl|rfl<;>rfl
theorem gg (r:R α) (d d':Nat) (x:α) (h:d<16) (h':d'<16) (hne:d'≠d):(r.set d x).get d'=r.get d':=by
 have:d=0∨d=1∨d=2∨d=3∨d=4∨d=5∨d=6∨d=7∨d=8∨d=9∨d=10∨d=11∨d=12∨d=13∨d=14∨d=15:=by omega
 have:d'=0∨d'=1∨d'=2∨d'=3∨d'=4∨d'=5∨d'=6∨d'=7∨d'=8∨d'=9∨d'=10∨d'=11∨d'=12∨d'=13∨d'=14∨d'=15:=by omega
 rcases ‹d=0∨d=1∨d=2∨d=3∨d=4∨d=5∨d=6∨d=7∨d=8∨d=9∨d=10∨d=11∨d=12∨d=13∨d=14∨d=15› with rfl|rfl|rfl|rfl|rfl|rfl|rfl|rfl|rfl|rfl|rfl|rfl|rfl|rfl|rfl|rfl<;>rcases ‹d'=0∨d'=1∨d'=2∨d'=3∨d'=4∨d'=5∨d'=6∨d'=7∨d'=8∨d'=9∨d'=10∨d'=11∨d'=12∨d'=13∨d'=14∨d'=15› with rfl|rfl|rfl|rfl|rfl|rfl|rfl|rfl|rfl|rfl|rfl|rfl|rfl|rfl|rfl|rfl<;>first | rfl | exact absurd rfl hne
theorem iF (x:α) (d:Nat):(R.all x).get d=x:=by
 unfold R.get mJ
 split<;>rfl
end
def E2.get (e:E2) (t:Nat):AV:=(R.get (R.get e (t/16)) (t%16))
def E2.set (e:E2) (t:Nat) (v:AV):E2:=R.set e (t/16) (R.set (R.get e (t/16)) (t%16) v)
theorem vR (e:E2) (t:Nat):(Box.casesOn (Dr t) fun g=>g e:AV)=e.get t:=by
 unfold Dr E2.get R.get
 show (Box.casesOn (Box.casesOn (mJ (α:=R AV) (Nat.div t 16)) fun g=>Box.casesOn (mJ (α:=AV) (Nat.mod t 16)) fun h=>Box.mk fun e=>h (g e)) fun g=>g e:AV)=_
 change _=(Box.casesOn (mJ (α:=AV) (Nat.mod t 16)) fun g=>g (Box.casesOn (mJ (α:=R AV) (Nat.div t 16)) fun g=>g e):AV)
 cases mJ (α:=R AV) (Nat.div t 16)
 cases mJ (α:=AV) (Nat.mod t 16)
 rfl
theorem gH (e:E2) (t:Nat) (v:AV) (k:E2->Bool) (h:t<256):(Box.casesOn (oz t) fun g=>g e v k:Bool)=k (e.set t v):=by
 have h1:t/16<16:=by omega
 have h2:t%16<16:=by omega
 have e1:=jq e (t/16) (fun r kr=>(Box.casesOn (kL (α:=AV) (t%16)) fun g=>g r (fun _ kx=>kx v) kr:Bool)) k h1
 have:(Box.casesOn (oz t) fun g=>g e v k:Bool)=(Box.casesOn (kL (α:=R AV) (t/16)) fun g=>g e (fun r kr=>(Box.casesOn (kL (α:=AV) (t%16)) fun g=>g r (fun _ kx=>kx v) kr:Bool)) k:Bool):=by
  unfold oz
  change (Box.casesOn (Box.casesOn (kL (α:=R AV) (t/16)) fun g=>Box.casesOn (kL (α:=AV) (t%16)) fun h=>Box.mk fun e v k=>g e (fun r kr=>h r (fun _ kx=>kx v) kr) k) fun g=>g e v k:Bool)=_
  cases kL (α:=R AV) (t/16)
  cases kL (α:=AV) (t%16)
  rfl
 rw [this,e1,jq _ _ _ _ h2]
 rfl
theorem cY (e:E2) (t:Nat) (v:AV) (h:t<256):(e.set t v).get t=v:=by
 unfold E2.get E2.set
 rw [dG _ _ _ (by omega),dG _ _ _ (by omega)]
theorem cM (e:E2) (t u:Nat) (v:AV) (h:t<256) (h':u<256) (hne:u≠t):(e.set t v).get u=e.get u:=by
 unfold E2.get E2.set
 by_cases hd:u/16=t/16
 ·rw [hd,dG _ _ _ (by omega),gg _ _ _ _ (by omega) (by omega) (by omega)]
 ·rw [gg _ _ _ _ (by omega) (by omega) hd]
theorem tY (t:Nat):E2.empty.get t= .tup []:=by
 unfold E2.get E2.empty
 rw [iF,iF]
def H4.get (t:H4) (b:Nat):Option Blk:=R.get (R.get (R.get (R.get t (b/4096%16)) (b/256%16)) (b/16%16)) (b%16)
def H4.set (t:H4) (b:Nat) (x:Option Blk):H4:=
 R.set t (b/4096%16) (R.set (R.get t (b/4096%16)) (b/256%16) (R.set (R.get (R.get t (b/4096%16)) (b/256%16)) (b/16%16)
  (R.set (R.get (R.get (R.get t (b/4096%16)) (b/256%16)) (b/16%16)) (b%16) x)))
theorem vp (t:H4) (b:Nat):(Box.casesOn (DN b) fun g=>g t:Option Blk)=t.get b:=by
 unfold DN H4.get R.get
 change (Box.casesOn (Box.casesOn (mJ (α:=R (R (R (Option Blk)))) (b/4096%16)) fun g=>Box.casesOn (mJ (α:=R (R (Option Blk))) (b/256%16)) fun h=>
  Box.casesOn (mJ (α:=R (Option Blk)) (b/16%16)) fun i=>Box.casesOn (mJ (α:=Option Blk) (b%16)) fun j=>Box.mk fun t=>j (i (h (g t)))) fun g=>g t:Option Blk)=_
 cases mJ (α:=R (R (R (Option Blk)))) (b/4096%16)
 cases mJ (α:=R (R (Option Blk))) (b/256%16)
 cases mJ (α:=R (Option Blk)) (b/16%16)
 cases mJ (α:=Option Blk) (b%16)
 rfl
theorem wr (t:H4) (b:Nat) (x:Option Blk) (k:H4->Bool):(Box.casesOn (Ap b) fun g=>g t x k:Bool)=k (t.set b x):=by
 have:(Box.casesOn (Ap b) fun g=>g t x k:Bool)=
   (Box.casesOn (kL (α:=R (R (R (Option Blk)))) (b/4096%16)) fun g=>g t (fun r kr=>
    (Box.casesOn (kL (α:=R (R (Option Blk))) (b/256%16)) fun g=>g r (fun r kr=>
     (Box.casesOn (kL (α:=R (Option Blk)) (b/16%16)) fun g=>g r (fun r kr=>
      (Box.casesOn (kL (α:=Option Blk) (b%16)) fun g=>g r (fun _ kx=>kx x) kr:Bool)) kr:Bool)) kr:Bool)) k:Bool):=by
  unfold Ap
  change (Box.casesOn (Box.casesOn (kL (α:=R (R (R (Option Blk)))) (b/4096%16)) fun g=>Box.casesOn (kL (α:=R (R (Option Blk))) (b/256%16)) fun h=>
   Box.casesOn (kL (α:=R (Option Blk)) (b/16%16)) fun i=>Box.casesOn (kL (α:=Option Blk) (b%16)) fun j=>
    Box.mk fun t v k=>g t (fun r kr=>h r (fun r kr=>i r (fun r kr=>j r (fun _ kx=>kx v) kr) kr) kr) k) fun g=>g t x k:Bool)=_
  cases kL (α:=R (R (R (Option Blk)))) (b/4096%16)
  cases kL (α:=R (R (Option Blk))) (b/256%16)
  cases kL (α:=R (Option Blk)) (b/16%16)
  cases kL (α:=Option Blk) (b%16)
  rfl
 rw [this,jq _ _ _ _ (kI _ (by decide)),jq _ _ _ _ (kI _ (by decide)),jq _ _ _ _ (kI _ (by decide)),jq _ _ _ _ (kI _ (by decide))]
 rfl
theorem qI (t:H4) (b:Nat) (x:Option Blk):(t.set b x).get b=x:=by
 have l:∀n:Nat,n%16<16:=fun n=>kI _ (by decide)
 unfold H4.get H4.set
 rw [dG _ _ _ (l _),dG _ _ _ (l _),dG _ _ _ (l _),dG _ _ _ (l _)]
theorem tu (t:H4) (b c:Nat) (x:Option Blk) (hb:b<65536) (hc:c<65536) (hne:c≠b):(t.set b x).get c=t.get c:=by
 have l:∀n:Nat,n%16<16:=fun n=>kI _ (by decide)
 unfold H4.get H4.set
 by_cases h1:c/4096%16=b/4096%16
 ·rw [h1,dG _ _ _ (l _)]
  by_cases h2:c/256%16=b/256%16
  ·rw [h2,dG _ _ _ (l _)]
   by_cases h3:c/16%16=b/16%16
   ·rw [h3,dG _ _ _ (l _),gg _ _ _ _ (l _) (l _) (by omega)]
   ·rw [gg _ _ _ _ (l _) (l _) h3]
  ·rw [gg _ _ _ _ (l _) (l _) h2]
 ·rw [gg _ _ _ _ (l _) (l _) h1]
theorem ud (b:Nat):H4.empty.get b=none:=by
 unfold H4.get H4.empty
 rw [iF,iF,iF,iF]
theorem bA (n:Nat) (k:Nat->Bool):ef n k=k n:=by cases n<;>rfl
theorem cA (n:Int) (k:Int->Bool):gE n k=k n:=by
 cases n with
 | ofNat m=>exact bA m fun m=>k (.ofNat m)
 | negSucc m=>exact bA m fun m=>k (.negSucc m)
theorem bH {α:Type} (l:List α) (k:List α->Bool):fF l k=k l:=by
 induction l generalizing k with
 | nil=>rfl
 | cons x xs ih=>exact ih _
theorem cW (b:Bool) (k:Bool->Bool):ip b k=k b:=by cases b<;>rfl
def T4.get (t:T4) (b:Nat):Option Blk:=if b<65536 then t.h.get b else t.r b
def T4.set (t:T4) (b:Nat) (x:Option Blk):T4:=if b<65536 then⟨t.h.set b x,t.r⟩ else⟨t.h,fun c=>Bool.casesOn (Nat.beq c b) (t.r c) x⟩
theorem gp (H:Hp) (b:Nat):H.get b=H.t.get b:=by
 obtain⟨⟨t,r⟩,nx⟩:=H
 show (Bool.casesOn (Nat.blt b 65536) (r b) (Box.casesOn (DN b) fun g=>g t):Option Blk)=_
 rw [vp]
 unfold T4.get
 by_cases h:b<65536
 ·rw [if_pos h,show Nat.blt b 65536=true from by simpa [cT] using h]
 ·rw [if_neg h,show Nat.blt b 65536=false from by rw [←fW,cT];exact h]
theorem jQ (H:Hp) (b:Nat) (x:Option Blk) (k:Hp->Bool):H.put b x k=k ⟨H.t.set b x,H.nx⟩:=by
 obtain⟨⟨t,r⟩,nx⟩:=H
 show (Bool.casesOn (Nat.blt b 65536) (k ⟨⟨t,fun c=>Bool.casesOn (Nat.beq c b) (r c) x⟩,nx⟩) (Box.casesOn (Ap b) fun g=>g t x fun t=>k ⟨⟨t,r⟩,nx⟩):Bool)=_
 rw [wr]
 unfold T4.set
 by_cases hb:b<65536
 ·rw [show Nat.blt b 65536=true from by simpa [cT] using hb,if_pos hb]
 ·rw [show Nat.blt b 65536=false from by rw [←fW,cT];exact hb,if_neg hb]
theorem dD {H:Hp} {b:Nat} {x:Option Blk} {k:Hp->Bool} (h:H.put b x k=true):True/\k ⟨H.t.set b x,H.nx⟩=true:=⟨aW,jQ H b x k▸h⟩
theorem jV (H:Hp) (k:Nat->Hp->Bool):H.reserve k=k H.nx ⟨H.t,H.nx+1⟩:=by
 obtain⟨t,nx⟩:=H
 exact bA (Nat.succ nx) fun nx'=>k nx ⟨t,nx'⟩
theorem sw (H:Hp) (x:Blk) (k:Nat->Hp->Bool):H.new x k=k H.nx ⟨H.t.set H.nx (some x),H.nx+1⟩:=by
 unfold Hp.new
 rw [jV,jQ]
theorem dN {H:Hp} {x:Blk} {k:Nat->Hp->Bool} (h:H.new x k=true):True/\k H.nx ⟨H.t.set H.nx (some x),H.nx+1⟩=true:=⟨aW,sw H x k▸h⟩
theorem qr (t:T4) (b:Nat) (x:Option Blk):(t.set b x).get b=x:=by
 unfold T4.get T4.set
 by_cases hb:b<65536
 ·rw [if_pos hb,if_pos hb,qI]
 ·rw [if_neg hb,if_neg hb]
  show (Bool.casesOn (Nat.beq b b) (t.r b) x:Option Blk)=x
  rw [show Nat.beq b b=true from bW b]
theorem tn (t:T4) {b c:Nat} (x:Option Blk) (hne:c≠b):(t.set b x).get c=t.get c:=by
 unfold T4.get T4.set
 by_cases hb:b<65536
 ·rw [if_pos hb]
  by_cases hc:c<65536
  ·rw [if_pos hc,if_pos hc,tu _ _ _ _ hb hc hne]
  ·rw [if_neg hc,if_neg hc]
 ·rw [if_neg hb]
  by_cases hc:c<65536
  ·rw [if_pos hc,if_pos hc]
  ·rw [if_neg hc,if_neg hc]
   show (Bool.casesOn (Nat.beq c b) (t.r c) x:Option Blk)=t.r c
   rw [show Nat.beq c b=false from by rw [←fW,i7];exact hne]
theorem dJ {t:T4} {b nx:Nat} {x:Option Blk} (hb:True):(⟨t.set b x,nx⟩:Hp).get b=x:=by
 rw [gp,qr]
theorem cu {t:T4} {b c nx nx':Nat} {x:Option Blk} (hb:True) (hne:c≠b):(⟨t.set b x,nx⟩:Hp).get c=(⟨t,nx'⟩:Hp).get c:=by
 rw [gp,gp,tn _ _ hne]
theorem cz (b:Nat):Hp.empty.get b=none:=by
 rw [gp]
 show (if b<65536 then H4.empty.get b else none)=none
 split
 ·exact ud b
 ·rfl
structure Tk (n:Nat) where
def O:Tk 0:=⟨⟩
instance:CoeFun (Tk 0) fun _=>Int->AV:=⟨fun _=>.int .i64⟩
def aS:Tk 1:=⟨⟩
instance:CoeFun (Tk 1) fun _=>Int->D:=⟨fun _=>.int .i64⟩
instance:CoeFun E2 fun _=>Nat->AV:=⟨E2.get⟩
structure TS (n:TypeId) where
def ae (n:TypeId):TS n:=⟨⟩
instance {n:TypeId}:CoeFun (TS n) fun _=>List AV->Blk:=⟨fun _=>.cells (some n) false⟩
def ao:Nat->List AV->List (Nat×AV)->List (Nat×AV)
 | _,[],r=>r
 | n,a::l,r=>(n,a)::ao (n+1) l r
structure Pl where
 blk:Nat
 base:Nat
 tot:Nat
structure Mu where
 f:Nat->Option Pl
 z:Nat->Option Obj
instance:CoeFun Mu (fun _=>Nat->Option Pl):=⟨Mu.f⟩
abbrev hpz (w:World):Nat->Option Obj:=fun k=>w.heap[k]?
mutual
inductive DV (z:Nat->Option Obj) (ro:Bool):D->Value->List Nat->Prop where
 | bool (b):DV z ro (.bool b) (.bool b) []
 | int (k n):DV z ro (.int k n) (.int k n) []
 | str (s:ByteArray) (l) (h:s.data.toList.map UInt8.toNat=l):DV z ro (.str l) (.string s) []
 | nilp:DV z ro .nilp (.pointer none) []
 | ptr (ds off) (p:Pl) (arr el fz) (xs:List Value) (L) (h:z p.blk=some (.cells arr el fz)) (ht:p.base+p.tot<=arr.size) (hl:ds.length<=p.tot) (hf:ro=false->fz=(0,0))
   (hx:∀(i:Nat) (x:Value),xs[i]? =some x->arr[p.base+i]? =some x) (hs:DVs z ro ds xs L):DV z ro (.ptr ds off) (.pointer (some ⟨p.blk,p.base+off,none⟩)) (p.blk::L)
 | nils:DV z ro .nils (.slice none 0 0) []
 | sl (sz ds len) (a:Addr) (cap:Nat) (p:Pl) (arr el fz) (xs:List Value) (L) (h:z p.blk=some (.cells arr el fz)) (hlc:len<=cap) (hc:cap * sz=p.tot) (ht:p.base+p.tot<=arr.size)
   (hl:ds.length<=p.tot) (hf:ro=false->fz=(0,0)) (hx:∀(i:Nat) (x:Value),xs[i]? =some x->arr[p.base+i]? =some x) (ha:0<cap->a=⟨p.blk,p.base,none⟩) (hs:DVs z ro ds xs L):
   DV z ro (.sl sz ds len) (.slice (some a) len cap) (p.blk::L)
 | nilm:DV z ro .nilm (.map none) []
 | map (ks vs) (r:Nat) (ents:Array MapEntry) (xs ys:List Value) (L M) (h:z r=some (.map ents ks.length)) (hsz:ents.size=ks.length) (hlen:vs.length=ks.length)
   (he:∀(i:Nat) (e:MapEntry),ents[i]? =some e->xs[i]? =some e.key/\ys[i]? =some e.val/\e.born=i) (hk:DVs z ro ks xs L) (hv:DVs z ro vs ys M):DV z ro (.map ks vs) (.map (some r)) (r::(L++M))
 | fn (f a c) (a' c':Array Value) (L M) (ha:DVs z ro a a'.toList L) (hc:DVs z ro c c'.toList M):DV z ro (.fn f a c) (.func (.func f) a' c') (L++M)
 | nilf:DV z ro .nilf .nilFunc []
 | ifc (t v v' L) (h:DV z ro v v' L):DV z ro (.ifc t v) (.iface t v') L
 | nili:DV z ro .nili .nilIface []
 | agg (cs) (cs':Array Value) (L) (h:DVs z ro cs cs'.toList L):DV z ro (.agg cs) (.agg cs') L
 | tup (cs) (cs':Array Value) (L) (h:DVs z ro cs cs'.toList L):DV z ro (.tup cs) (.tuple cs') L
inductive DVs (z:Nat->Option Obj) (ro:Bool):List D->List Value->List Nat->Prop where
 | nil:DVs z ro [] [] []
 | cons (d v L ds vs M) (h:DV z ro d v L) (hs:DVs z ro ds vs M):DVs z ro (d::ds) (v::vs) (L++M)
end
theorem DVs.length {z:Nat->Option Obj} {ro:Bool} {ds:List D} {vs:List Value} {L:List Nat} (h:DVs z ro ds vs L):vs.length=ds.length:=by
 induction ds generalizing vs L with
 | nil=>cases h;rfl
 | cons d ds ih=>cases h with | cons _ _ _ _ _ _ _ hs=>simp [ih hs]
theorem DV.ptr_inv {z:Nat->Option Obj} {ro:Bool} {ds:List D} {off:Nat} {v:Value} {L:List Nat} (h:DV z ro (.ptr ds off) v L):
  ∃b base,v= .pointer (some ⟨b,base+off,none⟩)/\∀off',DV z ro (.ptr ds off') (.pointer (some ⟨b,base+off',none⟩)) L:=by
 cases h with
 | ptr _ _ p arr el fz xs L h ht hl hf hx hs=>exact⟨p.blk,p.base,rfl,fun off'=>.ptr ds off' p arr el fz xs L h ht hl hf hx hs⟩
def D.mem:D->Bool
 | .ptr _ _=>true
 | .sl _ _ _=>true
 | .map _ _=>true
 | _=>false
mutual
theorem DV.le {z z':Nat->Option Obj} (hz:∀j o,z j=some o->z' j=some o) {ro:Bool} {d:D} {v:Value} {L:List Nat} (h:DV z ro d v L):DV z' ro d v L:=by
 cases h with
 | bool=>exact .bool _
 | int=>exact .int _ _
 | str _ _ h=>exact .str _ _ h
 | nilp=>exact .nilp
 | ptr _ _ p arr el fz xs L h ht hl hf hx hs=>exact .ptr _ _ p arr el fz xs L (hz _ _ h) ht hl hf hx (iJ hz hs)
 | nils=>exact .nils
 | sl _ _ _ a cap p arr el fz xs L h hlc hc ht hl hf hx ha hs=>exact .sl _ _ _ a cap p arr el fz xs L (hz _ _ h) hlc hc ht hl hf hx ha (iJ hz hs)
 | nilm=>exact .nilm
 | map _ _ r ents xs ys L M h hsz hlen he hk hv=>exact .map _ _ r ents xs ys L M (hz _ _ h) hsz hlen he (iJ hz hk) (iJ hz hv)
 | fn _ _ _ _ _ L M ha hc=>exact .fn _ _ _ _ _ L M (iJ hz ha) (iJ hz hc)
 | nilf=>exact .nilf
 | ifc _ _ _ _ h=>exact .ifc _ _ _ _ (DV.le hz h)
 | nili=>exact .nili
 | agg _ _ _ h=>exact .agg _ _ _ (iJ hz h)
 | tup _ _ _ h=>exact .tup _ _ _ (iJ hz h)
theorem iJ {z z':Nat->Option Obj} (hz:∀j o,z j=some o->z' j=some o) {ro:Bool} {d:List D} {v:List Value} {L:List Nat} (h:DVs z ro d v L):DVs z' ro d v L:=by
 cases h with
 | nil=>exact .nil
 | cons _ _ _ _ _ _ h hs=>exact .cons _ _ _ _ _ _ (DV.le hz h) (iJ hz hs)
end
mutual
inductive VR (μ:Mu):AV->Value->Prop where
 | bool (b):VR μ (.bool b) (.bool b)
 | int (k n):VR μ (.int k n) (.int k n)
 | str (s:ByteArray) (l) (h:s.data.toList.map UInt8.toNat=l):VR μ (.str l) (.string s)
 | ptr (b off) (p:Pl) (h:μ b=some p):VR μ (.ptr b off) (.pointer (some ⟨p.blk,p.base+off,none⟩))
 | nilp:VR μ .nilp (.pointer none)
 | gptr (g off):VR μ (.gptr g off) (.pointer (some ⟨g,off,none⟩))
 | sl (b off len sz c) (p:Pl) (cap:Nat) (a:Addr) (h:μ b=some p) (hl:len<=cap) (ht:off+cap * sz<=p.tot) (hc:∀n,c=some n->cap=n)
   (hn:c=none->off+cap * sz=p.tot) (ha:0<cap->a=⟨p.blk,p.base+off,none⟩):VR μ (.sl b off len sz c) (.slice (some a) len cap)
 | nils:VR μ .nils (.slice none 0 0)
 | map (b) (p:Pl) (h:μ b=some p):VR μ (.map b) (.map (some p.blk))
 | nilm:VR μ .nilm (.map none)
 | fn (f a c) (a' c':Array Value) (ha:VRs μ a a'.toList) (hc:VRs μ c c'.toList):VR μ (.fn f a c) (.func (.func f) a' c')
 | yld (b) (p:Pl) (h:μ b=some p):VR μ (.yld b) (.func (.yield p.blk) #[] #[])
 | nilf:VR μ .nilf .nilFunc
 | ifc (t v v') (h:VR μ v v'):VR μ (.ifc t v) (.iface t v')
 | nili:VR μ .nili .nilIface
 | agg (cs) (cs':Array Value) (h:VRs μ cs cs'.toList):VR μ (.agg cs) (.agg cs')
 | tup (cs) (cs':Array Value) (h:VRs μ cs cs'.toList):VR μ (.tup cs) (.tuple cs')
 | dat (d v L) (hm:d.mem=true) (h:DV μ.z true d v L):VR μ (.dat d) v
inductive VRs (μ:Mu):List AV->List Value->Prop where
 | nil:VRs μ [] []
 | cons (v v' vs vs') (h:VR μ v v') (hs:VRs μ vs vs'):VRs μ (v::vs) (v'::vs')
end
def Mu.le (μ μ':Mu):Prop:=(∀b p,μ b=some p->μ' b=some p)/\∀j o,μ.z j=some o->μ'.z j=some o
theorem Mu.le_refl (μ:Mu):μ.le μ:=⟨fun _ _ h=>h,fun _ _ h=>h⟩
theorem Mu.le_trans {μ μ' μ'':Mu} (h:μ.le μ') (h':μ'.le μ''):μ.le μ'':=⟨fun b p hb=>h'.1 b p (h.1 b p hb),fun b p hb=>h'.2 b p (h.2 b p hb)⟩
mutual
theorem VR.mono {μ μ':Mu} (hm:μ.le μ') {v:AV} {x:Value} (h:VR μ v x):VR μ' v x:=by
 cases h with
 | bool=>exact .bool _
 | int=>exact .int _ _
 | str _ _ h=>exact .str _ _ h
 | ptr _ _ p h=>exact .ptr _ _ p (hm.1 _ _ h)
 | nilp=>exact .nilp
 | gptr=>exact .gptr _ _
 | sl _ _ _ _ _ p cap a h hl ht hc hn ha=>exact .sl _ _ _ _ _ p cap a (hm.1 _ _ h) hl ht hc hn ha
 | nils=>exact .nils
 | map _ p h=>exact .map _ p (hm.1 _ _ h)
 | nilm=>exact .nilm
 | fn _ _ _ _ _ ha hc=>exact .fn _ _ _ _ _ (VRs.mono hm ha) (VRs.mono hm hc)
 | yld _ p h=>exact .yld _ p (hm.1 _ _ h)
 | nilf=>exact .nilf
 | ifc _ _ _ h=>exact .ifc _ _ _ (VR.mono hm h)
 | nili=>exact .nili
 | agg _ _ h=>exact .agg _ _ (VRs.mono hm h)
 | tup _ _ h=>exact .tup _ _ (VRs.mono hm h)
 | dat _ _ L hd h=>exact .dat _ _ L hd (DV.le hm.2 h)
theorem VRs.mono {μ μ':Mu} (hm:μ.le μ') {v:List AV} {x:List Value} (h:VRs μ v x):VRs μ' v x:=by
 cases h with
 | nil=>exact .nil
 | cons _ _ _ _ h hs=>exact .cons _ _ _ _ (VR.mono hm h) (VRs.mono hm hs)
end
theorem DVs.drop {z:Nat->Option Obj} {ro:Bool}:∀{ds:List D} {xs:List Value} {L:List Nat} (n:Nat),DVs z ro ds xs L->∃M,DVs z ro (ds.drop n) (xs.drop n) M
 | _,_,_,0,h=>⟨_,h⟩
 | _,_,_,n+1,.nil=>⟨_,.nil⟩
 | _,_,_,n+1,.cons _ _ _ _ _ _ _ hs=>hs.drop n
theorem DVs.take {z:Nat->Option Obj} {ro:Bool}:∀{ds:List D} {xs:List Value} {L:List Nat} (n:Nat),DVs z ro ds xs L->∃M,DVs z ro (ds.take n) (xs.take n) M
 | _,_,_,0,h=>⟨_,.nil⟩
 | _,_,_,n+1,.nil=>⟨_,.nil⟩
 | _,_,_,n+1,.cons _ _ _ _ _ _ h hs=>let ⟨_,g⟩:=hs.take n;⟨_,.cons _ _ _ _ _ _ h g⟩
mutual
theorem Cw {μ:Mu} {d:D} {v:Value} {L:List Nat} (h:DV μ.z true d v L):VR μ (ofD d) v:=by
 cases h with
 | bool=>exact .bool _
 | int=>exact .int _ _
 | str _ _ h=>exact .str _ _ h
 | nilp=>exact .nilp
 | ptr _ _ p arr el fz xs L h ht hl hf hx hs=>exact .dat _ _ _ rfl (.ptr _ _ p arr el fz xs L h ht hl hf hx hs)
 | nils=>exact .nils
 | sl _ _ _ a cap p arr el fz xs L h hlc hc ht hl hf hx ha hs=>exact .dat _ _ _ rfl (.sl _ _ _ a cap p arr el fz xs L h hlc hc ht hl hf hx ha hs)
 | nilm=>exact .nilm
 | map _ _ r ents xs ys L M h hsz hlen he hk hv=>exact .dat _ _ _ rfl (.map _ _ r ents xs ys L M h hsz hlen he hk hv)
 | fn _ _ _ _ _ L M ha hc=>exact .fn _ _ _ _ _ (lx ha) (lx hc)
 | nilf=>exact .nilf
 | ifc _ _ _ _ h=>exact .ifc _ _ _ (Cw h)
 | nili=>exact .nili
 | agg _ _ _ h=>exact .agg _ _ (lx h)
 | tup _ _ _ h=>exact .tup _ _ (lx h)
theorem lx {μ:Mu} {d:List D} {v:List Value} {L:List Nat} (h:DVs μ.z true d v L):VRs μ (aq d) v:=by
 cases h with
 | nil=>exact .nil
 | cons _ _ _ _ _ _ h hs=>exact .cons _ _ _ _ (Cw h) (lx hs)
end
theorem cL:∀(ds:List D),(aq ds).length=ds.length
 | []=>rfl
 | d::ds=>by simp [aq,cL ds]
theorem VR.dat_inv {μ:Mu} {d:D} {v:Value} (h:VR μ (.dat d) v):(∃a,v= .pointer (some a))∨(∃a n c,v= .slice (some a) n c)∨∃r,v= .map (some r):=by
 cases h with
 | dat _ _ L hm h=>cases h<;>first | (cases hm;done)| exact .inl ⟨_,rfl⟩| exact .inr (.inl ⟨_,_,_,rfl⟩)| exact .inr (.inr ⟨_,rfl⟩)
theorem VR.int_back {μ:Mu} {x:AV} {k:IntKind} {n:Int} (h:VR μ x (.int k n)):x= .int k n:=by
 cases x with
 | dat d=>rcases h.dat_inv with⟨_,h⟩| ⟨_,_,_,h⟩| ⟨_,h⟩<;>cases h
 | int=>cases h;rfl
 | _=>cases h
theorem VR.str_back {μ:Mu} {x:AV} {s:ByteArray} (h:VR μ x (.string s)):x= .str (s.data.toList.map UInt8.toNat):=by
 cases x with
 | dat d=>rcases h.dat_inv with⟨_,h⟩| ⟨_,_,_,h⟩| ⟨_,h⟩<;>cases h
 | str l=>cases h with | str _ _ h=>rw [h]
 | _=>cases h
section
variable {μ : Mu}
theorem VRs.length {vs:List AV} {xs:List Value} (h:VRs μ vs xs):xs.length=vs.length:=by
 induction vs generalizing xs with
 | nil=>cases h;rfl
 | cons v vs ih=>cases h with | cons _ _ _ _ _ hs=>simp [ih hs]
theorem VRs.get {vs:List AV} {xs:List Value} (h:VRs μ vs xs) (i:Nat) {v:AV} (hv:vs[i]? =some v):∃x,xs[i]? =some x/\VR μ v x:=by
 induction vs generalizing xs i with
 | nil=>simp at hv
 | cons a vs ih=>
  cases h with
  | cons _ a' _ xs' h hs=>
   cases i with
   | zero=>simp at hv;subst hv;exact⟨a',by simp,h⟩
   | succ i=>simp at hv;simpa using ih hs i hv
theorem iV {vs:List AV} {xs:List Value} (hl:xs.length=vs.length) (h:∀(i:Nat) (v:AV),vs[i]? =some v->∃x,xs[i]? =some x/\VR μ v x):VRs μ vs xs:=by
 induction vs generalizing xs with
 | nil=>cases xs with
  | nil=>exact .nil
  | cons=>simp at hl
 | cons v vs ih=>cases xs with
  | nil=>simp at hl
  | cons x xs=>
   refine .cons _ _ _ _ ?_ (ih (by simpa using hl) fun i u hu=>by simpa using h (i+1) u (by simpa using hu))
   obtain⟨y,hy,hv⟩:=h 0 v (by simp)
   simp at hy
   exact hy▸hv
theorem VRs.append {a b:List AV} {x y:List Value} (h:VRs μ a x) (h':VRs μ b y):VRs μ (a++b) (x++y):=by
 induction a generalizing x with
 | nil=>cases h;exact h'
 | cons v a ih=>cases h with | cons _ _ _ _ hv hs=>exact .cons _ _ _ _ hv (ih hs)
theorem VRs.drop {a:List AV} {x:List Value} (h:VRs μ a x) (n:Nat):VRs μ (a.drop n) (x.drop n):=by
 induction n generalizing a x with
 | zero=>simpa using h
 | succ n ih=>cases h with
  | nil=>simpa using VRs.nil
  | cons _ _ _ _ _ hs=>simpa using ih hs
theorem VRs.take {a:List AV} {x:List Value} (h:VRs μ a x) (n:Nat):VRs μ (a.take n) (x.take n):=by
 induction n generalizing a x with
 | zero=>simpa using VRs.nil
 | succ n ih=>cases h with
  | nil=>simpa using VRs.nil
  | cons _ _ _ _ hv hs=>simpa using VRs.cons _ _ _ _ hv (ih hs)
theorem lS {n:Nat} {a b:List AV} (h:ew n a=some b):b=a.take n/\n<=a.length:=by
 induction n generalizing a b with
 | zero=>simp [ew] at h;simp [h]
 | succ n ih=>cases a with
  | nil=>simp [ew] at h
  | cons x xs=>
   simp only [ew] at h
   split at h
   ·rename_i ys hy
    obtain⟨h1,h2⟩:=ih hy
    simp at h
    subst h
    simp [h1,h2]
   ·simp at h
theorem kT:VR μ (.tup []) undef:= .tup _ _ .nil
end
mutual
theorem rX {μ:Mu}:∀(d:Nat) {v:Value} {a:AV},ofC d v=some a->VR μ a v
 | 0,_,_,h=>by simp [ofC] at h
 | d+1,v,a,h=>by
  unfold ofC at h
  split at h
  ·simp at h;subst h;exact .bool _
  ·simp at h;subst h;exact .int _ _
  ·simp at h;subst h;exact .str _ _ rfl
  ·simp at h;subst h;exact .nilp
  ·simp at h;subst h;exact .nils
  ·simp at h;subst h;exact .nilm
  ·simp at h;subst h;exact .nilf
  ·simp at h;subst h;exact .nili
  ·split at h
   ·rename_i a' ha;simp at h;subst h;exact .ifc _ _ _ (rX d ha)
   ·simp at h
  ·split at h
   ·rename_i l hl;simp at h;subst h;exact .agg _ _ (vE d _ _ hl)
   ·simp at h
  ·split at h
   ·rename_i l hl;simp at h;subst h;exact .tup _ _ (vE d _ _ hl)
   ·simp at h
  ·simp at h
theorem vE {μ:Mu}:∀(d:Nat) (vs:List Value) (l:List AV),vs.mapM (ofC d)=some l->VRs μ l vs
 | d,[],l,h=>by simp at h;subst h;exact .nil
 | d,v::vs,l,h=>by
  simp only [List.mapM_cons,Option.pure_def,Option.bind_eq_bind,uC] at h
  obtain⟨a,ha,l',hl,h⟩:=h
  simp at h
  subst h
  exact .cons _ _ _ _ (rX d ha) (vE d vs l' hl)
end
theorem G0 {μ:Mu} {v:Value} (h:(ofC 6 v).isSome=true):VR μ (cst v) v:=by
 unfold cst
 cases ha:ofC 6 v with
 | none=>simp [ha] at h
 | some a=>exact rX 6 ha
structure fY (μ:Mu) (e:E2) (nt:Nat) (tmps:Array Value):Prop where
 size:tmps.size=nt
 get:∀t,t<256->VR μ (e t) (tmps.getD t undef)
theorem fY.mono {μ μ':Mu} (hm:μ.le μ') {e:E2} {nt:Nat} {tmps:Array Value} (h:fY μ e nt tmps):fY μ' e nt tmps:=
 ⟨h.size,fun t ht=>(h.get t ht).mono hm⟩
theorem fY.set {μ:Mu} {e:E2} {nt d:Nat} {tmps:Array Value} {v:AV} {x:Value} (h:fY μ e nt tmps) (hd:d<nt) (hd':d<256) (hv:VR μ v x):
  fY μ (e.set d v) nt (tmps.setIfInBounds d x):=by
 refine⟨by simpa using h.size,fun t ht=> ?_⟩
 by_cases hne:t=d
 ·subst hne
  rw [cY _ _ _ hd']
  have:t<tmps.size:=by rw [h.size];exact hd
  simpa [Array.getD,this] using hv
 ·rw [cM _ _ _ _ hd' ht hne]
  have:=h.get t ht
  have hne':d≠t:=Ne.symm hne
  simpa [mV,Array.getElem?_setIfInBounds_ne hne'] using this
def DmR (μ:Mu):List Dm->List Deferred->Prop
 | [],ds=>ds=[]
 | .mark d::dm,ds=>∃p r,μ d=some p/\ds={target:= .collected p.blk,args:=#[]}::r/\DmR μ dm r
 | .call g args::dm,ds=>∃(cap as:Array Value) (r:List Deferred),ds={target:= .fn (.func g) cap,args:=as}::r/\VRs μ args (as++cap).toList/\DmR μ dm r
theorem DmR.mono {μ μ':Mu} (hm:μ.le μ'):∀{dm:List Dm} {ds:List Deferred},DmR μ dm ds->DmR μ' dm ds
 | [],_,h=>h
 | .mark _::_,_,⟨p,r,hp,hd,hr⟩=>⟨p,r,hm.1 _ _ hp,hd,DmR.mono hm hr⟩
 | .call _ _::_,_,⟨cap,as,r,hd,hv,hr⟩=>⟨cap,as,r,hd,hv.mono hm,DmR.mono hm hr⟩
theorem IA (e:En) (t:Nat):opd e (.tmp t)=e.t t:=by
 obtain⟨x,dm⟩:=e
 show (Box.casesOn (Box.casesOn (Dr t) fun g=>Box.mk fun e:En=>En.casesOn e fun x _=>g x) fun g=>g ⟨x,dm⟩:AV)=_
 rw [←vR]
theorem vV {μ:Mu} {e:En} {nt:Nat} {a:Act} (h:fY μ e.t nt a.tmps) {x:Operand} (hx:mz x=true):VR μ (opd e x) (a.eval x):=by
 cases x with
 | tmp t=>
  rw [IA]
  exact h.get t (by simpa [mz,cT] using hx)
 | const v=>exact G0 hx
 | global g=>exact .gptr g 0
 | func f=>exact .fn _ _ _ _ _ .nil .nil
def Blk.own:Blk->Bool
 | .cells _ ro _=> !ro
 | .map ro _ _=> !ro
 | _=>true
def SE (t:Option TypeId) (p:Pl) (arr:Array Value) (el:TypeId):Prop:=∀e,t=some e->el=e/\p.base=0/\arr.size=p.tot
theorem SE.none {p:Pl} {arr:Array Value} {el:TypeId}:SE Option.none p arr el:=fun e h=>by cases h
def BR (μ:Mu) (p:Pl):Blk->Option Obj->Prop
 | .cells t ro cs,o=>∃arr el fz,o=some (.cells arr el fz)/\p.base+p.tot<=arr.size/\cs.length<=p.tot/\(ro=false->fz=(0,0)/\SE t p arr el)/\
   ∀(i:Nat) (c:AV),cs[i]? =some c->∃v,arr[p.base+i]? =some v/\VR μ c v
 | .map _ es cl,o=>∃ents:Array MapEntry,o=some (.map ents cl)/\ents.size=es.length/\
   ∀(i:Nat) (y:AV) (v:AV) (s:Nat),es[i]? =some (y,v,s)->∃x:MapEntry,ents[i]? =some x/\VR μ y x.key/\VR μ v x.val/\x.born=s
 | .siter s pos,o=>p.base=0/\∃b:ByteArray,o=some (.stringIter b pos)/\b.data.toList.map UInt8.toNat=s
 | .miter none since seen stepped,o=>p.base=0/\∃a:Array Nat,o=some (.mapIter none since a stepped)/\a.toList.reverse=seen
 | .miter (some m) since seen stepped,o=>p.base=0/\∃(a:Array Nat) (q:Pl),μ m=some q/\o=some (.mapIter (some q.blk) since a stepped)/\a.toList.reverse=seen
 | .loop st pe env nt ps asg body d,o=>∃(fn:FuncId) (tmps:Array Value) (params:Array Tmp) (q:Pl),μ d=some q/\fY μ env nt tmps/\params.toList=ps/\
   o=some (.loop {state:=st,pending:=pe,fn:=fn,tmps:=tmps,params:=params,assign:=asg,body:=body,defers:=q.blk})
 | .dfr true,o=>o=some (.deferred (some []))
 | .dfr false,o=>o=some (.deferred none)
theorem BR.some {μ:Mu} {p:Pl} {x:Blk} {o:Option Obj} (h:BR μ p x o):∃y,o=some y:=by
 cases x with
 | cells=>obtain⟨_,_,_,h,_⟩:=h;exact⟨_,h⟩
 | map=>obtain⟨_,h,_⟩:=h;exact⟨_,h⟩
 | siter=>obtain⟨_,_,h,_⟩:=h;exact⟨_,h⟩
 | miter m=>cases m with
  | none=>obtain⟨_,_,h,_⟩:=h;exact⟨_,h⟩
  | some=>obtain⟨_,_,_,_,h,_⟩:=h;exact⟨_,h⟩
 | loop=>obtain⟨_,_,_,_,_,_,_,h⟩:=h;exact⟨_,h⟩
 | dfr b=>cases b<;>exact⟨_,h⟩
theorem BR.mono {μ μ':Mu} (hm:μ.le μ') {p:Pl} {x:Blk} {o:Option Obj} (h:BR μ p x o):BR μ' p x o:=by
 cases x with
 | cells=>
  obtain⟨arr,el,fz,h1,h2,h3,h4,h5⟩:=h
  exact⟨arr,el,fz,h1,h2,h3,h4,fun i c hc=>let ⟨v,hv,hr⟩:=h5 i c hc;⟨v,hv,hr.mono hm⟩⟩
 | map=>
  obtain⟨ents,h1,h2,h3⟩:=h
  exact⟨ents,h1,h2,fun i y v s hs=>let ⟨x,hx,hk,hv,hb⟩:=h3 i y v s hs;⟨x,hx,hk.mono hm,hv.mono hm,hb⟩⟩
 | siter=>exact h
 | miter m=>cases m with
  | none=>exact h
  | some=>obtain⟨h0,a,q,hq,h⟩:=h;exact⟨h0,a,q,hm.1 _ _ hq,h⟩
 | loop=>obtain⟨fn,tmps,params,q,hq,he,h⟩:=h;exact⟨fn,tmps,params,q,hm.1 _ _ hq,he.mono hm,h⟩
 | dfr b=>cases b<;>exact h
structure HRg (G:bg) (μ:Mu) (H:Hp) (w:World):Prop where
 get:∀b x,H.get b=some x->∃p,μ b=some p/\BR μ p x w.heap[p.blk]?
 own:∀b x p c y q,H.get b=some x->μ b=some p->x.own=true->H.get c=some y->μ c=some q->p.blk=q.blk->b=c
 glob:∀g cs,G g=some cs->∃arr el fz,w.heap[g]? =some (.cells arr el fz)/\arr.size=cs.length/\∀(i:Nat) (c:AV),cs[i]? =some c->∃v,arr[i]? =some v/\VR μ c v
 globf:∀g cs b x p,G g=some cs->H.get b=some x->x.own=true->μ b=some p->p.blk≠g
 froz:∀j o,μ.z j=some o->w.heap[j]? =some o
 frof:∀b x p,H.get b=some x->x.own=true->μ b=some p->μ.z p.blk=none
structure HR (G:bg) (μ:Mu) (H:Hp) (w:World):Prop extends HRg G μ H w where
 dom:∀b p,μ b=some p->b<H.nx
theorem HRg.nx {G:bg} {μ:Mu} {t:T4} {n n':Nat} {w:World} (h:HRg G μ ⟨t,n⟩ w):HRg G μ ⟨t,n'⟩ w:=⟨h.get,h.own,h.glob,h.globf,h.froz,h.frof⟩
abbrev tW (w:World):=(w.output,w.tape)
structure Ext (μ:Mu) (H:Hp) (w:World) (μ':Mu) (H':Hp) (w':World):Prop where
 mu:μ.le μ'
 below:∀b,b<H.nx->μ' b=μ b
 gone:∀b,b<H.nx->H.get b=none->H'.get b=none
 nx:H.nx<=H'.nx
 size:w.heap.size<=w'.heap.size
 keep:∀k,k<w.heap.size->(∀b x p,H.get b=some x->x.own=true->μ b=some p->p.blk≠k)->w'.heap[k]? =w.heap[k]?
 grow:∀b x p,H'.get b=some x->μ' b=some p->w.heap.size<=p.blk∨∃c y q,H.get c=some y/\μ c=some q/\q.blk=p.blk/\(x.own=true->y.own=true)
 os:w'.os=w.os
 out:tW w'=tW w
 zgrow:∀j o,μ'.z j=some o->μ.z j=some o∨w.heap.size<=j∨∃c y q,H.get c=some y/\μ c=some q/\q.blk=j
theorem Ext.refl {μ:Mu} {H:Hp} {w:World}:Ext μ H w μ H w:=
 ⟨Mu.le_refl _,fun _ _=>rfl,fun _ _ h=>h,bh _,bh _,fun _ _ _=>rfl,fun b x p hb hp=>.inr ⟨b,x,p,hb,hp,rfl,id⟩,rfl,rfl,fun _ _ h=>.inl h⟩
theorem Ext.trans {μ μ' μ'':Mu} {H H' H'':Hp} {w w' w'':World} (h:Ext μ H w μ' H' w') (h':Ext μ' H' w' μ'' H'' w''):Ext μ H w μ'' H'' w'' where
 mu:=Mu.le_trans h.mu h'.mu
 below b hb:=(h'.below b (gY hb h.nx)).trans (h.below b hb)
 gone b hb hg:=h'.gone b (gY hb h.nx) (h.gone b hb hg)
 nx:=fC h.nx h'.nx
 size:=fC h.size h'.size
 keep k hk hno:=by
  rw [h'.keep k (gY hk h.size) ?_,h.keep k hk hno]
  intro b x p hb hx hp he
  rcases h.grow b x p hb hp with hlt | ⟨c,y,q,hc,hq,hqe,hy⟩
  ·omega
  ·exact hno c y q hc (hy hx) hq (hqe.trans he)
 grow b x p hb hp:=by
  rcases h'.grow b x p hb hp with hlt | ⟨c,y,q,hc,hq,hqe,hy⟩
  ·exact .inl (fC h.size hlt)
  ·rcases h.grow c y q hc hq with hlt | ⟨d,z,r,hd,hr,hre,hz⟩
   ·exact .inl (hqe▸hlt)
   ·exact .inr ⟨d,z,r,hd,hr,hre.trans hqe,fun h=>hz (hy h)⟩
 os:=h'.os.trans h.os
 out:=h'.out.trans h.out
 zgrow j o hj:=by
  rcases h'.zgrow j o hj with hz | hlt | ⟨c,y,q,hc,hq,hqe⟩
  ·exact h.zgrow j o hz
  ·exact .inr (.inl (fC h.size hlt))
  ·rcases h.grow c y q hc hq with hlt | ⟨d,z,r,hd,hr,hre,_⟩
   ·exact .inr (.inl (hqe▸hlt))
   ·exact .inr (.inr ⟨d,z,r,hd,hr,hre.trans hqe⟩)
section
variable {G : bg} {μ : Mu} {H : Hp} {w : World}
theorem HR.lt (h:HR G μ H w) {b:Nat} {x:Blk} {p:Pl} (hb:H.get b=some x) (hp:μ b=some p):p.blk<w.heap.size:=by
 obtain⟨q,hq,hr⟩:=h.get b x hb
 obtain rfl:p=q:=by rw [hp] at hq;exact fc hq
 obtain⟨y,hy⟩:=hr.some
 exact (ir.1 hy).1
theorem HRg.at (h:HRg G μ H w) {b:Nat} {x:Blk} {p:Pl} (hb:H.get b=some x) (hp:μ b=some p):BR μ p x w.heap[p.blk]? :=by
 obtain⟨q,hq,hr⟩:=h.get b x hb
 obtain rfl:p=q:=by rw [hp] at hq;exact fc hq
 exact hr
theorem HR.world (h:HR G μ H w) {w':World} (hw:∀b x p,H.get b=some x->μ b=some p->w'.heap[p.blk]? =w.heap[p.blk]?)
  (hg:∀g cs,G g=some cs->w'.heap[g]? =w.heap[g]?) (hf:∀j o,μ.z j=some o->w'.heap[j]? =w.heap[j]?):HR G μ H w' where
 dom:=h.dom
 get b x hb:=by
  obtain⟨p,hp,hr⟩:=h.get b x hb
  exact⟨p,hp,by rw [hw b x p hb hp];exact hr⟩
 own:=h.own
 glob g cs hG:=by rw [hg g cs hG];exact h.glob g cs hG
 globf:=h.globf
 froz j o hj:=by rw [hf j o hj];exact h.froz j o hj
 frof:=h.frof
theorem HR.frolt (h:HR G μ H w) {j:Nat} {o:Obj} (hj:μ.z j=some o):j<w.heap.size:=(ir.1 (h.froz j o hj)).1
theorem HR.globlt (h:HR G μ H w) {g:Nat} {cs:List AV} (hG:G g=some cs):g<w.heap.size:=by
 obtain⟨arr,el,fz,ha,_⟩:=h.glob g cs hG
 exact (ir.1 ha).1
theorem HR.put (h:HR G μ H w) {b:Nat} {x y:Blk} {p:Pl} (hb:H.get b=some x) (hx:x.own=true) (hp:μ b=some p) (hb':True) {o:Obj}
  (hy:BR μ p y (some o)):HR G μ ⟨H.t.set b (some y),H.nx⟩ (w.putObj p.blk o):=by
 have hlt:=h.lt hb hp
 have hget:∀c,c≠b->(⟨H.t.set b (some y),H.nx⟩:Hp).get c=H.get c:=fun c hc=>cu (nx':=H.nx) hb' hc
 have hself:(⟨H.t.set b (some y),H.nx⟩:Hp).get b=some y:=dJ hb'
 have hold:∀c z,(⟨H.t.set b (some y),H.nx⟩:Hp).get c=some z->(c=b/\z=y)∨(c≠b/\H.get c=some z):=by
  intro c z hc
  by_cases e:c=b
  ·subst e;rw [hself] at hc;exact .inl ⟨rfl,(fc hc).symm⟩
  ·rw [hget c e] at hc;exact .inr ⟨e,hc⟩
 refine⟨⟨fun c z hc=> ?_,fun c z q d u r hc hq hz hd hr he=> ?_,fun g cs hG=> ?_,fun g cs c z q hG hc hz hq=> ?_,fun j o' hj=> ?_,fun c z q hc hz hq=> ?_⟩,h.dom⟩
 ·rcases hold c z hc with⟨rfl,rfl⟩| ⟨hne,hc⟩
  ·exact⟨p,hp,by rw [World.putObj_heap_same hlt];exact hy⟩
  ·obtain⟨q,hq,hr⟩:=h.get c z hc
   refine⟨q,hq, ?_⟩
   rw [World.putObj_heap_other (fun e=>hne (h.own b x p c z q hb hp hx hc hq e.symm).symm)]
   exact hr
 ·rcases hold c z hc with⟨rfl,rfl⟩| ⟨hne,_⟩
  ·obtain rfl:p=q:=by rw [hp] at hq;exact fc hq
   rcases hold d u hd with⟨rfl,rfl⟩| ⟨hne',hd⟩
   ·rfl
   ·exact h.own _ x p d u r hb hp hx hd hr he
  ·rename_i hc1
   rcases hold d u hd with⟨rfl,rfl⟩| ⟨hne',hd1⟩
   ·obtain rfl:p=r:=by rw [hp] at hr;exact fc hr
    exact h.own c z q _ x p hc1 hq hz hb hp he
   ·exact h.own c z q d u r hc1 hq hz hd1 hr he
 ·obtain⟨arr,el,fz,ha,hv⟩:=h.glob g cs hG
  exact⟨arr,el,fz,by rw [World.putObj_heap_other (fun e=>h.globf g cs b x p hG hb hx hp e.symm)];exact ha,hv⟩
 ·rcases hold c z hc with⟨rfl,rfl⟩| ⟨hne,hc⟩
  ·obtain rfl:p=q:=by rw [hp] at hq;exact fc hq
   exact h.globf g cs _ x p hG hb hx hp
  ·exact h.globf g cs c z q hG hc hz hq
 ·rw [World.putObj_heap_other (fun e=>by rw [e,h.frof b x p hb hx hp] at hj;cases hj)]
  exact h.froz j o' hj
 ·rcases hold c z hc with⟨rfl,rfl⟩| ⟨hne,hc⟩
  ·obtain rfl:p=q:=by rw [hp] at hq;exact fc hq
   exact h.frof _ x p hb hx hp
  ·exact h.frof c z q hc hz hq
theorem gS (h:HR G μ H w) {b:Nat} {x y:Blk} {p:Pl} (hb:H.get b=some x) (hx:x.own=true) (hp:μ b=some p) (hb':True) (o:Obj):
  Ext μ H w μ ⟨H.t.set b (some y),H.nx⟩ (w.putObj p.blk o) where
 mu:=Mu.le_refl _
 below _ _:=rfl
 gone c hc hg:=by
  by_cases e:c=b
  ·subst e;rw [hb] at hg;cases hg
  ·rw [cu (nx':=H.nx) hb' e];exact hg
 nx:=bh _
 size:=by simp
 keep k hk hno:=World.putObj_heap_other (fun e=>hno b x p hb hx hp e.symm)
 grow c z q hc hq:=by
  by_cases e:c=b
  ·subst e
   obtain rfl:p=q:=by rw [hp] at hq;exact fc hq
   exact .inr ⟨c,x,p,hb,hp,rfl,fun _=>hx⟩
  ·rw [cu (nx':=H.nx) hb' e] at hc
   exact .inr ⟨c,z,q,hc,hq,rfl,id⟩
 os:=rfl
 out:=rfl
 zgrow:=fun _ _ h=>.inl h
theorem HR.del (h:HR G μ H w) {b:Nat} (hb':True):HR G μ ⟨H.t.set b none,H.nx⟩ w:=by
 have hold:∀c z,(⟨H.t.set b none,H.nx⟩:Hp).get c=some z->H.get c=some z:=by
  intro c z hc
  by_cases e:c=b
  ·subst e;rw [dJ hb'] at hc;cases hc
  ·rwa [cu (nx':=H.nx) hb' e] at hc
 exact⟨⟨fun c z hc=>h.get c z (hold c z hc),fun c z q d u r hc hq hz hd=>h.own c z q d u r (hold c z hc) hq hz (hold d u hd),h.glob,
  fun g cs c z q hG hc=>h.globf g cs c z q hG (hold c z hc),h.froz,fun c z q hc=>h.frof c z q (hold c z hc)⟩,h.dom⟩
def Mu.upd (μ:Mu) (b:Nat) (p:Pl):Mu:=⟨fun c=>if c=b then some p else μ c,μ.z⟩
theorem bT (μ:Mu) (b:Nat) (p:Pl):μ.upd b p b=some p:=by simp [Mu.upd]
theorem cq (μ:Mu) {b c:Nat} (p:Pl) (h:c≠b):μ.upd b p c=μ c:=by simp [Mu.upd,h]
theorem dU {μ:Mu} {b:Nat} (p:Pl) (h:μ b=none):μ.le (μ.upd b p):=⟨fun c q hc=>by
 by_cases e:c=b
 ·subst e;rw [h] at hc;cases hc
 ·rw [cq _ _ e];exact hc,fun _ _ h=>h⟩
theorem HR.lay (h:HR G μ H w) {b:Nat} {p:Pl} {y:Blk} (hb:True) (hp:μ b=some p) (hy:BR μ p y w.heap[p.blk]?)
  (hsep:∀c z q,H.get c=some z->μ c=some q->q.blk≠p.blk) (hgl:∀g cs,G g=some cs->p.blk≠g) (hfz:y.own=true->μ.z p.blk=none):
  HR G μ ⟨H.t.set b (some y),H.nx⟩ w:=by
 have hself:(⟨H.t.set b (some y),H.nx⟩:Hp).get b=some y:=dJ hb
 have hold:∀c z,(⟨H.t.set b (some y),H.nx⟩:Hp).get c=some z->(c=b/\z=y)∨(c≠b/\H.get c=some z):=by
  intro c z hc
  by_cases e:c=b
  ·subst e;rw [hself] at hc;exact .inl ⟨rfl,(fc hc).symm⟩
  ·rw [cu (nx':=H.nx) hb e] at hc;exact .inr ⟨e,hc⟩
 refine⟨⟨fun c z hc=> ?_,fun c z q d u r hc hq hz hd hr he=> ?_,h.glob,fun g cs c z q hG hc hz hq=> ?_,h.froz,fun c z q hc hz hq=> ?_⟩,h.dom⟩
 ·rcases hold c z hc with⟨rfl,rfl⟩| ⟨hne,hc⟩
  ·exact⟨p,hp,hy⟩
  ·exact h.get c z hc
 ·rcases hold c z hc with⟨rfl,rfl⟩| ⟨hne,hc1⟩
  ·obtain rfl:p=q:=by rw [hp] at hq;exact fc hq
   rcases hold d u hd with⟨rfl,rfl⟩| ⟨hne',hd⟩
   ·rfl
   ·exact absurd he.symm (hsep d u r hd hr)
  ·rcases hold d u hd with⟨rfl,rfl⟩| ⟨hne',hd1⟩
   ·obtain rfl:p=r:=by rw [hp] at hr;exact fc hr
    exact absurd he (hsep c z q hc1 hq)
   ·exact h.own c z q d u r hc1 hq hz hd1 hr he
 ·rcases hold c z hc with⟨rfl,rfl⟩| ⟨hne,hc⟩
  ·obtain rfl:p=q:=by rw [hp] at hq;exact fc hq
   exact hgl g cs hG
  ·exact h.globf g cs c z q hG hc hz hq
 ·rcases hold c z hc with⟨rfl,rfl⟩| ⟨hne,hc⟩
  ·obtain rfl:p=q:=by rw [hp] at hq;exact fc hq
   exact hfz hz
  ·exact h.frof c z q hc hz hq
theorem HR.place (h:HR G μ H w) {b:Nat} (p:Pl) (hnx:b<H.nx) (hfree:μ b=none):HR G (μ.upd b p) H w:=by
 have hle:=dU p hfree
 have hold:∀c z,H.get c=some z->c≠b:=fun c z hc e=>by
  subst e
  obtain⟨q,hq,_⟩:=h.get c z hc
  rw [hfree] at hq;cases hq
 refine⟨⟨fun c z hc=> ?_,fun c z q d u r hc hq hz hd hr he=> ?_,fun g cs hG=> ?_,fun g cs c z q hG hc hz hq=> ?_,h.froz,fun c z q hc hz hq=> ?_⟩,fun c q hc=> ?_⟩
 ·obtain⟨q,hq,hr⟩:=h.get c z hc
  exact⟨q,by rw [cq _ _ (hold c z hc)];exact hq,hr.mono hle⟩
 ·rw [cq _ _ (hold c z hc)] at hq
  rw [cq _ _ (hold d u hd)] at hr
  exact h.own c z q d u r hc hq hz hd hr he
 ·obtain⟨arr,el,fz,ha,hz,hv⟩:=h.glob g cs hG
  exact⟨arr,el,fz,ha,hz,fun i c hc=>let ⟨v,h1,h2⟩:=hv i c hc;⟨v,h1,h2.mono hle⟩⟩
 ·rw [cq _ _ (hold c z hc)] at hq
  exact h.globf g cs c z q hG hc hz hq
 ·rw [cq _ _ (hold c z hc)] at hq
  exact h.frof c z q hc hz hq
 ·by_cases e:c=b
  ·subst e;exact hnx
  ·rw [cq _ _ e] at hc;exact h.dom c q hc
theorem HR.add (h:HR G μ H w) {b:Nat} {p:Pl} {y:Blk} (hb:True) (hnx:b<H.nx) (hfree:μ b=none) (hnone:H.get b=none) (hy:BR (μ.upd b p) p y w.heap[p.blk]?)
  (hsep:∀c z q,H.get c=some z->μ c=some q->q.blk≠p.blk) (hgl:∀g cs,G g=some cs->p.blk≠g) (hfz:y.own=true->μ.z p.blk=none):
  HR G (μ.upd b p) ⟨H.t.set b (some y),H.nx⟩ w:=by
 refine (h.place p hnx hfree).lay hb (bT _ _ _) hy (fun c z q hc hq=> ?_) hgl hfz
 have:c≠b:=fun e=>by subst e;rw [hnone] at hc;cases hc
 rw [cq _ _ this] at hq
 exact hsep c z q hc hq
theorem HR.reserve (h:HR G μ H w):HR G μ ⟨H.t,H.nx+1⟩ w:=
 ⟨h.toHRg.nx,fun b p hb=>Nat.lt_succ_of_lt (h.dom b p hb)⟩
theorem HR.none (h:HR G μ H w) {b:Nat} (hb:H.nx<=b):μ b=none/\H.get b=none:=by
 constructor
 ·cases hm:μ b with
  | none=>rfl
  | some p=>have:=h.dom b p hm;omega
 ·cases hg:H.get b with
  | none=>rfl
  | some x=>obtain⟨p,hp,_⟩:=h.get b x hg;have:=h.dom b p hp;omega
theorem HR.new (h:HR G μ H w) (hnx:True) {y:Blk} {o:Obj} {tot:Nat} (hy:BR (μ.upd H.nx ⟨w.heap.size,0,tot⟩) ⟨w.heap.size,0,tot⟩ y (some o)):
  HR G (μ.upd H.nx ⟨w.heap.size,0,tot⟩) ⟨H.t.set H.nx (some y),H.nx+1⟩ (w.alloc o)/\
   Ext μ H w (μ.upd H.nx ⟨w.heap.size,0,tot⟩) ⟨H.t.set H.nx (some y),H.nx+1⟩ (w.alloc o):=by
 obtain⟨hm,hg⟩:=h.none (bh _)
 have hold:∀k,k<w.heap.size->(w.alloc o).heap[k]? =w.heap[k]? :=fun k hk=>by
  show (w.heap.push o)[k]? =_
  rw [Array.getElem?_push_lt hk,oe hk]
 have h1:HR G μ H (w.alloc o):=h.world (fun b x p hb hp=>hold _ (h.lt hb hp)) (fun g cs hG=>hold _ (h.globlt hG)) fun j o' hj=>hold _ (h.frolt hj)
 constructor
 ·exact HR.add (H:=⟨H.t,H.nx+1⟩) h1.reserve hnx (nM _) hm (by simpa [gp] using hg) (by
   show BR _ _ _ (w.alloc o).heap[w.heap.size]?
   rw [World.alloc_heap_new];exact hy)
   (fun c z q hc hq=>kR (h.lt (by simpa [gp] using hc) hq)) (fun g cs hG=>Nat.ne_of_gt (h.globlt hG)) (fun _=>by
    cases hz:μ.z w.heap.size with
    | none=>rfl
    | some o'=>exact absurd (h.frolt hz) (Nat.lt_irrefl _))
 ·refine⟨dU _ hm,fun b hb=>cq _ _ (kR hb),fun b hb hg=> ?_,Nat.le_succ _, ?_,fun k hk _=>hold k hk,fun b x p hb hp=> ?_,rfl,rfl,fun _ _ h=>.inl h⟩
  ·rw [cu (nx':=H.nx) hnx (kR hb)];exact hg
  ·show w.heap.size<=(w.heap.push o).size
   simp
  ·by_cases e:b=H.nx
   ·subst e
    rw [bT] at hp
    obtain rfl:=fc hp
    exact .inl (bh _)
   ·rw [cq _ _ e] at hp
    rw [cu (nx':=H.nx) hnx e] at hb
    exact .inr ⟨b,x,p,hb,hp,rfl,id⟩
end
section
variable {P : Program} {w : World} {t : TypeId}
theorem wC {d:TypeDesc} (h:P.underlying t=some d):∃i,P.info? t=some i:=by
 unfold Program.underlying at h
 cases hi:P.info? t with
 | none=>simp [hi] at h
 | some i=>exact⟨i,rfl⟩
theorem nj {i:TypeInfo} (h:P.info? t=some i):(typeInfo t).run P w= .ok i w:=by
 unfold typeInfo program
 simp [Sem.run,h]
theorem bO {d:TypeDesc} (h:P.underlying t=some d):(underlying t).run P w= .ok d w:=by
 unfold underlying program
 simp [Sem.run,h]
theorem gA (h:(P.info? t).isSome=true):(sizeOf t).run P w= .ok (P.cellsOf t) w:=by
 obtain⟨i,hi⟩:=qV.1 h
 unfold sizeOf
 simp [nj hi,Result.andThen,Program.cellsOf,hi]
theorem qM {b:Bool} (h:kU P t=some b):∃d,P.underlying t=some d:=by
 unfold kU at h
 cases hu:P.underlying t with
 | none=>simp [hu] at h
 | some d=>exact⟨d,rfl⟩
theorem lQ {b:Bool} (h:kU P t=some b):(P.info? t).isSome=true:=by
 obtain⟨d,hd⟩:=qM h
 obtain⟨i,hi⟩:=wC hd
 simp [hi]
theorem sX {b:Bool} (h:kU P t=some b):(isAgg t).run P w= .ok b w:=by
 obtain⟨d,hd⟩:=qM h
 unfold isAgg
 simp only [Sem.run_bind,bO hd,Result.andThen]
 unfold kU at h
 rw [hd] at h
 cases d<;>simp at h<;>subst h<;>rfl
theorem y7 {z:AV} (h:zro P t=some z) (μ:Mu):∃x,(zeroValue t).run P w= .ok x w/\VR μ z x:=by
 unfold zro at h
 split at h
 ·rename_i i hi
  split at h
  ·rename_i v hv
   refine⟨v, ?_,rX 6 h⟩
   unfold zeroValue
   simp [nj hi,Result.andThen,hv]
  ·simp at h
 ·simp at h
def GK (P:Program) (t:TypeId) (cs:List AV) (off:Nat) (v:AV):Prop:=
 (kU P t=some true/\v= .agg ((cs.drop off).take (P.cellsOf t))/\P.cellsOf t<=(cs.drop off).length)∨(kU P t=some false/\cs[off]? =some v)
theorem iD {cs:List AV} {off:Nat} {k:AV->Bool} (h:qf P t cs off k=true):∃v,GK P t cs off v/\k v=true:=by
 unfold qf at h
 split at h
 ·rename_i hag
  split at h
  ·rename_i ys hy
   obtain⟨rfl,hlen⟩:=lS hy
   rw [bH] at h
   exact⟨_,.inl ⟨hag,rfl,hlen⟩,h⟩
  ·cases h
 ·rename_i hag
  split at h
  ·rename_i v hv
   exact⟨v,.inr ⟨hag,hv⟩,h⟩
  ·cases h
 ·cases h
theorem Dh {b o:Nat} {arr:Array Value} {el:TypeId} {fz:Nat×Nat} (h:w.heap[b]? =some (.cells arr el fz)):w.cell? ⟨b,o,none⟩=arr[o]? :=by
 simp [World.cell?,h]
theorem hJ {μ:Mu} {cs:List AV} {arr:Array Value} {base n:Nat} (h:∀(i:Nat) (c:AV),cs[i]? =some c->∃v,arr[base+i]? =some v/\VR μ c v) (hn:n<=cs.length):
  ∃xs:List Value,xs.length=n/\VRs μ (cs.take n) xs/\∀(j:Nat) (v:Value),xs[j]? =some v->arr[base+j]? =some v:=by
 induction n with
 | zero=>exact⟨[],rfl,by simpa using VRs.nil,fun j v h=>by simp at h⟩
 | succ n ih=>
  obtain⟨xs,hl,hr,hx⟩:=ih (by omega)
  have hc:cs[n]? =some cs[n]:=dW (by omega)
  obtain⟨v,hv,hvr⟩:=h n _ hc
  refine⟨xs++[v],by simp [hl], ?_,fun j u hu=> ?_⟩
  ·rw [jd (by omega)]
   exact hr.append (.cons _ _ _ _ hvr .nil)
  ·by_cases hj:j<xs.length
   ·rw [ot hj] at hu;exact hx j u hu
   ·have:j=xs.length:=by
     by_cases hj':j=xs.length
     ·exact hj'
     ·rw [kj (by omega),List.getElem?_eq_none (by simp;omega)] at hu
      cases hu
    subst this
    rw [kj (bh _)] at hu
    simp at hu
    subst hu
    rw [hl]
    exact hv
theorem pw {b o n:Nat} {arr:Array Value} {el:TypeId} {fz:Nat×Nat} (h:w.heap[b]? =some (.cells arr el fz)) {xs:List Value} (hl:xs.length=n)
  (hx:∀(j:Nat) (v:Value),xs[j]? =some v->arr[o+j]? =some v):(loadCells ⟨b,o,none⟩ n).run P w= .ok xs.toArray w:=by
 subst hl
 refine run_loadCells_list (P:=P) (w:=w) ⟨b,o,none⟩ xs fun j v hv=> ?_
 have:(⟨b,o,none⟩:Addr).add j=⟨b,o+j,none⟩:=by
  unfold Addr.add
  split
  ·rename_i hj;subst hj;rfl
  ·rfl
 rw [this,Dh h]
 exact hx j v hv
theorem lN {μ:Mu} {cs:List AV} {arr:Array Value} {el:TypeId} {fz:Nat×Nat} {b base off:Nat} {v:AV} (hb:w.heap[b]? =some (.cells arr el fz))
  (h:∀(i:Nat) (c:AV),cs[i]? =some c->∃v,arr[base+i]? =some v/\VR μ c v) (hp:GK P t cs off v):
  ∃x,(loadVar t ⟨b,base+off,none⟩).run P w= .ok x w/\VR μ v x:=by
 rcases hp with⟨hag,rfl,hlen⟩| ⟨hag,hv⟩
 ·have h':∀(i:Nat) (c:AV),(cs.drop off)[i]? =some c->∃v,arr[base+off+i]? =some v/\VR μ c v:=fun i c hc=>by
   rw [kB] at hc
   rw [fm]
   exact h _ _ hc
  obtain⟨xs,hl,hr,hx⟩:=hJ h' hlen
  refine⟨.agg xs.toArray, ?_,.agg _ _ (by simpa using hr)⟩
  unfold loadVar
  simp [sX hag,Result.andThen,gA (lQ hag),pw hb hl hx]
 ·obtain⟨x,hx,hr⟩:=h off v hv
  refine⟨x, ?_,hr⟩
  unfold loadVar
  have hc:w.cell? ⟨b,base+off,none⟩=some x:=by rw [Dh hb];exact hx
  simp [sX hag,Result.andThen,load,Sem.run,hc]
theorem Gp {μ:Mu} {cs:List AV} {xs:Array Value} {off:Nat} {v:AV} (h:VRs μ cs xs.toList) (hp:GK P t cs off v):
  ∃x,(part t xs off).run P w= .ok x w/\VR μ v x:=by
 rcases hp with⟨hag,rfl,hlen⟩| ⟨hag,hv⟩
 ·refine⟨.agg (xs.extract off (off+P.cellsOf t)), ?_,.agg _ _ ?_⟩
  ·unfold part
   simp [sX hag,Result.andThen,gA (lQ hag)]
  ·have:=(h.drop off).take (P.cellsOf t)
   simpa [Array.toList_extract,List.extract_eq_take_drop] using this
 ·obtain⟨x,hx,hr⟩:=h.get off hv
  refine⟨x, ?_,hr⟩
  unfold part
  have:xs[off]? =some x:=by simpa using hx
  simp [sX hag,Result.andThen,this]
end
def mF (μ:Mu) (e:En) (a:Act) (o:Oper):Prop:=∀x∈o.op.operands.toList,VR μ (opd e x) (a.eval x)
def iY (P:Program) (o:Oper) (e:En) (v:AV):Prop:=∀(μ:Mu) (a:Act) (w:World),mF μ e a o->∃x,(execOp a.eval o).run P w= .ok (.value x) w/\VR μ v x
theorem pK {k l:IntKind} (h:Nat.beq (oB k) (oB l)=true):k=l:=by
 cases k<;>cases l<;>first | rfl | (exact absurd h (by decide))
theorem jm (a b:Int):ilt a b=decide (a<b):=by
 cases a<;>cases b<;>simp only [ilt]
 ·rw [cg];simp [cT]
 ·simp;omega
 ·simp;omega
 ·rw [cg];simp [cT];omega
theorem o5 (a b:Int):ieq a b=(a==b):=by
 cases a<;>cases b<;>simp only [ieq]
 ·rw [cg];simp [i7];omega
 ·simp
 ·simp
 ·rw [cg];simp [i7]
theorem oM (k:IntKind) (n:Int):wrp k n=k.wrap n:=by
 unfold wrp
 split
 ·split
  ·rename_i m h
   rw [Go.IntWalk.i64_in]
   simp [cT] at h
   simp
   omega
  ·rfl
 ·split
  ·rename_i m h
   rw [Go.IntWalk.i64_in]
   simp [cT] at h
   omega
  ·rfl
 ·rfl
theorem oO (a b:List Nat):mM a b=decide (a=b):=by
 induction a generalizing b with
 | nil=>cases b<;>simp [mM]
 | cons x a ih=>
  cases b with
  | nil=>simp [mM]
  | cons y b=>
   simp only [mM]
   split
   ·rename_i h
    have:=cw h
    subst this
    rw [ih]
    simp
   ·rename_i h
    have:x≠y:=fun e=>by subst e;simp [bW] at h
    simp [this]
theorem js (s:ByteArray):s.toList=s.data.toList:=ByteArray.toList_eq s
theorem qd {a b:List UInt8} (h:a.map UInt8.toNat=b.map UInt8.toNat):a=b:=by
 induction a generalizing b with
 | nil=>cases b with
  | nil=>rfl
  | cons=>simp at h
 | cons x a ih=>cases b with
  | nil=>simp at h
  | cons y b=>
   simp at h
   rw [ih h.2,UInt8.toNat_inj.1 h.1]
theorem Hd (a b:List UInt8):kO (a.map UInt8.toNat) (b.map UInt8.toNat)=Op.bytesLess a b:=by
 induction a generalizing b with
 | nil=>cases b<;>simp [kO,Op.bytesLess]
 | cons x a ih=>
  cases b with
  | nil=>simp [kO,Op.bytesLess]
  | cons y b=>
   simp only [kG,kO,Op.bytesLess,ih]
   by_cases h:x.toNat<y.toNat
   ·have h1:Nat.blt x.toNat y.toNat=true:=by simpa [cT] using h
    have h2:x<y:=h
    simp [h1,h2]
   ·have h1:Nat.blt x.toNat y.toNat=false:=by rw [←fW,cT];exact h
    have h2:¬x<y:=h
    rw [h1]
    by_cases he:x=y
    ·subst he
     simp [h2]
    ·have h3:Nat.beq x.toNat y.toNat=false:=by
      rw [←fW,i7]
      exact fun e=>he (UInt8.toNat_inj.1 e)
     simp [h2,h3,he]
section
variable {P : Program} {G : bg} {o : Oper} {e : En}
theorem mF.mem {μ:Mu} {a:Act} (h:mF μ e a o) {x:Operand} (hx:x∈o.op.operands):VR μ (opd e x) (a.eval x):=h x (by simpa using hx)
theorem R2 {x:Operand} (ho:o.op= .move x):iY P o e (opd e x):=fun μ a w h=>⟨a.eval x,by simp [execOp,ho],h.mem (by simp [ho,Op.operands])⟩
theorem G1 {x:Operand} (ho:o.op= .assign x):iY P o e (opd e x):=fun μ a w h=>⟨a.eval x,by simp [execOp,ho],h.mem (by simp [ho,Op.operands])⟩
theorem S3 {c x y:Operand} (ho:o.op= .pick c x y) {k:AV->Bool} (hk:aT (opd e c) (opd e x) (opd e y) k=true):∃v,iY P o e v/\k v=true:=by
 unfold aT at hk
 split at hk
 ·rename_i hc
  refine⟨_,fun μ a w h=> ?_,hk⟩
  have h1:=h.mem (x:=c) (by simp [ho,Op.operands])
  rw [hc] at h1
  generalize hca:a.eval c=cv at h1
  cases h1
  exact⟨a.eval x,by simp [execOp,ho,hca,asBool],h.mem (by simp [ho,Op.operands])⟩
 ·rename_i hc
  refine⟨_,fun μ a w h=> ?_,hk⟩
  have h1:=h.mem (x:=c) (by simp [ho,Op.operands])
  rw [hc] at h1
  generalize hca:a.eval c=cv at h1
  cases h1
  exact⟨a.eval y,by simp [execOp,ho,hca,asBool],h.mem (by simp [ho,Op.operands])⟩
 ·cases hk
theorem Bs {x:Operand} (ho:o.op= .nilCheck x) {k:AV->Bool} (hk:bw (opd e x) k=true):∃v,iY P o e v/\k v=true:=by
 unfold bw at hk
 split at hk
 ·cases hk
 ·cases hk
 ·cases hk
 ·rename_i h1 h2 h3
  refine⟨_,fun μ a w h=>⟨a.eval x, ?_,h.mem (by simp [ho,Op.operands])⟩,hk⟩
  have hx:=h.mem (x:=x) (by simp [ho,Op.operands])
  generalize hv:opd e x=v at *
  generalize hxa:a.eval x=xv at *
  cases hx with
  | dat d v L hm hd=>cases hd<;>first | (cases hm;done)| simp [execOp,ho,hxa]
  | _=>first | (exact absurd rfl h1)| (exact absurd rfl h2)| (exact absurd rfl h3)| simp [execOp,ho,hxa]
theorem tZ {t:TypeId} {x:Operand} (ho:o.op= .makeInterface t x) (ht:sS P t=false):iY P o e (.ifc t (opd e x)):=fun μ a w h=>by
 refine⟨.iface t (a.eval x), ?_,.ifc _ _ _ (h.mem (by simp [ho,Op.operands]))⟩
 unfold sS at ht
 split at ht
 ·cases ht
 ·rename_i d hd hu
  simp only [execOp,ho,Instr.makeInterface,Sem.run_bind,bO hu,Result.andThen]
  cases d<;>first | (exact absurd rfl (hd _))| rfl
 ·cases ht
theorem kD {μ:Mu} {a:Act} {l:List Operand} (h:∀x∈l,VR μ (opd e x) (a.eval x)):VRs μ (l.map (opd e)) (l.map a.eval):=by
 induction l with
 | nil=>exact .nil
 | cons x l ih=>exact .cons _ _ _ _ (h x (by simp)) (ih fun y hy=>h y (by simp [hy]))
theorem Bb {f:FuncId} {first cap:Array Operand} (ho:o.op= .makeFunc (.func f) first cap):iY P o e (.fn f (first.toList.map (opd e)) (cap.toList.map (opd e))):=fun μ a w h=>by
 refine⟨.func (.func f) (first.map a.eval) (cap.map a.eval),by simp [execOp,ho,Instr.makeFunc],.fn _ _ _ _ _ ?_ ?_⟩
 ·rw [ou];exact kD fun x hx=>h.mem (by simp [ho,Op.operands];exact .inl (by simpa using hx))
 ·rw [ou];exact kD fun x hx=>h.mem (by simp [ho,Op.operands];exact .inr (by simpa using hx))
theorem EW {x:Operand} {i:Nat} (ho:o.op= .extract x i) {k:AV->Bool} (hk:aX (opd e x) i k=true):∃v,iY P o e v/\k v=true:=by
 unfold aX at hk
 split at hk
 ·rename_i vs hvs
  split at hk
  ·rename_i v hv
   refine⟨v,fun μ a w h=> ?_,hk⟩
   have h1:=h.mem (x:=x) (by simp [ho,Op.operands])
   rw [hvs] at h1
   generalize hxa:a.eval x=xv at h1
   cases h1 with
   | tup _ xs hr=>
    obtain⟨y,hy,hvr⟩:=hr.get i hv
    have:xs[i]? =some y:=by simpa using hy
    exact⟨y,by simp [execOp,ho,hxa,Instr.extract,this],hvr⟩
  ·cases hk
 ·cases hk
theorem D0 {s:TypeId} {x:Operand} {f:Nat} (ho:o.op= .fieldAddr s x f) {fs:Array Field} (hu:P.underlying s=some (.struct fs)) {fl:Field} (hf:fs[f]? =some fl)
  (hne:Nat.beq (P.cellsOf fl.type) 0=false) {k:AV->Bool} (hk:U (opd e x) fl.offset k=true):∃v,iY P o e v/\k v=true:=by
 have hne':¬P.cellsOf fl.type=0:=fun e=>by rw [e] at hne;cases hne
 have hinfo:(P.info? fl.type).isSome=true:=by
  cases hi:P.info? fl.type with
  | none=>simp [Program.cellsOf,hi] at hne'
  | some=>rfl
 have run:∀(a:Act) (w:World) (p:Addr),p.spot=none->a.eval x= .pointer (some p)->(execOp a.eval o).run P w= .ok (.value (.pointer (some ⟨p.block,p.off+fl.offset,none⟩))) w:=by
  intro a w p hs hx
  obtain⟨pb,po,ps⟩:=p
  simp only at hs
  subst hs
  have ha:(⟨pb,po,none⟩:Addr).add fl.offset=⟨pb,po+fl.offset,none⟩:=by
   unfold Addr.add
   split
   ·rename_i h0;rw [h0];rfl
   ·rfl
  simp [execOp,ho,hx,Instr.fieldAt,bO hu,Result.andThen,hf,Instr.sureAddr,fieldPlace,gA hinfo,hne',ha]
 unfold U at hk
 split at hk
 ·rename_i b off hx
  rw [bA] at hk
  refine⟨_,fun μ a w h=> ?_,hk⟩
  have h1:=h.mem (x:=x) (by simp [ho,Op.operands])
  rw [hx] at h1
  generalize hxa:a.eval x=xv at h1
  cases h1 with
  | ptr _ _ p hp=>
   refine⟨_,run a w _ rfl hxa, ?_⟩
   show VR μ _ (.pointer (some ⟨p.blk,p.base+off+fl.offset,none⟩))
   rw [fm]
   exact .ptr _ _ p hp
 ·rename_i g off hx
  rw [bA] at hk
  refine⟨_,fun μ a w h=> ?_,hk⟩
  have h1:=h.mem (x:=x) (by simp [ho,Op.operands])
  rw [hx] at h1
  generalize hxa:a.eval x=xv at h1
  cases h1
  exact⟨_,run a w _ rfl hxa,.gptr _ _⟩
 ·rename_i cs off hx
  rw [bA] at hk
  refine⟨_,fun μ a w h=> ?_,hk⟩
  have h1:=h.mem (x:=x) (by simp [ho,Op.operands])
  rw [hx] at h1
  generalize hxa:a.eval x=xv at h1
  cases h1 with
  | dat _ _ L hm hd=>
   obtain⟨b,base,rfl,hd'⟩:=hd.ptr_inv
   refine⟨_,run a w _ rfl hxa, ?_⟩
   show VR μ _ (.pointer (some ⟨b,base+off+fl.offset,none⟩))
   rw [fm]
   exact .dat _ _ L rfl (hd' _)
 ·cases hk
theorem JR {s:TypeId} {x:Operand} {f:Nat} (ho:o.op= .field s x f) {fs:Array Field} (hu:P.underlying s=some (.struct fs)) {fl:Field} (hf:fs[f]? =some fl)
  {k:AV->Bool} (hk:B6 P fl.type fl.offset (opd e x) k=true):∃v,iY P o e v/\k v=true:=by
 unfold B6 at hk
 split at hk
 ·rename_i cs hx
  obtain⟨v,hp,hk⟩:=iD hk
  refine⟨v,fun μ a w h=> ?_,hk⟩
  have h1:=h.mem (x:=x) (by simp [ho,Op.operands])
  rw [hx] at h1
  generalize hxa:a.eval x=xv at h1
  cases h1 with
  | agg _ xs hr=>
   obtain⟨y,hy,hvr⟩:=Gp (w:=w) hr hp
   exact⟨y,by simp [execOp,ho,hxa,Instr.field,bO hu,Result.andThen,hf,asAgg,hy],hvr⟩
 ·cases hk
end
theorem iB (b o n:Nat):(⟨b,o,none⟩:Addr).add n=⟨b,o+n,none⟩:=by
 unfold Addr.add
 split
 ·rename_i h;subst h;rfl
 ·rfl
section
variable {P : Program} {G : bg} {o : Oper} {e : En}
theorem VR.int_inv {μ:Mu} {k:IntKind} {n:Int} {x:Value} (h:VR μ (.int k n) x):x= .int k n:=by cases h;rfl
theorem VR.bool_inv {μ:Mu} {b:Bool} {x:Value} (h:VR μ (.bool b) x):x= .bool b:=by cases h;rfl
theorem VR.str_inv {μ:Mu} {l:List Nat} {x:Value} (h:VR μ (.str l) x):∃s:ByteArray,x= .string s/\s.data.toList.map UInt8.toNat=l:=by cases h with | str s _ h=>exact⟨s,rfl,h⟩
theorem mF.at {μ:Mu} {a:Act} {o:Oper} {e:En} (h:mF μ e a o) {x:Operand} (hx:x∈o.op.operands) {v:AV} (hv:opd e x=v):VR μ v (a.eval x):=hv▸h.mem hx
theorem zj {t:TypeId} {x i:Operand} (ho:o.op= .indexAddr t x i) {k:AV->Bool} (hk:gu P t (opd e x) (opd e i) k=true):∃v,iY P o e v/\k v=true:=by
 have hmx:x∈o.op.operands:=by simp [ho,Op.operands]
 have hmi:i∈o.op.operands:=by simp [ho,Op.operands]
 unfold gu at hk
 split at hk
 ·rename_i ik n hi
  split at hk
  ·rename_i len el b off hu hx
   split at hk
   ·rename_i hlt hinfo
    rw [bA] at hk
    rw [cT] at hlt
    refine⟨_,fun μ a w h=> ?_,hk⟩
    have h1:=h.at hmx hx
    have h2:=(h.at hmi hi).int_inv
    generalize hxa:a.eval x=xv at h1
    cases h1 with
    | ptr _ _ p hp=>
     refine⟨.pointer (some ⟨p.blk,p.base+off+n * P.cellsOf el,none⟩), ?_, ?_⟩
     ·have hlt':(0:Int)<=Int.ofNat n/\Int.ofNat n<(len:Int):=by simp;exact hlt
      simp only [execOp,ho,hxa,h2,Instr.indexAt,asIntOf,Sem.run_bind,Sem.run_pure,Result.andThen,bO hu,Instr.sureAddr,if_pos hlt',gA hinfo,iB]
      rfl
     ·have:=VR.ptr (μ:=μ) b (off+n * P.cellsOf el) p hp
      rwa [←fm] at this
   ·cases hk
  ·rename_i len el g off hu hx
   split at hk
   ·rename_i hlt hinfo
    rw [bA] at hk
    rw [cT] at hlt
    refine⟨_,fun μ a w h=> ?_,hk⟩
    have h1:=h.at hmx hx
    have h2:=(h.at hmi hi).int_inv
    generalize hxa:a.eval x=xv at h1
    cases h1
    refine⟨.pointer (some ⟨g,off+n * P.cellsOf el,none⟩), ?_,.gptr _ _⟩
    have hlt':(0:Int)<=Int.ofNat n/\Int.ofNat n<(len:Int):=by simp;exact hlt
    simp only [execOp,ho,hxa,h2,Instr.indexAt,asIntOf,Sem.run_bind,Sem.run_pure,Result.andThen,bO hu,Instr.sureAddr,if_pos hlt',gA hinfo,iB]
    rfl
   ·cases hk
  ·rename_i el b off len sz c hu hx
   split at hk
   ·rename_i hlt hinfo hsz
    rw [bA] at hk
    rw [cT] at hlt
    have hsz:=cw hsz
    refine⟨_,fun μ a w h=> ?_,hk⟩
    have h1:=h.at hmx hx
    have h2:=(h.at hmi hi).int_inv
    generalize hxa:a.eval x=xv at h1
    cases h1 with
    | sl _ _ _ _ _ p cap ad hp hl ht hc hn ha=>
     obtain rfl:=ha (by omega)
     refine⟨.pointer (some ⟨p.blk,p.base+off+n * P.cellsOf el,none⟩), ?_, ?_⟩
     ·have hlt':(0:Int)<=Int.ofNat n/\Int.ofNat n<(len:Int):=by simp;exact hlt
      simp only [execOp,ho,hxa,h2,Instr.indexAt,asIntOf,Sem.run_bind,Sem.run_pure,Result.andThen,bO hu,if_pos hlt',gA hinfo,iB]
      rfl
     ·have:=VR.ptr (μ:=μ) b (off+n * sz) p hp
      rw [hsz] at this⊢
      rwa [←fm] at this
   ·cases hk
  ·rename_i el sz cs len hu hx
   split at hk
   ·rename_i hlt hinfo hsz
    rw [bA] at hk
    rw [cT] at hlt
    have hsz:=cw hsz
    refine⟨_,fun μ a w h=> ?_,hk⟩
    have h1:=h.at hmx hx
    have h2:=(h.at hmi hi).int_inv
    generalize hxa:a.eval x=xv at h1
    cases h1 with
    | dat _ _ L hm hd=>
    cases hd with
    | sl _ _ _ ad cap p arr el' fz xs L g hlc hc ht hl hf hx' ha hs=>
     obtain rfl:=ha (by omega)
     refine⟨.pointer (some ⟨p.blk,p.base+n * P.cellsOf el,none⟩), ?_, ?_⟩
     ·have hlt':(0:Int)<=Int.ofNat n/\Int.ofNat n<(len:Int):=by simp;exact hlt
      simp only [execOp,ho,hxa,h2,Instr.indexAt,asIntOf,Sem.run_bind,Sem.run_pure,Result.andThen,bO hu,if_pos hlt',gA hinfo,iB]
      rfl
     ·rw [hsz]
      exact .dat _ _ _ rfl (.ptr _ _ p arr el' fz xs L g ht hl hf hx' hs)
   ·cases hk
  ·cases hk
 ·cases hk
theorem oP {t:TypeId} (h:mi P t=true):P.underlying t=some .string:=by
 unfold mi at h
 split at h
 ·assumption
 ·cases h
theorem Ag {s:ByteArray} {l:List Nat} (h:s.data.toList.map UInt8.toNat=l) {n c:Nat} (hc:l[n]? =some c):∃b:UInt8,s[n]? =some b/\b.toNat=c:=by
 subst h
 rw [gO] at hc
 obtain⟨b,hb,hbc⟩:=lw.1 hc
 refine⟨b, ?_,hbc⟩
 have hb':s.data[n]? =some b:=by simpa using hb
 obtain⟨hlt,hv⟩:=ir.1 hb'
 have hlt':n<s.size:=hlt
 rw [getElem?_pos s n hlt']
 exact congrArg some hv
theorem Km {t:TypeId} {x i:Operand} (ho:o.op= .index t x i) {k:AV->Bool} (hk:ej P t (opd e x) (opd e i) k=true):∃v,iY P o e v/\k v=true:=by
 have hmx:x∈o.op.operands:=by simp [ho,Op.operands]
 have hmi:i∈o.op.operands:=by simp [ho,Op.operands]
 unfold ej at hk
 split at hk
 ·rename_i s ik n hx hi
  split at hk
  ·rename_i c hst hc
   refine⟨_,fun μ a w h=> ?_,hk⟩
   obtain⟨bs,h1,hl⟩:=(h.at hmx hx).str_inv
   have h2:=(h.at hmi hi).int_inv
   obtain⟨b,hb,hbc⟩:=Ag hl hc
   refine⟨.int .u8 (.ofNat c), ?_,.int _ _⟩
   simp only [execOp,ho,h1,h2,Instr.index,asIntOf,Sem.run_bind,Sem.run_pure,Result.andThen,bO (oP hst)]
   simp [hb,hbc]
  ·cases hk
 ·rename_i cs ik n hx hi
  split at hk
  ·rename_i len el hu
   split at hk
   ·rename_i hlt hinfo
    rw [cT] at hlt
    obtain⟨v,hp,hk⟩:=iD hk
    refine⟨v,fun μ a w h=> ?_,hk⟩
    have h1:=h.at hmx hx
    have h2:=(h.at hmi hi).int_inv
    generalize hxa:a.eval x=xv at h1
    cases h1 with
    | agg _ xs hr=>
     obtain⟨y,hy,hvr⟩:=Gp (w:=w) hr hp
     have hlt':(0:Int)<=Int.ofNat n/\Int.ofNat n<(len:Int):=by simp;exact hlt
     refine⟨y, ?_,hvr⟩
     have hy':(part el xs ((Int.ofNat n).toNat * P.cellsOf el)).run P w= .ok y w:=hy
     simp only [execOp,ho,hxa,h2,Instr.index,asIntOf,Sem.run_bind,Sem.run_pure,Result.andThen,bO hu,if_pos hlt',gA hinfo,hy']
   ·cases hk
  ·cases hk
 ·cases hk
theorem yR {x:Operand} {xt t:TypeId} {ok:Bool} (ho:o.op= .typeAssert x xt t ok) {k:AV->Bool} (hk:yW P (opd e x) t ok k=true):∃v,iY P o e v/\k v=true:=by
 have hmx:x∈o.op.operands:=by simp [ho,Op.operands]
 unfold yW at hk
 split at hk
 ·cases hk
 ·cases hk
 ·rename_i d hd hu
  split at hk
  ·rename_i hx
   split at hk
   ·rename_i z hz
    refine⟨_,fun μ a w h=> ?_,hk⟩
    have h1:=h.at hmx hx
    generalize hxa:a.eval x=xv at h1
    cases h1
    obtain⟨zv,hzr,hzv⟩:=y7 (w:=w) hz μ
    refine⟨.tuple #[zv,.bool false], ?_,.tup _ _ (.cons _ _ _ _ hzv (.cons _ _ _ _ (.bool _) .nil))⟩
    simp only [execOp,ho,hxa,Instr.typeAssert,Sem.run_bind,Sem.run_pure,Result.andThen,bO hu]
    cases d<;>first | (exact absurd rfl (hd _))| simp [hzr,Result.andThen]
   ·cases hk
  ·rename_i u v hx
   split at hk
   ·rename_i hut
    have hut:=cw hut
    split at hk
    ·refine⟨_,fun μ a w h=> ?_,hk⟩
     have h1:=h.at hmx hx
     generalize hxa:a.eval x=xv at h1
     cases h1 with
     | ifc _ _ y hy=>
      refine⟨.tuple #[y,.bool true], ?_,.tup _ _ (.cons _ _ _ _ hy (.cons _ _ _ _ (.bool _) .nil))⟩
      simp only [execOp,ho,hxa,Instr.typeAssert,Sem.run_bind,Sem.run_pure,Result.andThen,bO hu]
      cases d<;>first | (exact absurd rfl (hd _))| simp [hut]
    ·refine⟨_,fun μ a w h=> ?_,hk⟩
     have h1:=h.at hmx hx
     generalize hxa:a.eval x=xv at h1
     cases h1 with
     | ifc _ _ y hy=>
      refine⟨y, ?_,hy⟩
      simp only [execOp,ho,hxa,Instr.typeAssert,Sem.run_bind,Sem.run_pure,Result.andThen,bO hu]
      cases d<;>first | (exact absurd rfl (hd _))| simp [hut]
   ·rename_i hut
    have hut':¬u=t:=fun e=>by subst e;simp [bW] at hut
    split at hk
    ·rename_i z hz
     refine⟨_,fun μ a w h=> ?_,hk⟩
     have h1:=h.at hmx hx
     generalize hxa:a.eval x=xv at h1
     cases h1
     obtain⟨zv,hzr,hzv⟩:=y7 (w:=w) hz μ
     refine⟨.tuple #[zv,.bool false], ?_,.tup _ _ (.cons _ _ _ _ hzv (.cons _ _ _ _ (.bool _) .nil))⟩
     simp only [execOp,ho,hxa,Instr.typeAssert,Sem.run_bind,Sem.run_pure,Result.andThen,bO hu]
     cases d<;>first | (exact absurd rfl (hd _))| simp [hut',hzr,Result.andThen]
    ·cases hk
  ·cases hk
theorem Em {s d:TypeId} {x:Operand} (ho:o.op= .convert s d x) {k:AV->Bool} (hk:IJ P s d (opd e x) k=true):∃v,iY P o e v/\k v=true:=by
 have hmx:x∈o.op.operands:=by simp [ho,Op.operands]
 unfold IJ at hk
 split at hk
 ·rename_i td ik ik' n hs hd hx
  rw [cA,oM] at hk
  refine⟨_,fun μ a w h=>⟨_, ?_,.int _ _⟩,hk⟩
  have h1:=(h.at hmx hx).int_inv
  simp only [execOp,ho,h1,convert,Sem.run_bind,Sem.run_pure,Result.andThen,bO hs,bO hd]
  rfl
 ·rename_i td st hs hd hx
  refine⟨_,fun μ a w h=> ?_,hk⟩
  obtain⟨bs,h1,hl⟩:=(h.at hmx hx).str_inv
  refine⟨.string bs, ?_,.str _ _ hl⟩
  simp only [execOp,ho,h1,convert,Sem.run_bind,Sem.run_pure,Result.andThen,bO hs,bO hd]
 ·cases hk
theorem R0 {op:UnOp} {t:TypeId} {x:Operand} (ho:o.op= .unOp op t x) {k:AV->Bool} (hk:unK op (opd e x) k=true):∃v,iY P o e v/\k v=true:=by
 have hmx:x∈o.op.operands:=by simp [ho,Op.operands]
 unfold unK at hk
 split at hk
 ·rename_i ik n hx
  rw [cA,oM] at hk
  refine⟨_,fun μ a w h=>⟨_, ?_,.int _ _⟩,hk⟩
  have h1:=(h.at hmx hx).int_inv
  simp only [execOp,ho,h1,Op.unary];rfl
 ·rename_i b hx
  rw [cW] at hk
  refine⟨_,fun μ a w h=>⟨_, ?_,.bool _⟩,hk⟩
  have h1:=(h.at hmx hx).bool_inv
  simp only [execOp,ho,h1,Op.unary];rfl
 ·rename_i ik n hx
  rw [cA] at hk
  refine⟨_,fun μ a w h=>⟨_, ?_,.int _ _⟩,hk⟩
  have h1:=(h.at hmx hx).int_inv
  simp only [execOp,ho,h1,Op.unary];rfl
 ·cases hk
end
def V0:Sc->Value->Prop
 | .b,v=>∃b,v= .bool b
 | .i,v=>∃k n,v= .int k n
 | .s,v=>∃s,v= .string s
def Sc2:Sc->Value->Value->Prop
 | .b,u,v=>∃a b,u= .bool a/\v= .bool b
 | .i,u,v=>∃k a b,u= .int k a/\v= .int k b
 | .s,u,v=>∃a b,u= .string a/\v= .string b
inductive lj:List Sc->List Value->Prop where
 | nil:lj [] []
 | cons (c v cs vs) (h:V0 c v) (hs:lj cs vs):lj (c::cs) (v::vs)
inductive nZ:List Sc->List Value->List Value->Prop where
 | nil:nZ [] [] []
 | cons (c u v cs us vs) (h:Sc2 c u v) (hs:nZ cs us vs):nZ (c::cs) (u::us) (v::vs)
def Ld (fl:Fl) (v:Value):Prop:=
 (fl.ag=true/\∃a:Array Value,v= .agg a/\lj fl.sc a.toList)∨(fl.ag=false/\lj fl.sc [v])
def Fl2 (fl:Fl) (u v:Value):Prop:=
 (fl.ag=true/\∃a b:Array Value,u= .agg a/\v= .agg b/\nZ fl.sc a.toList b.toList)∨(fl.ag=false/\nZ fl.sc [u] [v])
theorem Lf {μ:Mu} {a b:List Nat} {s t:ByteArray} (h:s.data.toList.map UInt8.toNat=a) (h':t.data.toList.map UInt8.toNat=b):(a=b↔s=t):=by
 subst h;subst h'
 constructor
 ·intro h
  have:=qd h
  obtain⟨⟨x⟩⟩:=s
  obtain⟨⟨y⟩⟩:=t
  simp at this
  rw [this]
 ·intro h;rw [h]
theorem Bg {μ:Mu} {c:Sc} {x y:AV} {u v:Value} {r:Bool} (h:Ez c x y=some r) (hu:VR μ x u) (hv:VR μ y v):Sc2 c u v/\(r=true↔u=v):=by
 unfold Ez at h
 split at h
 ·cases hu;cases hv;cases h;exact⟨⟨_,_,rfl,rfl⟩,by simp⟩
 ·cases hu;cases hv;cases h;exact⟨⟨_,_,rfl,rfl⟩,by simp⟩
 ·split at h
  ·rename_i hk
   have:=pK hk
   subst this
   cases hu;cases hv
   simp at h
   subst h
   exact⟨⟨_,_,_,rfl,rfl⟩,by rw [o5];simp⟩
  ·cases h
 ·cases hu with
  | str s _ hs=>cases hv with
   | str t _ ht=>
    simp at h
    subst h
    exact⟨⟨_,_,rfl,rfl⟩,by rw [oO];simp [Lf (μ:=μ) hs ht]⟩
 ·cases h
theorem tG {μ:Mu} {cs:List Sc} {x y:List AV} {u v:List Value} {r:Bool} (h:jT cs x y=some r) (hu:VRs μ x u) (hv:VRs μ y v):nZ cs u v/\(r=true↔u=v):=by
 induction cs generalizing x y u v r with
 | nil=>
  cases x with
  | nil=>cases y with
   | nil=>cases hu;cases hv;simp [jT] at h;subst h;exact⟨.nil,by simp⟩
   | cons=>simp [jT] at h
  | cons=>simp [jT] at h
 | cons c cs ih=>
  cases x with
  | nil=>simp [jT] at h
  | cons a x=>cases y with
   | nil=>simp [jT] at h
   | cons b y=>
    cases hu with | cons _ u1 _ u2 hu1 hu2=>cases hv with | cons _ v1 _ v2 hv1 hv2=>
    simp only [jT] at h
    split at h
    ·rename_i p q hp hq
     obtain⟨h1,h2⟩:=Bg hp hu1 hv1
     obtain⟨h3,h4⟩:=ih hq hu2 hv2
     simp at h
     subst h
     exact⟨.cons _ _ _ _ _ _ h1 h3,by simp [h2,h4]⟩
    ·cases h
theorem nU {μ:Mu} {fl:Fl} {x y:AV} {u v:Value} {r:Bool} (h:CB fl x y=some r) (hu:VR μ x u) (hv:VR μ y v):Fl2 fl u v/\(r=true↔u=v):=by
 unfold CB at h
 split at h
 ·rename_i hag
  cases hu with | agg _ a ha=>cases hv with | agg _ b hb=>
  obtain⟨h1,h2⟩:=tG h ha hb
  refine⟨.inl ⟨hag,a,b,rfl,rfl,h1⟩,h2.trans ?_⟩
  simp
 ·cases h
 ·have hag:fl.ag=false:=by assumption
  obtain⟨h1,h2⟩:=tG h (.cons _ _ _ _ hu .nil) (.cons _ _ _ _ hv .nil)
  exact⟨.inr ⟨hag,h1⟩,h2.trans (by simp)⟩
theorem zm {μ:Mu} {c:Sc} {x:AV} {u:Value} (h:GH c x=true) (hu:VR μ x u):V0 c u:=by
 unfold GH at h
 split at h
 ·cases hu;exact⟨_,rfl⟩
 ·cases hu;exact⟨_,_,rfl⟩
 ·cases hu;exact⟨_,rfl⟩
 ·cases h
theorem rG {μ:Mu} {cs:List Sc} {x:List AV} {u:List Value} (h:qv cs x=true) (hu:VRs μ x u):lj cs u:=by
 induction cs generalizing x u with
 | nil=>cases x with
  | nil=>cases hu;exact .nil
  | cons=>simp [qv] at h
 | cons c cs ih=>cases x with
  | nil=>simp [qv] at h
  | cons a x=>
   cases hu with | cons _ u1 _ u2 hu1 hu2=>
   simp only [qv] at h
   split at h
   ·rename_i hc
    exact .cons _ _ _ _ (zm hc hu1) (ih h hu2)
   ·cases h
theorem zO {μ:Mu} {fl:Fl} {x:AV} {u:Value} (h:zF fl x=true) (hu:VR μ x u):Ld fl u:=by
 unfold zF at h
 split at h
 ·rename_i hag
  cases hu with | agg _ a ha=>exact .inl ⟨hag,a,rfl,rG h ha⟩
 ·cases h
 ·have hag:fl.ag=false:=by assumption
  exact .inr ⟨hag,rG h (.cons _ _ _ _ hu .nil)⟩
theorem nZ.len {cs:List Sc} {u v:List Value} (h:nZ cs u v):u.length=cs.length/\v.length=cs.length:=by
 induction h with
 | nil=>simp
 | cons _ _ _ _ _ _ _ _ ih=>simp [ih]
theorem nZ.one {c:Sc} {u v:Value} (h:nZ [c] [u] [v]):Sc2 c u v:=by cases h;assumption
theorem lj.len {cs:List Sc} {u:List Value} (h:lj cs u):u.length=cs.length:=by
 induction h with
 | nil=>simp
 | cons _ _ _ _ _ _ ih=>simp [ih]
theorem nZ.split {c1 c2:List Sc} {u v:List Value} (h:nZ (c1++c2) u v):
  nZ c1 (u.take c1.length) (v.take c1.length)/\nZ c2 (u.drop c1.length) (v.drop c1.length):=by
 induction c1 generalizing u v with
 | nil=>exact⟨by simpa using nZ.nil,by simpa using h⟩
 | cons c c1 ih=>
  cases h with | cons _ u1 v1 _ us vs h hs=>
  obtain⟨h1,h2⟩:=ih hs
  exact⟨by simpa using nZ.cons _ _ _ _ _ _ h h1,by simpa using h2⟩
theorem lj.split {c1 c2:List Sc} {u:List Value} (h:lj (c1++c2) u):lj c1 (u.take c1.length)/\lj c2 (u.drop c1.length):=by
 induction c1 generalizing u with
 | nil=>exact⟨by simpa using lj.nil,by simpa using h⟩
 | cons c c1 ih=>
  cases h with | cons _ u1 _ us h hs=>
  obtain⟨h1,h2⟩:=ih hs
  exact⟨by simpa using lj.cons _ _ _ _ h h1,by simpa using h2⟩
section
variable {P : Program}
theorem uF {d:Nat} {t:TypeId} {fl:Fl} (h:flat P d t=some fl):kU P t=some fl.ag/\(fl.ag=false->fl.sc.length=1):=by
 cases d with
 | zero=>simp [flat] at h
 | succ d=>
  unfold flat at h
  split at h
  ·rename_i hu;cases h;simp [kU,hu]
  ·rename_i hu;cases h;simp [kU,hu]
  ·rename_i hu;cases h;simp [kU,hu]
  ·rename_i fs hu
   split at h
   ·cases h
   ·split at h
    ·cases h;simp [kU,hu]
    ·cases h
  ·rename_i n e hu
   split at h
   ·split at h
    ·cases h;simp [kU,hu]
    ·cases h
   ·cases h
  ·cases h
theorem lO {d:Nat} {t:TypeId} {fl:Fl} (h:flat P d t=some fl) (hc:fl.sc.length=P.cellsOf t) (a:Array Value) (off:Nat) (w:World) (hl:fl.sc.length<=(a.toList.drop off).length):
  ∃x,(part t a off).run P w= .ok x w/\((fl.ag=true/\∃b:Array Value,x= .agg b/\b.toList=(a.toList.drop off).take fl.sc.length)∨(fl.ag=false/\(a.toList.drop off).take fl.sc.length=[x])):=by
 obtain⟨hag,h1⟩:=uF h
 cases hb:fl.ag with
 | true=>
  refine⟨.agg (a.extract off (off+P.cellsOf t)), ?_,.inl ⟨rfl,_,rfl, ?_⟩⟩
  ·unfold part
   rw [hb] at hag
   simp [sX hag,Result.andThen,gA (lQ hag)]
  ·rw [hc]
   simp [Array.toList_extract,List.extract_eq_take_drop]
 | false=>
  have h1:=h1 hb
  rw [h1] at hl⊢
  cases hd:a.toList.drop off with
  | nil=>rw [hd] at hl;simp at hl
  | cons x r=>
   refine⟨x, ?_,.inr ⟨rfl,by simp⟩⟩
   unfold part
   rw [hb] at hag
   have:a[off]? =some x:=by
    have:(a.toList.drop off)[0]? =some x:=by rw [hd];rfl
    rw [kB] at this
    simpa using this
   simp [sX hag,Result.andThen,this]
def Sf (P:Program) (D:Nat) (t:TypeId) (fl:Fl):Prop:=
 ∀(u v:Value) (w:World),Fl2 fl u v->∃r,(Op.equalIn D t u v).run P w= .ok r w/\(r=true↔u=v)
theorem qT {α:Type} {n:Nat} {u v:List α}:(u.take n=v.take n/\u.drop n=v.drop n)↔u=v:=by
 constructor
 ·rintro⟨h1,h2⟩
  rw [←pS n u,←pS n v,h1,h2]
 ·intro h;rw [h];exact⟨rfl,rfl⟩
theorem wD {D d:Nat} (ih:∀t fl,flat P d t=some fl->Sf P D t fl) (xs ys:Array Value) (w:World):
  ∀(fs:List Field) (off:Nat) (sc:List Sc),jg P (flat P d) fs off=some sc->nZ sc (xs.toList.drop off) (ys.toList.drop off)->
   ∃r,(Op.eqFields D xs ys fs).run P w= .ok r w/\(r=true↔xs.toList.drop off=ys.toList.drop off):=by
 intro fs
 induction fs with
 | nil=>
  intro off sc h h2
  simp [jg] at h
  subst h
  generalize xs.toList.drop off=u at *
  generalize ys.toList.drop off=v at *
  cases h2
  exact⟨true,by simp [Op.eqFields],by simp⟩
 | cons f fs ihf=>
  intro off sc h h2
  simp only [jg] at h
  split at h
  ·rename_i fl hne hoff hfl
   split at h
   ·rename_i r hlen hr
    simp at h
    subst h
    have hoff:=cw hoff
    subst hoff
    have hlen:=cw hlen
    obtain⟨h3,h4⟩:=h2.split
    have hl1:=h2.len.1
    have hl2:=h2.len.2
    obtain⟨p,hp,hpv⟩:=lO hfl hlen xs f.offset w (by rw [hl1];simp)
    obtain⟨q,hq,hqv⟩:=lO hfl hlen ys f.offset w (by rw [hl2];simp)
    have hne':f.name≠ "_" :=by simpa using hne
    have h5:Fl2 fl p q/\(p=q↔(xs.toList.drop f.offset).take fl.sc.length=(ys.toList.drop f.offset).take fl.sc.length):=by
     rcases hpv with⟨ha,b,rfl,hb⟩| ⟨ha,hb⟩
     ·rcases hqv with⟨ha',c,rfl,hc⟩| ⟨ha',hc⟩
      ·rw [←hb,←hc] at h3⊢
       exact⟨.inl ⟨ha,b,c,rfl,rfl,h3⟩,by simp⟩
      ·rw [ha] at ha';cases ha'
     ·rcases hqv with⟨ha',c,rfl,hc⟩| ⟨ha',hc⟩
      ·rw [ha] at ha';cases ha'
      ·rw [hb,hc] at h3⊢
       exact⟨.inr ⟨ha,h3⟩,by simp⟩
    obtain⟨e,he,hev⟩:=ih _ _ hfl p q w h5.1
    rw [kq,kq] at h4
    obtain⟨r',hr',hrv⟩:=ihf _ r hr h4
    simp only [Op.eqFields,hne',gh,Sem.run_bind,hp,hq,he,Result.andThen_ok,ne_eq,not_false_eq_true]
    cases e with
    | false=>
     refine⟨false,by simp, ?_⟩
     simp
     intro heq
     have:p=q:=h5.2.2 (by rw [heq])
     simp [this] at hev
    | true=>
     refine⟨r',by simpa using hr', ?_⟩
     have hpq:p=q:=hev.1 rfl
     rw [hrv,←qT (n:=fl.sc.length) (u:=xs.toList.drop f.offset),kq,kq]
     exact⟨fun h=>⟨h5.2.1 hpq,h⟩,fun h=>h.2⟩
   ·cases h
  ·cases h
theorem A7 {d:Nat} {e:TypeId} {fl:Fl} {sc:List Sc} (hfl:flat P d e=some fl) (hlen:fl.sc.length=P.cellsOf e) (xs ys:Array Value) (off:Nat) (w:World)
  (h2:nZ (fl.sc++sc) (xs.toList.drop off) (ys.toList.drop off)):∃p q,(part e xs off).run P w= .ok p w/\(part e ys off).run P w= .ok q w/\Fl2 fl p q/\
   (p=q↔(xs.toList.drop off).take fl.sc.length=(ys.toList.drop off).take fl.sc.length):=by
 obtain⟨h3,h4⟩:=h2.split
 have hl1:=h2.len.1
 have hl2:=h2.len.2
 obtain⟨p,hp,hpv⟩:=lO hfl hlen xs off w (by rw [hl1];simp)
 obtain⟨q,hq,hqv⟩:=lO hfl hlen ys off w (by rw [hl2];simp)
 refine⟨p,q,hp,hq, ?_⟩
 rcases hpv with⟨ha,b,rfl,hb⟩| ⟨ha,hb⟩
 ·rcases hqv with⟨ha',c,rfl,hc⟩| ⟨ha',hc⟩
  ·rw [←hb,←hc] at h3⊢
   exact⟨.inl ⟨ha,b,c,rfl,rfl,h3⟩,by simp⟩
  ·rw [ha] at ha';cases ha'
 ·rcases hqv with⟨ha',c,rfl,hc⟩| ⟨ha',hc⟩
  ·rw [ha] at ha';cases ha'
  ·rw [hb,hc] at h3⊢
   exact⟨.inr ⟨ha,h3⟩,by simp⟩
theorem yY {D d:Nat} {e:TypeId} {fl:Fl} (hfl:flat P d e=some fl) (hlen:fl.sc.length=P.cellsOf e) (ih:Sf P D e fl) (xs ys:Array Value) (w:World):
  ∀(m i:Nat),nZ (List.replicate m fl.sc).flatten (xs.toList.drop (i * P.cellsOf e)) (ys.toList.drop (i * P.cellsOf e))->
   ∃r:Option Bool×Unit,(forIn (List.range' i m 1) ((none,()):Option Bool×Unit) (fun i __s=>do
      let a←part e xs (i * P.cellsOf e)
      let b←part e ys (i * P.cellsOf e)
      let c←Op.equalIn D e a b
      if (!c)=true then pure (ForInStep.done (some false,())) else pure (ForInStep.yield (none,()))):Sem (Option Bool×Unit)).run P w= .ok r w/\
    ((r.1=none/\xs.toList.drop (i * P.cellsOf e)=ys.toList.drop (i * P.cellsOf e))∨(r.1=some false/\¬xs.toList.drop (i * P.cellsOf e)=ys.toList.drop (i * P.cellsOf e))):=by
 intro m
 induction m with
 | zero=>
  intro i h2
  simp only [List.replicate_zero,List.flatten_nil] at h2
  generalize xs.toList.drop _=u at *
  generalize ys.toList.drop _=v at *
  cases h2
  exact⟨(none,()),by simp,.inl ⟨rfl,rfl⟩⟩
 | succ m ihm=>
  intro i h2
  rw [List.replicate_succ,List.flatten_cons] at h2
  obtain⟨p,q,hp,hq,h5,h6⟩:=A7 hfl hlen xs ys _ w h2
  obtain⟨h3,h4⟩:=h2.split
  rw [kq,kq,hlen,←fV] at h4
  obtain⟨c,hc,hcv⟩:=ih p q w h5
  obtain⟨r,hr,hrv⟩:=ihm (i+1) h4
  have hsplit:=qT (n:=fl.sc.length) (u:=xs.toList.drop (i * P.cellsOf e)) (v:=ys.toList.drop (i * P.cellsOf e))
  rw [kq,kq,hlen,←fV] at hsplit
  rw [hlen] at h6
  simp only [List.range'_succ,List.forIn_cons,Sem.run_bind,hp,hq,hc,Result.andThen_ok]
  cases c with
  | false=>
   refine⟨(some false,()),by simp,.inr ⟨rfl,fun he=> ?_⟩⟩
   have:p=q:=h6.2 (by rw [he])
   simp [this] at hcv
  | true=>
   refine⟨r,by simpa using hr, ?_⟩
   have hpq:p=q:=hcv.1 rfl
   rcases hrv with⟨g1,g2⟩| ⟨g1,g2⟩
   ·exact .inl ⟨g1,hsplit.1 ⟨h6.1 hpq,g2⟩⟩
   ·exact .inr ⟨g1,fun he=>g2 (hsplit.2 he).2⟩
theorem lG {D:Nat}:∀(d:Nat) (t:TypeId) (fl:Fl),flat P d t=some fl->Sf P (D+d) t fl
 | 0,t,fl,h=>by simp [flat] at h
 | d+1,t,fl,h=>by
  intro u v w h2
  unfold flat at h
  split at h
  ·rename_i hu
   cases h
   rcases h2 with⟨h2,_⟩| ⟨_,h2⟩
   ·cases h2
   have h2:=h2.one
   obtain⟨a,b,rfl,rfl⟩:=h2
   exact⟨_,run_equalIn_bool w (D+d) t a b hu,by simp⟩
  ·rename_i ik hu
   cases h
   rcases h2 with⟨h2,_⟩| ⟨_,h2⟩
   ·cases h2
   have h2:=h2.one
   obtain⟨k,a,b,rfl,rfl⟩:=h2
   exact⟨_,run_equalIn_int w (D+d) t k ik a b hu,by simp⟩
  ·rename_i hu
   cases h
   rcases h2 with⟨h2,_⟩| ⟨_,h2⟩
   ·cases h2
   have h2:=h2.one
   obtain⟨a,b,rfl,rfl⟩:=h2
   refine⟨_,run_equalIn_string w (D+d) t a b hu, ?_⟩
   simp only [js,beq_iff_eq,Value.string.injEq,iv]
   exact⟨fun h=>ByteArray.ext h,fun h=>by rw [h]⟩
  ·rename_i fs hu
   split at h
   ·cases h
   ·rename_i hst
    split at h
    ·rename_i sc hsc
     cases h
     rcases h2 with⟨_,xs,ys,rfl,rfl,h2⟩| ⟨h2,_⟩
     ·have hfo:P.fieldsOf t=fs:=by simp [Program.fieldsOf,hu]
      obtain⟨r,hr,hrv⟩:=wD (D:=D+d) (fun t fl h=>lG d t fl h) xs ys w fs.toList 0 sc hsc (by simpa using h2)
      refine⟨r, ?_, ?_⟩
      ·rw [show D+(d+1)=(D+d)+1 from rfl,run_equalIn_struct w (D+d) t xs ys (by rw [hfo];exact hu) hst,hfo]
       exact hr
      ·rw [hrv];simp
     ·cases h2
    ·cases h
  ·rename_i n e hu
   split at h
   ·rename_i fl' hfl
    split at h
    ·rename_i hlen
     cases h
     have hlen:=cw hlen
     rcases h2 with⟨_,xs,ys,rfl,rfl,h2⟩| ⟨h2,_⟩
     ·have hinfo:=lQ (uF hfl).1
      obtain⟨r,hr,hrv⟩:=yY (D:=D+d) hfl hlen (lG d e fl' hfl) xs ys w n 0 (by simpa using h2)
      refine⟨r.1.isNone, ?_, ?_⟩
      ·rw [show D+(d+1)=(D+d)+1 from rfl]
       simp only [Op.equalIn,Sem.run_bind,bO hu,Result.andThen_ok,gA hinfo,Std.Legacy.Range.forIn_eq_forIn_range']
       rw [show [:n].size=n by simp [Std.Legacy.Range.size]]
       rw [hr]
       rcases hrv with⟨g1,_⟩| ⟨g1,_⟩<;>simp [g1]
      ·rcases hrv with⟨g1,g2⟩| ⟨g1,g2⟩
       ·simp at g2;simp [g1,g2]
       ·simp at g2;simp [g1,g2]
     ·cases h2
    ·cases h
   ·cases h
  ·cases h
def YW (P:Program) (emp:Bool) (D:Nat) (t:TypeId) (fl:Fl):Prop:=
 ∀(u:Value) (w:World),Ld fl u->(Instr.checkKey emp D t u).run P w= .ok () w
theorem ni {emp:Bool} {D:Nat}:∀(d:Nat) (t:TypeId) (fl:Fl),flat P d t=some fl->YW P emp (D+d) t fl
 | 0,t,fl,h=>by simp [flat] at h
 | d+1,t,fl,h=>by
  intro u w h2
  unfold flat at h
  split at h
  ·rename_i hu
   cases h
   simp [Instr.checkKey,bO hu,Result.andThen]
  ·rename_i ik hu
   cases h
   simp [Instr.checkKey,bO hu,Result.andThen]
  ·rename_i hu
   cases h
   simp [Instr.checkKey,bO hu,Result.andThen]
  ·rename_i fs hu
   split at h
   ·cases h
   ·rename_i hst
    split at h
    ·rename_i sc hsc
     cases h
     rcases h2 with⟨_,cs,rfl,ht⟩| ⟨h2,_⟩
     ·have key:∀(L:List Field) (off:Nat) (sc:List Sc),jg P (flat P d) L off=some sc->lj sc (cs.toList.drop off)->
        (forIn L PUnit.unit (fun f r=>
         if f.name≠ "_" then do
          let x←part f.type cs f.offset
          Instr.checkKey emp (D+d) f.type x
          pure (ForInStep.yield PUnit.unit)
         else pure (ForInStep.yield PUnit.unit)):Sem PUnit).run P w= .ok PUnit.unit w:=by
       intro L
       induction L with
       | nil=>intro off sc _ _;simp
       | cons f fs ihf=>
        intro off sc h h2
        simp only [jg] at h
        split at h
        ·rename_i fl hne hoff hfl
         split at h
         ·rename_i r hlen hr
          simp at h
          subst h
          have hoff:=cw hoff
          subst hoff
          have hlen:=cw hlen
          obtain⟨h3,h4⟩:=h2.split
          obtain⟨p,hp,hpv⟩:=lO hfl hlen cs f.offset w (by rw [h2.len];simp)
          have hne':f.name≠ "_" :=by simpa using hne
          have h5:Ld fl p:=by
           rcases hpv with⟨ha,b,rfl,hb⟩| ⟨ha,hb⟩
           ·rw [←hb] at h3
            exact .inl ⟨ha,b,rfl,h3⟩
           ·rw [hb] at h3
            exact .inr ⟨ha,h3⟩
          have hck:=ni (emp:=emp) (D:=D) d f.type fl hfl p w h5
          rw [kq] at h4
          have:=ihf _ r hr h4
          simp only [List.forIn_cons,Sem.run_bind,if_pos hne',hp,hck,Result.andThen_ok,Sem.run_pure]
          exact this
         ·cases h
        ·cases h
      have:=key fs.toList 0 sc hsc (by simpa using ht)
      simp only [Instr.checkKey,Sem.run_bind,bO hu,Result.andThen_ok]
      rw [←Array.forIn_toList]
      refine Eq.trans (congrArg (fun r:Result Unit=>r.andThen fun a w'=>(pure ():Sem Unit).run P w') this) ?_
      rfl
     ·cases h2
    ·cases h
  ·rename_i n e hu
   split at h
   ·rename_i fl' hfl
    split at h
    ·rename_i hlen
     cases h
     have hlen:=cw hlen
     rcases h2 with⟨_,cs,rfl,ht⟩| ⟨h2,_⟩
     ·have hinfo:=lQ (uF hfl).1
      have key:∀(m i:Nat),lj (List.replicate m fl'.sc).flatten (cs.toList.drop (i * P.cellsOf e))->
        (forIn (List.range' i m 1) PUnit.unit (fun i __s=>do
         let a←sizeOf e
         let b←part e cs (i * a)
         Instr.checkKey emp (D+d) e b
         pure (ForInStep.yield PUnit.unit)):Sem PUnit).run P w= .ok PUnit.unit w:=by
       intro m
       induction m with
       | zero=>intro i _;simp
       | succ m ihm=>
        intro i h2
        rw [List.replicate_succ,List.flatten_cons] at h2
        obtain⟨h3,h4⟩:=h2.split
        obtain⟨p,hp,hpv⟩:=lO hfl hlen cs (i * P.cellsOf e) w (by rw [h2.len];simp)
        have h5:Ld fl' p:=by
         rcases hpv with⟨ha,b,rfl,hb⟩| ⟨ha,hb⟩
         ·rw [←hb] at h3
          exact .inl ⟨ha,b,rfl,h3⟩
         ·rw [hb] at h3
          exact .inr ⟨ha,h3⟩
        have hck:=ni (emp:=emp) (D:=D) d e fl' hfl p w h5
        rw [kq,hlen,←fV] at h4
        have:=ihm (i+1) h4
        simp only [List.range'_succ,List.forIn_cons,Sem.run_bind,gA hinfo,hp,hck,Result.andThen_ok,Sem.run_pure]
        exact this
      have:=key n 0 (by simpa using ht)
      simp only [Instr.checkKey,Sem.run_bind,bO hu,Result.andThen_ok,Std.Legacy.Range.forIn_eq_forIn_range']
      rw [show [:n].size=n by simp [Std.Legacy.Range.size]]
      refine Eq.trans (congrArg (fun r:Result Unit=>r.andThen fun a w'=>(pure ():Sem Unit).run P w') this) ?_
      rfl
     ·cases h2
    ·cases h
   ·cases h
  ·cases h
end
theorem sq {cs vs r:List AV} {n:Nat} (h:fg cs n vs=some r):n+vs.length<=cs.length/\r=cs.take n++vs++cs.drop (n+vs.length):=by
 fun_induction fg cs n vs generalizing r with
 | case1 cs=>simp at h;simp [h]
 | case2=>cases h
 | case3 c cs v vs r' hr ih=>
  simp at h;subst h
  obtain⟨h1,h2⟩:=ih hr
  subst h2
  simp at h1
  refine⟨by simp;omega,by simp⟩
 | case4 c cs v vs hr ih=>cases h
 | case5=>cases h
 | case6 c cs n vs r' hr ih=>
  simp at h;subst h
  obtain⟨h1,h2⟩:=ih hr
  subst h2
  refine⟨by simp;omega, ?_⟩
  have:n+1+vs.length=(n+vs.length)+1:=by omega
  simp [this]
 | case7=>cases h
section
variable {μ : Mu}
theorem tM {cs vs r:List AV} {xs ys:List Value} {n:Nat} (h:fg cs n vs=some r) (hc:VRs μ cs xs) (hv:VRs μ vs ys):
  n+ys.length<=xs.length/\VRs μ r (xs.take n++ys++xs.drop (n+ys.length)):=by
 obtain⟨h1,h2⟩:=sq h
 subst h2
 rw [hc.length,hv.length]
 exact⟨h1,((hc.take n).append hv).append (hc.drop _)⟩
theorem wX (vs:List Value):∀(i:Nat) (off:Nat) (cs:Array Value),off+i+vs.length<=cs.size->
  ((vs.zipIdx i).foldl (fun (cs:Array Value) (p:Value×Nat)=>cs.setIfInBounds (off+p.2) p.1) cs).toList=cs.toList.take (off+i)++vs++cs.toList.drop (off+i+vs.length):=by
 induction vs with
 | nil=>intro i off cs h;simp
 | cons v vs ih=>
  intro i off cs h
  simp only [List.zipIdx_cons,List.foldl_cons]
  rw [ih (i+1) off _ (by simp at h⊢;omega)]
  have e:=list_seg_step cs.toList (off+i) v vs (by simp at h⊢;omega)
  simpa [Array.toList_setIfInBounds,fm] using e
theorem VR.cells {v:AV} {x:Value} (h:VR μ v x):VRs μ v.cells x.cells.toList:=by
 cases h with
 | agg _ a h=>exact h
 | bool=>exact .cons _ _ _ _ (.bool _) .nil
 | int=>exact .cons _ _ _ _ (.int _ _) .nil
 | str _ _ h=>exact .cons _ _ _ _ (.str _ _ h) .nil
 | ptr _ _ p h=>exact .cons _ _ _ _ (.ptr _ _ p h) .nil
 | nilp=>exact .cons _ _ _ _ .nilp .nil
 | gptr=>exact .cons _ _ _ _ (.gptr _ _) .nil
 | sl _ _ _ _ _ p cap a h hl ht hc hn ha=>exact .cons _ _ _ _ (.sl _ _ _ _ _ p cap a h hl ht hc hn ha) .nil
 | nils=>exact .cons _ _ _ _ .nils .nil
 | map _ p h=>exact .cons _ _ _ _ (.map _ p h) .nil
 | nilm=>exact .cons _ _ _ _ .nilm .nil
 | fn _ _ _ _ _ ha hc=>exact .cons _ _ _ _ (.fn _ _ _ _ _ ha hc) .nil
 | yld _ p h=>exact .cons _ _ _ _ (.yld _ p h) .nil
 | nilf=>exact .cons _ _ _ _ .nilf .nil
 | ifc _ _ _ h=>exact .cons _ _ _ _ (.ifc _ _ _ h) .nil
 | nili=>exact .cons _ _ _ _ .nili .nil
 | tup _ a h=>exact .cons _ _ _ _ (.tup _ _ h) .nil
 | dat d _ L hm h=>rcases (VR.dat d x L hm h).dat_inv with⟨_,rfl⟩| ⟨_,_,_,rfl⟩| ⟨_,rfl⟩<;>exact .cons _ _ _ _ (.dat _ _ L hm h) .nil
theorem Hv {v:AV} {x:Value} (h1:one v=true) (h:VR μ v x):x.oneCell'=true:=by
 cases h with
 | dat d _ L hm h=>cases h<;>first | (cases hm;done)| rfl
 | _=>first | rfl | (simp [one] at h1)
theorem xE {vs:List AV} {xs:List Value} (h1:vs.all one=true) (h:VRs μ vs xs):∀x∈xs,x.oneCell'=true:=by
 induction vs generalizing xs with
 | nil=>cases h;simp
 | cons v vs ih=>
  cases h with | cons _ x _ xs h hs=>
  simp at h1
  intro y hy
  rcases cy.1 hy with rfl | hy
  ·exact Hv h1.1 h
  ·exact ih (by simpa using h1.2) hs y hy
inductive PVs (μ:Mu):List (Nat×AV)->List (Nat×Value)->Prop where
 | nil:PVs μ [] []
 | cons (i v x ps qs) (h:VR μ v x) (hs:PVs μ ps qs):PVs μ ((i,v)::ps) ((i,x)::qs)
theorem A4 {places:List (Nat×Nat)} {ps:List (Nat×AV)} {qs:List (Nat×Value)} {cs r:List AV} {xs:Array Value}
  (h:qj places ps cs=some r) (hp:PVs μ ps qs) (hc:VRs μ cs xs.toList):∃ys:Array Value,Instr.fill (places.toArray[·]?) xs qs=some ys/\VRs μ r ys.toList:=by
 induction ps generalizing qs cs xs with
 | nil=>cases hp;simp [qj] at h;subst h;exact⟨xs,rfl,hc⟩
 | cons p ps ih=>
  cases hp with | cons i v x _ qs hv hs=>
  simp only [qj] at h
  split at h
  ·rename_i off size hpl
   split at h
   ·rename_i hsz
    have hsz:=cw hsz
    split at h
    ·rename_i cs' hset
     have hvc:=hv.cells
     obtain⟨h1,h2⟩:=tM hset hc hvc
     have hfo:=wX x.cells.toList 0 off xs (by simpa using h1)
     have hfo':(x.cells.zipIdx.foldl (fun (cs:Array Value) (p:Value×Nat)=>cs.setIfInBounds (off+p.2) p.1) xs).toList=xs.toList.take off++x.cells.toList++xs.toList.drop (off+x.cells.toList.length):=by
      rw [←Array.foldl_toList,Array.toList_zipIdx]
      simpa using hfo
     obtain⟨ys,hy,hr⟩:=ih (xs:=x.cells.zipIdx.foldl (fun (cs:Array Value) (p:Value×Nat)=>cs.setIfInBounds (off+p.2) p.1) xs) h hs (by rw [hfo'];exact h2)
     refine⟨ys, ?_,hr⟩
     have hl:=hvc.length
     have hle:off+x.cells.size<=xs.size:=by simpa using h1
     have hsize:x.cells.size=size:=by rw [←hsz,←hl];simp
     simp only [Instr.fill,nY,hpl]
     simp
     exact⟨⟨hsize,hle⟩,by simpa using hy⟩
    ·cases h
   ·cases h
  ·cases h
theorem tI {size:Nat} {ps:List (Nat×AV)} {qs:List (Nat×Value)} {cs r:List AV} {xs:Array Value}
  (h:oK size ps cs=some r) (hp:PVs μ ps qs) (hc:VRs μ cs xs.toList):∃ys:Array Value,Instr.fill (fun i=>some (i * size,size)) xs qs=some ys/\VRs μ r ys.toList:=by
 induction ps generalizing qs cs xs with
 | nil=>cases hp;simp [oK] at h;subst h;exact⟨xs,rfl,hc⟩
 | cons p ps ih=>
  cases hp with | cons i v x _ qs hv hs=>
  simp only [oK] at h
  split at h
  ·rename_i hsz
   have hsz:=cw hsz
   split at h
   ·rename_i cs' hset
    have hvc:=hv.cells
    obtain⟨h1,h2⟩:=tM hset hc hvc
    have hfo:=wX x.cells.toList 0 (i * size) xs (by simpa using h1)
    have hfo':(x.cells.zipIdx.foldl (fun (cs:Array Value) (p:Value×Nat)=>cs.setIfInBounds (i * size+p.2) p.1) xs).toList=xs.toList.take (i * size)++x.cells.toList++xs.toList.drop (i * size+x.cells.toList.length):=by
     rw [←Array.foldl_toList,Array.toList_zipIdx]
     simpa using hfo
    obtain⟨ys,hy,hr⟩:=ih (xs:=x.cells.zipIdx.foldl (fun (cs:Array Value) (p:Value×Nat)=>cs.setIfInBounds (i * size+p.2) p.1) xs) h hs (by rw [hfo'];exact h2)
    refine⟨ys, ?_,hr⟩
    have hl:=hvc.length
    have hle:i * size+x.cells.size<=xs.size:=by simpa using h1
    have hsize:x.cells.size=size:=by rw [←hsz,←hl];simp
    simp only [Instr.fill]
    simp
    exact⟨⟨hsize,hle⟩,by simpa using hy⟩
   ·cases h
  ·cases h
end
section
variable {P : Program} {G : bg} {o : Oper} {e : En}
theorem o3 {t:TypeId} {z:AV} (h:zro P t=some z):∃i v,P.info? t=some i/\i.zero=some v/\∀μ,VR μ z v:=by
 unfold zro at h
 split at h
 ·rename_i i hi
  split at h
  ·rename_i v hv
   exact⟨i,v,hi,hv,fun μ=>rX 6 h⟩
  ·cases h
 ·cases h
theorem As {fs:List Field} (h:(fs.all fun f=>(P.info? f.type).isSome)=true):
  fs.mapM (fun f=>(P.info? f.type).map fun i=>(f.offset,i.size))=some (fs.map fun f=>(f.offset,P.cellsOf f.type)):=by
 induction fs with
 | nil=>rfl
 | cons f fs ih=>
  simp only [kM,bX] at h
  obtain⟨i,hi⟩:=qV.1 h.1
  simp [List.mapM_cons,ih h.2,hi,Program.cellsOf]
theorem AE {μ:Mu} {a:Act} {l:List (Nat×Operand)} (h:∀p∈l,VR μ (opd e p.2) (a.eval p.2)):PVs μ (l.map fun p=>(p.1,opd e p.2)) (l.map fun p=>(p.1,a.eval p.2)):=by
 induction l with
 | nil=>exact .nil
 | cons x l ih=>exact .cons _ _ _ _ _ (h x (by simp)) (ih fun y hy=>h y (by simp [hy]))
theorem JE {t:TypeId} {parts:Array (Nat×Operand)} (ho:o.op= .build t parts) {k:AV->Bool} (hk:ma P t (parts.toList.map fun p=>(p.1,opd e p.2)) k=true):∃v,iY P o e v/\k v=true:=by
 unfold ma at hk
 have hpv:∀(μ:Mu) (a:Act),mF μ e a o->PVs μ (parts.toList.map fun p=>(p.1,opd e p.2)) (parts.toList.map fun p=>(p.1,a.eval p.2)):=fun μ a h=>AE fun p hp=>h.mem (by
  simp only [ho,Op.operands]
  simp
  exact⟨p.1,by simpa using hp⟩)
 have run:∀(a:Act) (w:World) (cells:Array Value),P.built t (parts.toList.map fun p=>(p.1,a.eval p.2))=some cells->(execOp a.eval o).run P w= .ok (.value (.agg cells)) w:=by
  intro a w cells h
  have:=run_build (P:=P) w t (parts.map fun (i,x)=>(i,a.eval x)) cells (by simpa using h)
  simp [execOp,ho,this]
 split at hk
 ·rename_i z fs hz hu
  split at hk
  ·rename_i hall
   split at hk
   ·rename_i cs hcs
    rw [bH] at hk
    refine⟨_,fun μ a w h=> ?_,hk⟩
    obtain⟨i,v,hi,hv,hzv⟩:=o3 hz
    have hzv:=hzv μ
    cases hzv with | agg _ zs hzs=>
    obtain⟨ys,hy,hr⟩:=A4 hcs (hpv μ a h) hzs
    refine⟨.agg ys,run a w ys ?_,.agg _ _ hr⟩
    simp only [Program.built,hi,hu,hv,As hall]
    exact hy
   ·cases hk
  ·cases hk
 ·rename_i z n el hz hu
  split at hk
  ·rename_i hinfo
   split at hk
   ·rename_i cs hcs
    rw [bH] at hk
    refine⟨_,fun μ a w h=> ?_,hk⟩
    obtain⟨i,v,hi,hv,hzv⟩:=o3 hz
    obtain⟨ie,hie⟩:=qV.1 hinfo
    have hzv:=hzv μ
    cases hzv with | agg _ zs hzs=>
    have hce:P.cellsOf el=ie.size:=by simp [Program.cellsOf,hie]
    rw [hce] at hcs
    obtain⟨ys,hy,hr⟩:=tI hcs (hpv μ a h) hzs
    refine⟨.agg ys,run a w ys ?_,.agg _ _ hr⟩
    simp only [Program.built,hi,hu,hv,hie]
    exact hy
   ·cases hk
  ·cases hk
 ·cases hk
theorem Cq {mx:Bool} {x:AV} {l:List AV} {k:AV->Bool} (h:Eo mx x l k=true):
  ∃v,k v=true/\∀(μ:Mu) (u:Value) (us:List Value) (w:World),VR μ x u->VRs μ l us->∃y,(us.foldlM (if mx then Builtin.max2 else Builtin.min2) u).run P w= .ok y w/\VR μ v y:=by
 induction l generalizing x with
 | nil=>
  cases x<;>exact⟨_,h,fun μ u us w hx hl=>by cases hl;exact⟨u,by simp,hx⟩⟩
 | cons y l ih=>
  cases x with
  | int kx a=>
   cases y with
   | int ky b=>
    simp only [Eo] at h
    obtain⟨v,hv,hr⟩:=ih h
    refine⟨v,hv,fun μ u us w hx hl=> ?_⟩
    cases hx
    cases hl with | cons _ y' _ us hy hs=>
    cases hy
    obtain⟨z,hz,hzv⟩:=hr μ (match mx with
     | true=>.int kx (if b>a then b else a)
     | false=>.int kx (if b<a then b else a)) us w (by
      cases mx
      ·simp only [jm]
       by_cases hlt:b<a
       ·simp only [hlt,dL,gh];exact .int _ _
       ·simp only [hlt,i9,eE];exact .int _ _
      ·simp only [jm]
       by_cases hlt:a<b
       ·simp only [hlt,dL,gh];exact .int _ _
       ·simp only [hlt,i9,eE];exact .int _ _) hs
    refine⟨z, ?_,hzv⟩
    cases mx
    ·simpa [List.foldlM_cons,Builtin.min2] using hz
    ·simpa [List.foldlM_cons,Builtin.max2] using hz
   | _=>simp [Eo] at h
  | _=>simp [Eo] at h
theorem zD {c:Call} {mx:Bool} (ho:o.op= .call c) (hc:c.callee= .builtin (if mx then .max else .min)) {k:AV->Bool} (hk:JY mx (c.args.toList.map (opd e)) k=true):∃v,iY P o e v/\k v=true:=by
 unfold JY at hk
 split at hk
 ·rename_i x l hl
  obtain⟨v,hv,hr⟩:=Cq (P:=P) hk
  refine⟨v,fun μ a w h=> ?_,hv⟩
  have hvs:VRs μ (c.args.toList.map (opd e)) (c.args.toList.map a.eval):=kD fun y hy=>h.mem (by
   simp only [ho,Op.operands,Call.operands]
   simp
   exact .inr (by simpa using hy))
  rw [hl] at hvs
  generalize has:c.args.toList.map a.eval=as at hvs
  cases hvs with | cons _ u _ us hu hus=>
  obtain⟨y,hy,hyv⟩:=hr μ u us w hu hus
  refine⟨y, ?_,hyv⟩
  cases mx
  ·simp only [execOp,ho,resolve,hc,Sem.run_bind,Sem.run_pure,Result.andThen_ok,invoke,builtin,Builtin.min_,ou,has]
   simp at hy
   simp [hy]
  ·simp only [execOp,ho,resolve,hc,Sem.run_bind,Sem.run_pure,Result.andThen_ok,invoke,builtin,Builtin.max_,ou,has]
   simp at hy
   simp [hy]
 ·cases hk
def WL (P:Program) (t:TypeId) (x y:Operand) (u v:Value) (r:Bool):Prop:=
 (∀w,(Op.equal t u v).run P w= .ok r w)/\(∀op w,(eqGuard op t x y u v).run P w= .ok () w)/\
  (∀w,(binOp .eql t u v).run P w=((Op.equal t u v).run P w).andThen fun b w'=>.ok (.bool b) w')/\
  (∀w,(binOp .neq t u v).run P w=((Op.equal t u v).run P w).andThen fun b w'=>.ok (.bool (!b)) w')
section
variable {d : Nat} {t : TypeId} {w : World}
theorem ra {el:TypeId} (ht:P.underlying t=some (.slice el)) {a b:Option Addr} {l c l' c':Nat} (h:a=none∨b=none):(Op.equalIn (d+1) t (.slice a l c) (.slice b l' c')).run P w= .ok (a.isNone&&b.isNone) w:=by
 rcases h with rfl | rfl
 ·simp [Op.equalIn,bO ht,Result.andThen]
 ·cases a<;>simp [Op.equalIn,bO ht,Result.andThen]
theorem Gf {kt el:TypeId} (ht:P.underlying t=some (.map kt el)) {a b:Option Nat} (h:a=none∨b=none):(Op.equalIn (d+1) t (.map a) (.map b)).run P w= .ok (a.isNone&&b.isNone) w:=by
 rcases h with rfl | rfl
 ·simp [Op.equalIn,bO ht,Result.andThen]
 ·cases a<;>simp [Op.equalIn,bO ht,Result.andThen]
theorem tl {el:TypeId} (ht:P.underlying t=some (.pointer el)) {a b:Option Addr} (h:a=none∨b=none):(Op.equalIn (d+1) t (.pointer a) (.pointer b)).run P w= .ok (a.isNone&&b.isNone) w:=by
 rcases h with rfl | rfl
 ·simp [Op.equalIn,bO ht,Result.andThen]
 ·cases a<;>simp [Op.equalIn,bO ht,Result.andThen]
def De:Value->Option Bool
 | .nilFunc=>some true
 | .func _ _ _=>some false
 | _=>none
theorem CC {ps rs:Array TypeId} {vr:Bool} (ht:P.underlying t=some (.func ps rs vr)) {u v:Value} {a b:Bool} (hu:De u=some a) (hv:De v=some b) (h:a=true∨b=true):(Op.equalIn (d+1) t u v).run P w= .ok (a&&b) w:=by
 cases u<;>simp [De] at hu<;>cases v<;>simp [De] at hv<;>subst hu<;>subst hv<;>simp at h<;>simp [Op.equalIn,bO ht,Result.andThen]
def C4:Value->Option Bool
 | .nilIface=>some true
 | .iface _ _=>some false
 | _=>none
theorem yZ {ms:Array (String×TypeId)} (ht:P.underlying t=some (.interface ms)) {u v:Value} {a b:Bool} (hu:C4 u=some a) (hv:C4 v=some b) (h:a=true∨b=true):(Op.equalIn (d+1) t u v).run P w= .ok (a&&b) w:=by
 cases u<;>simp [C4] at hu<;>cases v<;>simp [C4] at hv<;>subst hu<;>subst hv<;>simp at h<;>simp [Op.equalIn,bO ht,Result.andThen]
end
theorem Fh {d:Nat} {t el:TypeId} {j:TypeInfo} (h:P.underlying t=some (.pointer el)) (hj:P.info? el=some j) {a:Addr} {w:World}:
  (Op.equalIn (d+1) t (.pointer (some a)) (.pointer (some a))).run P w= .ok true w:=by
 simp [Op.equalIn,run_underlying h,sizeOf,typeInfo,hj,run_sameAddr_same]
theorem xA {t:TypeId} {xo yo:Operand} {x y:AV} {r:Bool} (h:eqV P t (mr xo||mr yo) x y=some r)
  (hni:∀k a l b,¬(x= .int k a/\y= .int l b)) (hns:∀a b,¬(x= .str a/\y= .str b)) {μ:Mu} {u v:Value} (hu:VR μ x u) (hv:VR μ y v):WL P t xo yo u v r:=by
 unfold eqV at h
 split at h
 ·rename_i el ht
  split at h
  ·cases hu;cases hv;cases h
   refine⟨fun w=> ?_,fun op w=>by cases op<;>rfl,fun w=>by simp [binOp],fun w=>by simp [binOp]⟩
   exact ra (d:=9999) ht (.inl rfl)
  ·cases hu;cases hv;cases h
   refine⟨fun w=> ?_,fun op w=>by cases op<;>rfl,fun w=>by simp [binOp],fun w=>by simp [binOp]⟩
   exact ra (d:=9999) ht (.inl rfl)
  ·cases hu;cases hv;cases h
   refine⟨fun w=> ?_,fun op w=>by cases op<;>rfl,fun w=>by simp [binOp],fun w=>by simp [binOp]⟩
   exact ra (d:=9999) ht (.inr rfl)
  ·cases hu;cases hv with | dat _ _ L hm hv=> ?_
   cases hv;cases h
   refine⟨fun w=> ?_,fun op w=>by cases op<;>rfl,fun w=>by simp [binOp],fun w=>by simp [binOp]⟩
   exact ra (d:=9999) ht (.inl rfl)
  ·cases hv;cases hu with | dat _ _ L hm hu=> ?_
   cases hu;cases h
   refine⟨fun w=> ?_,fun op w=>by cases op<;>rfl,fun w=>by simp [binOp],fun w=>by simp [binOp]⟩
   exact ra (d:=9999) ht (.inr rfl)
  ·cases h
 ·rename_i kt el ht
  split at h
  ·cases hu;cases hv;cases h
   refine⟨fun w=> ?_,fun op w=>by cases op<;>rfl,fun w=>by simp [binOp],fun w=>by simp [binOp]⟩
   exact Gf (d:=9999) ht (.inl rfl)
  ·cases hu;cases hv;cases h
   refine⟨fun w=> ?_,fun op w=>by cases op<;>rfl,fun w=>by simp [binOp],fun w=>by simp [binOp]⟩
   exact Gf (d:=9999) ht (.inl rfl)
  ·cases hu;cases hv;cases h
   refine⟨fun w=> ?_,fun op w=>by cases op<;>rfl,fun w=>by simp [binOp],fun w=>by simp [binOp]⟩
   exact Gf (d:=9999) ht (.inr rfl)
  ·cases h
 ·rename_i ps rs vr ht
  split at h
  ·cases hu;cases hv;cases h
   refine⟨fun w=> ?_,fun op w=>by cases op<;>rfl,fun w=>by simp [binOp],fun w=>by simp [binOp]⟩
   exact CC (d:=9999) (a:=true) (b:=true) ht rfl rfl (.inl rfl)
  ·cases hu;cases hv;cases h
   refine⟨fun w=> ?_,fun op w=>by cases op<;>rfl,fun w=>by simp [binOp],fun w=>by simp [binOp]⟩
   exact CC (d:=9999) (a:=true) (b:=false) ht rfl rfl (.inl rfl)
  ·cases hu;cases hv;cases h
   refine⟨fun w=> ?_,fun op w=>by cases op<;>rfl,fun w=>by simp [binOp],fun w=>by simp [binOp]⟩
   exact CC (d:=9999) (a:=false) (b:=true) ht rfl rfl (.inr rfl)
  ·cases h
 ·rename_i el ht
  split at h
  ·cases hu;cases hv;cases h
   refine⟨fun w=> ?_,fun op w=>by cases op<;>rfl,fun w=>by simp [binOp],fun w=>by simp [binOp]⟩
   exact tl (d:=9999) ht (.inl rfl)
  ·cases hu;cases hv;cases h
   refine⟨fun w=> ?_,fun op w=>by cases op<;>rfl,fun w=>by simp [binOp],fun w=>by simp [binOp]⟩
   exact tl (d:=9999) ht (.inl rfl)
  ·cases hu;cases hv;cases h
   refine⟨fun w=> ?_,fun op w=>by cases op<;>rfl,fun w=>by simp [binOp],fun w=>by simp [binOp]⟩
   exact tl (d:=9999) ht (.inr rfl)
  ·split at h
   ·rename_i hsame hinfo
    simp only [bX] at hsame
    obtain rfl:=cw hsame.1
    obtain rfl:=cw hsame.2
    cases h
    cases hu with | ptr _ _ p hp=>cases hv with | ptr _ _ q hq=>
    obtain rfl:p=q:=by rw [hp] at hq;exact fc hq
    refine⟨fun w=> ?_,fun op w=>by cases op<;>rfl,fun w=>by simp [binOp],fun w=>by simp [binOp]⟩
    obtain⟨j,hj⟩:=qV.1 hinfo
    exact Fh (d:=9999) ht hj
   ·cases h
  ·cases h
 ·rename_i ms ht
  split at h
  ·split at h
   ·rename_i hnc
    cases hu;cases hv;cases h
    refine⟨fun w=> ?_,fun op w=> ?_,fun w=>by simp [binOp],fun w=>by simp [binOp]⟩
    ·exact yZ (d:=9999) (a:=true) (b:=true) ht rfl rfl (.inl rfl)
    ·cases xo<;>cases yo<;>first | (simp [mr] at hnc;done)| (cases op<;>simp [eqGuard])
   ·cases h
  ·cases hu;cases hv;cases h
   refine⟨fun w=> ?_,fun op w=>by cases op<;>rfl,fun w=>by simp [binOp],fun w=>by simp [binOp]⟩
   exact yZ (d:=9999) (a:=true) (b:=false) ht rfl rfl (.inl rfl)
  ·cases hu;cases hv;cases h
   refine⟨fun w=> ?_,fun op w=>by cases op<;>rfl,fun w=>by simp [binOp],fun w=>by simp [binOp]⟩
   exact yZ (d:=9999) (a:=false) (b:=true) ht rfl rfl (.inr rfl)
  ·cases h
 ·split at h
  ·rename_i fl hfl
   unfold U3 at hfl
   split at hfl
   ·cases hfl
   ·rename_i hgt
    obtain⟨h2,hr⟩:=nU h hu hv
    have heq:∀w,(Op.equal t u v).run P w= .ok r w:=fun w=>by
     obtain⟨r',h1,h3⟩:=lG (D:=9992) 8 t fl hfl u v w h2
     have:r'=r:=by rw [cg,h3,hr]
     rw [←this]
     exact h1
    rcases h2 with⟨_,a,b,rfl,rfl,_⟩| ⟨_,h2⟩
    ·exact⟨heq,fun op w=>run_eqGuard_agg w op t xo yo a b hgt,fun w=>by simp [binOp],fun w=>by simp [binOp]⟩
    ·generalize fl.sc=sc at h2
     cases h2 with | cons c _ _ cs _ _ h2 hs=>
     cases c with
     | b=>
      obtain⟨a,b,rfl,rfl⟩:=h2
      exact⟨heq,fun op w=>by cases op<;>rfl,fun w=>by simp [binOp],fun w=>by simp [binOp]⟩
     | i=>
      obtain⟨k,a,b,rfl,rfl⟩:=h2
      exact absurd ⟨hu.int_back,hv.int_back⟩ (hni _ _ _ _)
     | s=>
      obtain⟨a,b,rfl,rfl⟩:=h2
      exact absurd ⟨hu.str_back,hv.str_back⟩ (hns _ _)
  ·cases h
theorem tJ {op:BinOp} {t:TypeId} {x y:Operand} {k l:IntKind} {a b:Int} {w:World}:(eqGuard op t x y (.int k a) (.int l b)).run P w= .ok () w:=by
 cases op<;>rfl
theorem zw {op:BinOp} {t:TypeId} {x y:Operand} {a b:ByteArray} {w:World}:(eqGuard op t x y (.string a) (.string b)).run P w= .ok () w:=by
 cases op<;>rfl
theorem yq {op:BinOp} {ik:IntKind} {a b:Int} {k:AV->Bool} (hs:ia op=false) (h:jN op ik a b k=true) (t:TypeId):
  ∃v,k v=true/\∀(μ:Mu) (w:World),∃y,(binOp op t (.int ik a) (.int ik b)).run P w= .ok y w/\VR μ v y:=by
 unfold jN at h
 split at h
 all_goals try (simp [ia] at hs;done)
 ·rw [cA,oM] at h;exact⟨_,h,fun μ w=>⟨_,by simp [binOp,Op.intArith],.int _ _⟩⟩
 ·rw [cA,oM] at h;exact⟨_,h,fun μ w=>⟨_,by simp [binOp,Op.intArith],.int _ _⟩⟩
 ·rw [cA,oM] at h;exact⟨_,h,fun μ w=>⟨_,by simp [binOp,Op.intArith],.int _ _⟩⟩
 ·split at h
  ·cases h
  ·rename_i hb
   have hb:¬b=0:=fun e=>by subst e;simp [ieq] at hb
   rw [cA,oM] at h;exact⟨_,h,fun μ w=>⟨_,by simp [binOp,Op.intDiv,hb],.int _ _⟩⟩
 ·split at h
  ·cases h
  ·rename_i hb
   have hb:¬b=0:=fun e=>by subst e;simp [ieq] at hb
   rw [cA] at h;exact⟨_,h,fun μ w=>⟨_,by simp [binOp,Op.intDiv,hb],.int _ _⟩⟩
 ·rw [cW,o5] at h;exact⟨_,h,fun μ w=>⟨_,by simp [binOp,Op.intCmp],.bool _⟩⟩
 ·rw [cW,o5] at h;exact⟨_,h,fun μ w=>⟨_,by simp [binOp,Op.intCmp];rfl,.bool _⟩⟩
 ·rw [cW,jm] at h;exact⟨_,h,fun μ w=>⟨_,by simp [binOp,Op.intCmp],.bool _⟩⟩
 ·rw [cW,jm] at h
  refine⟨_,h,fun μ w=>⟨.bool (decide (a<=b)),by simp [binOp,Op.intCmp], ?_⟩⟩
  rw [show (!decide (b<a))=decide (a<=b) by rw [←decide_not];simp]
  exact .bool _
 ·rw [cW,jm] at h;exact⟨_,h,fun μ w=>⟨_,by simp [binOp,Op.intCmp],.bool _⟩⟩
 ·rw [cW,jm] at h
  refine⟨_,h,fun μ w=>⟨.bool (decide (a≥b)),by simp [binOp,Op.intCmp], ?_⟩⟩
  rw [show (!decide (a<b))=decide (a≥b) by rw [←decide_not];simp]
  exact .bool _
 ·rw [cA] at h;exact⟨_,h,fun μ w=>⟨_,by simp only [binOp,Op.intBits,ne_eq,o9,eE];rfl,.int _ _⟩⟩
 ·rw [cA] at h;exact⟨_,h,fun μ w=>⟨_,by simp only [binOp,Op.intBits,ne_eq,o9,eE];rfl,.int _ _⟩⟩
 ·rw [cA] at h;exact⟨_,h,fun μ w=>⟨_,by simp only [binOp,Op.intBits,ne_eq,o9,eE];rfl,.int _ _⟩⟩
 ·rw [cA] at h;exact⟨_,h,fun μ w=>⟨_,by simp only [binOp,Op.intBits,ne_eq,o9,eE];rfl,.int _ _⟩⟩
 ·cases h
theorem vv {op:BinOp} {ik il:IntKind} {a b:Int} {k:AV->Bool} (h:sB op ik a b k=true) (t:TypeId):
  ∃v,k v=true/\∀(μ:Mu) (w:World),∃y,(binOp op t (.int ik a) (.int il b)).run P w= .ok y w/\VR μ v y:=by
 unfold sB at h
 split at h
 ·cases h
 ·rename_i hb
  rw [jm] at hb
  have hb:¬b<0:=by simpa using hb
  split at h
  ·rw [cA] at h;exact⟨_,h,fun μ w=>⟨_,by simp [binOp,Op.shift,hb],.int _ _⟩⟩
  ·rw [cA] at h;exact⟨_,h,fun μ w=>⟨_,by simp [binOp,Op.shift,hb],.int _ _⟩⟩
  ·cases h
theorem xU {op:BinOp} {a b:List Nat} {k:AV->Bool} (h:tg op a b k=true) (t:TypeId):
  ∃v,k v=true/\∀(μ:Mu) (s s':ByteArray) (w:World),s.data.toList.map UInt8.toNat=a->s'.data.toList.map UInt8.toNat=b->∃y,(binOp op t (.string s) (.string s')).run P w= .ok y w/\VR μ v y:=by
 have heq:∀(s s':ByteArray),s.data.toList.map UInt8.toNat=a->s'.data.toList.map UInt8.toNat=b->mM a b=(s.toList==s'.toList):=by
  intro s s' h1 h2
  rw [oO,cg,bU,beq_iff_eq,js,js,←h1,←h2]
  exact⟨qd,fun h=>by rw [h]⟩
 have hlt:∀(s s':ByteArray),s.data.toList.map UInt8.toNat=a->s'.data.toList.map UInt8.toNat=b->kO a b=Op.bytesLess s.toList s'.toList:=by
  intro s s' h1 h2
  rw [js,js,←h1,←h2,Hd]
 unfold tg at h
 split at h
 ·split at h
  ·rename_i hle
   rw [bH] at h
   refine⟨_,h,fun μ s s' w h1 h2=>⟨.string (s++s'), ?_,.str _ _ ?_⟩⟩
   ·have hl:s.size+s'.size<=1048576:=by
     have:=dK hle
     rw [←h1,←h2] at this
     simp at this
     exact this
    have hno:¬(((s.size+s'.size:Nat):Int)>IntKind.i64.max):=by
     have:IntKind.i64.max=9223372036854775807:=by decide
     rw [this];omega
    simp only [binOp,Op.stringOp,hno,eE,Sem.run_pure]
   ·rw [←h1,←h2];simp
  ·cases h
 ·rw [cW] at h;refine⟨_,h,fun μ s s' w h1 h2=>⟨_,by simp only [binOp,Op.stringOp];rfl,by rw [heq s s' h1 h2];exact .bool _⟩⟩
 ·rw [cW] at h;refine⟨_,h,fun μ s s' w h1 h2=>⟨_,by simp only [binOp,Op.stringOp];rfl,by rw [heq s s' h1 h2];exact .bool _⟩⟩
 ·rw [cW] at h;refine⟨_,h,fun μ s s' w h1 h2=>⟨_,by simp only [binOp,Op.stringOp];rfl,by rw [hlt s s' h1 h2];exact .bool _⟩⟩
 ·rw [cW] at h;refine⟨_,h,fun μ s s' w h1 h2=>⟨_,by simp only [binOp,Op.stringOp];rfl,by rw [hlt s s' h1 h2,heq s s' h1 h2];exact .bool _⟩⟩
 ·rw [cW] at h;refine⟨_,h,fun μ s s' w h1 h2=>⟨_,by simp only [binOp,Op.stringOp];rfl,by rw [hlt s s' h1 h2,heq s s' h1 h2];exact .bool _⟩⟩
 ·rw [cW] at h;refine⟨_,h,fun μ s s' w h1 h2=>⟨_,by simp only [binOp,Op.stringOp];rfl,by rw [hlt s s' h1 h2];exact .bool _⟩⟩
 ·cases h
theorem K2 {op:BinOp} {t:TypeId} {x y:Operand} {b:TypeId} (ho:o.op= .binOp op t x y b) {k:AV->Bool}
  (hk:fP P op t (mr x||mr y) (opd e x) (opd e y) k=true):∃v,iY P o e v/\k v=true:=by
 have hmx:x∈o.op.operands:=by simp [ho,Op.operands]
 have hmy:y∈o.op.operands:=by simp [ho,Op.operands]
 have run:∀(a:Act) (w:World) (u v z:Value),a.eval x=u->a.eval y=v->(eqGuard op t x y u v).run P w= .ok () w->(binOp op t u v).run P w= .ok z w->(execOp a.eval o).run P w= .ok (.value z) w:=by
  intro a w u v z h1 h2 h3 h4
  simp only [execOp,ho,h1,h2,Sem.run_bind,h3,h4,Result.andThen_ok,Sem.run_pure]
 unfold fP at hk
 split at hk
 ·rename_i ik n ik' m hx hy
  split at hk
  ·obtain⟨v,hv,hr⟩:=vv (P:=P) (il:=ik') hk t
   refine⟨v,fun μ a w h=> ?_,hv⟩
   obtain⟨z,hz,hzv⟩:=hr μ w
   exact⟨z,run a w _ _ z (h.at hmx hx).int_inv (h.at hmy hy).int_inv tJ hz,hzv⟩
  ·rename_i hs
   split at hk
   ·rename_i hkk
    have:=pK hkk
    subst this
    obtain⟨v,hv,hr⟩:=yq (P:=P) hs hk t
    refine⟨v,fun μ a w h=> ?_,hv⟩
    obtain⟨z,hz,hzv⟩:=hr μ w
    exact⟨z,run a w _ _ z (h.at hmx hx).int_inv (h.at hmy hy).int_inv tJ hz,hzv⟩
   ·cases hk
 ·rename_i s s' hx hy
  obtain⟨v,hv,hr⟩:=xU (P:=P) hk t
  refine⟨v,fun μ a w h=> ?_,hv⟩
  obtain⟨b1,hb1,hl1⟩:=(h.at hmx hx).str_inv
  obtain⟨b2,hb2,hl2⟩:=(h.at hmy hy).str_inv
  obtain⟨z,hz,hzv⟩:=hr μ b1 b2 w hl1 hl2
  exact⟨z,run a w _ _ z hb1 hb2 zw hz,hzv⟩
 ·rename_i hni hns
  unfold Od at hk
  split at hk
  ·split at hk
   ·rename_i r hr
    rw [cW] at hk
    refine⟨_,fun μ a w h=> ?_,hk⟩
    obtain⟨h1,h2,h3,h4⟩:=xA hr (fun k a l b hh=>hni _ _ _ _ hh.1 hh.2) (fun a b hh=>hns _ _ hh.1 hh.2) (h.mem hmx) (h.mem hmy)
    exact⟨.bool r,run a w _ _ _ rfl rfl (h2 _ _) (by rw [h3,h1];rfl),.bool _⟩
   ·cases hk
  ·split at hk
   ·rename_i r hr
    rw [cW] at hk
    refine⟨_,fun μ a w h=> ?_,hk⟩
    obtain⟨h1,h2,h3,h4⟩:=xA hr (fun k a l b hh=>hni _ _ _ _ hh.1 hh.2) (fun a b hh=>hns _ _ hh.1 hh.2) (h.mem hmx) (h.mem hmy)
    exact⟨.bool (!r),run a w _ _ _ rfl rfl (h2 _ _) (by rw [h4,h1];rfl),.bool _⟩
   ·cases hk
  ·cases hk
end
theorem aQ (x:Operand):eO x= .mk fun e=>opd e x:=by unfold opd;cases eO x;rfl
theorem cj (l:List Operand):wR l= .mk fun e=>l.map (opd e):=by
 induction l with
 | nil=>rfl
 | cons o l ih=>
  show (Box.casesOn (eO o) fun g=>Box.casesOn (wR l) fun r=>Box.mk fun e=>g e::r e:Box (En->List AV))=_
  rw [ih,aQ]
  rfl
theorem bV (l:List (Nat×Operand)):yU l= .mk fun e=>l.map fun p=>(p.1,opd e p.2):=by
 induction l with
 | nil=>rfl
 | cons o l ih=>
  obtain⟨i,o⟩:=o
  show (Box.casesOn (eO o) fun g=>Box.casesOn (yU l) fun r=>Box.mk fun e=>(i,g e)::r e:Box (En->List (Nat×AV)))=_
  rw [ih,aQ]
  rfl
theorem dc (x:Option Operand):Jw x= .mk fun e=>x.map (opd e):=by
 cases x with
 | none=>rfl
 | some x=>
  show (Box.casesOn (eO x) fun g=>Box.mk fun e=>some (g e):Box (En->Option AV))=_
  rw [aQ]
  rfl
section
variable {P : Program} {G : bg} {o : Oper} {e : En}
theorem qa {f:PF} (h:no= .p f):False:=by unfold no at h;cases h
theorem p6 {f:LF} (h:no= .l f):False:=by unfold no at h;cases h
theorem p9 {f:AF} (h:no= .a f):False:=by unfold no at h;cases h
theorem Vi {c:Call} (ho:o.op= .call c) (hc:c.callee= .builtin .unsafeSliceData) {k:AV->Bool} (hk:one1 (c.args.toList.map (opd e)) (fun x=>SK x k)=true):∃v,iY P o e v/\k v=true:=by
 unfold one1 at hk
 split at hk<;>first | (unfold SK at hk;cases hk)| cases hk
theorem Gq {f:PF} (h:opC P G o= .p f) {k:AV->Bool} (hk:f e k=true):∃v,iY P o e v/\k v=true:=by
 unfold opC at h
 split at h<;>rename_i ho
 ·simp only [aQ,dc,cj,bV] at h;cases h;exact⟨_,R2 ho,hk⟩
 ·simp only [aQ,dc,cj,bV] at h;cases h;exact⟨_,G1 ho,hk⟩
 ·simp only [aQ,dc,cj,bV] at h;cases h;exact S3 ho hk
 ·split at h
  ·cases h
  ·exact (qa h).elim
 ·simp only [aQ,dc,cj,bV] at h;cases h
 ·simp only [aQ,dc,cj,bV] at h;cases h;exact JE ho hk
 ·simp only [aQ,dc,cj,bV] at h;cases h
 ·simp only [aQ,dc,cj,bV] at h;cases h
 ·simp only [aQ,dc,cj,bV] at h;cases h
 ·simp only [aQ,dc,cj,bV] at h;cases h;exact Bs ho hk
 ·simp only [aQ,dc,cj,bV] at h;cases h;exact K2 ho hk
 ·simp only [aQ,dc,cj,bV] at h;cases h;exact R0 ho hk
 ·simp only [aQ,dc,cj,bV] at h
  split at h
  ·cases h
  ·cases h;exact Em ho hk
 ·simp only [aQ,dc,cj,bV] at h
  split at h
  ·exact (qa h).elim
  ·rename_i ht
   cases h;exact⟨_,tZ ho ht,hk⟩
 ·simp only [aQ,dc,cj,bV] at h;cases h;exact⟨_,Bb ho,hk⟩
 ·cases h
 ·split at h
  ·split at h
   ·simp only [aQ,dc,cj,bV] at h;cases h
   ·exact (qa h).elim
  ·exact (qa h).elim
 ·simp only [aQ,dc,cj,bV] at h;cases h
 ·split at h
  ·rename_i fs hu
   split at h
   ·rename_i fl hf
    split at h
    ·exact (qa h).elim
    ·rename_i hne
     simp only [aQ,dc,cj,bV] at h;cases h;exact D0 ho hu hf hne hk
   ·exact (qa h).elim
  ·exact (qa h).elim
 ·split at h
  ·rename_i fs hu
   split at h
   ·rename_i fl hf
    simp only [aQ,dc,cj,bV] at h;cases h;exact JR ho hu hf hk
   ·exact (qa h).elim
  ·exact (qa h).elim
 ·simp only [aQ,dc,cj,bV] at h;cases h;exact zj ho hk
 ·simp only [aQ,dc,cj,bV] at h;cases h;exact Km ho hk
 ·simp only [aQ,dc,cj,bV] at h;cases h
 ·simp only [aQ,dc,cj,bV] at h;cases h
 ·simp only [aQ,dc,cj,bV] at h;cases h
 ·simp only [aQ,dc,cj,bV] at h;cases h
 ·simp only [aQ,dc,cj,bV] at h;cases h
 ·simp only [aQ,dc,cj,bV] at h;cases h
 ·simp only [aQ,dc,cj,bV] at h;cases h
 ·simp only [aQ,dc,cj,bV] at h;cases h
 ·simp only [aQ,dc,cj,bV] at h;cases h
 ·simp only [aQ,dc,cj,bV] at h;cases h;exact yR ho hk
 ·simp only [aQ,dc,cj,bV] at h;cases h;exact EW ho hk
 ·rename_i c
  unfold zG at h
  simp only [aQ,dc,cj,bV] at h
  split at h
  ·rename_i b hc
   unfold pi at h
   split at h
   ·split at h
    ·cases h
    ·exact (qa h).elim
   ·split at h
    ·cases h
    ·exact (qa h).elim
   ·split at h
    ·cases h
    ·exact (qa h).elim
   ·split at h
    ·cases h
    ·exact (qa h).elim
   ·cases h;exact Vi ho hc hk
   ·split at h
    ·cases h
    ·exact (qa h).elim
   ·cases h;exact zD (mx:=false) ho hc hk
   ·cases h;exact zD (mx:=true) ho hc hk
   ·exact (qa h).elim
  ·cases h
  ·cases h
 ·simp only [aQ,dc,cj,bV] at h;cases h
 ·exact (qa h).elim
end
theorem iU {P:Program} {w:World} {r:Nat} {o:Obj} (h:w.heap[r]? =some o) (hn:∀a b c,o≠ .cells a b c):(getObj r).run P w= .ok o w:=by
 unfold getObj
 simp only [Sem.run,h]
def qh (P:Program) (G:bg) (o:Oper) (e:En) (H:Hp) (v:AV):Prop:=
 ∀(μ:Mu) (a:Act) (w:World),mF μ e a o->HRg G μ H w->∃x,(execOp a.eval o).run P w= .ok (.value x) w/\VR μ v x
section
variable {P : Program} {G : bg} {o : Oper} {e : En} {H : Hp}
theorem VR.ptr_inv {μ:Mu} {b off:Nat} {x:Value} (h:VR μ (.ptr b off) x):∃p,μ b=some p/\x= .pointer (some ⟨p.blk,p.base+off,none⟩):=by
 cases h with | ptr _ _ p h=>exact⟨p,h,rfl⟩
theorem QY {t:TypeId} {x:Operand} (ho:o.op= .load t x) {k:AV->Bool} (hk:mw P G H t (opd e x) k=true):∃v,qh P G o e H v/\k v=true:=by
 have hmx:x∈o.op.operands:=by simp [ho,Op.operands]
 unfold mw at hk
 split at hk
 ·rename_i b off hx
  split at hk
  ·rename_i _ ro cs hb
   obtain⟨v,hp,hk⟩:=iD hk
   refine⟨v,fun μ a w h hr=> ?_,hk⟩
   obtain⟨p,hp1,hxa⟩:=(h.at hmx hx).ptr_inv
   obtain⟨arr,el,fz,h1,h2,h3,h4,h5⟩:=hr.at hb hp1
   obtain⟨y,hy,hyv⟩:=lN (P:=P) (t:=t) h1 h5 hp
   exact⟨y,by simp [execOp,ho,hxa,Instr.loadAt,Instr.sureAddr,hy,Result.andThen],hyv⟩
  ·cases hk
 ·rename_i g off hx
  split at hk
  ·rename_i cs hG
   obtain⟨v,hp,hk⟩:=iD hk
   refine⟨v,fun μ a w h hr=> ?_,hk⟩
   have h1:=h.at hmx hx
   generalize hxa:a.eval x=xv at h1
   cases h1
   obtain⟨arr,el,fz,h1,hsz,h5⟩:=hr.glob g cs hG
   obtain⟨y,hy,hyv⟩:=lN (P:=P) (t:=t) (base:=0) h1 (by simpa using h5) hp
   rw [ca] at hy
   exact⟨y,by simp [execOp,ho,hxa,Instr.loadAt,Instr.sureAddr,hy,Result.andThen],hyv⟩
  ·cases hk
 ·rename_i cs off hx
  obtain⟨v,hp,hk⟩:=iD hk
  refine⟨v,fun μ a w h hr=> ?_,hk⟩
  have h1:=h.at hmx hx
  generalize hxa:a.eval x=xv at h1
  cases h1 with
  | dat _ _ L hm hd=>
  cases hd with
  | ptr _ _ p arr el fz xs L g ht hl hf hx' hs=>
  have hvs:=lx hs
  obtain⟨y,hy,hyv⟩:=lN (P:=P) (t:=t) (base:=p.base) (hr.froz _ _ g) (fun i c hc=>by
   obtain⟨z,hz,hzv⟩:=hvs.get i hc
   exact⟨z,hx' i z hz,hzv⟩) hp
  exact⟨y,by simp [execOp,ho,hxa,Instr.loadAt,Instr.sureAddr,hy,Result.andThen],hyv⟩
 ·cases hk
open Classical in
noncomputable def ny (u:Value):List MapEntry->Nat->Option (Nat×Value)
 | [],_=>none
 | e::es,i=>if u=e.key then some (i,e.val) else ny u es (i+1)
inductive iH (μ:Mu):List (AV×AV×Nat)->List MapEntry->Prop where
 | nil:iH μ [] []
 | cons (y v s x es xs) (hk:VR μ y x.key) (hv:VR μ v x.val) (hb:x.born=s) (h:iH μ es xs):iH μ ((y,v,s)::es) (x::xs)
theorem vo {μ:Mu} {es:List (AV×AV×Nat)} {xs:List MapEntry} (hl:xs.length=es.length)
  (h:∀(i:Nat) (y:AV) (v:AV) (s:Nat),es[i]? =some (y,v,s)->∃x:MapEntry,xs[i]? =some x/\VR μ y x.key/\VR μ v x.val/\x.born=s):iH μ es xs:=by
 induction es generalizing xs with
 | nil=>cases xs with
  | nil=>exact .nil
  | cons=>simp at hl
 | cons e es ih=>cases xs with
  | nil=>simp at hl
  | cons x xs=>
   obtain⟨y,v,s⟩:=e
   obtain⟨z,hz,h1,h2,h3⟩:=h 0 y v s (by simp)
   simp at hz
   subst hz
   exact .cons _ _ _ _ _ _ h1 h2 h3 (ih (by simpa using hl) fun i y v s hs=>by simpa using h (i+1) y v s (by simpa using hs))
theorem iH.len {μ:Mu} {es:List (AV×AV×Nat)} {xs:List MapEntry} (h:iH μ es xs):xs.length=es.length:=by
 induction h with
 | nil=>rfl
 | cons _ _ _ _ _ _ _ _ _ _ ih=>simp [ih]
theorem iH.get {μ:Mu} {es:List (AV×AV×Nat)} {xs:List MapEntry} (h:iH μ es xs) (i:Nat) (y v:AV) (s:Nat) (hs:es[i]? =some (y,v,s)):
  ∃x:MapEntry,xs[i]? =some x/\VR μ y x.key/\VR μ v x.val/\x.born=s:=by
 induction h generalizing i with
 | nil=>simp at hs
 | cons y' v' s' x es xs hk hv hb h ih=>
  cases i with
  | zero=>simp at hs;obtain⟨rfl,rfl,rfl⟩:=hs;exact⟨x,by simp,hk,hv,hb⟩
  | succ i=>simp at hs;simpa using ih i hs
theorem vy {d:TypeDesc} {u v:Value} {b:Bool} (h:Instr.sameNow d u v=some b):(b=true↔u=v):=by
 unfold Instr.sameNow at h
 split at h
 ·split at h
  ·rename_i hk;subst hk;simp at h;subst h;simp
  ·cases h
 ·simp at h;subst h
  rename_i a b
  constructor
  ·intro h
   have:a=b:=by
    rw [beq_toListBytes] at h
    simp [js] at h
    exact ByteArray.ext h
   rw [this]
  ·intro h
   injection h with h
   rw [h,beq_toListBytes]
   simp
 ·simp at h;subst h;simp
 ·cases h
theorem yw {d:TypeDesc} {u:Value} {L:List MapEntry} {i:Nat} {q:Option (Nat×Value)} (h:Instr.findNow d u L i=some q):q=ny u L i:=by
 induction L generalizing i with
 | nil=>simp [Instr.findNow] at h;simp [ny,h]
 | cons e L ih=>
  simp only [Instr.findNow] at h
  split at h
  ·rename_i hs
   have:=(vy hs).1 rfl
   simp at h
   simp [ny,this,h]
  ·rename_i hs
   have:¬u=e.key:=fun hu=>by have:=(vy hs).2 hu;cases this
   simp only [ny,this,eE]
   exact ih h
  ·cases h
theorem uj {kt:TypeId} {fl:Fl} (hf:flat P 8 kt=some fl) {μ:Mu} {i:AV} {u:Value} (hu:VR μ i u) (w:World):
  ∀{es:List (AV×AV×Nat)} {L:List MapEntry} (n:Nat) {r:Option (Nat×AV)},iH μ es L->findKey fl i es n=some r->(Instr.findAsking kt u L n).run P w= .ok (ny u L n) w:=by
 intro es L n r h
 induction h generalizing n with
 | nil=>intro _;simp [Instr.findAsking,ny]
 | cons y v s x es xs hk hv hb h ih=>
  intro hq
  simp only [findKey] at hq
  have step:∀b,CB fl i y=some b->(Op.equal kt u x.key).run P w= .ok b w/\(b=true↔u=x.key):=fun b hb=>by
   obtain⟨h2,hr⟩:=nU hb hu hk
   obtain⟨r',h1,h3⟩:=lG (D:=9992) 8 kt fl hf u x.key w h2
   have:r'=b:=by rw [cg,h3,hr]
   exact⟨by rw [←this];exact h1,hr⟩
  split at hq
  ·rename_i hb
   obtain⟨h1,h2⟩:=step _ hb
   have hux:=h2.1 rfl
   simp only [Instr.findAsking,Sem.run_bind,h1,Result.andThen_ok,gh,Sem.run_pure,ny,if_pos hux]
  ·rename_i hb
   obtain⟨h1,h2⟩:=step _ hb
   have hne:¬u=x.key:=fun hu=>by have:=h2.2 hu;cases this
   simp only [Instr.findAsking,Sem.run_bind,h1,Result.andThen_ok,dI,eE,ny,hne]
   exact ih (n+1) hq
  ·cases hq
theorem lm {fl:Fl} {μ:Mu} {i:AV} {u:Value} (hu:VR μ i u):
  ∀{es:List (AV×AV×Nat)} {L:List MapEntry} (n:Nat) {r:Option (Nat×AV)},iH μ es L->findKey fl i es n=some r->
   (r=none/\ny u L n=none)∨(∃j v x,r=some (n+j,v)/\ny u L n=some (n+j,x)/\VR μ v x/\∃z:MapEntry,L[j]? =some z/\z.key=u/\z.val=x/\∃y s,es[j]? =some (y,v,s)):=by
 intro es L n r h
 induction h generalizing n with
 | nil=>intro hq;simp [findKey] at hq;exact .inl ⟨hq.symm,rfl⟩
 | cons y v s x es xs hk hv hb h ih=>
  intro hq
  simp only [findKey] at hq
  split at hq
  ·rename_i hb
   obtain⟨h2,hr⟩:=nU hb hu hk
   have:=hr.1 rfl
   simp at hq
   subst hq
   refine .inr ⟨0,v,x.val,rfl,by simp [ny,this],hv,x,by simp,this.symm,rfl,y,s,by simp⟩
  ·rename_i hb
   obtain⟨h2,hr⟩:=nU hb hu hk
   have hne:¬u=x.key:=fun hu=>by have:=hr.2 hu;cases this
   rcases ih (n+1) hq with⟨h3,h4⟩| ⟨j,v',x',h3,h4,h5,z,h6,h7,h8,y',s',h9⟩
   ·exact .inl ⟨h3,by simp [ny,hne,h4]⟩
   ·refine .inr ⟨j+1,v',x',by rw [h3];congr 2;omega, ?_,h5,z,by simpa using h6,h7,h8,y',s',by simpa using h9⟩
    simp only [ny,hne,eE,h4]
    congr 2;omega
  ·cases hq
theorem sN {kt:TypeId} {fl:Fl} (hf:flat P 8 kt=some fl) {μ:Mu} {i:AV} {u:Value} (hu:VR μ i u) (w:World)
  {es:List (AV×AV×Nat)} {L:List MapEntry} {r:Option (Nat×AV)} (h:iH μ es L) (hq:findKey fl i es 0=some r):(Instr.findKey kt u L).run P w= .ok (ny u L 0) w:=by
 have hund:∃d,P.underlying kt=some d:=qM (uF hf).1
 obtain⟨d,hd⟩:=hund
 unfold Instr.findKey
 simp only [Sem.run_bind,bO hd,Result.andThen_ok]
 split
 ·rename_i q hq'
  rw [Sem.run_pure,yw hq']
 ·exact uj hf hu w 0 h hq
theorem oZ {t:TypeId} {mt:MT} (h:iI P t=some mt):∃kt,P.underlying t=some (.map kt mt.elem)/\flat P 8 kt=some mt.fl:=by
 unfold iI at h
 split at h
 ·rename_i kt el hu
  split at h
  ·rename_i fl hf;cases h;exact⟨kt,hu,hf⟩
  ·cases h
 ·cases h
theorem nu {mt:MT} {es:List (AV×AV×Nat)} {i:AV} {r:Option (Nat×AV)} (h:ox mt es i=some r):zF mt.fl i=true/\findKey mt.fl i es 0=some r:=by
 unfold ox at h
 split at h
 ·rename_i hf;exact⟨hf,h⟩
 ·cases h
theorem qz {kt:TypeId} {fl:Fl} (hf:flat P 8 kt=some fl) {μ:Mu} {i:AV} {u:Value} (hi:zF fl i=true) (hu:VR μ i u) (emp:Bool) (w:World):
  (Instr.checkKey emp 10000 kt u).run P w= .ok () w:=ni (emp:=emp) (D:=9992) 8 kt fl hf u w (zO hi hu)
theorem ow {t kt:TypeId} {mt:MT} {i:AV} {ok:Bool} {es:List (AV×AV×Nat)} {k:AV->Bool} (hu:P.underlying t=some (.map kt mt.elem)) (hf:flat P 8 kt=some mt.fl)
  (hk:iG P es mt i ok k=true):
  ∃v,k v=true/\∀(μ:Mu) (L:Array MapEntry) (w:World) (m u:Value),iH μ es L.toList->VR μ i u->
   ((m= .map none/\L=#[])∨∃r cl,m= .map (some r)/\w.heap[r]? =some (.map L cl))->∃x,(Instr.lookup t m u ok).run P w= .ok x w/\VR μ v x:=by
 unfold iG at hk
 have run:∀(μ:Mu) (L:Array MapEntry) (w:World) (m u:Value) (r:Option (Nat×AV)),ox mt es i=some r->iH μ es L.toList->VR μ i u->
   ((m= .map none/\L=#[])∨∃r cl,m= .map (some r)/\w.heap[r]? =some (.map L cl))->
   (Instr.lookup t m u ok).run P w=((match ny u L.toList 0 with
    | some (_,v)=>pure (v,true)
    | none=>(do pure (←zeroValue mt.elem,false)):Sem (Value×Bool)).run P w).andThen fun p w'=>.ok (if ok then .tuple #[p.1,.bool p.2] else p.1) w':=by
  intro μ L w m u r hkey hes hu' hm
  obtain⟨h1,h2⟩:=nu hkey
  have hck:=qz hf h1 hu'
  have hfk:=sN hf hu' w hes h2
  rcases hm with⟨rfl,rfl⟩| ⟨r,cl,rfl,hr⟩
  ·simp only [Instr.lookup,Sem.run_bind,bO hu,Result.andThen_ok,Sem.run_pure,hck,hfk]
   cases ny u (#[]:Array MapEntry).toList 0 with
   | some=>simp
   | none=>simp;cases (zeroValue mt.elem).run P w<;>rfl
  ·simp only [Instr.lookup,Sem.run_bind,bO hu,Result.andThen_ok,Sem.run_pure,hck,hfk,iU hr (by simp)]
   cases ny u L.toList 0 with
   | some=>simp
   | none=>simp;cases (zeroValue mt.elem).run P w<;>rfl
 split at hk
 ·rename_i j v hkey
  have hres:∀(μ:Mu) (L:Array MapEntry) (u:Value),iH μ es L.toList->VR μ i u->∃x n,ny u L.toList 0=some (n,x)/\VR μ v x:=by
   intro μ L u hes hu'
   rcases lm hu' 0 hes (nu hkey).2 with⟨h,_⟩| ⟨j',v',x,h1,h2,h3,_⟩
   ·cases h
   ·injection h1 with h1
    injection h1 with _ h1
    exact⟨x,_,h2,h1▸h3⟩
  split at hk
  ·refine⟨_,hk,fun μ L w m u hes hu' hm=> ?_⟩
   obtain⟨x,n,hs,hx⟩:=hres μ L u hes hu'
   refine⟨.tuple #[x,.bool true], ?_,.tup _ _ (.cons _ _ _ _ hx (.cons _ _ _ _ (.bool _) .nil))⟩
   rw [run μ L w m u _ hkey hes hu' hm,hs]
   simp
  ·refine⟨_,hk,fun μ L w m u hes hu' hm=> ?_⟩
   obtain⟨x,n,hs,hx⟩:=hres μ L u hes hu'
   refine⟨x, ?_,hx⟩
   rw [run μ L w m u _ hkey hes hu' hm,hs]
   simp
 ·rename_i hkey
  have hres:∀(μ:Mu) (L:Array MapEntry) (u:Value),iH μ es L.toList->VR μ i u->ny u L.toList 0=none:=by
   intro μ L u hes hu'
   rcases lm hu' 0 hes (nu hkey).2 with⟨_,h⟩| ⟨j',v',x,h1,_⟩
   ·exact h
   ·cases h1
  split at hk
  ·rename_i z hz
   split at hk
   ·refine⟨_,hk,fun μ L w m u hes hu' hm=> ?_⟩
    obtain⟨zv,hzr,hzv⟩:=y7 (w:=w) hz μ
    refine⟨.tuple #[zv,.bool false], ?_,.tup _ _ (.cons _ _ _ _ hzv (.cons _ _ _ _ (.bool _) .nil))⟩
    rw [run μ L w m u _ hkey hes hu' hm,hres μ L u hes hu']
    simp [hzr,Result.andThen]
   ·refine⟨_,hk,fun μ L w m u hes hu' hm=> ?_⟩
    obtain⟨zv,hzr,hzv⟩:=y7 (w:=w) hz μ
    refine⟨zv, ?_,hzv⟩
    rw [run μ L w m u _ hkey hes hu' hm,hres μ L u hes hu']
    simp [hzr,Result.andThen]
  ·cases hk
 ·cases hk
theorem ix {μ:Mu} {p:Pl} {ro:Bool} {es:List (AV×AV×Nat)} {cl:Nat} {ob:Option Obj} (h:BR μ p (.map ro es cl) ob):
  ∃ents:Array MapEntry,ob=some (.map ents cl)/\iH μ es ents.toList:=by
 obtain⟨ents,h1,h2,h3⟩:=h
 exact⟨ents,h1,vo (by simpa using h2) (by simpa using h3)⟩
theorem II {t:TypeId} {m i:Operand} {ok:Bool} (ho:o.op= .lookup t m i ok) {k:AV->Bool} (hk:jf P H t (opd e m) (opd e i) ok k=true):∃v,qh P G o e H v/\k v=true:=by
 have hmm:m∈o.op.operands:=by simp [ho,Op.operands]
 have hmi:i∈o.op.operands:=by simp [ho,Op.operands]
 unfold jf at hk
 split at hk
 ·rename_i mt hmt hm
  obtain⟨kt,hu,hf⟩:=oZ hmt
  obtain⟨v,hv,hr⟩:=ow hu hf hk
  refine⟨v,fun μ a w h hh=> ?_,hv⟩
  have h1:=h.at hmm hm
  generalize hma:a.eval m=mv at h1
  cases h1
  obtain⟨x,hx,hxv⟩:=hr μ #[] w (.map none) (a.eval i) .nil (h.mem hmi) (.inl ⟨rfl,rfl⟩)
  exact⟨x,by simp [execOp,ho,hma,hx,Result.andThen],hxv⟩
 ·rename_i mt b hmt hm
  obtain⟨kt,hu,hf⟩:=oZ hmt
  split at hk
  ·rename_i ro es cl hb
   obtain⟨v,hv,hr⟩:=ow hu hf hk
   refine⟨v,fun μ a w h hh=> ?_,hv⟩
   have h1:=h.at hmm hm
   generalize hma:a.eval m=mv at h1
   cases h1 with
   | map _ p hp=>
    obtain⟨ents,h2,h3⟩:=ix (hh.at hb hp)
    obtain⟨x,hx,hxv⟩:=hr μ ents w _ (a.eval i) h3 (h.mem hmi) (.inr ⟨p.blk,cl,rfl,h2⟩)
    exact⟨x,by simp [execOp,ho,hma,hx,Result.andThen],hxv⟩
  ·cases hk
 ·cases hk
theorem za (n:Nat):goInt n= .int .i64 (.ofNat n):=rfl
theorem rM {s:ByteArray} {l:List Nat} (h:s.data.toList.map UInt8.toNat=l):s.size=l.length:=by
 subst h;simp
theorem VRs.one {μ:Mu} {x:AV} {us:List Value} (h:VRs μ [x] us):∃u,us=[u]/\VR μ x u:=by
 cases h with | cons _ u _ us hu hs=>cases hs;exact⟨u,rfl,hu⟩
theorem VRs.two {μ:Mu} {x y:AV} {us:List Value} (h:VRs μ [x,y] us):∃u v,us=[u,v]/\VR μ x u/\VR μ y v:=by
 cases h with | cons _ u _ us hu hs=>obtain⟨v,rfl,hv⟩:=hs.one;exact⟨u,v,rfl,hu,hv⟩
theorem Vp {c:Call} {t:TypeId} {x:AV} (ho:o.op= .call c) (hc:c.callee= .builtin .len) (ht:c.argTypes.toList=[t]) (hx:c.args.toList.map (opd e)=[x]) {k:AV->Bool}
  (hk:kJ P t x H k=true):∃v,qh P G o e H v/\k v=true:=by
 have hargs:∀(μ:Mu) (a:Act),mF μ e a o->∃u,c.args.map a.eval=#[u]/\VR μ x u:=by
  intro μ a h
  have hvs:VRs μ (c.args.toList.map (opd e)) (c.args.toList.map a.eval):=kD fun y hy=>h.mem (by
   simp only [ho,Op.operands,Call.operands]
   simp
   exact .inr (by simpa using hy))
  rw [hx] at hvs
  generalize has:c.args.toList.map a.eval=as at hvs
  obtain⟨u,rfl,hu⟩:=hvs.one
  refine⟨u, ?_,hu⟩
  rw [←iv]
  simpa using has
 have hts:c.argTypes=#[t]:=by rw [←iv];simpa using ht
 have run:∀(a:Act) (w:World) (u v:Value),c.args.map a.eval=#[u]->(Builtin.len_ #[t] o.type #[u]).run P w= .ok v w->(execOp a.eval o).run P w= .ok (.value v) w:=by
  intro a w u v h1 h2
  simp [execOp,ho,resolve,hc,invoke,builtin,h1,hts,h2,Result.andThen]
 unfold kJ at hk
 split at hk
 ·rename_i s hu
  rw [bA] at hk
  refine⟨_,fun μ a w h hh=> ?_,hk⟩
  obtain⟨u,hu1,hu2⟩:=hargs μ a h
  obtain⟨bs,rfl,hl⟩:=hu2.str_inv
  refine⟨_,run a w _ _ hu1 (by simp [Builtin.len_,bO hu,Result.andThen];rfl), ?_⟩
  rw [za,rM hl]
  exact .int _ _
 ·rename_i n el hu
  refine⟨_,fun μ a w h hh=> ?_,hk⟩
  obtain⟨u,hu1,hu2⟩:=hargs μ a h
  exact⟨_,run a w _ _ hu1 (by simp [Builtin.len_,bO hu,Result.andThen];rfl),.int _ _⟩
 ·rename_i el b off n sz c' hu
  refine⟨_,fun μ a w h hh=> ?_,hk⟩
  obtain⟨u,hu1,hu2⟩:=hargs μ a h
  cases hu2
  exact⟨_,run a w _ _ hu1 (by simp [Builtin.len_,bO hu,Result.andThen];rfl),.int _ _⟩
 ·rename_i el hu
  refine⟨_,fun μ a w h hh=> ?_,hk⟩
  obtain⟨u,hu1,hu2⟩:=hargs μ a h
  cases hu2
  exact⟨_,run a w _ _ hu1 (by simp [Builtin.len_,bO hu,Result.andThen];rfl),.int _ _⟩
 ·rename_i el _ _ n hu
  refine⟨_,fun μ a w h hh=> ?_,hk⟩
  obtain⟨u,hu1,hu2⟩:=hargs μ a h
  cases hu2 with
  | dat _ _ L hm hd=>
  cases hd
  exact⟨_,run a w _ _ hu1 (by simp [Builtin.len_,bO hu,Result.andThen];rfl),.int _ _⟩
 ·rename_i kt el hu
  refine⟨_,fun μ a w h hh=> ?_,hk⟩
  obtain⟨u,hu1,hu2⟩:=hargs μ a h
  cases hu2
  exact⟨_,run a w _ _ hu1 (by simp [Builtin.len_,bO hu,Result.andThen];rfl),.int _ _⟩
 ·rename_i kt el b hu
  split at hk
  ·rename_i ro es cl hb
   rw [bA] at hk
   refine⟨_,fun μ a w h hh=> ?_,hk⟩
   obtain⟨u,hu1,hu2⟩:=hargs μ a h
   cases hu2 with
   | map _ p hp=>
    obtain⟨ents,h2,h3⟩:=ix (hh.at hb hp)
    refine⟨_,run a w _ _ hu1 (by simp [Builtin.len_,bO hu,Result.andThen,iU h2 (by simp)];rfl), ?_⟩
    rw [za,←h3.len]
    exact .int _ _
  ·cases hk
 ·cases hk
theorem un {μ:Mu} {s:Nat} {es:List (AV×AV×Nat)} {L:List MapEntry} (h:iH μ es L) {n j:Nat} (hj:j0 s es n=some j):
  ∃i,j=n+i/\L.findIdx? (fun e=>e.born==s)=some i/\∃x:MapEntry,L[i]? =some x/\L.find? (fun e=>e.born==s)=some x:=by
 induction h generalizing n with
 | nil=>simp [j0] at hj
 | cons y v z x es xs hk hv hb h ih=>
  simp only [j0] at hj
  split at hj
  ·rename_i hz
   have hz:=cw hz
   simp at hj
   refine⟨0,by omega, ?_,x,by simp, ?_⟩
   ·simp [List.findIdx?_cons,hb,hz]
   ·simp [hb,hz]
  ·rename_i hz
   have hz:¬z=s:=fun e=>by subst e;simp [bW] at hz
   obtain⟨i,h1,h2,x',h3,h4⟩:=ih hj
   refine⟨i+1,by omega, ?_,x',by simpa using h3, ?_⟩
   ·simp [List.findIdx?_cons,hb,hz,h2]
   ·simp [hb,hz,h4]
theorem LL {x:Operand} (ho:o.op= .entry x) {k:AV->Bool} (hk:sI H (opd e x) k=true):∃v,qh P G o e H v/\k v=true:=by
 have hmx:x∈o.op.operands:=by simp [ho,Op.operands]
 unfold sI at hk
 split at hk
 ·rename_i b hx
  split at hk
  ·rename_i m since s rest stepped hb
   split at hk
   ·rename_i ro es cl hm
    split at hk
    ·rename_i j hcl hfs
     split at hk
     ·rename_i y v z hj
      refine⟨_,fun μ a w h hh=> ?_,hk⟩
      obtain⟨p,hp1,hxa⟩:=(h.at hmx hx).ptr_inv
      obtain⟨h0,arr,q,hq,h2,h3⟩:=hh.at hb hp1
      obtain⟨ents,h4,h5⟩:=ix (hh.at hm hq)
      have hcl:=cw hcl
      obtain⟨i,hi1,hi2,x',hi3,hi4⟩:=un h5 hfs
      have hji:j=i:=by omega
      subst hji
      obtain⟨x'',h6,h7,h8,h9⟩:=h5.get j y v z hj
      rw [hi3] at h6
      cases h6
      have hback:arr.back? =some s:=by
       have:arr.toList.getLast? =some s:=by
        rw [←List.head?_reverse,h3]
        rfl
       simpa [Array.getLast?_toList] using this
      refine⟨.tuple #[x'.key,x'.val], ?_,.tup _ _ (.cons _ _ _ _ h7 (.cons _ _ _ _ h8 .nil))⟩
      have h10:ents.find? (fun e=>e.born==s)=some x':=by
       rw [←Array.find?_toList];exact hi4
      simp only [execOp,ho,hxa,h0,ca,Instr.entry,Sem.run_bind,iU h2 (by simp),iU h4 (by simp),Result.andThen_ok,hback,hcl,h10]
      simp [Result.andThen]
     ·cases hk
    ·cases hk
   ·cases hk
  ·cases hk
 ·cases hk
end
section
variable {P : Program} {G : bg} {o : Oper} {e : En} {H : Hp}
theorem pO {μ:Mu} {v:AV} {n:Nat} {x:Value} (h:mP v=some n) (hx:VR μ v x):∃k,x= .int k (.ofNat n):=by
 unfold mP at h
 split at h
 ·cases h;cases hx;exact⟨_,rfl⟩
 ·cases h
theorem sa {k:IntKind} {n y:Nat} {code:BoundsCode} {w:World} (h:n<=y):(Instr.sliceBound (.int k (.ofNat n)) y code).run P w= .ok n w:=by
 unfold Instr.sliceBound
 have h':(0:Int)<=Int.ofNat n/\Int.ofNat n<=(y:Int):=by simp;exact h
 simp only [asIntOf,Sem.run_bind,Sem.run_pure,Result.andThen_ok,if_pos h']
 rfl
def KD (lo:Option Value) (d n:Nat):Prop:=(lo=none/\n=d)∨∃k,lo=some (.int k (.ofNat n))
theorem dY {μ:Mu} {x:Option Operand} {a:Act} {d n:Nat} (h:gz d (x.map (opd e))=some n) (hx:∀y,x=some y->VR μ (opd e y) (a.eval y)):KD (x.map a.eval) d n:=by
 cases x with
 | none=>simp [gz] at h;exact .inl ⟨rfl,h.symm⟩
 | some x=>
  obtain⟨k,hk⟩:=pO h (hx x rfl)
  exact .inr ⟨k,by simp [hk]⟩
theorem mo {isS:Bool} {len cap l h:Nat} {lo hi:Option Value} {w:World} (hl:KD lo 0 l) (hh:KD hi len h) (h1:l<=h) (h2:h<=cap):
  (Instr.sliceBounds isS len cap lo hi none).run P w= .ok (l,h,cap) w:=by
 unfold Instr.sliceBounds
 rcases hl with⟨rfl,rfl⟩| ⟨kl,rfl⟩<;>rcases hh with⟨rfl,rfl⟩| ⟨kh,rfl⟩<;>
  simp only [Sem.run_bind,Sem.run_pure,Result.andThen_ok,sa h1,sa h2]
theorem xJ {isS:Bool} {len cap l h m:Nat} {lo:Option Value} {kh km:IntKind} {w:World} (hl:KD lo 0 l) (h1:l<=h) (h2:h<=m) (h3:m<=cap):
  (Instr.sliceBounds isS len cap lo (some (.int kh (.ofNat h))) (some (.int km (.ofNat m)))).run P w= .ok (l,h,m) w:=by
 unfold Instr.sliceBounds
 rcases hl with⟨rfl,rfl⟩| ⟨kl,rfl⟩<;>
  simp only [Sem.run_bind,Sem.run_pure,Result.andThen_ok,sa h1,sa h2,sa h3]
theorem fN {t el:TypeId} (h:bS P t=some el):P.underlying t=some (.slice el)/\(P.info? el).isSome=true:=by
 unfold bS at h
 split at h
 ·rename_i e' hu
  split at h
  ·rename_i i hi;cases h;exact⟨hu,by simp [hi]⟩
  ·cases h
 ·cases h
theorem rC (s:ByteArray) (l h:Nat):(s.extract l h).data.toList=(s.data.toList.drop l).take (h - l):=by
 have:(s.extract l h).data=s.data.extract l h:=by simp
 rw [this,Array.toList_extract,List.extract_eq_take_drop]
theorem pz {μ:Mu} {sz b off len:Nat} {c:Option Nat} {h cap:Nat} {p:Pl} {w:World} (hh:HRg G μ H w) (hp:μ b=some p) (hl:len<=cap) (hc:∀n,c=some n->cap=n)
  (hn:c=none->off+cap * sz=p.tot) (h1:oy H sz b off len c h=true):h<=cap:=by
 unfold oy at h1
 split at h1
 ·rename_i hle
  have:=dK hle
  omega
 ·split at h1
  ·rename_i c'
   have:=hc c' rfl
   have:=dK h1
   omega
  ·split at h1
   ·rename_i sz' _ ro cs hb
    obtain⟨arr,el,fz,h2,h3,h4,_,_⟩:=hh.at hb hp
    have h5:=dK h1
    have h6:off+cap * (sz'+1)=p.tot:=hn rfl
    have h7:h * (sz'+1)<=cap * (sz'+1):=by omega
    exact Nat.le_of_mul_le_mul_right h7 (Nat.succ_pos _)
   ·cases h1
theorem jy {l m sz:Nat} (h:l<=m):l * sz+(m - l) * sz=m * sz:=by
 rw [←jF];congr 1;omega
theorem Jn {t:TypeId} {x:Operand} {lo hi mx:Option Operand} (ho:o.op= .slice t x lo hi mx) {k:AV->Bool}
  (hk:cK P H t (opd e x) (lo.map (opd e)) (hi.map (opd e)) (mx.map (opd e)) k=true):∃v,qh P G o e H v/\k v=true:=by
 have hmx:x∈o.op.operands:=by simp [ho,Op.operands]
 have hml:∀y,lo=some y->y∈o.op.operands:=fun y hy=>by simp [ho,Op.operands,hy]
 have hmh:∀y,hi=some y->y∈o.op.operands:=fun y hy=>by simp [ho,Op.operands,hy]
 have hmm:∀y,mx=some y->y∈o.op.operands:=fun y hy=>by simp [ho,Op.operands,hy]
 have run:∀(a:Act) (w:World) (v:Value),(Instr.sliceAt t (a.eval x) (lo.map a.eval) (hi.map a.eval) (mx.map a.eval)).run P w= .ok v w->(execOp a.eval o).run P w= .ok (.value v) w:=by
  intro a w v h
  simp [execOp,ho,h,Result.andThen]
 unfold cK at hk
 split at hk
 ·
  rename_i s hx
  split at hk
  ·rename_i l h hst hl hh hm
   split at hk
   ·rename_i hle1 hle2
    rw [bH] at hk
    have hle1:=dK hle1
    have hle2:=dK hle2
    refine⟨_,fun μ a w hr hH=> ?_,hk⟩
    obtain⟨bs,hb,hbl⟩:=(hr.at hmx hx).str_inv
    have h1:=dY hl (fun y hy=>hr.mem (hml y hy))
    have h2:=dY hh (fun y hy=>hr.mem (hmh y hy))
    have h3:mx.map a.eval=none:=by cases mx with
     | none=>rfl
     | some=>simp at hm
    refine⟨.string (bs.extract l h),run a w _ ?_,.str _ _ ?_⟩
    ·rw [h3,hb]
     rw [←rM hbl] at h2 hle2
     simp only [Instr.sliceAt,Instr.slice,Sem.run_bind,bO (oP hst),Result.andThen_ok,Option.isSome_none,dI,eE,mo h1 h2 hle1 hle2,Sem.run_pure]
    ·rw [rC,List.map_take,List.map_drop,hbl]
   ·cases hk
  ·cases hk
 ·
  rename_i b off len sz c hx
  split at hk
  ·rename_i el l h hel hl hh
   obtain⟨hu,hinfo⟩:=fN hel
   split at hk
   ·cases hk
   ·rename_i hsz
    have hsz:=cw hsz
    have common:∀(μ:Mu) (a:Act) (w:World),mF μ e a o->HRg G μ H w->∃(p:Pl) (cap:Nat) (ad:Addr),μ b=some p/\a.eval x= .slice (some ad) len cap/\len<=cap/\off+cap * sz<=p.tot/\
      (∀n,c=some n->cap=n)/\(c=none->off+cap * sz=p.tot)/\(0<cap->ad=⟨p.blk,p.base+off,none⟩):=by
     intro μ a w hr hH
     have h1:=hr.at hmx hx
     generalize hxa:a.eval x=xv at h1
     cases h1 with
     | sl _ _ _ _ _ p cap ad hp hl ht hc hn ha=>exact⟨p,cap,ad,hp,rfl,hl,ht,hc,hn,ha⟩
    have res:∀(a:Act) (w:World) (ad:Addr) (cap m:Nat),a.eval x= .slice (some ad) len cap->(Instr.sliceBounds true len cap (lo.map a.eval) (hi.map a.eval) (mx.map a.eval)).run P w= .ok (l,h,m) w->
      (Instr.sliceAt t (a.eval x) (lo.map a.eval) (hi.map a.eval) (mx.map a.eval)).run P w= .ok (.slice (some (if m=l then ad else ad.add (l * sz))) (h - l) (m - l)) w:=by
     intro a w ad cap m hxa hb
     simp only [Instr.sliceAt,Instr.slice,hxa,Sem.run_bind,bO hu,Result.andThen_ok,hb,gA hinfo,Sem.run_pure,hsz]
     split<;>rfl
    split at hk
    ·
     rename_i hm
     have h3:∀a:Act,mx.map a.eval=none:=fun a=>by cases mx with
      | none=>rfl
      | some=>simp at hm
     split at hk
     ·rename_i hle1 hre
      rw [bA,bA] at hk
      have hle1:=dK hle1
      refine⟨_,fun μ a w hr hH=> ?_,hk⟩
      obtain⟨p,cap,ad,hp,hxa,hlc,htot,hcc,hn,ha⟩:=common μ a w hr hH
      have h1:=dY hl (fun y hy=>hr.mem (hml y hy))
      have h2:=dY hh (fun y hy=>hr.mem (hmh y hy))
      have hcap:=pz hH hp hlc hcc hn hre
      have hms:=jy (sz:=sz) (fC hle1 hcap)
      have htn:=hn rfl
      refine⟨_,run a w _ (res a w ad cap cap hxa (by rw [h3];exact mo h1 h2 hle1 hcap)),.sl _ _ _ _ _ p _ _ hp (by omega) (by omega) (fun n hn=>by cases hn) (fun _=>by omega) (fun hpos=> ?_)⟩
      have:¬cap=l:=by omega
      rw [if_neg this,ha (by omega),iB,fm]
     ·rename_i cc hle1 hre
      have hle1:=dK hle1
      split at hk
      ·rename_i hcl
       have hcl:=cw hcl
       refine⟨_,fun μ a w hr hH=> ?_,hk⟩
       obtain⟨p,cap,ad,hp,hxa,hlc,htot,hcc,hn,ha⟩:=common μ a w hr hH
       have h1:=dY hl (fun y hy=>hr.mem (hml y hy))
       have h2:=dY hh (fun y hy=>hr.mem (hmh y hy))
       have hcap:=pz hH hp hlc hcc hn hre
       have hceq:=hcc _ rfl
       have e1:h - l=0:=by omega
       have e2:cap - l=0:=by omega
       refine⟨_,run a w _ (res a w ad cap cap hxa (by rw [h3];exact mo h1 h2 hle1 hcap)), ?_⟩
       rw [e1,e2]
       exact .sl _ _ _ _ _ p _ _ hp (by omega) (by omega) (fun n hn=>by cases hn;rfl) (fun h=>by cases h) (fun hpos=>by omega)
      ·rename_i hcl
       have hcl:¬cc=l:=fun e=>by subst e;simp [bW] at hcl
       rw [bA,bA,bA] at hk
       refine⟨_,fun μ a w hr hH=> ?_,hk⟩
       obtain⟨p,cap,ad,hp,hxa,hlc,htot,hcc,hn,ha⟩:=common μ a w hr hH
       have h1:=dY hl (fun y hy=>hr.mem (hml y hy))
       have h2:=dY hh (fun y hy=>hr.mem (hmh y hy))
       have hcap:=pz hH hp hlc hcc hn hre
       have hceq:=hcc _ rfl
       have hms:=jy (sz:=sz) (fC hle1 hcap)
       refine⟨_,run a w _ (res a w ad cap cap hxa (by rw [h3];exact mo h1 h2 hle1 hcap)),.sl _ _ _ _ _ p _ _ hp (by omega) (by omega) (fun n hn=>by cases hn;omega) (fun h=>by cases h) (fun hpos=> ?_)⟩
       have:¬cap=l:=by omega
       rw [if_neg this,ha (by omega),iB,fm]
     ·cases hk
    ·
     rename_i mv hm
     split at hk
     ·rename_i m hv hmn hhi
      split at hk
      ·rename_i hle1 hle2 hre
       have hle1:=dK hle1
       have hle2:=dK hle2
       have bnd:∀(μ:Mu) (a:Act) (w:World) (cap:Nat),mF μ e a o->m<=cap->(Instr.sliceBounds true len cap (lo.map a.eval) (hi.map a.eval) (mx.map a.eval)).run P w= .ok (l,h,m) w:=by
        intro μ a w cap hr hcap
        have h1:=dY hl (fun y hy=>hr.mem (hml y hy))
        have h2:=dY hh (fun y hy=>hr.mem (hmh y hy))
        cases hi with
        | none=>simp at hhi
        | some hi=>
         cases mx with
         | none=>simp at hm
         | some mx=>
          simp at hm
          obtain⟨km,hkm⟩:=pO (hm▸hmn) (hr.mem (hmm mx rfl))
          rcases h2 with⟨h2,_⟩| ⟨kh,h2⟩
          ·simp at h2
          ·rw [h2]
           simp only [nC,hkm]
           exact xJ h1 hle1 hle2 hcap
       split at hk
       ·rename_i hml'
        have hml':=cw hml'
        refine⟨_,fun μ a w hr hH=> ?_,hk⟩
        obtain⟨p,cap,ad,hp,hxa,hlc,htot,hcc,hn,ha⟩:=common μ a w hr hH
        have hcap:=pz hH hp hlc hcc hn hre
        have e1:h - l=0:=by omega
        have e2:m - l=0:=by omega
        refine⟨_,run a w _ (res a w ad cap m hxa (bnd μ a w cap hr hcap)), ?_⟩
        rw [e1,e2]
        exact .sl _ _ _ _ _ p _ _ hp (by omega) (by omega) (fun n hn=>by cases hn;rfl) (fun h=>by cases h) (fun hpos=>by omega)
       ·rename_i hml'
        have hml':¬m=l:=fun e=>by subst e;simp [bW] at hml'
        rw [bA,bA,bA] at hk
        refine⟨_,fun μ a w hr hH=> ?_,hk⟩
        obtain⟨p,cap,ad,hp,hxa,hlc,htot,hcc,hn,ha⟩:=common μ a w hr hH
        have hcap:=pz hH hp hlc hcc hn hre
        have hms:=jy (sz:=sz) (fC hle1 hle2)
        have hms':=jy (sz:=sz) hcap
        refine⟨_,run a w _ (res a w ad cap m hxa (bnd μ a w cap hr hcap)),.sl _ _ _ _ _ p _ _ hp (by omega) (by omega) (fun n hn=>by cases hn;omega) (fun h=>by cases h) (fun hpos=> ?_)⟩
        rw [if_neg hml',ha (by omega),iB,fm]
      ·cases hk
     ·cases hk
  ·cases hk
 ·
  rename_i sz cs len hx
  split at hk
  ·rename_i el l h hel hl hh hm
   obtain⟨hu,hinfo⟩:=fN hel
   split at hk
   ·rename_i hsz hle1 hle2
    rw [bA] at hk
    have hsz:=cw hsz
    have hle1:=dK hle1
    have hle2:=dK hle2
    refine⟨_,fun μ a w hr hH=> ?_,hk⟩
    have h1:=hr.at hmx hx
    generalize hxa:a.eval x=xv at h1
    cases h1 with
    | dat _ _ L hmem hd=>
    cases hd with
    | sl _ _ _ ad cap p arr el' fz xs L g hlc hc ht hl' hf hx' ha hs=>
     have h1:=dY hl (fun y hy=>hr.mem (hml y hy))
     have h2:=dY hh (fun y hy=>hr.mem (hmh y hy))
     have h3:mx.map a.eval=none:=by cases mx with
      | none=>rfl
      | some=>simp at hm
     have hb:(Instr.sliceBounds true len cap (lo.map a.eval) (hi.map a.eval) (mx.map a.eval)).run P w= .ok (l,h,cap) w:=by rw [h3];exact mo h1 h2 hle1 (by omega)
     have hrun:(Instr.sliceAt t (a.eval x) (lo.map a.eval) (hi.map a.eval) (mx.map a.eval)).run P w= .ok (.slice (some (if cap=l then ad else ad.add (l * sz))) (h - l) (cap - l)) w:=by
      simp only [Instr.sliceAt,Instr.slice,hxa,Sem.run_bind,bO hu,Result.andThen_ok,hb,gA hinfo,Sem.run_pure,hsz]
      split<;>rfl
     have hms:=jy (sz:=sz) (fC hle1 (fC hle2 hlc))
     obtain⟨M,hd1⟩:=hs.drop (l * sz)
     obtain⟨N,hd2⟩:=hd1.take ((h - l) * sz)
     refine⟨_,run a w _ hrun,.dat _ _ _ rfl (.sl _ _ _ _ _ ⟨p.blk,p.base+l * sz,(cap - l) * sz⟩ arr el' fz _ N g (by omega) rfl (by simp only;omega) (by simp;omega) hf (fun i y hy=> ?_) (fun hpos=> ?_) hd2)⟩
     ·rw [pY] at hy
      split at hy
      ·rw [kB] at hy
       have:=hx' _ _ hy
       show arr[p.base+l * sz+i]? =_
       rwa [fm]
      ·cases hy
     ·have:¬cap=l:=by omega
      rw [if_neg this,ha (by omega),iB]
   ·cases hk
  ·cases hk
 ·
  rename_i hx
  split at hk
  ·rename_i el hel hl hh hm hmi
   obtain⟨hu,hinfo⟩:=fN hel
   refine⟨_,fun μ a w hr hH=> ?_,hk⟩
   have h1:=hr.at hmx hx
   generalize hxa:a.eval x=xv at h1
   cases h1
   have h1:=dY hl (fun y hy=>hr.mem (hml y hy))
   have h2:=dY hh (fun y hy=>hr.mem (hmh y hy))
   have h3:=dY hm (fun y hy=>hr.mem (hmm y hy))
   refine⟨.slice none 0 0,run a w _ ?_,.nils⟩
   rw [hxa]
   rcases h3 with⟨h3,_⟩| ⟨km,h3⟩
   ·rw [h3]
    simp only [Instr.sliceAt,Instr.slice,Sem.run_bind,bO hu,Result.andThen_ok,mo (isS:=true) (cap:=0) h1 h2 (bh _) (bh _),gA hinfo,Sem.run_pure]
    rfl
   ·rw [h3]
    rcases h2 with⟨h2,_⟩| ⟨kh,h2⟩
    ·cases hi with
     | none=>cases mx with
      | none=>simp at h3
      | some=>simp at hmi
     | some=>simp at h2
    ·rw [h2]
     simp only [Instr.sliceAt,Instr.slice,Sem.run_bind,bO hu,Result.andThen_ok,xJ (isS:=true) (cap:=0) h1 (bh _) (bh _) (bh _),gA hinfo,Sem.run_pure]
     rfl
  ·cases hk
 ·
  rename_i b off hx
  split at hk
  ·rename_i n el _ ro cs hu hb
   split at hk
   ·rename_i l h hinfo hl hh hm
    split at hk
    ·rename_i hle1 hle2 hnl hle3
     rw [bA,bA,bA] at hk
     have hle1:=dK hle1
     have hle2:=dK hle2
     have hle3:=dK hle3
     have hnl:¬n=l:=fun e=>by subst e;simp [bW] at hnl
     refine⟨_,fun μ a w hr hH=> ?_,hk⟩
     obtain⟨p,hp,hxa⟩:=(hr.at hmx hx).ptr_inv
     obtain⟨arr,el',fz,g2,g3,g4,_,_⟩:=hH.at hb hp
     have h1:=dY hl (fun y hy=>hr.mem (hml y hy))
     have h2:=dY hh (fun y hy=>hr.mem (hmh y hy))
     have h3:mx.map a.eval=none:=by cases mx with
      | none=>rfl
      | some=>simp at hm
     have hms:=jy (sz:=P.cellsOf el) (fC hle1 hle2)
     refine⟨.slice (some ⟨p.blk,p.base+(off+l * P.cellsOf el),none⟩) (h - l) (n - l),run a w _ ?_,.sl _ _ _ _ _ p _ _ hp (by omega) (by omega) (fun n hn=>by cases hn;rfl) (fun h=>by cases h) (fun _=>rfl)⟩
     rw [h3,hxa]
     simp only [Instr.sliceAt,Instr.sureAddr,Sem.run_bind,bO hu,Result.andThen_ok,Sem.run_pure,mo h1 h2 hle1 hle2,gA hinfo,if_neg hnl,iB,fm]
    ·cases hk
   ·cases hk
  ·cases hk
 ·cases hk
theorem Fk {s d:TypeId} {x:Operand} (ho:o.op= .convert s d x) {k:AV->Bool} (hk:vz P s d (opd e x) H k=true):∃v,qh P G o e H v/\k v=true:=by
 unfold vz at hk
 cases hk
theorem GF {f:LF} (h:opC P G o= .l f) {k:AV->Bool} (hk:f e H k=true):∃v,qh P G o e H v/\k v=true:=by
 unfold opC at h
 split at h<;>rename_i ho
 ·simp only [aQ] at h;cases h
 ·simp only [aQ] at h;cases h
 ·simp only [aQ] at h;cases h
 ·split at h
  ·cases h
  ·exact (p6 h).elim
 ·simp only [aQ] at h;cases h
 ·simp only [bV] at h;cases h
 ·simp only [bV] at h;cases h
 ·simp only [aQ] at h;cases h;exact QY ho hk
 ·simp only [aQ] at h;cases h
 ·simp only [aQ] at h;cases h
 ·simp only [aQ] at h;cases h
 ·simp only [aQ] at h;cases h
 ·simp only [aQ] at h
  split at h
  ·cases h;exact Fk ho hk
  ·cases h
 ·simp only [aQ] at h
  split at h
  ·exact (p6 h).elim
  ·cases h
 ·simp only [cj] at h;cases h
 ·cases h
 ·split at h
  ·split at h
   ·simp only [aQ] at h;cases h
   ·exact (p6 h).elim
  ·exact (p6 h).elim
 ·simp only [aQ,dc] at h;cases h;exact Jn ho hk
 ·split at h
  ·split at h
   ·split at h
    ·exact (p6 h).elim
    ·simp only [aQ] at h;cases h
   ·exact (p6 h).elim
  ·exact (p6 h).elim
 ·split at h
  ·split at h
   ·simp only [aQ] at h;cases h
   ·exact (p6 h).elim
  ·exact (p6 h).elim
 ·simp only [aQ] at h;cases h
 ·simp only [aQ] at h;cases h
 ·simp only [aQ] at h;cases h;exact II ho hk
 ·simp only [aQ] at h;cases h
 ·simp only [aQ] at h;cases h
 ·simp only [aQ] at h;cases h
 ·simp only [aQ] at h;cases h
 ·simp only [aQ] at h;cases h
 ·simp only [aQ] at h;cases h
 ·simp only [aQ] at h;cases h
 ·simp only [aQ] at h;cases h;exact LL ho hk
 ·simp only [aQ] at h;cases h
 ·simp only [aQ] at h;cases h
 ·rename_i c
  unfold zG at h
  simp only [cj,aQ] at h
  split at h
  ·rename_i b hc
   unfold pi at h
   split at h
   ·split at h
    ·cases h
    ·exact (p6 h).elim
   ·split at h
    ·rename_i t ht
     cases h
     simp only at hk
     unfold one1 at hk
     split at hk
     ·rename_i x hx
      exact Vp ho hc ht hx hk
     ·cases hk
    ·exact (p6 h).elim
   ·split at h
    ·cases h
    ·exact (p6 h).elim
   ·split at h
    ·cases h
    ·exact (p6 h).elim
   ·cases h
   ·split at h
    ·cases h
    ·exact (p6 h).elim
   ·cases h
   ·cases h
   ·exact (p6 h).elim
  ·cases h
  ·cases h
 ·simp only [aQ] at h;cases h
 ·exact (p6 h).elim
end
def tD (P:Program) (o:Oper) (e:En) (blk:Blk) (r:Nat->AV):Prop:=
 ∀(μ:Mu) (a:Act) (w:World),mF μ e a o->∃(obj:Obj) (x:Value) (tot:Nat),(execOp a.eval o).run P w= .ok (.value x) (w.alloc obj)/\
  ∀b,μ b=none->BR (μ.upd b ⟨w.heap.size,0,tot⟩) ⟨w.heap.size,0,tot⟩ blk (some obj)/\VR (μ.upd b ⟨w.heap.size,0,tot⟩) (r b) x
section
variable {P : Program} {G : bg} {o : Oper} {e : En} {H : Hp}
theorem rW {μ:Mu} {n:Nat} {cs:List AV} {arr:Array Value} {el:TypeId} (h:VRs μ cs arr.toList):BR μ ⟨n,0,arr.size⟩ (ae el cs) (some (.cells arr el)):=
 ⟨arr,el,(0,0),rfl,by simp,by have:=h.length;simp at this;simp [this],fun _=>⟨rfl,fun e he=>by cases he;exact⟨rfl,rfl,rfl⟩⟩,fun i c hc=>by
  obtain⟨x,hx,hv⟩:=h.get i hc
  exact⟨x,by simpa using hx,hv⟩⟩
theorem LN {t:TypeId} {z:AV} (ho:o.op= .alloc t) (hz:zro P t=some z):tD P o e (ae t z.cells) yS:=fun μ a w h=>by
 obtain⟨i,v,hi,hv,hzv⟩:=o3 hz
 refine⟨.cells v.cells t,.pointer (some ⟨w.heap.size,0,none⟩),v.cells.size, ?_,fun b hb=>⟨rW (hzv _).cells, ?_⟩⟩
 ·simp [execOp,ho,Instr.alloc,zeroValue,nj hi,hv,Result.andThen,newVar,newRow]
 ·exact .ptr b 0 ⟨w.heap.size,0,v.cells.size⟩ (bT _ _ _)
theorem V5 {t:TypeId} {x:Operand} (ho:o.op= .box t x):tD P o e (ae t (opd e x).cells) yS:=fun μ a w h=>by
 have hx:=h.mem (x:=x) (by simp [ho,Op.operands])
 refine⟨.cells (a.eval x).cells t,.pointer (some ⟨w.heap.size,0,none⟩),(a.eval x).cells.size, ?_,fun b hb=>⟨rW (hx.mono (dU _ hb)).cells, ?_⟩⟩
 ·simp [execOp,ho,Instr.box,Result.andThen,newVar,newRow]
 ·exact .ptr b 0 ⟨w.heap.size,0,(a.eval x).cells.size⟩ (bT _ _ _)
theorem Fu {t:TypeId} (ho:o.op= .makeMap t none):tD P o e (.map false [] 0) Gr:=fun μ a w h=>by
 refine⟨.map #[] 0,.map (some w.heap.size),0, ?_,fun b hb=>⟨⟨#[],rfl,rfl,fun i y v s hs=>by simp at hs⟩, ?_⟩⟩
 ·simp [execOp,ho,Instr.makeMap,Result.andThen]
 ·exact .map b ⟨w.heap.size,0,0⟩ (bT _ _ _)
theorem tQ (z:List AV) (n i:Nat):(fd z n)[i]? =if i<n * z.length then z[i%z.length]? else none:=by
 induction n generalizing i with
 | zero=>simp [fd]
 | succ n ih=>
  simp only [fd]
  by_cases h:i<z.length
  ·rw [ot h,Nat.mod_eq_of_lt h,if_pos]
   rw [fV];omega
  ·rw [kj (by omega),ih]
   have h1:(i - z.length<n * z.length)↔(i<(n+1) * z.length):=by rw [fV];omega
   have h2:(i - z.length)%z.length=i%z.length:=by
    by_cases h0:z.length=0
    ·simp [h0]
    ·rw [←Nat.mod_eq_sub_mod (by omega)]
   simp only [h1,h2]
theorem mN (z:List AV) (n:Nat):(fd z n).length=n * z.length:=by
 induction n with
 | zero=>simp [fd]
 | succ n ih=>simp [fd,ih,fV];omega
theorem uV {μ:Mu} {z:List AV} {zs:Array Value} (h:VRs μ z zs.toList) (n:Nat):VRs μ (fd z n) ((Array.range (n * zs.size)).map (zs[·%zs.size]!)).toList:=by
 have hl:zs.size=z.length:=by have:=h.length;simpa using this
 refine iV (by simp [mN,hl]) fun i v hv=> ?_
 rw [tQ] at hv
 split at hv
 ·rename_i hi
  obtain⟨x,hx,hxv⟩:=h.get _ hv
  refine⟨x, ?_,hxv⟩
  rw [←hl] at hi
  have hx':zs[i%zs.size]? =some x:=by rw [hl];simpa using hx
  have:zs[i%zs.size]! =x:=by
   rw [getElem!_def,hx']
  simp [hi,this]
 ·cases hv
theorem sU {t:TypeId} {z:AV} (hz:zro P t=some z):∃i v,P.info? t=some i/\i.zero=some v/\∀μ,VRs μ (EA P t) v.cells.toList:=by
 obtain⟨i,v,hi,hv,hzv⟩:=o3 hz
 refine⟨i,v,hi,hv,fun μ=> ?_⟩
 unfold EA
 rw [hz]
 exact (hzv μ).cells
theorem Pj {μ:Mu} {t:TypeId} {i:TypeInfo} {v:Value} (hi:P.info? t=some i) (hv:i.zero=some v) (hz:VRs μ (EA P t) v.cells.toList) (hl:(EA P t).length=P.cellsOf t) (n:Nat) {w:World}:
  ∃arr:Array Value,(do
   let zero←if n * P.cellsOf t=0 then pure #[] else do pure (←zeroValue t).cells
   pure ((Array.range (n * P.cellsOf t)).map (zero[·%zero.size]!)):Sem (Array Value)).run P w= .ok arr w/\VRs μ (fd (EA P t) n) arr.toList:=by
 have hs:v.cells.size=P.cellsOf t:=by have:=hz.length;rw [hl] at this;simpa using this
 by_cases h0:n * P.cellsOf t=0
 ·refine⟨#[], ?_, ?_⟩
  ·simp [h0]
  ·have:fd (EA P t) n=[]:=by
    have:=mN (EA P t) n
    rw [hl,h0] at this
    exact List.eq_nil_of_length_eq_zero this
   rw [this];exact .nil
 ·refine⟨(Array.range (n * P.cellsOf t)).map (v.cells[·%v.cells.size]!), ?_, ?_⟩
  ·simp [h0,zeroValue,nj hi,hv,Result.andThen]
  ·have:=uV hz n
   rwa [hs] at this⊢
theorem Ae {t el:TypeId} {z:AV} {l c:Operand} (ho:o.op= .makeSlice t l c) (hel:bS P t=some el) (hz:zro P el=some z) {k:Blk->(Nat->AV)->Bool}
  (hk:gw el (P.cellsOf el) (P.bytesOf el) (EA P el) (opd e l) (opd e c) k=true):∃blk r,tD P o e blk r/\k blk r=true:=by
 have hml:l∈o.op.operands:=by simp [ho,Op.operands]
 have hmc:c∈o.op.operands:=by simp [ho,Op.operands]
 obtain⟨hu,hinfo⟩:=fN hel
 obtain⟨i,v,hi,hv,hzv⟩:=sU hz
 unfold gw at hk
 split at hk
 ·rename_i ln cn hln hcn
  split at hk
  ·rename_i h1 h2 h3 h4
   have h1:=cw h1
   subst h1
   have h2:=dK h2
   have h3:=dK h3
   have h4:=cw h4
   rw [bH] at hk
   refine⟨_,_,fun μ a w h=> ?_,hk⟩
   obtain⟨kl,hkl⟩:=pO hln (h.mem hml)
   obtain⟨kc,hkc⟩:=pO hcn (h.mem hmc)
   have hb:i.bytes=P.bytesOf el:=by simp [Program.bytesOf,hi]
   have hs:i.size=P.cellsOf el:=by simp [Program.cellsOf,hi]
   have e2:(i.bytes:Int) * (ln:Int)<=281474976710656:=by
    have:((P.bytesOf el * ln:Nat):Int)<=1048576:=Int.ofNat_le.2 h2
    rw [Int.natCast_mul] at this
    rw [hb]
    omega
   have hrun:=run_make (P:=P) w t el i v hu hi hv kl kc (ln:Int) (ln:Int) (by omega) (zg _) e2 (by omega)
   have hz2:∀μ',VRs μ' (fd (EA P el) ln) (madeCells v.cells (ln * i.size)).toList:=fun μ'=>by
    have h5:=uV (hzv μ') ln
    have h6:v.cells.size=i.size:=by
     have:=(hzv μ').length
     rw [h4] at this
     rw [hs]
     simpa using this
    have h7:madeCells v.cells (ln * i.size)=(Array.range (ln * v.cells.size)).map (v.cells[·%v.cells.size]!):=by unfold madeCells;rw [h6]
    rw [h7]
    exact h5
   refine⟨.cells (madeCells v.cells (ln * i.size)) el,.slice (some ⟨w.heap.size,0,none⟩) ln ln,(madeCells v.cells (ln * i.size)).size, ?_,fun b hb=>⟨rW (hz2 _), ?_⟩⟩
   ·simp only [pa] at hrun
    simp only [execOp,ho,hkl,hkc,Sem.run_bind,Sem.run_pure]
    rw [show (Int.ofNat ln)=(ln:Int) from rfl,hrun]
    rfl
   ·refine .sl b 0 ln _ (some ln) ⟨w.heap.size,0,_⟩ ln _ (bT _ _ _) (bh _) ?_ (fun n hn=>by cases hn;rfl) (fun h=>by cases h) (fun _=>rfl)
    have:=(hz2 μ).length
    rw [mN,h4] at this
    simp at this
    simp [this]
  ·cases hk
 ·cases hk
theorem yt {t:TypeId} {n:Nat} {parts:Array (Nat×Operand)} (ho:o.op= .buildSlice t n parts) {k:Blk->(Nat->AV)->Bool}
  (hk:jp P t n (parts.toList.map fun p=>(p.1,opd e p.2)) k=true):∃blk r,tD P o e blk r/\k blk r=true:=by
 have hpv:∀(μ:Mu) (a:Act),mF μ e a o->PVs μ (parts.toList.map fun p=>(p.1,opd e p.2)) (parts.toList.map fun p=>(p.1,a.eval p.2)):=fun μ a h=>AE fun p hp=>h.mem (by
  simp only [ho,Op.operands]
  simp
  exact⟨p.1,by simpa using hp⟩)
 unfold jp at hk
 split at hk
 ·rename_i el hel
  obtain⟨hu,hinfo⟩:=fN hel
  split at hk
  ·rename_i z hz hl hsm
   have hl:=cw hl
   have hsm:=dK hsm
   obtain⟨i,v,hi,hv,hzv⟩:=sU hz
   split at hk
   ·rename_i cs hcs
    rw [bH] at hk
    refine⟨_,_,fun μ a w h=> ?_,hk⟩
    obtain⟨arr,har,hav⟩:=Pj (μ:=μ) hi hv (hzv μ) hl n (w:=w)
    obtain⟨ys,hy,hyv⟩:=tI hcs (hpv μ a h) hav
    refine⟨.cells ys el,.slice (some ⟨w.heap.size,0,none⟩) n n,ys.size, ?_,fun b hb=>⟨rW ?_, ?_⟩⟩
    ·have har2:=har
     simp only [Sem.run_bind,Sem.run_pure] at har2
     have hno:¬n * P.cellsOf el>2 ^24:=by omega
     have hy':Instr.fill (fun i=>some (i * P.cellsOf el,P.cellsOf el)) arr ((parts.map fun (i,x)=>(i,a.eval x)).toList)=some ys:=by simpa using hy
     by_cases h0:n * P.cellsOf el=0
     ·simp only [h0,gh,Sem.run_pure,Result.andThen_ok] at har2
      injection har2 with har2 _
      rw [←har2] at hy'
      simp only [execOp,ho,Instr.buildSlice,Sem.run_bind,bO hu,gA hinfo,Result.andThen_ok,Sem.run_ite,if_neg hno,h0,gh,Sem.run_pure,hy',newRow,run_newObj_alloc,if_neg (show ¬0>2 ^24 by omega)]
     ·simp only [h0,eE,Sem.run_bind,zeroValue,nj hi,hv,Result.andThen_ok,Sem.run_pure] at har2
      injection har2 with har2 _
      rw [←har2] at hy'
      simp only [execOp,ho,Instr.buildSlice,Sem.run_bind,bO hu,gA hinfo,Result.andThen_ok,Sem.run_ite,if_neg hno,h0,eE,Sem.run_pure,zeroValue,nj hi,hv,hy',newRow,run_newObj_alloc]
    ·exact hyv.mono (dU _ hb)
    ·refine .sl b 0 n _ (some n) ⟨w.heap.size,0,ys.size⟩ n _ (bT _ _ _) (bh _) ?_ (fun n hn=>by cases hn;rfl) (fun h=>by cases h) (fun _=>rfl)
     have h1:=hyv.length
     have h2:cs.length=n * P.cellsOf el:=by
      have:∀(ps:List (Nat×AV)) (c r:List AV),oK (P.cellsOf el) ps c=some r->r.length=c.length:=by
       intro ps
       induction ps with
       | nil=>intro c r h;simp [oK] at h;rw [h]
       | cons p ps ih=>
        intro c r h
        simp only [oK] at h
        split at h
        ·split at h
         ·rename_i c' hc'
          obtain⟨g1,g2⟩:=sq hc'
          rw [ih _ _ h,g2]
          simp;omega
         ·cases h
        ·cases h
      rw [this _ _ _ hcs,mN,hl]
     rw [h2] at h1
     simp at h1
     simp [h1]
   ·cases hk
  ·cases hk
 ·cases hk
theorem Ot {f:AF} (h:opC P G o= .a f) {k:Blk->(Nat->AV)->Bool} (hk:f e k=true):∃blk r,tD P o e blk r/\k blk r=true:=by
 unfold opC at h
 split at h<;>rename_i ho
 ·simp only [aQ] at h;cases h
 ·simp only [aQ] at h;cases h
 ·simp only [aQ] at h;cases h
 ·split at h
  ·rename_i z hz
   cases h
   exact⟨_,_,LN ho hz,hk⟩
  ·exact (p9 h).elim
 ·simp only [aQ] at h;cases h;exact⟨_,_,V5 ho,hk⟩
 ·simp only [bV] at h;cases h
 ·simp only [bV] at h;cases h;exact yt ho hk
 ·simp only [aQ] at h;cases h
 ·simp only [aQ] at h;cases h
 ·simp only [aQ] at h;cases h
 ·simp only [aQ] at h;cases h
 ·simp only [aQ] at h;cases h
 ·simp only [aQ] at h
  split at h<;>cases h
 ·simp only [aQ] at h
  split at h
  ·exact (p9 h).elim
  ·cases h
 ·simp only [cj] at h;cases h
 ·cases h;exact⟨_,_,Fu ho,hk⟩
 ·split at h
  ·rename_i el hel
   split at h
   ·rename_i z hz
    simp only [aQ] at h;cases h
    exact Ae ho hel hz hk
   ·exact (p9 h).elim
  ·exact (p9 h).elim
 ·simp only [aQ,dc] at h;cases h
 ·split at h
  ·split at h
   ·split at h
    ·exact (p9 h).elim
    ·simp only [aQ] at h;cases h
   ·exact (p9 h).elim
  ·exact (p9 h).elim
 ·split at h
  ·split at h
   ·simp only [aQ] at h;cases h
   ·exact (p9 h).elim
  ·exact (p9 h).elim
 ·simp only [aQ] at h;cases h
 ·simp only [aQ] at h;cases h
 ·simp only [aQ] at h;cases h
 ·simp only [aQ] at h;cases h
 ·simp only [aQ] at h;cases h
 ·simp only [aQ] at h;cases h
 ·simp only [aQ] at h;cases h
 ·simp only [aQ] at h;cases h
 ·simp only [aQ] at h;cases h
 ·simp only [aQ] at h;cases h
 ·simp only [aQ] at h;cases h
 ·simp only [aQ] at h;cases h
 ·simp only [aQ] at h;cases h
 ·rename_i c
  unfold zG at h
  simp only [cj,aQ] at h
  split at h
  ·unfold pi at h
   split at h
   ·split at h
    ·cases h
    ·exact (p9 h).elim
   ·split at h
    ·cases h
    ·exact (p9 h).elim
   ·split at h
    ·cases h
    ·exact (p9 h).elim
   ·split at h
    ·cases h
    ·exact (p9 h).elim
   ·cases h
   ·split at h
    ·cases h
    ·exact (p9 h).elim
   ·cases h
   ·cases h
   ·exact (p9 h).elim
  ·cases h
  ·cases h
 ·simp only [aQ] at h;cases h
 ·exact (p9 h).elim
end
inductive Dx (μ:Mu):AV->Next->Prop where
 | val (v x) (h:VR μ v x):Dx μ v (.value x)
 | skip:Dx μ (.tup []) .skip
def nA (P:Program) (G:bg) (o:Oper) (e:En) (H:Hp) (k:AV->Hp->Bool):Prop:=
 ∀(μ:Mu) (a:Act) (w:World),mF μ e a o->HR G μ H w->
  ∃v nx μ' H' w',(execOp a.eval o).run P w= .ok nx w'/\Dx μ' v nx/\HR G μ' H' w'/\Ext μ H w μ' H' w'/\k v H'=true
theorem qm {w:World} {g:Nat} {cur arr:Array Value} {t:TypeId} {fz:Nat×Nat} (h:w.heap[g]? =some (.cells cur t fz)):
  w.setRow g arr=w.putObj g (.cells arr t fz):=by
 have hlt:g<w.heap.size:=(ir.1 h).1
 have hv:w.heap[g]= .cells cur t fz:=(ir.1 h).2
 unfold World.setRow World.putObj
 cases w with
 | mk heap tape drawn os output=>
  congr 1
  apply Array.ext
  ·simp
  ·intro k h1 h2
   have h1':k<heap.size:=by simpa using h1
   rw [Array.getElem_modify]
   by_cases hk:g=k
   ·subst hk;simp at hv;simp [hv]
   ·rw [if_neg hk,Array.getElem_setIfInBounds_ne h1' hk]
theorem vq {α:Type} (l vs:List α) (n i:Nat) (h:n+vs.length<=l.length):
  (l.take n++vs++l.drop (n+vs.length))[i]? =if i<n then l[i]? else if i<n+vs.length then vs[i - n]? else l[i]? :=by
 have hn:(l.take n).length=n:=by simp;omega
 by_cases h1:i<n
 ·rw [if_pos h1,ki,ot (by omega),pY,if_pos h1]
 ·rw [if_neg h1]
  by_cases h2:i<n+vs.length
  ·rw [if_pos h2,ot (by simp;omega),kj (by omega),hn]
  ·rw [if_neg h2,kj (by simp;omega),kB]
   congr 1
   simp;omega
def ux (μ:Mu) (arr:Array Value) (base:Nat) (cs:List AV):Prop:=∀(i:Nat) (c:AV),cs[i]? =some c->∃v,arr[base+i]? =some v/\VR μ c v
theorem uo {μ:Mu} {arr:Array Value} {base off:Nat} {cs vs cs':List AV} {xs:List Value} (h:ux μ arr base cs) (hset:fg cs off vs=some cs') (hv:VRs μ vs xs)
  (hsz:base+cs.length<=arr.size):ux μ (arr.toList.take (base+off)++xs++arr.toList.drop (base+off+xs.length)).toArray base cs':=by
 obtain⟨h1,h2⟩:=sq hset
 subst h2
 have hl:=hv.length
 intro i c hc
 rw [vq _ _ _ _ h1] at hc
 have hle:base+off+xs.length<=arr.toList.length:=by simp;omega
 simp only [nY]
 rw [vq _ _ _ _ hle]
 by_cases c1:i<off
 ·rw [if_pos c1] at hc
  rw [if_pos (by omega)]
  obtain⟨v,hv1,hv2⟩:=h i c hc
  exact⟨v,by simpa using hv1,hv2⟩
 ·rw [if_neg c1] at hc
  rw [if_neg (by omega)]
  by_cases c2:i<off+vs.length
  ·rw [if_pos c2] at hc
   rw [if_pos (by omega)]
   obtain⟨x,hx,hxv⟩:=hv.get _ hc
   refine⟨x, ?_,hxv⟩
   rw [←hx]
   congr 1
   omega
  ·rw [if_neg c2] at hc
   rw [if_neg (by omega)]
   obtain⟨v,hv1,hv2⟩:=h i c hc
   exact⟨v,by simpa using hv1,hv2⟩
section
variable {P : Program} {G : bg} {o : Oper} {e : En} {H : Hp}
theorem tp {μ:Mu} {w:World} (hh:HR G μ H w) {b:Nat} {t:Option TypeId} {cs cs' vs:List AV} {p:Pl} (hb:H.get b=some (.cells t false cs)) (hp:μ b=some p) (hb':True) {off:Nat} {xs:List Value}
  (hset:fg cs off vs=some cs') (hv:VRs μ vs xs) (h1:vs.all one=true):
  ∃w',(storeCells ⟨p.blk,p.base+off,none⟩ xs).run P w= .ok () w'/\HR G μ ⟨H.t.set b (some (.cells t false cs')),H.nx⟩ w'/\
   Ext μ H w μ ⟨H.t.set b (some (.cells t false cs')),H.nx⟩ w':=by
 obtain⟨arr,el,fz,g1,g2,g3,g4,g5⟩:=hh.at hb hp
 obtain⟨g4,g6⟩:=g4 rfl
 subst g4
 obtain⟨s1,s2⟩:=sq hset
 have hl:=hv.length
 have hrun:=run_storeCells_at P p.blk (p.base+off) el xs 0 arr w g1 (by omega) (xE h1 hv)
 rw [qm g1] at hrun
 refine⟨_,hrun,hh.put hb rfl hp hb' ?_,gS hh hb rfl hp hb' _⟩
 refine⟨_,el,(0,0),rfl, ?_, ?_,fun _=>⟨rfl,fun e he=> ?_⟩, ?_⟩
 ·simp;omega
 ·subst s2;simp;omega
 ·obtain⟨q1,q2,q3⟩:=g6 e he
  exact⟨q1,q2,by simp;omega⟩
 ·exact uo g5 hset hv (by omega)
theorem Kb {t:TypeId} {x y:Operand} (ho:o.op= .store t x y) {k:AV->Hp->Bool} (hk:lU P H t (opd e x) (opd e y) (fun H=>k (.tup []) H)=true):nA P G o e H k:=by
 have hmx:x∈o.op.operands:=by simp [ho,Op.operands]
 have hmy:y∈o.op.operands:=by simp [ho,Op.operands]
 unfold lU at hk
 split at hk
 ·rename_i b off hx
  split at hk
  ·rename_i el0 cs hb
   split at hk
   ·rename_i ag cs' hsz hag h1 hset
    rw [bH] at hk
    obtain⟨hb',hk⟩:=dD hk
    intro μ a w hr hh
    obtain⟨p,hp,hxa⟩:=(hr.at hmx hx).ptr_inv
    have hyv:=hr.mem hmy
    obtain⟨w',g1,g2,g3⟩:=tp (P:=P) hh hb hp hb' hset hyv.cells h1
    refine⟨.tup [],.skip,μ,_,w', ?_,.skip,g2,g3,hk⟩
    have hsz:=cw hsz
    have hsize:(a.eval y).cells.size=P.cellsOf t:=by rw [←hsz,←hyv.cells.length];simp
    simp only [execOp,ho,hxa,Instr.storeAt,Instr.sureAddr,storeVar,Sem.run_bind,Sem.run_pure,Result.andThen_ok,gA (lQ hag),hsize,ne_eq,not_true,eE,g1]
   ·cases hk
  ·cases hk
 ·cases hk
def Do (P:Program) (sz:Nat) (μ:Mu) (w:World) (X:Value) (n:Nat) (ys:List AV):Prop:=
 (Builtin.lenOf X).run P w= .ok n w/\∃xs:List Value,VRs μ ys xs/\xs.length=n * sz/\∀m,m<=n->(Builtin.firstCells sz m X).run P w= .ok (xs.take (m * sz)).toArray w
theorem zf {μ:Mu} {w:World} (hh:HR G μ H w) {b off n z:Nat} {c:Option Nat} {X:Value} (hX:VR μ (.sl b off n z c) X) {t:Option TypeId} {ro:Bool} {cs ys:List AV} (hb:H.get b=some (.cells t ro cs))
  (ht:ew (n * z) (cs.drop off)=some ys):Do P z μ w X n ys:=by
 obtain⟨rfl,hlen⟩:=lS ht
 cases hX with
 | sl _ _ _ _ _ p cap ad hp hl htot hc hn ha=>
  obtain⟨arr,el,fz,g1,g2,g3,g4,g5⟩:=hh.at hb hp
  have g6:ux μ arr (p.base+off) (cs.drop off):=fun i c hc=>by
   rw [kB] at hc
   obtain⟨v,h1,h2⟩:=g5 _ _ hc
   exact⟨v,by rw [←h1];congr 1;omega,h2⟩
  obtain⟨xs,hl1,hr,hx⟩:=hJ g6 hlen
  refine⟨by simp [Builtin.lenOf],xs,hr,hl1,fun m hm=> ?_⟩
  simp only [Builtin.firstCells]
  by_cases hm0:m=0
  ·subst hm0;simp [loadCells,loadCellsFrom]
  ·rw [ha (by omega)]
   have hle:m * z<=n * z:=lu _ hm
   refine pw g1 (by simp [hl1,lI hle]) fun j v hv=>hx j v ?_
   rw [pY] at hv
   split at hv
   ·exact hv
   ·cases hv
theorem vI {sz:Nat} {x:AV} {k:Nat->List AV->Bool} (hk:dX H sz x k=true):
  ∃n ys,k n ys=true/\∀(μ:Mu) (w:World) (X:Value),HR G μ H w->VR μ x X->Do P sz μ w X n ys:=by
 unfold dX at hk
 split at hk
 ·refine⟨_,_,hk,fun μ w X hh hX=> ?_⟩
  cases hX
  refine⟨by simp [Builtin.lenOf],[],.nil,by simp,fun m hm=> ?_⟩
  simp [Builtin.firstCells]
 ·rename_i b off n z c
  split at hk
  ·rename_i _ ro cs hz hb
   have hz:=cw hz
   subst hz
   split at hk
   ·rename_i ys ht
    rw [bH] at hk
    exact⟨_,_,hk,fun μ w X hh hX=>zf hh hX hb ht⟩
   ·cases hk
  ·cases hk
 ·rename_i z cs n
  split at hk
  ·rename_i _ ys hz ht
   have hz:=cw hz
   subst hz
   rw [bH] at hk
   refine⟨_,_,hk,fun μ w X hh hX=> ?_⟩
   obtain⟨rfl,hlen⟩:=lS ht
   cases hX with
   | dat _ _ L hm hd=>
   cases hd with
   | sl _ _ _ ad cap p arr el fz xs L g hlc hc htt hl hf hx ha hs=>
    have g6:ux μ arr p.base (aq cs):=fun i c hc'=>by
     obtain⟨v,h1,h2⟩:=(lx hs).get i hc'
     exact⟨v,hx _ _ h1,h2⟩
    obtain⟨ys,hl1,hr,hx⟩:=hJ g6 hlen
    refine⟨by simp [Builtin.lenOf],ys,hr,hl1,fun m hm=> ?_⟩
    simp only [Builtin.firstCells]
    by_cases hm0:m=0
    ·subst hm0;simp [loadCells,loadCellsFrom]
    ·rw [ha (by omega)]
     have hle:m * z<=n * z:=lu _ hm
     refine pw (hh.froz _ _ g) (by simp [hl1,lI hle]) fun j v hv=>hx j v ?_
     rw [pY] at hv
     split at hv
     ·exact hv
     ·cases hv
  ·cases hk
 ·rename_i s
  split at hk
  ·rename_i h1
   have h1:=cw h1
   subst h1
   rw [bH,bA] at hk
   refine⟨_,_,hk,fun μ w X hh hX=> ?_⟩
   obtain⟨bs,rfl,hl⟩:=hX.str_inv
   refine⟨by simp [Builtin.lenOf,rM hl],(bs.data.toList.map fun b=>Value.int .u8 b.toNat), ?_, ?_,fun m hm=> ?_⟩
   ·rw [←hl,List.map_map]
    generalize bs.data.toList=l
    induction l with
    | nil=>exact .nil
    | cons a l ih=>exact .cons _ _ _ _ (.int _ _) ih
   ·have:=rM hl;simp [←this]
   ·simp only [Builtin.firstCells,Sem.run_pure]
    congr 1
    rw [←iv]
    have:=rC bs 0 m
    simp only [ou,this,dZ,fi,kC,List.map_take]
  ·cases hk
 ·cases hk
theorem np {c:Call} {x y:AV} (ho:o.op= .call c) (hx:c.args.toList.map (opd e)=[x,y]):∀(μ:Mu) (a:Act),mF μ e a o->∃u v,c.args.map a.eval=#[u,v]/\VR μ x u/\VR μ y v:=by
 intro μ a h
 have hvs:VRs μ (c.args.toList.map (opd e)) (c.args.toList.map a.eval):=kD fun y hy=>h.mem (by
  simp only [ho,Op.operands,Call.operands]
  simp
  exact .inr (by simpa using hy))
 rw [hx] at hvs
 generalize has:c.args.toList.map a.eval=as at hvs
 obtain⟨u,v,rfl,hu,hv⟩:=hvs.two
 refine⟨u,v, ?_,hu,hv⟩
 rw [←iv]
 simpa using has
theorem ww {l:List AV} {k:AV->AV->Bool} (h:I7 l k=true):∃x y,l=[x,y]/\k x y=true:=by
 unfold I7 at h
 split at h
 ·exact⟨_,_,rfl,h⟩
 ·cases h
theorem QE {c:Call} {t:TypeId} {rest:List TypeId} {d s:AV} (ho:o.op= .call c) (hc:c.callee= .builtin .copy) (ht:c.argTypes.toList=t::rest) (hx:c.args.toList.map (opd e)=[d,s])
  {k:AV->Hp->Bool} (hk:Gz P H t d s k=true):nA P G o e H k:=by
 unfold Gz at hk
 cases hk
end
section
variable {P : Program} {G : bg} {o : Oper} {e : En} {H : Hp}
theorem vO {t:TypeId} (h:qy P t=false):∃d,P.underlying t=some d/\∀k,d≠ .int k:=by
 unfold qy at h
 split at h
 ·cases h
 ·rename_i d hne hd
  exact⟨d,hd,fun k hk=>hne k hk⟩
 ·cases h
theorem A5 {t:TypeId} (h:pm P t=true):∃i v,P.info? t=some i/\i.zero=some v/\v.cells.size=P.cellsOf t:=by
 unfold pm at h
 split at h
 ·rename_i z hz
  obtain⟨i,v,hi,hv,hzv⟩:=o3 hz
  refine⟨i,v,hi,hv, ?_⟩
  have h:=cw h
  have:=(hzv ⟨fun _=>none,fun _=>none⟩).cells.length
  rw [←h,←this]
  simp
 ·cases h
theorem E6 (newLen:Nat):∀(r c:Nat),Builtin.growBy newLen r c<=max c (newLen+(newLen+768)/4):=by
 intro r
 induction r with
 | zero=>intro c;simp only [Builtin.growBy];omega
 | succ r ih=>
  intro c
  simp only [Builtin.growBy]
  split
  ·omega
  ·have:=ih (c+(c+768)/4)
   omega
theorem uc {need cap:Nat} (h:cap<need):Builtin.nextslicecap need cap<=2 * need+1000:=by
 unfold Builtin.nextslicecap
 split
 ·omega
 ·split
  ·omega
  ·have:=E6 need 4 cap
   omega
section
variable {t tx el ty : TypeId} {w : World} {base : Option Addr} {n cap m : Nat} {X : Value} {xs : List Value}
theorem pk (hu:P.underlying t=some (.slice el)) (hinfo:(P.info? el).isSome=true) (htx:qy P tx=false) {w':World}
  (c1:(Builtin.lenOf X).run P w= .ok m w) (c4:(Builtin.firstCells (P.cellsOf el) m X).run P w= .ok xs.toArray w) (hle:n+m<=cap)
  (hst:match base with
   | some a=>(storeCells (a.add (n * P.cellsOf el)) xs).run P w= .ok () w'
   | none=>w'=w):
  (Builtin.append_ #[t,tx] ty #[.slice base n cap,X]).run P w= .ok (.slice base (n+m) cap) w':=by
 obtain⟨d,hd,hdi⟩:=vO htx
 have go:(Builtin.append_ #[t,tx] ty #[.slice base n cap,X]).run P w=((match base with
   | some a=>storeCells (a.add (n * P.cellsOf el)) xs
   | none=>pure ()).run P w).andThen fun _ w'=>.ok (.slice base (n+m) cap) w':=by
  cases d with
  | int k=>exact absurd rfl (hdi k)
  | _=>
   simp only [Builtin.append_,nY,rV,nS,Sem.run_bind,bO hu,bO hd,gA hinfo,Result.andThen_ok,Sem.run_pure,dI,eE,c1,hle,gh,eP,c4]
   cases base with
   | none=>rfl
   | some a=>simp only [Sem.run_bind];rfl
 rw [go]
 cases base with
 | none=>simp only at hst;subst hst;rfl
 | some a=>simp only at hst;simp only [hst];rfl
theorem qk (hu:P.underlying t=some (.slice el)) (hinfo:(P.info? el).isSome=true) (htx:qy P tx=false) (hzo:pm P el=true) (hby:P.bytesOf el<=65536)
  {old:List Value}
  (c1:(Builtin.lenOf X).run P w= .ok m w) (c4':(Builtin.firstCells (P.cellsOf el) m X).run P {w with drawn:=w.drawn+1}= .ok xs.toArray {w with drawn:=w.drawn+1})
  (c5':(Builtin.firstCells (P.cellsOf el) n (.slice base n cap)).run P {w with drawn:=w.drawn+1}= .ok old.toArray {w with drawn:=w.drawn+1}) (hlt:cap<n+m) (hsm:n+m<=1048576):
  ∃(newCap:Nat) (rest:List Value),n+m<=newCap/\rest.length=(newCap - (n+m)) * P.cellsOf el/\
   (Builtin.append_ #[t,tx] ty #[.slice base n cap,X]).run P w=
    .ok (.slice (some ⟨w.heap.size,0,none⟩) (n+m) newCap) (World.alloc {w with drawn:=w.drawn+1} (.cells (old++xs++rest).toArray el)):=by
 obtain⟨d,hd,hdi⟩:=vO htx
 obtain⟨i,v,hi,hv,hvs⟩:=A5 hzo
 have hib:i.bytes=P.bytesOf el:=by simp [Program.bytesOf,hi]
 have hn1:¬n+m<=cap:=by omega
 have hmax:IntKind.i64.max=9223372036854775807:=rfl
 have hn2:¬(((n+m:Nat):Int)>IntKind.i64.max/\(False∨i.bytes=0)):=by rw [hmax];omega
 have hn3:¬Builtin.nextslicecap (n+m) cap * i.bytes>2 ^48:=by
  have h1:=uc hlt
  have h2:Builtin.nextslicecap (n+m) cap * i.bytes<=(2 * 1048576+1000) * 65536:=mY (by omega) (by omega)
  omega
 refine⟨(Question.appendCap (n+m) cap el).cut (w.tape w.drawn (.appendCap (n+m) cap el)),(Builtin.zeroCells v.cells ((Question.appendCap (n+m) cap el).cut (w.tape w.drawn (.appendCap (n+m) cap el)) - (n+m))).toList, ?_, ?_, ?_⟩
 ·simp [Question.cut]
 ·simp [Builtin.zeroCells,hvs]
 ·generalize hc:(Question.appendCap (n+m) cap el).cut (w.tape w.drawn (.appendCap (n+m) cap el))=newCap
  have hch:(choose (.appendCap (n+m) cap el)).run P w= .ok newCap {w with drawn:=w.drawn+1}:=by
   simp [choose,Sem.run,Question.forced,hc]
  have hask:∀b w,(askRoom b).run P w= .ok () w:=fun b w=>by
   unfold askRoom
   split<;>simp [mark,Sem.run]
  have hn2':¬(((n+m:Nat):Int)>IntKind.i64.max/\(false=true∨i.bytes=0)):=by simpa using hn2
  have hn1':¬(n+m<=cap):=hn1
  cases d with
  | int k=>exact absurd rfl (hdi k)
  | _=>
   simp only [Builtin.append_,nY,rV,nS,Sem.run_bind,bO hu,bO hd,gA hinfo,Result.andThen_ok,Sem.run_pure,dI,eE,c1,hn1',eP,gh,
    nj hi,hn2,hn2',eE,hn3,hch,hask,c4',c5',zeroValue,hv,newRow,run_newObj_alloc]
   rw [show (old++xs++(Builtin.zeroCells v.cells (newCap - (n+m))).toList).toArray=old.toArray++xs.toArray++Builtin.zeroCells v.cells (newCap - (n+m)) from by simp]
end
theorem HR.heap {μ:Mu} {w w':World} (h:HR G μ H w) (hw:w'.heap=w.heap):HR G μ H w':=h.world (fun _ _ _ _ _=>by rw [hw]) (fun _ _ _=>by rw [hw]) (fun _ _ _=>by rw [hw])
theorem Ext.heap {μ:Mu} {w w':World} (hw:w'.heap=w.heap) (ho:w'.os=w.os) (hp:tW w'=tW w):Ext μ H w μ H w':=
 ⟨Mu.le_refl _,fun _ _=>rfl,fun _ _ h=>h,bh _,by rw [hw];exact bh _,fun _ _ _=>by rw [hw],fun b x p hb hp=>.inr ⟨b,x,p,hb,hp,rfl,id⟩,ho,hp,fun _ _ h=>.inl h⟩
theorem Bl {μ:Mu} {w:World} {b:Nat} (hb':True):Ext μ H w μ ⟨H.t.set b none,H.nx⟩ w:=
 ⟨Mu.le_refl _,fun _ _=>rfl,fun c _ hg=>by
  by_cases e:c=b
  ·subst e;exact dJ hb'
  ·rw [cu (nx':=H.nx) hb' e];exact hg,bh _,bh _,fun _ _ _=>rfl,fun c x p hc hp=>by
  by_cases e:c=b
  ·subst e;rw [dJ hb'] at hc;cases hc
  ·rw [cu (nx':=H.nx) hb' e] at hc;exact .inr ⟨c,x,p,hc,hp,rfl,id⟩,rfl,rfl,fun _ _ h=>.inl h⟩
theorem CH {μ:Mu} {w:World} {H0:Hp} (hh:HR G μ H0 w) (hnx:True) {olda newa:List AV} {old xs rest:List Value} {n m z newCap:Nat} {el:TypeId} {t:Option TypeId} (ht:∀e,t=some e->el=e)
  (h1:VRs μ olda old) (h2:VRs μ newa xs) (l1:old.length=n * z) (l2:xs.length=m * z) (l3:rest.length=(newCap - (n+m)) * z) (hle:n+m<=newCap):
  ∃μ',HR G μ' ⟨H0.t.set H0.nx (some (.cells t false (olda++newa))),H0.nx+1⟩ (World.alloc {w with drawn:=w.drawn+1} (.cells (old++xs++rest).toArray el))/\
   Ext μ H0 w μ' ⟨H0.t.set H0.nx (some (.cells t false (olda++newa))),H0.nx+1⟩ (World.alloc {w with drawn:=w.drawn+1} (.cells (old++xs++rest).toArray el))/\
   VR μ' (.sl H0.nx 0 (n+m) z none) (.slice (some ⟨w.heap.size,0,none⟩) (n+m) newCap):=by
 have hh':HR G μ H0 {w with drawn:=w.drawn+1}:=hh.heap rfl
 obtain⟨hm,hg⟩:=hh.none (bh _)
 have hms:=jy (sz:=z) hle
 have hadd:(n+m) * z=n * z+m * z:=jF _ _ _
 have hv:=h1.append h2
 have hb:BR (μ.upd H0.nx ⟨w.heap.size,0,newCap * z⟩) ⟨w.heap.size,0,newCap * z⟩ (.cells t false (olda++newa)) (some (.cells (old++xs++rest).toArray el)):=by
  have hv':=hv.mono (dU ⟨w.heap.size,0,newCap * z⟩ hm)
  refine⟨_,el,(0,0),rfl, ?_, ?_,fun _=>⟨rfl,fun e he=>⟨ht e he,rfl,by simp;omega⟩⟩,fun i c hc=> ?_⟩
  ·simp;omega
  ·have:=hv.length;simp at this⊢;omega
  ·obtain⟨x,hx,hxv⟩:=hv'.get i hc
   refine⟨x, ?_,hxv⟩
   have hlt:i<(old++xs).length:=(jb.1 hx).1
   simp only [ca,nY]
   rw [ot hlt]
   exact hx
 obtain⟨g1,g2⟩:=HR.new hh' hnx (y:= .cells t false (olda++newa)) hb
 refine⟨_,g1,(Ext.heap (w:=w) (w':={w with drawn:=w.drawn+1}) rfl rfl rfl).trans g2, ?_⟩
 exact .sl _ _ _ _ _ ⟨w.heap.size,0,newCap * z⟩ newCap _ (bT _ _ _) hle (by simp) (fun n hn=>by cases hn) (fun _=>by simp) (fun _=>rfl)
theorem Ep {μ:Mu} {w:World} (hh:HR G μ H w) {b:Nat} {cs old new:List AV} {p:Pl} {t t2:Option TypeId} (hb:H.get b=some (.cells t false cs)) (hp:μ b=some p) (hb':True) (hnx:True)
  {off n z:Nat} {xs:List Value} {m cap:Nat} {ad:Addr} (hold:ew (n * z) (cs.drop off)=some old) (hv:VRs μ new xs) (h1:new.all one=true) (hl:xs.length=m * z)
  (hle:n+m<=cap) (htot:off+cap * z<=p.tot) (ha:0<cap->ad=⟨p.blk,p.base+off,none⟩) (ht2:∀e,t2=some e->t=some e/\off=0/\cap * z=p.tot):
  ∃w' μ',(storeCells ⟨p.blk,p.base+(off+n * z),none⟩ xs).run P w= .ok () w'/\HR G μ' ⟨(H.t.set b none).set H.nx (some (.cells t2 false (old++new))),H.nx+1⟩ w'/\
   Ext μ H w μ' ⟨(H.t.set b none).set H.nx (some (.cells t2 false (old++new))),H.nx+1⟩ w'/\VR μ' (.sl H.nx 0 (n+m) z none) (.slice (some ad) (n+m) cap):=by
 obtain⟨arr,el,fz,e1,e2,e3,e4,e5⟩:=hh.at hb hp
 obtain⟨e4,e6⟩:=e4 rfl
 subst e4
 obtain⟨s1,s2⟩:=lS hold
 have hnl:=hv.length
 have hms:=jy (sz:=z) hle
 have hadd:(n+m) * z=n * z+m * z:=jF _ _ _
 obtain⟨hm0,hg0⟩:=hh.none (bh _)
 have hrun:=run_storeCells_at P p.blk (p.base+(off+n * z)) el xs 0 arr w e1 (by omega) (xE h1 hv)
 rw [qm e1] at hrun
 have hnb:∀c x,(⟨H.t.set b none,H.nx+1⟩:Hp).get c=some x->c≠b/\H.get c=some x:=fun c x hc=>by
  by_cases e:c=b
  ·subst e;rw [dJ hb'] at hc;cases hc
  ·rw [cu (nx':=H.nx) hb' e] at hc;exact⟨e,hc⟩
 have hsep:∀c x q,(⟨H.t.set b none,H.nx+1⟩:Hp).get c=some x->μ c=some q->q.blk≠p.blk:=fun c x q hc hq he=>by
  obtain⟨h1,h2⟩:=hnb c x hc
  exact h1 (hh.own b _ p c x q hb hp rfl h2 hq he.symm).symm
 have hw1:HR G μ ⟨H.t.set b none,H.nx+1⟩ (w.putObj p.blk (.cells (arr.toList.take (p.base+(off+n * z)+0)++xs++arr.toList.drop (p.base+(off+n * z)+0+xs.length)).toArray el (0,0))):=
  (hh.del hb').reserve.world (fun c x q hc hq=>World.putObj_heap_other (hsep c x q hc hq)) (fun g cs hG=>World.putObj_heap_other fun e=>hh.globf g cs b _ p hG hb rfl hp e.symm) (fun j o hj=>World.putObj_heap_other fun e=>by rw [e,hh.frof b _ p hb rfl hp] at hj;cases hj)
 have hmle:=dU (b:=H.nx) ⟨p.blk,p.base+off,cap * z⟩ hm0
 refine⟨_,μ.upd H.nx ⟨p.blk,p.base+off,cap * z⟩,hrun,HR.add hw1 hnx (nM _) hm0 ?_ ?_ hsep (fun g cs hG=>hh.globf g cs b _ p hG hb rfl hp) (fun _=>hh.frof b _ p hb rfl hp), ?_, ?_⟩
 ·cases hq:(⟨H.t.set b none,H.nx+1⟩:Hp).get H.nx with
  | none=>rfl
  | some x=>have:=(hnb _ x hq).2;rw [hg0] at this;cases this
 ·rw [World.putObj_heap_same (hh.lt hb hp)]
  refine⟨_,el,(0,0),rfl, ?_, ?_,fun _=>⟨rfl,fun e he=> ?_⟩,fun i c hc=> ?_⟩
  ·simp;omega
  ·have:=lS hold
   rw [s1];simp;omega
  ·obtain⟨q1,q2,q3⟩:=ht2 e he
   obtain⟨q4,q5,q6⟩:=e6 e q1
   exact⟨q4,by simp only;omega,by simp;omega⟩
  ·have hol:old.length=n * z:=by rw [s1,gW];omega
   simp only [nY]
   rw [vq _ _ _ _ (by simp;omega)]
   by_cases c1:i<old.length
   ·rw [ot c1,s1,pY,if_pos (by omega),kB] at hc
    obtain⟨v,hv1,hv2⟩:=e5 _ _ hc
    refine⟨v, ?_,hv2.mono hmle⟩
    rw [if_pos (by omega),←hv1]
    simp [fm]
   ·rw [kj (by omega)] at hc
    obtain⟨v,hv1,hv2⟩:=hv.get _ hc
    have hlt:=(jb.1 hv1).1
    refine⟨v, ?_,hv2.mono hmle⟩
    rw [if_neg (by omega),if_pos (by omega),←hv1]
    congr 1
    omega
 ·refine⟨hmle,fun c hc=>cq _ _ (kR hc),fun c hc hg=> ?_,Nat.le_succ _,by simp,fun k hk hno=>World.putObj_heap_other (fun e=>hno b _ p hb rfl hp e.symm),fun c x q hc hq=> ?_,rfl,rfl,fun _ _ h=>.inl h⟩
  ·cases hq:(⟨(H.t.set b none).set H.nx (some (.cells t2 false (old++new))),H.nx+1⟩:Hp).get c with
   | none=>rfl
   | some x=>
    rw [cu (nx':=H.nx+1) hnx (kR hc)] at hq
    have:=(hnb c x hq).2
    rw [hg] at this;cases this
  by_cases e:c=H.nx
  ·subst e
   rw [bT] at hq
   obtain rfl:=fc hq
   exact .inr ⟨b,_,p,hb,hp,rfl,fun _=>rfl⟩
  ·rw [cq _ _ e] at hq
   rw [cu (nx':=H.nx+1) hnx e] at hc
   exact .inr ⟨c,x,q,(hnb c x hc).2,hq,rfl,id⟩
 ·exact .sl _ _ _ _ _ ⟨p.blk,p.base+off,cap * z⟩ cap ad (bT _ _ _) hle (by simp) (fun n hn=>by cases hn) (fun _=>by simp) ha
theorem Fg {a b:Nat} (h:Nat.blt a b=false):b<=a:=by
 rw [←fW,cT] at h;omega
theorem xq {off:Nat} {c:Option Nat} {t:Option TypeId} {el e':TypeId} (h:oC off c t el=some e'):el=e'/\c=none/\off=0/\t=some e':=by
 unfold oC at h
 split at h
 ·split at h
  ·rename_i ht
   cases h
   rw [cw ht]
   exact⟨rfl,rfl,rfl,rfl⟩
  ·cases h
 ·cases h
theorem G' {c:Call} {t tx:TypeId} {s x:AV} (ho:o.op= .call c) (hc:c.callee= .builtin .append) (ht:c.argTypes.toList=[t,tx]) (hx:c.args.toList.map (opd e)=[s,x])
  {k:AV->Hp->Bool} (hk:fj P H t tx s x k=true):nA P G o e H k:=by
 have hts:c.argTypes=#[t,tx]:=by rw [←iv];simpa using ht
 have run:∀(a:Act) (w w':World) (u1 u2 v:Value),c.args.map a.eval=#[u1,u2]->(Builtin.append_ #[t,tx] o.type #[u1,u2]).run P w= .ok v w'->(execOp a.eval o).run P w= .ok (.value v) w':=by
  intro a w w' u1 u2 v h1 h2
  simp [execOp,ho,resolve,hc,invoke,builtin,h1,hts,h2,Result.andThen]
 unfold fj at hk
 split at hk
 ·cases hk
 ·rename_i el hel
  obtain⟨hu,hinfo⟩:=fN hel
  split at hk
  ·rename_i htx hzo hc0 hby
   have hby:=dK hby
   have hz0:P.cellsOf el≠0:=fun h=>by rw [h] at hc0;cases hc0
   obtain⟨m,new,hk,hcs⟩:=vI (P:=P) (G:=G) hk
   split at hk
   ·cases hk
   ·rename_i h1
    split at hk
    ·
     have main:∀(base:Option Addr) (n cap:Nat) (μ:Mu) (a:Act) (w:World) (u2:Value),mF μ e a o->HR G μ H w->n<=cap->VR μ x u2->c.args.map a.eval=#[.slice base n cap,u2]->
       (execOp a.eval o).run P w= .ok (.value (.slice base n cap)) w:=by
      intro base n cap μ a w u2 hr hh hle hxv hargs
      obtain⟨c1,xs,c2,c3,c4⟩:=hcs μ w u2 hh hxv
      have hxs:xs=[]:=by simpa using c3
      subst hxs
      have c4:=c4 0 (bh _)
      simp only [kF,List.take_zero] at c4
      exact run a w w _ _ _ hargs (pk hu hinfo htx c1 c4 (by omega) (by cases base<;>simp [storeCells]))
     split at hk
     ·intro μ a w hr hh
      obtain⟨u1,u2,hargs,hd,hs⟩:=np ho hx μ a hr
      cases hd
      exact⟨_,_,μ,H,w,main _ _ _ μ a w u2 hr hh (bh _) hs hargs,.val _ _ .nils,hh,.refl,hk⟩
     ·intro μ a w hr hh
      obtain⟨u1,u2,hargs,hd,hs⟩:=np ho hx μ a hr
      cases hd with
      | sl _ _ n _ _ p cap ad hp hl htot hc hn ha=>
       exact⟨_,_,μ,H,w,main _ _ _ μ a w u2 hr hh hl hs hargs,.val _ _ (.sl _ _ _ _ _ p cap ad hp hl htot hc hn ha),hh,.refl,hk⟩
     ·cases hk
    ·rename_i m
     split at hk
     ·
      split at hk
      ·rename_i hsm
       have hsm:=dK hsm
       obtain⟨hnx,hk⟩:=dN hk
       intro μ a w hr hh
       obtain⟨u1,u2,hargs,hd,hs⟩:=np ho hx μ a hr
       cases hd
       obtain⟨c1,_⟩:=hcs μ w u2 hh hs
       obtain⟨_,xs,c2,c3,c4⟩:=hcs μ {w with drawn:=w.drawn+1} u2 (hh.heap rfl) hs
       have c4:=c4 _ (bh _)
       rw [cN (by omega)] at c4
       obtain⟨nc,rest,g1,g2,g3⟩:=qk (ty:=o.type) (old:=[]) (base:=none) (n:=0) (cap:=0) hu hinfo htx hzo hby c1 c4 (by simp [Builtin.firstCells]) (Nat.zero_lt_succ _:0<0+(m+1)) (by omega)
       obtain⟨μ',q1,q2,q3⟩:=CH (el:=el) (t:=some el) hh hnx (fun e he=>by cases he;rfl) .nil c2 (by simp:([]:List Value).length=0 * P.cellsOf el) c3 g2 g1
       rw [ca] at q3 g3
       exact⟨_,_,μ',_,_,run a w _ _ _ _ hargs g3,.val _ _ q3,q1,q2,hk⟩
      ·cases hk
     ·rename_i b off n z cp hk0
      split at hk
      ·rename_i el0 ro cs hz hsm hb
       have hz:=cw hz
       subst hz
       have hsm:=dK hsm
       split at hk
       ·cases hk
       ·rename_i old hold
        have grow:∀(t2:Option TypeId) (ht2:∀e,t2=some e->el=e) (H0:Hp) (μ:Mu) (a:Act) (w:World) (u2:Value) (base:Option Addr) (cap:Nat),mF μ e a o->HR G μ H w->HR G μ H0 w->True->
          VR μ (.sl b off n (P.cellsOf el) cp) (.slice base n cap)->VR μ x u2->c.args.map a.eval=#[.slice base n cap,u2]->cap<n+(m+1)->
          ∃nx μ' w',(execOp a.eval o).run P w= .ok nx w'/\Dx μ' (.sl H0.nx 0 (n+(m+1)) (P.cellsOf el) none) nx/\
           HR G μ' ⟨H0.t.set H0.nx (some (.cells t2 false (old++new))),H0.nx+1⟩ w'/\Ext μ H0 w μ' ⟨H0.t.set H0.nx (some (.cells t2 false (old++new))),H0.nx+1⟩ w':=by
         intro t2 ht2 H0 μ a w u2 base cap hr hh hh0 hnx hsv hxv hargs hlt
         obtain⟨c1,_⟩:=hcs μ w u2 hh hxv
         obtain⟨_,xs,c2,c3,c4⟩:=hcs μ {w with drawn:=w.drawn+1} u2 (hh.heap rfl) hxv
         have c4:=c4 _ (bh _)
         rw [cN (by omega)] at c4
         obtain⟨_,os,d2,d3,d4⟩:=zf (P:=P) (w:={w with drawn:=w.drawn+1}) (hh.heap rfl) hsv hb hold
         have d4:=d4 _ (bh _)
         rw [cN (by omega)] at d4
         obtain⟨nc,rest,g1,g2,g3⟩:=qk (ty:=o.type) hu hinfo htx hzo hby c1 c4 d4 hlt hsm
         obtain⟨μ',q1,q2,q3⟩:=CH (el:=el) (t:=t2) hh0 hnx ht2 d2 c2 d3 c3 g2 g1
         exact⟨_,μ',_,run a w _ _ _ _ hargs g3,.val _ _ q3,q1,q2⟩
        split at hk
        ·rename_i hcl
         rw [bH] at hk
         obtain⟨hnx,hk⟩:=dN hk
         rw [bA] at hk
         intro μ a w hr hh
         obtain⟨u1,u2,hargs,hd,hs⟩:=np ho hx μ a hr
         have hd':=hd
         cases hd with
         | sl _ _ _ _ _ p cap ad hp hl htot hc hn ha=>
          have hlt:cap<n+(m+1):=by
           cases cp with
           | none=>simp [lZ] at hcl
           | some c'=>rw [hc _ rfl];simpa [lZ,cT] using hcl
          obtain⟨nx,μ',w',q1,q2,q3,q4⟩:=grow (some el) (fun e he=>by cases he;rfl) H μ a w u2 _ cap hr hh hh hnx hd' hs hargs hlt
          exact⟨_,nx,μ',_,w',q1,q2,q3,q4,hk⟩
        ·rename_i hcl
         split at hk
         ·cases hk
         ·split at hk
          ·
           rename_i hfit
           have hfit:=dK hfit
           split at hk
           ·rename_i cs' hset
            rw [bH] at hk
            obtain⟨hb',hk⟩:=dD hk
            rw [bA] at hk
            intro μ a w hr hh
            obtain⟨u1,u2,hargs,hd,hs⟩:=np ho hx μ a hr
            cases hd with
            | sl _ _ _ _ _ p cap ad hp hl htot hc hn ha=>
             obtain⟨c1,xs,c2,c3,c4⟩:=hcs μ w u2 hh hs
             have c4:=c4 _ (bh _)
             rw [cN (by omega)] at c4
             obtain⟨arr,el',fz,e1,e2,e3,e4,e5⟩:=hh.at hb hp
             have hle:n+(m+1)<=cap:=by
              cases cp with
              | some c'=>rw [hc _ rfl];simp only [lZ] at hcl;exact Fg hcl
              | none=>
               have h5:=hn rfl
               have h6:(n+(m+1)) * P.cellsOf el<=cap * P.cellsOf el:=by omega
               exact Nat.le_of_mul_le_mul_right h6 (Nat.pos_of_ne_zero hz0)
             obtain⟨w',g1,g2,g3⟩:=tp (P:=P) hh hb hp hb' hset c2 h1
             refine⟨_,_,μ,_,w',run a w w' _ _ _ hargs (pk hu hinfo htx c1 c4 hle ?_),.val _ _ (.sl b off (n+(m+1)) _ cp p cap ad hp hle htot hc hn ha),g2,g3,hk⟩
             simp only
             rw [ha (by omega),iB,fm]
             exact g1
           ·cases hk
          ·
           rw [bH] at hk
           obtain⟨hb',hk⟩:=dD hk
           obtain⟨hnx,hk⟩:=dN hk
           rw [bA] at hk
           intro μ a w hr hh
           obtain⟨u1,u2,hargs,hd,hs⟩:=np ho hx μ a hr
           have hd':=hd
           cases hd with
           | sl _ _ _ _ _ p cap ad hp hl htot hc hn ha=>
            by_cases hle:n+(m+1)<=cap
            ·obtain⟨c1,xs,c2,c3,c4⟩:=hcs μ w u2 hh hs
             have c4:=c4 _ (bh _)
             rw [cN (by omega)] at c4
             obtain⟨w',μ',q1,q2,q3,q4⟩:=Ep (P:=P) hh hb hp hb' hnx hold c2 h1 c3 hle htot ha (fun e he=>by
              obtain⟨a1,a2,a3,a4⟩:=xq he
              subst a1
              have:=hn a2
              exact⟨a4,a3,by omega⟩)
             refine⟨_,_,μ',_,w',run a w w' _ _ _ hargs (pk hu hinfo htx c1 c4 hle ?_),.val _ _ q4,q2,q3,hk⟩
             simp only
             rw [ha (by omega),iB,fm]
             exact q1
            ·obtain⟨nx,μ',w',q1,q2,q3,q4⟩:=grow (oC off cp el0 el) (fun e he=>(xq he).1) ⟨H.t.set b none,H.nx⟩ μ a w u2 _ cap hr hh (hh.del hb') hnx hd' hs hargs (by omega)
             exact⟨_,nx,μ',_,w',q1,q2,q3,(Bl hb').trans q4,hk⟩
      ·cases hk
     ·cases hk
  ·cases hk
theorem uU {c:Call} {x:AV} (ho:o.op= .call c) (hx:c.args.toList.map (opd e)=[x]):∀(μ:Mu) (a:Act),mF μ e a o->∃u,c.args.map a.eval=#[u]/\VR μ x u:=by
 intro μ a h
 have hvs:VRs μ (c.args.toList.map (opd e)) (c.args.toList.map a.eval):=kD fun y hy=>h.mem (by
  simp only [ho,Op.operands,Call.operands]
  simp
  exact .inr (by simpa using hy))
 rw [hx] at hvs
 generalize has:c.args.toList.map a.eval=as at hvs
 cases hvs with
 | cons _ u _ us hu hs=>
  cases hs
  refine⟨u, ?_,hu⟩
  rw [←iv]
  simpa using has
theorem AL {l:List AV} {k:AV->Bool} (h:one1 l k=true):∃x,l=[x]/\k x=true:=by
 unfold one1 at h
 split at h
 ·exact⟨_,rfl,h⟩
 ·cases h
theorem KZ {c:Call} {t:TypeId} {rest:List TypeId} {x:AV} (ho:o.op= .call c) (hc:c.callee= .builtin .clear) (ht:c.argTypes.toList=t::rest) (hx:c.args.toList.map (opd e)=[x])
  {k:AV->Hp->Bool} (hk:te P H t x k=true):nA P G o e H k:=by
 have hts:c.argTypes[0]? =some t:=by rw [←Array.getElem?_toList,ht];rfl
 have run:∀(a:Act) (w w':World) (u1 v:Value),c.args.map a.eval=#[u1]->(Builtin.clear_ c.argTypes o.type #[u1]).run P w= .ok v w'->(execOp a.eval o).run P w= .ok (.value v) w':=by
  intro a w w' u1 v h1 h2
  simp [execOp,ho,resolve,hc,invoke,builtin,h1,h2,Result.andThen]
 unfold te at hk
 split at hk
 ·rename_i el hel
  obtain⟨hu,hinfo⟩:=fN hel
  intro μ a w hr hh
  obtain⟨u1,hargs,hd⟩:=uU ho hx μ a hr
  cases hd
  refine⟨_,_,μ,H,w,run a w w _ _ hargs ?_,.val _ _ (.tup [] #[] .nil),hh,.refl,hk⟩
  simp [Builtin.clear_,hts,bO hu,Result.andThen]
 ·rename_i el b off n z cp hel
  obtain⟨hu,hinfo⟩:=fN hel
  split at hk
  ·intro μ a w hr hh
   obtain⟨u1,hargs,hd⟩:=uU ho hx μ a hr
   cases hd
   refine⟨_,_,μ,H,w,run a w w _ _ hargs ?_,.val _ _ (.tup [] #[] .nil),hh,.refl,hk⟩
   simp [Builtin.clear_,hts,bO hu,Result.andThen]
  ·rename_i n
   split at hk
   ·rename_i cs hz hzo h1 hb
    have hz:=cw hz
    subst hz
    split at hk
    ·rename_i cs' hset
     rw [bH] at hk
     obtain⟨hb',hk⟩:=dD hk
     intro μ a w hr hh
     obtain⟨u1,hargs,hd⟩:=uU ho hx μ a hr
     cases hd with
     | sl _ _ _ _ _ p cap ad hp hl htot hc hn ha=>
      have hzr:∃z,zro P el=some z:=by
       unfold pm at hzo
       split at hzo
       ·exact⟨_,by assumption⟩
       ·cases hzo
      obtain⟨zz,hzz⟩:=hzr
      obtain⟨i,v,hi,hv,hzv⟩:=sU hzz
      have hzs:=uV (hzv μ) (n+1)
      have h1':(fd (EA P el) (n+1)).all one=true:=by
       rw [eI] at h1⊢
       intro y hy
       obtain⟨j,hj⟩:=List.getElem?_of_mem hy
       rw [tQ] at hj
       split at hj
       ·exact h1 y (ku hj)
       ·cases hj
      obtain⟨w',g1,g2,g3⟩:=tp (P:=P) hh hb hp hb' hset hzs h1'
      refine⟨_,_,μ,_,w',run a w w' _ _ hargs ?_,.val _ _ (.tup [] #[] .nil),g2,g3,hk⟩
      have had:ad=⟨p.blk,p.base+off,none⟩:=ha (by omega)
      subst had
      have hzrun:(zeroValue el).run P w= .ok v w:=by simp [zeroValue,nj hi,hv,Result.andThen]
      simp only [Builtin.clear_,hts,nY,rV,Sem.run_bind,bO hu,Result.andThen_ok,hzrun,Builtin.zeroCells,g1,Sem.run_pure]
    ·cases hk
   ·cases hk
 ·cases hk
end
theorem AG {P:Program} {w:World} {r:Nat} {o o':Obj} (h:w.heap[r]? =some o) (hn:∀a b c,o≠ .cells a b c):(setObj r o').run P w= .ok () (w.putObj r o'):=by
 unfold setObj
 cases o<;>simp only [Sem.run,h,World.putObj]
 rename_i a b c
 exact absurd rfl (hn a b c)
theorem Eh {μ:Mu} {p:Pl} {ro:Bool} {es:List (AV×AV×Nat)} {cl:Nat} {ents:Array MapEntry} (h:iH μ es ents.toList):BR μ p (.map ro es cl) (some (.map ents cl)):=
 ⟨ents,rfl,by simpa using h.len,fun i y v s hs=>by simpa using h.get i y v s hs⟩
theorem iH.mono {μ μ':Mu} (hm:μ.le μ') {es:List (AV×AV×Nat)} {xs:List MapEntry} (h:iH μ es xs):iH μ' es xs:=by
 induction h with
 | nil=>exact .nil
 | cons _ _ _ _ _ _ hk hv hb _ ih=>exact .cons _ _ _ _ _ _ (hk.mono hm) (hv.mono hm) hb ih
theorem iH.push {μ:Mu} {es:List (AV×AV×Nat)} {xs:List MapEntry} (h:iH μ es xs) {y v:AV} {x:MapEntry} (hk:VR μ y x.key) (hv:VR μ v x.val):iH μ (es++[(y,v,x.born)]) (xs++[x]):=by
 induction h with
 | nil=>exact .cons _ _ _ _ _ _ hk hv rfl .nil
 | cons _ _ _ _ _ _ hk hv hb _ ih=>exact .cons _ _ _ _ _ _ hk hv hb ih
theorem iH.setVal {μ:Mu} {es:List (AV×AV×Nat)} {xs:List MapEntry} (h:iH μ es xs) {v:AV} {x:Value} (hv:VR μ v x) (f:MapEntry->MapEntry):
  ∀(j:Nat),(∀z,xs[j]? =some z->(f z).key=z.key/\(f z).val=x/\(f z).born=z.born)->iH μ (setVal v es j) (xs.modify j f):=by
 induction h with
 | nil=>intro j hf;cases j<;>exact .nil
 | cons y v' s z es xs hk hv' hb h ih=>
  intro j hf
  cases j with
  | zero=>
   obtain⟨h1,h2,h3⟩:=hf z (by simp)
   exact .cons _ _ _ _ _ _ (by rw [h1];exact hk) (by rw [h2];exact hv) (by rw [h3];exact hb) h
  | succ j=>
   exact .cons _ _ _ _ _ _ hk hv' hb (ih j fun z hz=>hf z (by simpa using hz))
theorem LD {μ:Mu} {es:List (AV×AV×Nat)} {xs:List MapEntry} (h:iH μ es xs) (f:MapEntry->MapEntry):
  ∀(j:Nat),(∀z,xs[j]? =some z->f z=z)->iH μ es (xs.modify j f):=by
 induction h with
 | nil=>intro j hf;cases j<;>exact .nil
 | cons y v' s z es xs hk hv' hb h ih=>
  intro j hf
  cases j with
  | zero=>
   have:=hf z (by simp)
   exact .cons _ _ _ _ _ _ (by rw [this];exact hk) (by rw [this];exact hv') (by rw [this];exact hb) h
  | succ j=>exact .cons _ _ _ _ _ _ hk hv' hb (ih j fun z hz=>hf z (by simpa using hz))
section
variable {P : Program} {G : bg} {o : Oper} {e : En} {H : Hp}
theorem Cc (u:Value) (w:World):∃w',(Instr.keyThatStays u u).run P w= .ok u w'/\w'.heap=w.heap/\w'.os=w.os/\tW w'=tW w:=by
 unfold Instr.keyThatStays
 split
 ·exact⟨w,by simp,rfl,rfl,rfl⟩
 ·refine⟨{w with drawn:=w.drawn+1}, ?_,rfl,rfl,rfl⟩
  simp [choose,Sem.run,Question.forced]
theorem CJ {μ:Mu} {w w1:World} (hh:HR G μ H w) {b:Nat} {es es':List (AV×AV×Nat)} {cl cl':Nat} {p:Pl} (hb:H.get b=some (.map false es cl)) (hp:μ b=some p) (hb':True)
  {ents':Array MapEntry} (he:iH μ es' ents'.toList) (h1:w1.heap=w.heap) (h2:w1.os=w.os) (h3:tW w1=tW w):
  (setObj p.blk (.map ents' cl')).run P w1= .ok () (w1.putObj p.blk (.map ents' cl'))/\HR G μ ⟨H.t.set b (some (.map false es' cl')),H.nx⟩ (w1.putObj p.blk (.map ents' cl'))/\
   Ext μ H w μ ⟨H.t.set b (some (.map false es' cl')),H.nx⟩ (w1.putObj p.blk (.map ents' cl')):=by
 have hh1:HR G μ H w1:=hh.heap h1
 obtain⟨ents,g1,_⟩:=ix (hh1.at hb hp)
 exact⟨AG g1 (by simp),hh1.put hb rfl hp hb' (Eh he),(Ext.heap h1 h2 h3).trans (gS hh1 hb rfl hp hb' _)⟩
theorem zR {t:TypeId} {m i v:AV} {k:Hp->Bool} (hk:eM P H t m i v k=true):
  ∃H',k H'=true/\∀(μ:Mu) (w:World) (mv u x:Value),HR G μ H w->VR μ m mv->VR μ i u->VR μ v x->
   ∃w',(Instr.mapUpdate t mv u x).run P w= .ok () w'/\HR G μ H' w'/\Ext μ H w μ H' w':=by
 unfold eM at hk
 split at hk
 ·rename_i mt b hmt
  obtain⟨kt,hu,hf⟩:=oZ hmt
  split at hk
  ·rename_i es cl hb
   split at hk
   ·rename_i j v0 hkey
    rw [bH] at hk
    obtain⟨hb',hk⟩:=dD hk
    refine⟨_,hk,fun μ w mv u x hh hm hi hv=> ?_⟩
    cases hm with
    | map _ p hp=>
     obtain⟨ents,g1,g2⟩:=ix (hh.at hb hp)
     obtain⟨k1,k2⟩:=nu hkey
     have hck:=qz hf k1 hi false w
     have hfk:=sN hf hi w g2 k2
     rcases lm hi 0 g2 k2 with⟨h,_⟩| ⟨j',v',x',f1,f2,f3,z,f4,f5,f6,f7⟩
     ·cases h
     ·rw [ca] at f1 f2
      injection f1 with f1
      injection f1 with f1 _
      subst f1
      have f4':ents[j]? =some z:=by simpa using f4
      obtain⟨w1,s1,s2,s3,s4⟩:=Cc (P:=P) u w
      obtain⟨q1,q2,q3⟩:=CJ (P:=P) (cl':=cl) (w1:=w1) (ents':=ents.modify j fun e=>{e with key:=u,val:=x}) (es':=setVal v es j) hh hb hp hb' (by
       rw [Array.toList_modify]
       exact g2.setVal hv _ j fun z' hz'=>by
        rw [f4] at hz'
        cases hz'
        exact⟨f5.symm,rfl,rfl⟩) s2 s3 s4
      refine⟨_, ?_,q2,q3⟩
      simp only [Instr.mapUpdate,Sem.run_bind,bO hu,Result.andThen_ok,iU g1 (by simp),hck,hfk,f2,f4',nC,Option.getD_some,f5,s1,q1]
   ·rename_i hkey
    rw [bH,bA] at hk
    obtain⟨hb',hk⟩:=dD hk
    refine⟨_,hk,fun μ w mv u x hh hm hi hv=> ?_⟩
    cases hm with
    | map _ p hp=>
     obtain⟨ents,g1,g2⟩:=ix (hh.at hb hp)
     obtain⟨k1,k2⟩:=nu hkey
     have hck:=qz hf k1 hi false w
     have hfk:=sN hf hi w g2 k2
     rcases lm hi 0 g2 k2 with⟨_,h⟩| ⟨j',v',x',f1,_⟩
     ·obtain⟨q1,q2,q3⟩:=CJ (P:=P) (cl':=cl+1) (w1:=w) (ents':=ents.push {key:=u,val:=x,born:=cl}) (es':=es++[(i,v,cl)]) hh hb hp hb' (by
       rw [Array.toList_push]
       exact g2.push (x:={key:=u,val:=x,born:=cl}) hi hv) rfl rfl rfl
      refine⟨_, ?_,q2,q3⟩
      simp only [Instr.mapUpdate,Sem.run_bind,bO hu,Result.andThen_ok,iU g1 (by simp),hck,hfk,h,q1]
     ·cases f1
   ·cases hk
  ·cases hk
 ·cases hk
theorem tA {t:TypeId} {m i v:Operand} (ho:o.op= .mapUpdate t m i v∨o.op= .insert t m i v) {k:AV->Hp->Bool}
  (hk:eM P H t (opd e m) (opd e i) (opd e v) (fun H=>k (.tup []) H)=true):nA P G o e H k:=by
 have hmm:m∈o.op.operands:=by rcases ho with ho | ho<;>simp [ho,Op.operands]
 have hmi:i∈o.op.operands:=by rcases ho with ho | ho<;>simp [ho,Op.operands]
 have hmv:v∈o.op.operands:=by rcases ho with ho | ho<;>simp [ho,Op.operands]
 obtain⟨H',hk,hr⟩:=zR (G:=G) hk
 intro μ a w hop hh
 obtain⟨w',g1,g2,g3⟩:=hr μ w _ _ _ hh (hop.mem hmm) (hop.mem hmi) (hop.mem hmv)
 refine⟨_,.skip,μ,H',w', ?_,.skip,g2,g3,hk⟩
 rcases ho with ho | ho<;>simp [execOp,ho,g1,Result.andThen]
theorem BU {t:TypeId} {m i:Operand} (ho:o.op= .mapEntry t m i) {k:AV->Hp->Bool} (hk:tt P H t (opd e m) (opd e i) k=true):nA P G o e H k:=by
 unfold tt at hk
 cases hk
theorem y3 {t:TypeId} {m s v:Operand} (ho:o.op= .entryStore t m s v) {k:AV->Hp->Bool}
  (hk:oS H (opd e m) (opd e s) (opd e v) (fun H=>k (.tup []) H)=true):nA P G o e H k:=by
 unfold oS at hk
 cases hk
end
end Go.Ev
