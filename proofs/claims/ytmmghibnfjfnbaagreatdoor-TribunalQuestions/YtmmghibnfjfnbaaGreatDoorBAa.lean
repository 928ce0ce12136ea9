/- A part of the proof of TribunalBack. -/
import GoSem.Step
import Derived.RangeFuncRecord
import Derived.Laws.Cells
import Derived.Laws.CopyRow
import Derived.Laws.Entries
import Derived.IntWalk
import Derived.Laws.Tables
import Derived.Great.BuildSlice
import Derived.Laws.Strings
import Derived.Lib.Strings
import Derived.Laws.Concat
import Derived.Laws.StructEq
import Derived.Laws.Cover3
import Derived.Laws.Pointers
import Derived.Laws.Small
import Derived.Lib.Builder
import Derived.WideLaws
import Derived.Lib.UnsafeStr
set_option linter.unusedVariables false
set_option linter.unusedSimpArgs false
namespace Go.Ev
noncomputable section
set_option linter.unusedVariables false
inductive Box (α:Type) where
 | mk (a:α)
inductive D where
 | bool (b:Bool)
 | int (k:IntKind) (n:Int)
 | str (s:List Nat)
 | nilp
 | ptr (cs:List D) (off:Nat)
 | nils
 | sl (sz:Nat) (cs:List D) (len:Nat)
 | nilm
 | map (ks vs:List D)
 | fn (f:FuncId) (first cap:List D)
 | nilf
 | ifc (t:TypeId) (v:D)
 | nili
 | agg (cs:List D)
 | tup (cs:List D)
inductive AV where
 | bool (b:Bool)
 | int (k:IntKind) (n:Int)
 | str (s:List Nat)
 | ptr (b off:Nat)
 | nilp
 | gptr (g off:Nat)
 | sl (b off len sz:Nat) (cap:Option Nat)
 | nils
 | map (b:Nat)
 | nilm
 | fn (f:FuncId) (first captured:List AV)
 | yld (b:Nat)
 | nilf
 | ifc (t:TypeId) (v:AV)
 | nili
 | agg (cs:List AV)
 | tup (vs:List AV)
 | dat (d:D)
mutual
def ofD:D→AV
 | .bool b=> .bool b
 | .int k n=> .int k n
 | .str s=> .str s
 | .nilp=> .nilp
 | .nils=> .nils
 | .nilm=> .nilm
 | .fn f a c=> .fn f (ofDs a) (ofDs c)
 | .nilf=> .nilf
 | .ifc t v=> .ifc t (ofD v)
 | .nili=> .nili
 | .agg cs=> .agg (ofDs cs)
 | .tup cs=> .tup (ofDs cs)
 | .ptr cs off=> .dat (.ptr cs off)
 | .sl sz cs len=> .dat (.sl sz cs len)
 | .map ks vs=> .dat (.map ks vs)
def ofDs:List D→List AV
 | []=>[]
 | d::ds=>ofD d::ofDs ds
end
structure R (α:Type) where
 (a0:α)
 (a1:α)
 (a2:α)
 (a3:α)
 (a4:α)
 (a5:α)
 (a6:α)
 (a7:α)
 (a8:α)
 (a9:α)
 (a10:α)
 (a11:α)
 (a12:α)
 (a13:α)
 (a14:α)
 (a15:α)
def getB {α:Type} (d:Nat):Box (R α→α):=
 match d with
 | 0=> .mk fun r=>R.casesOn r fun a0 _ _ _ _ _ _ _ _ _ _ _ _ _ _ _=>a0
 | 1=> .mk fun r=>R.casesOn r fun _ a1 _ _ _ _ _ _ _ _ _ _ _ _ _ _=>a1
 | 2=> .mk fun r=>R.casesOn r fun _ _ a2 _ _ _ _ _ _ _ _ _ _ _ _ _=>a2
 | 3=> .mk fun r=>R.casesOn r fun _ _ _ a3 _ _ _ _ _ _ _ _ _ _ _ _=>a3
 | 4=> .mk fun r=>R.casesOn r fun _ _ _ _ a4 _ _ _ _ _ _ _ _ _ _ _=>a4
 | 5=> .mk fun r=>R.casesOn r fun _ _ _ _ _ a5 _ _ _ _ _ _ _ _ _ _=>a5
 | 6=> .mk fun r=>R.casesOn r fun _ _ _ _ _ _ a6 _ _ _ _ _ _ _ _ _=>a6
 | 7=> .mk fun r=>R.casesOn r fun _ _ _ _ _ _ _ a7 _ _ _ _ _ _ _ _=>a7
 | 8=> .mk fun r=>R.casesOn r fun _ _ _ _ _ _ _ _ a8 _ _ _ _ _ _ _=>a8
 | 9=> .mk fun r=>R.casesOn r fun _ _ _ _ _ _ _ _ _ a9 _ _ _ _ _ _=>a9
 | 10=> .mk fun r=>R.casesOn r fun _ _ _ _ _ _ _ _ _ _ a10 _ _ _ _ _=>a10
 | 11=> .mk fun r=>R.casesOn r fun _ _ _ _ _ _ _ _ _ _ _ a11 _ _ _ _=>a11
 | 12=> .mk fun r=>R.casesOn r fun _ _ _ _ _ _ _ _ _ _ _ _ a12 _ _ _=>a12
 | 13=> .mk fun r=>R.casesOn r fun _ _ _ _ _ _ _ _ _ _ _ _ _ a13 _ _=>a13
 | 14=> .mk fun r=>R.casesOn r fun _ _ _ _ _ _ _ _ _ _ _ _ _ _ a14 _=>a14
 | _=> .mk fun r=>R.casesOn r fun _ _ _ _ _ _ _ _ _ _ _ _ _ _ _ a15=>a15
def modB {α:Type} (d:Nat):Box (R α→(α→(α→Bool)→Bool)→(R α→Bool)→Bool):=
 match d with
 | 0=> .mk fun r f k=>R.casesOn r fun a0 a1 a2 a3 a4 a5 a6 a7 a8 a9 a10 a11 a12 a13 a14 a15=>f a0 fun x=>k ⟨x,a1,a2,a3,a4,a5,a6,a7,a8,a9,a10,a11,a12,a13,a14,a15⟩
 | 1=> .mk fun r f k=>R.casesOn r fun a0 a1 a2 a3 a4 a5 a6 a7 a8 a9 a10 a11 a12 a13 a14 a15=>f a1 fun x=>k ⟨a0,x,a2,a3,a4,a5,a6,a7,a8,a9,a10,a11,a12,a13,a14,a15⟩
 | 2=> .mk fun r f k=>R.casesOn r fun a0 a1 a2 a3 a4 a5 a6 a7 a8 a9 a10 a11 a12 a13 a14 a15=>f a2 fun x=>k ⟨a0,a1,x,a3,a4,a5,a6,a7,a8,a9,a10,a11,a12,a13,a14,a15⟩
 | 3=> .mk fun r f k=>R.casesOn r fun a0 a1 a2 a3 a4 a5 a6 a7 a8 a9 a10 a11 a12 a13 a14 a15=>f a3 fun x=>k ⟨a0,a1,a2,x,a4,a5,a6,a7,a8,a9,a10,a11,a12,a13,a14,a15⟩
 | 4=> .mk fun r f k=>R.casesOn r fun a0 a1 a2 a3 a4 a5 a6 a7 a8 a9 a10 a11 a12 a13 a14 a15=>f a4 fun x=>k ⟨a0,a1,a2,a3,x,a5,a6,a7,a8,a9,a10,a11,a12,a13,a14,a15⟩
 | 5=> .mk fun r f k=>R.casesOn r fun a0 a1 a2 a3 a4 a5 a6 a7 a8 a9 a10 a11 a12 a13 a14 a15=>f a5 fun x=>k ⟨a0,a1,a2,a3,a4,x,a6,a7,a8,a9,a10,a11,a12,a13,a14,a15⟩
 | 6=> .mk fun r f k=>R.casesOn r fun a0 a1 a2 a3 a4 a5 a6 a7 a8 a9 a10 a11 a12 a13 a14 a15=>f a6 fun x=>k ⟨a0,a1,a2,a3,a4,a5,x,a7,a8,a9,a10,a11,a12,a13,a14,a15⟩
 | 7=> .mk fun r f k=>R.casesOn r fun a0 a1 a2 a3 a4 a5 a6 a7 a8 a9 a10 a11 a12 a13 a14 a15=>f a7 fun x=>k ⟨a0,a1,a2,a3,a4,a5,a6,x,a8,a9,a10,a11,a12,a13,a14,a15⟩
 | 8=> .mk fun r f k=>R.casesOn r fun a0 a1 a2 a3 a4 a5 a6 a7 a8 a9 a10 a11 a12 a13 a14 a15=>f a8 fun x=>k ⟨a0,a1,a2,a3,a4,a5,a6,a7,x,a9,a10,a11,a12,a13,a14,a15⟩
 | 9=> .mk fun r f k=>R.casesOn r fun a0 a1 a2 a3 a4 a5 a6 a7 a8 a9 a10 a11 a12 a13 a14 a15=>f a9 fun x=>k ⟨a0,a1,a2,a3,a4,a5,a6,a7,a8,x,a10,a11,a12,a13,a14,a15⟩
 | 10=> .mk fun r f k=>R.casesOn r fun a0 a1 a2 a3 a4 a5 a6 a7 a8 a9 a10 a11 a12 a13 a14 a15=>f a10 fun x=>k ⟨a0,a1,a2,a3,a4,a5,a6,a7,a8,a9,x,a11,a12,a13,a14,a15⟩
 | 11=> .mk fun r f k=>R.casesOn r fun a0 a1 a2 a3 a4 a5 a6 a7 a8 a9 a10 a11 a12 a13 a14 a15=>f a11 fun x=>k ⟨a0,a1,a2,a3,a4,a5,a6,a7,a8,a9,a10,x,a12,a13,a14,a15⟩
 | 12=> .mk fun r f k=>R.casesOn r fun a0 a1 a2 a3 a4 a5 a6 a7 a8 a9 a10 a11 a12 a13 a14 a15=>f a12 fun x=>k ⟨a0,a1,a2,a3,a4,a5,a6,a7,a8,a9,a10,a11,x,a13,a14,a15⟩
 | 13=> .mk fun r f k=>R.casesOn r fun a0 a1 a2 a3 a4 a5 a6 a7 a8 a9 a10 a11 a12 a13 a14 a15=>f a13 fun x=>k ⟨a0,a1,a2,a3,a4,a5,a6,a7,a8,a9,a10,a11,a12,x,a14,a15⟩
 | 14=> .mk fun r f k=>R.casesOn r fun a0 a1 a2 a3 a4 a5 a6 a7 a8 a9 a10 a11 a12 a13 a14 a15=>f a14 fun x=>k ⟨a0,a1,a2,a3,a4,a5,a6,a7,a8,a9,a10,a11,a12,a13,x,a15⟩
 | _=> .mk fun r f k=>R.casesOn r fun a0 a1 a2 a3 a4 a5 a6 a7 a8 a9 a10 a11 a12 a13 a14 a15=>f a15 fun x=>k ⟨a0,a1,a2,a3,a4,a5,a6,a7,a8,a9,a10,a11,a12,a13,a14,x⟩
def R.all {α:Type} (x:α):R α:=⟨x,x,x,x,x,x,x,x,x,x,x,x,x,x,x,x⟩
abbrev E2:=R (R AV)
def E2.empty:E2:=R.all (R.all (.tup []))
def egetB (t:Nat):Box (E2→AV):=Box.casesOn (getB (α:=R AV) (Nat.div t 16)) fun g=>Box.casesOn (getB (α:=AV) (Nat.mod t 16)) fun h=> .mk fun e=>h (g e)
def eputB (t:Nat):Box (E2→AV→(E2→Bool)→Bool):=
 Box.casesOn (modB (α:=R AV) (Nat.div t 16)) fun g=>Box.casesOn (modB (α:=AV) (Nat.mod t 16)) fun h=>
  .mk fun e v k=>g e (fun r kr=>h r (fun _ kx=>kx v) kr) k
inductive Blk where
 | cells (el:Option TypeId) (ro:Bool) (cs:List AV)
 | map (ro:Bool) (es:List (AV×AV×Nat)) (clock:Nat)
 | siter (s:List Nat) (pos:Nat)
 | miter (m:Option Nat) (since:Nat) (seen:List Nat) (stepped:Nat)
 | loop (st:LoopState) (pend:Option Code) (env:E2) (nt:Nat) (params:List Nat) (assign body:Code) (defers:Nat)
 | dfr (opened:Bool)
abbrev H4:=R (R (R (R (Option Blk))))
def H4.empty:H4:=R.all (R.all (R.all (R.all none)))
def hgetB (b:Nat):Box (H4→Option Blk):=
 Box.casesOn (getB (α:=R (R (R (Option Blk)))) (Nat.mod (Nat.div b 4096) 16)) fun g=>Box.casesOn (getB (α:=R (R (Option Blk))) (Nat.mod (Nat.div b 256) 16)) fun h=>
 Box.casesOn (getB (α:=R (Option Blk)) (Nat.mod (Nat.div b 16) 16)) fun i=>Box.casesOn (getB (α:=Option Blk) (Nat.mod b 16)) fun j=> .mk fun t=>j (i (h (g t)))
def hputB (b:Nat):Box (H4→Option Blk→(H4→Bool)→Bool):=
 Box.casesOn (modB (α:=R (R (R (Option Blk)))) (Nat.mod (Nat.div b 4096) 16)) fun g=>Box.casesOn (modB (α:=R (R (Option Blk))) (Nat.mod (Nat.div b 256) 16)) fun h=>
 Box.casesOn (modB (α:=R (Option Blk)) (Nat.mod (Nat.div b 16) 16)) fun i=>Box.casesOn (modB (α:=Option Blk) (Nat.mod b 16)) fun j=>
  .mk fun t v k=>g t (fun r kr=>h r (fun r kr=>i r (fun r kr=>j r (fun _ kx=>kx v) kr) kr) kr) k
structure T4 where
 h:H4
 r:Nat→Option Blk
structure Hp where
 t:T4
 nx:Nat
def Hp.empty:Hp:=⟨⟨H4.empty,fun _=>none⟩,0⟩
inductive Dm where
 | mark (b:Nat)
 | call (f:FuncId) (args:List AV)
structure En where
 t:E2
 dm:List Dm
inductive AEx where
 | normal
 | exit (id:Nat)
 | ret
 | pan (v:AV) (bad:List Nat)
inductive AEnd where
 | ret (v:AV)
 | pan (v:AV)
def forceN (n:Nat) (k:Nat→Bool):Bool:=Nat.casesOn n (k 0) (fun m=>k (Nat.succ m))
def forceI (n:Int) (k:Int→Bool):Bool:=
 Int.casesOn n (fun m=>forceN m fun m=>k (.ofNat m)) (fun m=>forceN m fun m=>k (.negSucc m))
def forceL {α:Type} (l:List α) (k:List α→Bool):Bool:=
 (List.rec (motive:=fun _=>(List α→Bool)→Bool) (fun k=>k []) (fun x _ ih k=>ih fun ys=>k (x::ys)) l:(List α→Bool)→Bool) k
def forceB (b:Bool) (k:Bool→Bool):Bool:=Bool.casesOn b (k false) (k true)
def Hp.get (H:Hp) (b:Nat):Option Blk:=Hp.casesOn H fun t _=>T4.casesOn t fun t r=>Bool.casesOn (Nat.blt b 65536) (r b) (Box.casesOn (hgetB b) fun g=>g t)
def Hp.put (H:Hp) (b:Nat) (x:Option Blk) (k:Hp→Bool):Bool:=Hp.casesOn H fun t nx=>T4.casesOn t fun t r=>
 Bool.casesOn (Nat.blt b 65536) (k ⟨⟨t,fun c=>Bool.casesOn (Nat.beq c b) (r c) x⟩,nx⟩) (Box.casesOn (hputB b) fun g=>g t x fun t=>k ⟨⟨t,r⟩,nx⟩)
def Hp.reserve (H:Hp) (k:Nat→Hp→Bool):Bool:=Hp.casesOn H fun t nx=>forceN (Nat.succ nx) fun nx'=>k nx ⟨t,nx'⟩
def Hp.new (H:Hp) (x:Blk) (k:Nat→Hp→Bool):Bool:=H.reserve fun b H=>H.put b (some x) fun H=>k b H
def ofC:Nat→Value→Option AV
 | 0,_=>none
 | d+1,v=>
  match v with
  | .bool b=>some (.bool b)
  | .int k n=>some (.int k n)
  | .string s=>some (.str (s.data.toList.map UInt8.toNat))
  | .pointer none=>some .nilp
  | .slice none 0 0=>some .nils
  | .map none=>some .nilm
  | .nilFunc=>some .nilf
  | .nilIface=>some .nili
  | .iface t v=>match ofC d v with
   | some a=>some (.ifc t a)
   | none=>none
  | .agg cs=>match cs.toList.mapM (ofC d) with
   | some l=>some (.agg l)
   | none=>none
  | .tuple cs=>match cs.toList.mapM (ofC d) with
   | some l=>some (.tup l)
   | none=>none
  | _=>none
def cst (v:Value):AV:=(ofC 6 v).getD .nilp
abbrev OpdF:=En→AV
def opdB:Operand→Box OpdF
 | .tmp t=>Box.casesOn (egetB t) fun g=> .mk fun e=>En.casesOn e fun x _=>g x
 | .const v=> .mk fun _=>cst v
 | .global g=> .mk fun _=> .gptr g 0
 | .func f=> .mk fun _=> .fn f [] []
def optB:Option Operand→Box (En→Option AV)
 | none=> .mk fun _=>none
 | some o=>Box.casesOn (opdB o) fun g=> .mk fun e=>some (g e)
def opdsB (l:List Operand):Box (En→List AV):=
 List.rec (.mk fun _=>[]) (fun o _ r=>Box.casesOn (opdB o) fun g=>Box.casesOn r fun r=> .mk fun e=>g e::r e) l
def partsB (l:List (Nat×Operand)):Box (En→List (Nat×AV)):=
 List.rec (.mk fun _=>[]) (fun o _ r=>Prod.casesOn o fun i o=>Box.casesOn (opdB o) fun g=>Box.casesOn r fun r=> .mk fun e=>(i,g e)::r e) l
def opd (e:En) (o:Operand):AV:=Box.casesOn (opdB o) fun g=>g e
def okOpd:Operand→Bool
 | .tmp t=>Nat.blt t 256
 | .const v=>(ofC 6 v).isSome
 | _=>true
inductive Sc where
 | b
 | i
 | s
structure Fl where
 ag:Bool
 sc:List Sc
section
variable (P : Program)
def isAg (t:TypeId):Option Bool:=
 match P.underlying t with
 | some (.struct _)=>some true
 | some (.array _ _)=>some true
 | some _=>some false
 | none=>none
def zro (t:TypeId):Option AV:=
 match P.info? t with
 | some i=>match i.zero with
  | some v=>ofC 6 v
  | none=>none
 | none=>none
def elemSlice (t:TypeId):Option TypeId:=
 match P.underlying t with
 | some (.slice e)=>match P.info? e with
  | some _=>some e
  | none=>none
 | _=>none
def ifaceType (t:TypeId):Bool:=
 match P.underlying t with
 | some (.interface _)=>true
 | some _=>false
 | none=>true
def isString (t:TypeId):Bool:=
 match P.underlying t with
 | some .string=>true
 | _=>false
def isIntT (t:TypeId):Bool:=
 match P.underlying t with
 | some (.int _)=>true
 | some _=>false
 | none=>true
def flatFields (P:Program) (rec:TypeId→Option Fl):List Field→Nat→Option (List Sc)
 | [],_=>some []
 | f::fs,o=>match f.name != "_",Nat.beq f.offset o,rec f.type with
  | true,true,some fl=>match Nat.beq fl.sc.length (P.cellsOf f.type),flatFields P rec fs (o+fl.sc.length) with
   | true,some r=>some (fl.sc++r)
   | _,_=>none
  | _,_,_=>none
def flat (P:Program):Nat→TypeId→Option Fl
 | 0,_=>none
 | d+1,t=>
  match P.underlying t with
  | some .bool=>some ⟨false,[.b]⟩
  | some (.int _)=>some ⟨false,[.i]⟩
  | some .string=>some ⟨false,[.s]⟩
  | some (.struct fs)=>match P.stoodInHeld t with
   | true=>none
   | false=>match flatFields P (flat P d) fs.toList 0 with
    | some sc=>some ⟨true,sc⟩
    | none=>none
  | some (.array n e)=>match flat P d e with
   | some fl=>match Nat.beq fl.sc.length (P.cellsOf e) with
    | true=>some ⟨true,(List.replicate n fl.sc).flatten⟩
    | false=>none
   | none=>none
  | _=>none
def eqOk (t:TypeId):Option Fl:=
 match P.eqGuardType P.depth t with
 | true=>none
 | false=>flat P 8 t
end
def kcode:IntKind→Nat
 | .i8=>0 | .i16=>1 | .i32=>2 | .i64=>3 | .u8=>4 | .u16=>5 | .u32=>6 | .u64=>7
def ilt:Int→Int→Bool
 | .ofNat a, .ofNat b=>Nat.blt a b
 | .negSucc _, .ofNat _=>true
 | .ofNat _, .negSucc _=>false
 | .negSucc a, .negSucc b=>Nat.blt b a
def ieq:Int→Int→Bool
 | .ofNat a, .ofNat b=>Nat.beq a b
 | .negSucc a, .negSucc b=>Nat.beq a b
 | _,_=>false
def wrp (k:IntKind) (n:Int):Int:=
 match k,n with
 | .i64, .ofNat m=>match Nat.blt m 9223372036854775808 with
  | true=> .ofNat m
  | false=>IntKind.wrap .i64 (.ofNat m)
 | .i64, .negSucc m=>match Nat.blt m 9223372036854775808 with
  | true=> .negSucc m
  | false=>IntKind.wrap .i64 (.negSucc m)
 | k,n=>k.wrap n
def strEq:List Nat→List Nat→Bool
 | [],[]=>true
 | a::x,b::y=>match Nat.beq a b with
  | true=>strEq x y
  | false=>false
 | _,_=>false
def strLt:List Nat→List Nat→Bool
 | _,[]=>false
 | [],_::_=>true
 | a::x,b::y=>match Nat.blt a b with
  | true=>true
  | false=>match Nat.beq a b with
   | true=>strLt x y
   | false=>false
def scEq:Sc→AV→AV→Option Bool
 | .b, .bool true, .bool b=>some b
 | .b, .bool false, .bool b=>some (!b)
 | .i, .int k a, .int k' b=>match Nat.beq (kcode k) (kcode k') with
  | true=>some (ieq a b)
  | false=>none
 | .s, .str a, .str b=>some (strEq a b)
 | _,_,_=>none
def scEqs:List Sc→List AV→List AV→Option Bool
 | [],[],[]=>some true
 | c::sc,a::x,b::y=>match scEq c a b,scEqs sc x y with
  | some p,some q=>some (p&&q)
  | _,_=>none
 | _,_,_=>none
def flEq (fl:Fl) (x y:AV):Option Bool:=
 match fl.ag,x,y with
 | true, .agg a, .agg b=>scEqs fl.sc a b
 | true,_,_=>none
 | false,x,y=>scEqs fl.sc [x] [y]
def scFit:Sc→AV→Bool
 | .b, .bool _=>true
 | .i, .int _ _=>true
 | .s, .str _=>true
 | _,_=>false
def scFits:List Sc→List AV→Bool
 | [],[]=>true
 | c::sc,a::x=>match scFit c a with
  | true=>scFits sc x
  | false=>false
 | _,_=>false
def flFit (fl:Fl) (x:AV):Bool:=
 match fl.ag,x with
 | true, .agg a=>scFits fl.sc a
 | true,_=>false
 | false,x=>scFits fl.sc [x]
def AV.cells:AV→List AV
 | .agg cs=>cs
 | v=>[v]
def eqV (P:Program) (t:TypeId) (nc:Bool) (x y:AV):Option Bool:=
 match P.underlying t with
 | some (.slice _)=>match x,y with
  | .nils, .nils=>some true
  | .nils, .sl .. =>some false
  | .sl .., .nils=>some false
  | .nils, .dat (.sl ..)=>some false
  | .dat (.sl ..), .nils=>some false
  | _,_=>none
 | some (.map _ _)=>match x,y with
  | .nilm, .nilm=>some true
  | .nilm, .map _=>some false
  | .map _, .nilm=>some false
  | _,_=>none
 | some (.func _ _ _)=>match x,y with
  | .nilf, .nilf=>some true
  | .nilf, .fn .. =>some false
  | .fn .., .nilf=>some false
  | _,_=>none
 | some (.pointer el)=>match x,y with
  | .nilp, .nilp=>some true
  | .nilp, .ptr .. =>some false
  | .ptr .., .nilp=>some false
  | .ptr a i, .ptr b j=>match Nat.beq a b&&Nat.beq i j,(P.info? el).isSome with
   | true,true=>some true
   | _,_=>none
  | _,_=>none
 | some (.interface _)=>match x,y with
  | .nili, .nili=>match nc with
   | true=>some true
   | false=>none
  | .nili, .ifc .. =>some false
  | .ifc .., .nili=>some false
  | _,_=>none
 | _=>match eqOk P t with
  | some fl=>flEq fl x y
  | none=>none
def intBin (op:BinOp) (ik:IntKind) (a b:Int) (k:AV→Bool):Bool:=
 match op with
 | .add=>forceI (wrp ik (a+b)) fun n=>k (.int ik n)
 | .sub=>forceI (wrp ik (a - b)) fun n=>k (.int ik n)
 | .mul=>forceI (wrp ik (a * b)) fun n=>k (.int ik n)
 | .quo=>match ieq b 0 with
  | true=>false
  | false=>forceI (wrp ik (a.tdiv b)) fun n=>k (.int ik n)
 | .rem=>match ieq b 0 with
  | true=>false
  | false=>forceI (a.tmod b) fun n=>k (.int ik n)
 | .eql=>forceB (ieq a b) fun r=>k (.bool r)
 | .neq=>forceB (!(ieq a b)) fun r=>k (.bool r)
 | .lss=>forceB (ilt a b) fun r=>k (.bool r)
 | .leq=>forceB (!(ilt b a)) fun r=>k (.bool r)
 | .gtr=>forceB (ilt b a) fun r=>k (.bool r)
 | .geq=>forceB (!(ilt a b)) fun r=>k (.bool r)
 | .and=>forceI (ik.wrap ((BitVec.ofInt ik.bits a)&&& (BitVec.ofInt ik.bits b)).toNat) fun n=>k (.int ik n)
 | .or=>forceI (ik.wrap ((BitVec.ofInt ik.bits a)||| (BitVec.ofInt ik.bits b)).toNat) fun n=>k (.int ik n)
 | .xor=>forceI (ik.wrap ((BitVec.ofInt ik.bits a) ^^^ (BitVec.ofInt ik.bits b)).toNat) fun n=>k (.int ik n)
 | .andNot=>forceI (ik.wrap ((BitVec.ofInt ik.bits a)&&& ~~~(BitVec.ofInt ik.bits b)).toNat) fun n=>k (.int ik n)
 | _=>false
def intShift (op:BinOp) (ik:IntKind) (a b:Int) (k:AV→Bool):Bool:=
 match ilt b 0 with
 | true=>false
 | false=>match op with
  | .shl=>forceI (ik.wrap (a * 2 ^(min b.toNat ik.bits))) fun n=>k (.int ik n)
  | .shr=>forceI (a.fdiv (2 ^(min b.toNat ik.bits))) fun n=>k (.int ik n)
  | _=>false
def isShift:BinOp→Bool
 | .shl=>true
 | .shr=>true
 | _=>false
def strBin (op:BinOp) (a b:List Nat) (k:AV→Bool):Bool:=
 match op with
 | .add=>match Nat.ble (a.length+b.length) 1048576 with
  | true=>forceL (a++b) fun s=>k (.str s)
  | false=>false
 | .eql=>forceB (strEq a b) fun r=>k (.bool r)
 | .neq=>forceB (!(strEq a b)) fun r=>k (.bool r)
 | .lss=>forceB (strLt a b) fun r=>k (.bool r)
 | .leq=>forceB (strLt a b||strEq a b) fun r=>k (.bool r)
 | .gtr=>forceB (!(strLt a b||strEq a b)) fun r=>k (.bool r)
 | .geq=>forceB (!(strLt a b)) fun r=>k (.bool r)
 | _=>false
def eqBin (P:Program) (op:BinOp) (t:TypeId) (nc:Bool) (x y:AV) (k:AV→Bool):Bool:=
 match op with
 | .eql=>match eqV P t nc x y with
  | some r=>forceB r fun r=>k (.bool r)
  | none=>false
 | .neq=>match eqV P t nc x y with
  | some r=>forceB (!r) fun r=>k (.bool r)
  | none=>false
 | _=>false
def binK (P:Program) (op:BinOp) (t:TypeId) (nc:Bool) (x y:AV) (k:AV→Bool):Bool:=
 match x,y with
 | .int ik a, .int ik' b=>match isShift op with
  | true=>intShift op ik a b k
  | false=>match Nat.beq (kcode ik) (kcode ik') with
   | true=>intBin op ik a b k
   | false=>false
 | .str a, .str b=>strBin op a b k
 | x,y=>eqBin P op t nc x y k
def unK (op:UnOp) (x:AV) (k:AV→Bool):Bool:=
 match op,x with
 | .neg, .int ik n=>forceI (wrp ik (0 - n)) fun n=>k (.int ik n)
 | .not, .bool b=>forceB (!b) fun b=>k (.bool b)
 | .xor, .int ik n=>forceI (ik.wrap ((BitVec.ofInt ik.bits (if ik.signed then -1 else ik.max)) ^^^ (BitVec.ofInt ik.bits n)).toNat) fun n=>k (.int ik n)
 | _,_=>false
def takeN:Nat→List AV→Option (List AV)
 | 0,_=>some []
 | _+1,[]=>none
 | n+1,x::xs=>match takeN n xs with
  | some ys=>some (x::ys)
  | none=>none
def partK (P:Program) (t:TypeId) (cs:List AV) (off:Nat) (k:AV→Bool):Bool:=
 match isAg P t with
 | some true=>match takeN (P.cellsOf t) (cs.drop off) with
  | some ys=>forceL ys fun ys=>k (.agg ys)
  | none=>false
 | some false=>match cs[off]? with
  | some v=>k v
  | none=>false
 | none=>false
def one:AV→Bool
 | .agg _=>false
 | .tup _=>false
 | _=>true
def setAt:List AV→Nat→List AV→Option (List AV)
 | cs,0,[]=>some cs
 | [],0,_::_=>none
 | _::cs,0,v::vs=>match setAt cs 0 vs with
  | some r=>some (v::r)
  | none=>none
 | [],_+1,_=>none
 | c::cs,n+1,vs=>match setAt cs n vs with
  | some r=>some (c::r)
  | none=>none
def zerosOf (z:List AV):Nat→List AV
 | 0=>[]
 | n+1=>z++zerosOf z n
def retPtr (b:Nat):AV:= .ptr b 0
def retMap (b:Nat):AV:= .map b
def retSl (n sz:Nat) (b:Nat):AV:= .sl b 0 n sz (some n)
structure Evs where
 code:Nat→Code→Option Nat→En→Hp→(AEx→En→Hp→Bool)→Bool
 call:FuncId→List AV→Hp→(AEnd→Hp→Bool)→Bool
abbrev Globals:=Nat→Option (List AV)
abbrev Prims:=FuncId→Option (List D→Option D)
section
variable (P : Program) (G : Globals) (pr : Prims)
def loadK (H:Hp) (t:TypeId) (a:AV) (k:AV→Bool):Bool:=
 match a with
 | .ptr b off=>match H.get b with
  | some (.cells _ _ cs)=>partK P t cs off k
  | _=>false
 | .gptr g off=>match G g with
  | some cs=>partK P t cs off k
  | none=>false
 | .dat (.ptr cs off)=>partK P t (ofDs cs) off k
 | _=>false
def storeK (H:Hp) (t:TypeId) (a v:AV) (k:Hp→Bool):Bool:=
 match a with
 | .ptr b off=>match H.get b with
  | some (.cells el false cs)=>
   match Nat.beq v.cells.length (P.cellsOf t),isAg P t,v.cells.all one,setAt cs off v.cells with
   | true,some _,true,some cs=>forceL cs fun cs=>H.put b (some (.cells el false cs)) k
   | _,_,_,_=>false
  | _=>false
 | _=>false
def fillA (places:List (Nat×Nat)):List (Nat×AV)→List AV→Option (List AV)
 | [],cs=>some cs
 | (i,v)::rest,cs=>
  match places[i]? with
  | some (off,size)=>match Nat.beq v.cells.length size with
   | true=>match setAt cs off v.cells with
    | some cs=>fillA places rest cs
    | none=>none
   | false=>none
  | none=>none
def fillS (size:Nat):List (Nat×AV)→List AV→Option (List AV)
 | [],cs=>some cs
 | (i,v)::rest,cs=>
  match Nat.beq v.cells.length size with
  | true=>match setAt cs (i * size) v.cells with
   | some cs=>fillS size rest cs
   | none=>none
  | false=>none
def buildK (t:TypeId) (parts:List (Nat×AV)) (k:AV→Bool):Bool:=
 match zro P t,P.underlying t with
 | some (.agg z),some (.struct fs)=>
  match fs.toList.all fun f=>(P.info? f.type).isSome with
  | true=>match fillA (fs.toList.map fun f=>(f.offset,P.cellsOf f.type)) parts z with
   | some cs=>forceL cs fun cs=>k (.agg cs)
   | none=>false
  | false=>false
 | some (.agg z),some (.array _ e)=>
  match (P.info? e).isSome with
  | true=>match fillS (P.cellsOf e) parts z with
   | some cs=>forceL cs fun cs=>k (.agg cs)
   | none=>false
  | false=>false
 | _,_=>false
def zeroCs (e:TypeId):List AV:=
 match zro P e with
 | some z=>z.cells
 | none=>[]
def zeroOk (e:TypeId):Bool:=
 match zro P e with
 | some z=>Nat.beq z.cells.length (P.cellsOf e)
 | none=>false
def buildSliceK (t:TypeId) (len:Nat) (parts:List (Nat×AV)) (k:Blk→(Nat→AV)→Bool):Bool:=
 match elemSlice P t with
 | some e=>match zro P e,Nat.beq (zeroCs P e).length (P.cellsOf e),Nat.ble (len * P.cellsOf e) 16777216 with
  | some _,true,true=>match fillS (P.cellsOf e) parts (zerosOf (zeroCs P e) len) with
   | some cs=>forceL cs fun cs=>k (.cells (some e) false cs) (retSl len (P.cellsOf e))
   | none=>false
  | _,_,_=>false
 | none=>false
def indexAtK (t:TypeId) (x i:AV) (k:AV→Bool):Bool:=
 match i with
 | .int _ (.ofNat i)=>
  match P.underlying t,x with
  | some (.array len e), .ptr b off=>match Nat.blt i len,(P.info? e).isSome with
   | true,true=>forceN (off+i * P.cellsOf e) fun o=>k (.ptr b o)
   | _,_=>false
  | some (.array len e), .gptr b off=>match Nat.blt i len,(P.info? e).isSome with
   | true,true=>forceN (off+i * P.cellsOf e) fun o=>k (.gptr b o)
   | _,_=>false
  | some (.slice e), .sl b off len sz _=>match Nat.blt i len,(P.info? e).isSome,Nat.beq sz (P.cellsOf e) with
   | true,true,true=>forceN (off+i * sz) fun o=>k (.ptr b o)
   | _,_,_=>false
  | some (.slice e), .dat (.sl sz cs len)=>match Nat.blt i len,(P.info? e).isSome,Nat.beq sz (P.cellsOf e) with
   | true,true,true=>forceN (i * sz) fun o=>k (.dat (.ptr cs o))
   | _,_,_=>false
  | _,_=>false
 | _=>false
def natOf:AV→Option Nat
 | .int _ (.ofNat n)=>some n
 | _=>none
def optNat (d:Nat):Option AV→Option Nat
 | none=>some d
 | some v=>natOf v
def reach (H:Hp) (sz b off len:Nat) (c:Option Nat) (h:Nat):Bool:=
 match Nat.ble h len with
 | true=>true
 | false=>match c with
  | some c=>Nat.ble h c
  | none=>match sz,H.get b with
   | sz+1,some (.cells _ _ cs)=>Nat.ble (off+h * (sz+1)) cs.length
   | _,_=>false
def sliceAtK (H:Hp) (t:TypeId) (x:AV) (lo hi mx:Option AV) (k:AV→Bool):Bool:=
 match x with
 | .str s=>match isString P t,optNat 0 lo,optNat s.length hi,mx with
  | true,some l,some h,none=>match Nat.ble l h,Nat.ble h s.length with
   | true,true=>forceL ((s.drop l).take (h - l)) fun s=>k (.str s)
   | _,_=>false
  | _,_,_,_=>false
 | .sl b off len sz c=>match elemSlice P t,optNat 0 lo,optNat len hi with
  | some e,some l,some h=>
   match Nat.beq sz (P.cellsOf e) with
   | false=>false
   | true=>match mx with
    | none=>match Nat.ble l h,reach H sz b off len c h,c with
     | true,true,none=>forceN (off+l * sz) fun o=>forceN (h - l) fun n=>k (.sl b o n sz none)
     | true,true,some c=>match Nat.beq c l with
      | true=>k (.sl b off 0 sz (some 0))
      | false=>forceN (off+l * sz) fun o=>forceN (h - l) fun n=>forceN (c - l) fun m=>k (.sl b o n sz (some m))
     | _,_,_=>false
    | some m=>match natOf m,hi with
     | some m,some _=>match Nat.ble l h,Nat.ble h m,reach H sz b off len c m with
      | true,true,true=>match Nat.beq m l with
       | true=>k (.sl b off 0 sz (some 0))
       | false=>forceN (off+l * sz) fun o=>forceN (h - l) fun n=>forceN (m - l) fun m=>k (.sl b o n sz (some m))
      | _,_,_=>false
     | _,_=>false
  | _,_,_=>false
 | .dat (.sl sz cs len)=>match elemSlice P t,optNat 0 lo,optNat len hi,mx with
  | some e,some l,some h,none=>match Nat.beq sz (P.cellsOf e),Nat.ble l h,Nat.ble h len with
   | true,true,true=>forceN (h - l) fun n=>k (.dat (.sl sz ((cs.drop (l * sz)).take (n * sz)) n))
   | _,_,_=>false
  | _,_,_,_=>false
 | .nils=>match elemSlice P t,optNat 0 lo,optNat 0 hi,optNat 0 mx,mx.isSome&& !hi.isSome with
  | some _,some 0,some 0,some 0,false=>k .nils
  | _,_,_,_,_=>false
 | .ptr b off=>match P.underlying t,H.get b with
  | some (.array n e),some (.cells _ _ cs)=>match (P.info? e).isSome,optNat 0 lo,optNat n hi,mx with
   | true,some l,some h,none=>match Nat.ble l h,Nat.ble h n,Nat.beq n l,Nat.ble (off+n * P.cellsOf e) cs.length with
    | true,true,false,true=>forceN (off+l * P.cellsOf e) fun o=>forceN (h - l) fun m=>forceN (n - l) fun c=>k (.sl b o m (P.cellsOf e) (some c))
    | _,_,_,_=>false
   | _,_,_,_=>false
  | _,_=>false
 | _=>false
def lenK (t:TypeId) (x:AV) (H:Hp) (k:AV→Bool):Bool:=
 match P.underlying t,x with
 | some .string, .str s=>forceN s.length fun n=>k (.int .i64 (.ofNat n))
 | some (.array n _),_=>k (.int .i64 (.ofNat n))
 | some (.slice _), .sl _ _ n _ _=>k (.int .i64 (.ofNat n))
 | some (.slice _), .nils=>k (.int .i64 (.ofNat 0))
 | some (.slice _), .dat (.sl _ _ n)=>k (.int .i64 (.ofNat n))
 | some (.map _ _), .nilm=>k (.int .i64 (.ofNat 0))
 | some (.map _ _), .map b=>match H.get b with
  | some (.map _ es _)=>forceN es.length fun n=>k (.int .i64 (.ofNat n))
  | _=>false
 | _,_=>false
def cellsOfK (H:Hp) (sz:Nat) (x:AV) (k:Nat→List AV→Bool):Bool:=
 match x with
 | .nils=>k 0 []
 | .sl b off n z _=>match Nat.beq z sz,H.get b with
  | true,some (.cells _ _ cs)=>match takeN (n * sz) (cs.drop off) with
   | some ys=>forceL ys fun ys=>k n ys
   | none=>false
  | _,_=>false
 | .dat (.sl z cs n)=>match Nat.beq z sz,takeN (n * sz) (ofDs cs) with
  | true,some ys=>forceL ys fun ys=>k n ys
  | _,_=>false
 | .str s=>match Nat.beq sz 1 with
  | true=>forceL (s.map fun c=>AV.int .u8 (.ofNat c)) fun ys=>forceN s.length fun n=>k n ys
  | false=>false
 | _=>false
def minN (m n:Nat):Nat:=
 match Nat.ble m n with
 | true=>m
 | false=>n
def capLt (c:Option Nat) (n:Nat):Bool:=
 match c with
 | some c=>Nat.blt c n
 | none=>false
def appEl (off:Nat) (c:Option Nat) (el:Option TypeId) (e:TypeId):Option TypeId:=
 match off,c,el with
 | 0,none,some t=>match Nat.beq t e with
  | true=>some e
  | false=>none
 | _,_,_=>none
def appendK (H:Hp) (t tx:TypeId) (s x:AV) (k:AV→Hp→Bool):Bool:=
 match elemSlice P t with
 | none=>false
 | some e=>
  match isIntT P tx,zeroOk P e,Nat.beq (P.cellsOf e) 0,Nat.ble (P.bytesOf e) 65536 with
  | false,true,false,true=>
   cellsOfK H (P.cellsOf e) x fun m new=>
   match new.all one with
   | false=>false
   | true=>match m with
    | 0=>match s with
     | .nils=>k s H
     | .sl .. =>k s H
     | _=>false
    | m+1=>match s with
     | .nils=>match Nat.ble (m+1) 1048576 with
      | true=>H.new (.cells (some e) false new) fun b H=>k (.sl b 0 (m+1) (P.cellsOf e) none) H
      | false=>false
     | .sl b off n z c=>match Nat.beq z (P.cellsOf e),Nat.ble (n+(m+1)) 1048576,H.get b with
      | true,true,some (.cells el ro cs)=>
       match takeN (n * z) (cs.drop off) with
       | none=>false
       | some old=>
        match capLt c (n+(m+1)) with
        | true=>forceL (old++new) fun cs=>H.new (.cells (some e) false cs) fun b H=>forceN (n+(m+1)) fun l=>k (.sl b 0 l z none) H
        | false=>match ro with
         | true=>false
         | false=>match Nat.ble (off+(n+(m+1)) * z) cs.length with
          | true=>match setAt cs (off+n * z) new with
           | some cs=>forceL cs fun cs=>H.put b (some (.cells el false cs)) fun H=>forceN (n+(m+1)) fun l=>k (.sl b off l z c) H
           | none=>false
          | false=>forceL (old++new) fun cs'=>H.put b none fun H=>H.new (.cells (appEl off c el e) false cs') fun b H=>forceN (n+(m+1)) fun l=>k (.sl b 0 l z none) H
      | _,_,_=>false
     | _=>false
  | _,_,_,_=>false
def copyK (H:Hp) (t:TypeId) (d s:AV) (k:AV→Hp→Bool):Bool:=
 match elemSlice P t with
 | none=>false
 | some e=>
  cellsOfK H (P.cellsOf e) s fun m new=>
   match new.all one with
   | false=>false
   | true=>match d with
    | .nils=>k (.int .i64 (.ofNat 0)) H
    | .sl b off n z _=>match Nat.beq z (P.cellsOf e),H.get b with
     | true,some (.cells el false cs)=>
      forceN (minN m n) fun l=>
      match setAt cs off (new.take (l * z)) with
      | some cs=>forceL cs fun cs=>H.put b (some (.cells el false cs)) fun H=>k (.int .i64 (.ofNat l)) H
      | none=>false
     | _,_=>false
    | _=>false
def clearK (H:Hp) (t:TypeId) (x:AV) (k:AV→Hp→Bool):Bool:=
 match elemSlice P t,x with
 | some _, .nils=>k (.tup []) H
 | some e, .sl b off n z _=>match n with
  | 0=>k (.tup []) H
  | n+1=>match Nat.beq z (P.cellsOf e),zeroOk P e,(zeroCs P e).all one,H.get b with
   | true,true,true,some (.cells el false cs)=>match setAt cs off (zerosOf (zeroCs P e) (n+1)) with
    | some cs=>forceL cs fun cs=>H.put b (some (.cells el false cs)) fun H=>k (.tup []) H
    | none=>false
   | _,_,_,_=>false
 | _,_=>false
def findKey (fl:Fl) (x:AV):List (AV×AV×Nat)→Nat→Option (Option (Nat×AV))
 | [],_=>some none
 | (y,v,_)::es,i=>match flEq fl x y with
  | some true=>some (some (i,v))
  | some false=>findKey fl x es (i+1)
  | none=>none
def setVal (v:AV):List (AV×AV×Nat)→Nat→List (AV×AV×Nat)
 | [],_=>[]
 | (y,_,s)::es,0=>(y,v,s)::es
 | e::es,i+1=>e::setVal v es i
structure MT where
 elem:TypeId
 fl:Fl
def mapElem (t:TypeId):Option MT:=
 match P.underlying t with
 | some (.map kt e)=>match flat P 8 kt with
  | some fl=>some ⟨e,fl⟩
  | none=>none
 | _=>none
def keyAt (mt:MT) (es:List (AV×AV×Nat)) (i:AV):Option (Option (Nat×AV)):=
 match flFit mt.fl i with
 | true=>findKey mt.fl i es 0
 | false=>none
def lookupFin (es:List (AV×AV×Nat)) (mt:MT) (i:AV) (ok:Bool) (k:AV→Bool):Bool:=
 match keyAt mt es i with
 | some (some (_,v))=>match ok with
  | true=>k (.tup [v, .bool true])
  | false=>k v
 | some none=>match zro P mt.elem with
  | some z=>match ok with
   | true=>k (.tup [z, .bool false])
   | false=>k z
  | none=>false
 | none=>false
def lookupK (H:Hp) (t:TypeId) (m i:AV) (ok:Bool) (k:AV→Bool):Bool:=
 match mapElem P t,m with
 | some mt, .nilm=>lookupFin P [] mt i ok k
 | some mt, .map b=>match H.get b with
  | some (.map _ es _)=>lookupFin P es mt i ok k
  | _=>false
 | _,_=>false
def mapUpdateK (H:Hp) (t:TypeId) (m i v:AV) (k:Hp→Bool):Bool:=
 match mapElem P t,m with
 | some mt, .map b=>match H.get b with
  | some (.map false es cl)=>match keyAt mt es i with
   | some (some (j,_))=>forceL (setVal v es j) fun es=>H.put b (some (.map false es cl)) k
   | some none=>forceL (es++[(i,v,cl)]) fun es=>forceN (cl+1) fun cl=>H.put b (some (.map false es cl)) k
   | none=>false
  | _=>false
 | _,_=>false
def mapEntryK (H:Hp) (t:TypeId) (m i:AV) (k:AV→Hp→Bool):Bool:=
 match mapElem P t,m with
 | some mt, .map b=>match H.get b with
  | some (.map false es cl)=>match keyAt mt es i with
   | some (some (j,v))=>match es[j]? with
    | some (_,_,s)=>k (.tup [v, .int .i64 (.ofNat s)]) H
    | none=>false
   | some none=>match zro P mt.elem with
    | some z=>forceL (es++[(i,z,cl)]) fun es=>forceN (cl+1) fun cl'=>H.put b (some (.map false es cl')) fun H=>k (.tup [z, .int .i64 (.ofNat cl)]) H
    | none=>false
   | none=>false
  | _=>false
 | _,_=>false
def findStamp (s:Nat):List (AV×AV×Nat)→Nat→Option Nat
 | [],_=>none
 | (_,_,z)::es,i=>match Nat.beq z s with
  | true=>some i
  | false=>findStamp s es (i+1)
def entryStoreK (H:Hp) (m s v:AV) (k:Hp→Bool):Bool:=
 match m,s with
 | .map b, .int _ (.ofNat s)=>match H.get b with
  | some (.map false es cl)=>match findStamp s es 0 with
   | some j=>forceL (setVal v es j) fun es=>H.put b (some (.map false es cl)) k
   | none=>false
  | _=>false
 | _,_=>false
def rangeK (H:Hp) (t:TypeId) (x:AV) (k:AV→Hp→Bool):Bool:=
 match P.underlying t,x with
 | some .string, .str s=>H.new (.siter s 0) fun b H=>k (.ptr b 0) H
 | some (.map _ _), .nilm=>H.new (.miter none 0 [] 0) fun b H=>k (.ptr b 0) H
 | some (.map _ _), .map m=>match H.get m with
  | some (.map _ _ cl)=>H.new (.miter (some m) cl [] cl) fun b H=>k (.ptr b 0) H
  | _=>false
 | _,_=>false
def memN (n:Nat):List Nat→Bool
 | []=>false
 | m::l=>match Nat.beq n m with
  | true=>true
  | false=>memN n l
def leftOf (seen:List Nat):List (AV×AV×Nat)→List (AV×AV×Nat)
 | []=>[]
 | (y,v,s)::es=>match memN s seen with
  | true=>leftOf seen es
  | false=>(y,v,s)::leftOf seen es
def bornBelow (n:Nat):List (AV×AV×Nat)→Bool
 | []=>true
 | (_,_,s)::es=>match Nat.blt s n with
  | true=>bornBelow n es
  | false=>false
def allK {α:Type}:List α→(α→Bool)→Bool
 | [],_=>true
 | x::l,k=>match k x with
  | true=>allK l k
  | false=>false
def nextK (H:Hp) (x:AV) (k:AV→Hp→Bool):Bool:=
 match x with
 | .ptr b 0=>match H.get b with
  | some (.miter none _ _ _)=>k (.tup [.bool false]) H
  | some (.miter (some m) since seen stepped)=>match H.get m with
   | some (.map _ es cl)=>match Nat.beq cl since,Nat.beq stepped since,bornBelow since es with
    | true,true,true=>match leftOf seen es with
     | []=>k (.tup [.bool false]) H
     | l=>allK l fun y=>Prod.casesOn y fun y z=>Prod.casesOn z fun v s=>H.put b (some (.miter (some m) since (s::seen) cl)) fun H=>k (.tup [.bool true,y,v]) H
    | _,_,_=>false
   | _=>false
  | _=>false
 | _=>false
def nextStrK (H:Hp) (x:AV) (k:AV→Hp→Bool):Bool:=
 match x with
 | .ptr b 0=>match H.get b with
  | some (.siter s p)=>match s[p]? with
   | some c=>match Nat.blt c 128 with
    | true=>forceN (p+1) fun p'=>H.put b (some (.siter s p')) fun H=>k (.tup [.bool true, .int .i64 (.ofNat p), .int .i32 (.ofNat c)]) H
    | false=>false
   | none=>k (.tup [.bool false]) H
  | _=>false
 | _=>false
def entryK (H:Hp) (x:AV) (k:AV→Bool):Bool:=
 match x with
 | .ptr b 0=>match H.get b with
  | some (.miter (some m) _ (s::_) stepped)=>match H.get m with
   | some (.map _ es cl)=>match Nat.beq cl stepped,findStamp s es 0 with
    | true,some j=>match es[j]? with
     | some (y,v,_)=>k (.tup [y,v])
     | none=>false
    | _,_=>false
   | _=>false
  | _=>false
 | _=>false
def assertK (x:AV) (t:TypeId) (ok:Bool) (k:AV→Bool):Bool:=
 match P.underlying t with
 | none=>false
 | some (.interface _)=>false
 | some _=>match x with
  | .nili=>match ok,zro P t with
   | true,some z=>k (.tup [z, .bool false])
   | _,_=>false
  | .ifc u v=>match Nat.beq u t with
   | true=>match ok with
    | true=>k (.tup [v, .bool true])
    | false=>k v
   | false=>match ok,zro P t with
    | true,some z=>k (.tup [z, .bool false])
    | _,_=>false
  | _=>false
def minK (mx:Bool):AV→List AV→(AV→Bool)→Bool
 | x,[],kk=>kk x
 | .int k a, .int _ b::rest,kk=>
  minK mx (match mx with
   | true=>match ilt a b with
    | true=> .int k b
    | false=> .int k a
   | false=>match ilt b a with
    | true=> .int k b
    | false=> .int k a) rest kk
 | _,_::_,_=>false
def convK (s d:TypeId) (x:AV) (k:AV→Bool):Bool:=
 match P.underlying s,P.underlying d,x with
 | some _,some (.int ik), .int _ n=>forceI (wrp ik n) fun n=>k (.int ik n)
 | some _,some .string, .str s=>k (.str s)
 | _,_,_=>false
def isPtrConv (s d:TypeId):Bool:=
 match P.underlying s,P.underlying d with
 | some (.pointer _),some .unsafePointer=>true
 | some .unsafePointer,some (.pointer _)=>true
 | some (.slice _),some .string=>true
 | _,_=>false
def bytesOfCells:Nat→List AV→Option (List Nat)
 | 0,_=>some []
 | n+1, .int .u8 (.ofNat c)::cs=>match Nat.blt c 256,bytesOfCells n cs with
  | true,some l=>some (c::l)
  | _,_=>none
 | _+1,_=>none
def ptrConvK (s d:TypeId) (x:AV) (H:Hp) (k:AV→Bool):Bool:=
 match P.underlying s,P.underlying d with
 | some (.pointer t),some .unsafePointer=>match x with
  | .ptr b off=>match H.get b with
   | some (.cells _ _ cs)=>match Nat.blt off cs.length,(P.info? t).isSome,Nat.beq (P.cellsOf t) 0 with
    | true,true,false=>k (.ptr b off)
    | _,_,_=>false
   | _=>false
  | _=>false
 | some .unsafePointer,some (.pointer u)=>match x with
  | .ptr b off=>match H.get b with
   | some (.cells (some e) false cs)=>match (P.info? u).isSome,liesAt P P.depth e (Nat.div cs.length (P.cellsOf e)) off u 1 with
    | true,true=>k (.ptr b off)
    | _,_=>false
   | _=>false
  | _=>false
 | some (.slice e),some .string=>match P.underlying e with
  | some (.int .u8)=>match x with
   | .sl b off (n+1) sz _=>match Nat.beq sz 1,H.get b with
    | true,some (.cells _ _ cs)=>match bytesOfCells (n+1) (cs.drop off) with
     | some l=>k (.str l)
     | none=>false
    | _,_=>false
   | _=>false
  | _=>false
 | _,_=>false
def usdV (x:AV) (k:AV→Bool):Bool:=
 match x with
 | .nils=>k .nilp
 | .sl b off len _ _=>match len with
  | 0=>false
  | _+1=>k (.ptr b off)
 | _=>false
def ustrK (H:Hp) (pt:TypeId) (p n:AV) (k:AV→Hp→Bool):Bool:=
 match n with
 | .int .i64 (.ofNat n)=>match n with
  | 0=>match p with
   | .nilp=>k (.str []) H
   | .ptr _ _=>k (.str []) H
   | _=>false
  | n+1=>match p with
   | .ptr b off=>match off,H.get b with
    | 0,some (.cells (some e) false cs)=>match P.underlying pt with
     | some (.pointer e')=>match Nat.beq e e',Nat.beq (P.cellsOf e) 1,Nat.ble (n+1) 16777216,bytesOfCells (n+1) cs with
      | true,true,true,some l=>forceL l fun l=>H.put b (some (.cells (some e) true cs)) fun H=>k (.str l) H
      | _,_,_,_=>false
     | _=>false
    | _,_=>false
   | _=>false
 | _=>false
def isNoEsc (f:FuncId):Bool:=
 match P.funcs[f]? with
 | some fn=>fn.body.isNone&&(fn.name== "internal/abi.NoEscape" &&fn.origin== "")
 | none=>false
def stampsOk:List (AV×AV×Nat)→Nat→Bool
 | [],_=>true
 | (_,_,s)::es,i=>match Nat.beq s i with
  | true=>stampsOk es (i+1)
  | false=>false
mutual
def rdx (own:Bool):Nat→Hp→AV→Option (D×List Nat)
 | 0,_,_=>none
 | n+1,H,v=>
  match v with
  | .bool b=>some (.bool b,[])
  | .int k a=>some (.int k a,[])
  | .str s=>some (.str s,[])
  | .nilp=>some (.nilp,[])
  | .nils=>some (.nils,[])
  | .nilm=>some (.nilm,[])
  | .nilf=>some (.nilf,[])
  | .nili=>some (.nili,[])
  | .ptr b off=>match H.get b with
   | some (.cells _ ro cs)=>match own&&ro,rdxs own n H cs with
    | false,some (ds,I)=>some (.ptr ds off,b::I)
    | _,_=>none
   | _=>none
  | .sl b off len sz _=>match H.get b with
   | some (.cells _ ro cs)=>match own&&ro,takeN (len * sz) (cs.drop off) with
    | false,some cs=>match rdxs own n H cs with
     | some (ds,I)=>some (.sl sz ds len,b::I)
     | none=>none
    | _,_=>none
   | _=>none
  | .map b=>match H.get b with
   | some (.map ro es cl)=>match own&&ro,Nat.beq cl es.length&&stampsOk es 0 with
    | false,true=>match rdxs own n H (es.map (·.1)),rdxs own n H (es.map (·.2.1)) with
     | some (ks,I),some (vs,J)=>some (.map ks vs,b::(I++J))
     | _,_=>none
    | _,_=>none
   | _=>none
  | .fn f a c=>match rdxs own n H a,rdxs own n H c with
   | some (a,I),some (c,J)=>some (.fn f a c,I++J)
   | _,_=>none
  | .ifc t v=>match rdx own n H v with
   | some (v,I)=>some (.ifc t v,I)
   | none=>none
  | .agg cs=>match rdxs own n H cs with
   | some (cs,I)=>some (.agg cs,I)
   | none=>none
  | .tup cs=>match rdxs own n H cs with
   | some (cs,I)=>some (.tup cs,I)
   | none=>none
  | .gptr _ _=>none
  | .yld _=>none
  | .dat _=>none
def rdxs (own:Bool):Nat→Hp→List AV→Option (List D×List Nat)
 | 0,_,_=>none
 | _+1,_,[]=>some ([],[])
 | n+1,H,v::vs=>match rdx own n H v,rdxs own n H vs with
  | some (d,I),some (ds,J)=>some (d::ds,I++J)
  | _,_=>none
end
def rds (n:Nat) (H:Hp) (vs:List AV):Option (List D):=
 match rdxs false n H vs with
 | some (ds,_)=>some ds
 | none=>none
def mkEs:List AV→List AV→Nat→List (AV×AV×Nat)
 | k::ks,v::vs,i=>(k,v,i)::mkEs ks vs (i+1)
 | _,_,_=>[]
mutual
def al (ro:Bool):Nat→D→Hp→(AV→Hp→Bool)→Bool
 | 0,_,_,_=>false
 | n+1,d,H,k=>
  match d with
  | .bool b=>k (.bool b) H
  | .int i a=>k (.int i a) H
  | .str s=>k (.str s) H
  | .nilp=>k .nilp H
  | .nils=>k .nils H
  | .nilm=>k .nilm H
  | .nilf=>k .nilf H
  | .nili=>k .nili H
  | .ptr ds off=>als ro n ds H fun vs H=>H.new (.cells none ro vs) fun b H=>k (.ptr b off) H
  | .sl sz ds len=>als ro n ds H fun vs H=>H.new (.cells none ro vs) fun b H=>k (.sl b 0 len sz none) H
  | .map ks vs=>als ro n ks H fun as H=>als ro n vs H fun bs H=>forceL (mkEs as bs 0) fun es=>H.new (.map ro es ks.length) fun b H=>k (.map b) H
  | .fn f a c=>als ro n a H fun a H=>als ro n c H fun c H=>k (.fn f a c) H
  | .ifc t v=>al ro n v H fun v H=>k (.ifc t v) H
  | .agg cs=>als ro n cs H fun cs H=>k (.agg cs) H
  | .tup cs=>als ro n cs H fun cs H=>k (.tup cs) H
def als (ro:Bool):Nat→List D→Hp→(List AV→Hp→Bool)→Bool
 | 0,_,_,_=>false
 | _+1,[],H,k=>k [] H
 | n+1,d::ds,H,k=>al ro n d H fun v H=>als ro n ds H fun vs H=>k (v::vs) H
end
def initEn:List AV→Nat→E2→(E2→Bool)→Bool
 | [],_,t,k=>k t
 | v::vs,i,t,k=>Box.casesOn (eputB i) fun g=>g t v fun t=>initEn vs (i+1) t k
def putTmps:List Nat→List AV→E2→Nat→(E2→Bool)→Bool
 | [],[],t,_,k=>k t
 | p::ps,v::vs,t,n,k=>match Nat.blt p n,Nat.blt p 256 with
  | true,true=>Box.casesOn (eputB p) fun g=>g t v fun t=>putTmps ps vs t n k
  | _,_=>false
 | _,_,_,_,_=>false
def one1 (l:List AV) (k:AV→Bool):Bool:=
 match l with
 | [x]=>k x
 | _=>false
def methodOf (t:TypeId) (name:String):Option FuncId:=
 match P.info? t with
 | some i=>match i.methods.find? (·.name==name) with
  | some m=>match m.path.toList,m.func with
   | [],some (f,p)=>match P.underlying t,p with
    | some (.pointer _),true=>some f
    | some (.pointer _),false=>none
    | some _,false=>some f
    | _,_=>none
   | _,_=>none
  | none=>none
 | none=>none
def enters (f:FuncId):Bool:=
 match P.funcs[f]? with
 | some fn=>fn.body.isSome&& !(fn.name== "runtime.NumGoroutine")
 | none=>false
abbrev OpF:=Evs→En→Hp→(AV→Hp→Bool)→(AV→Hp→Bool)→Bool
def callFn (ih:Evs) (f:FuncId) (args:List AV) (H:Hp) (k:AV→Hp→Bool) (kp:AV→Hp→Bool):Bool:=
 match enters P f with
 | true=>ih.call f args H fun e H=>match e with
  | .ret v=>k v H
  | .pan v=>kp v H
 | false=>false
def roundK (ih:Evs) (l:Nat) (args:List AV) (H:Hp) (k:AV→Hp→Bool) (kp:AV→Hp→Bool):Bool:=
 match H.get l with
 | some (.loop _ _ env nt ps asg body _)=>
  putTmps ps args env nt fun env=>
  ih.code nt asg (some l) ⟨env,[]⟩ H fun x e H=>
  match x,e.dm with
  | .normal,[]=>match H.get l with
   | some (.loop .ready pe en nt' ps a b d)=>H.put l (some (.loop .busy pe en nt' ps a b d)) fun H=>
    ih.code nt body (some l) e H fun x e H=>
    match e.dm,H.get l with
    | [],some (.loop _ _ en nt' ps a b d)=>
     match x with
     | .normal=>H.put l (some (.loop .ready none en nt' ps a b d)) fun H=>k (.bool true) H
     | .ret=>H.put l (some (.loop .done (some .ret) en nt' ps a b d)) fun H=>k (.bool false) H
     | .exit i=>H.put l (some (.loop .done (some (.exit i)) en nt' ps a b d)) fun H=>k (.bool false) H
     | .pan _ _=>false
    | _,_=>false
   | _=>false
  | _,_=>false
 | _=>false
def callV (f:AV) (as:List AV) (ih:Evs) (H:Hp) (k:AV→Hp→Bool) (kp:AV→Hp→Bool):Bool:=
 match f with
 | .fn g first cap=>forceL (first++as++cap) fun args=>match isNoEsc P g with
  | true=>one1 args fun x=>k x H
  | false=>callFn P ih g args H k kp
 | .yld l=>roundK ih l as H k kp
 | _=>false
def invokeV (m:String) (r:AV) (as:List AV) (ih:Evs) (H:Hp) (k:AV→Hp→Bool) (kp:AV→Hp→Bool):Bool:=
 match r with
 | .ifc t v=>match methodOf P t m with
  | some g=>callFn P ih g (v::as) H k kp
  | none=>false
 | _=>false
def pickV (c a b:AV) (k:AV→Bool):Bool:=
 match c with
 | .bool true=>k a
 | .bool false=>k b
 | _=>false
def nilCheckV (x:AV) (k:AV→Bool):Bool:=
 match x with
 | .nilp=>false
 | .nili=>false
 | .nilf=>false
 | v=>k v
def makeSliceV (el:TypeId) (sz bytes:Nat) (z:List AV) (l c:AV) (k:Blk→(Nat→AV)→Bool):Bool:=
 match natOf l,natOf c with
 | some l,some c=>match Nat.beq l c,Nat.ble (bytes * c) 1048576,Nat.ble c 1048576,Nat.beq z.length sz with
  | true,true,true,true=>forceL (zerosOf z l) fun cs=>k (.cells (some el) false cs) (retSl l sz)
  | _,_,_,_=>false
 | _,_=>false
def fieldV (t:TypeId) (off:Nat) (x:AV) (k:AV→Bool):Bool:=
 match x with
 | .agg cs=>partK P t cs off k
 | _=>false
def indexV (t:TypeId) (x i:AV) (k:AV→Bool):Bool:=
 match x,i with
 | .str s, .int _ (.ofNat i)=>match isString P t,s[i]? with
  | true,some c=>k (.int .u8 (.ofNat c))
  | _,_=>false
 | .agg cs, .int _ (.ofNat i)=>match P.underlying t with
  | some (.array len el)=>match Nat.blt i len,(P.info? el).isSome with
   | true,true=>partK P el cs (i * P.cellsOf el) k
   | _,_=>false
  | _=>false
 | _,_=>false
def extractV (x:AV) (i:Nat) (k:AV→Bool):Bool:=
 match x with
 | .tup vs=>match vs[i]? with
  | some v=>k v
  | none=>false
 | _=>false
def panicV (x:AV) (H:Hp) (kp:AV→Hp→Bool):Bool:=
 match x with
 | .ifc t v=>kp (.ifc t v) H
 | _=>false
def ptrPlus (x:AV) (n:Nat) (k:AV→Bool):Bool:=
 match x with
 | .ptr b off=>forceN (off+n) fun o=>k (.ptr b o)
 | .gptr g off=>forceN (off+n) fun o=>k (.gptr g o)
 | .dat (.ptr cs off)=>forceN (off+n) fun o=>k (.dat (.ptr cs o))
 | _=>false
def isConstO:Operand→Bool
 | .const _=>true
 | _=>false
abbrev PF:=En→(AV→Bool)→Bool
abbrev LF:=En→Hp→(AV→Bool)→Bool
abbrev AF:=En→(Blk→(Nat→AV)→Bool)→Bool
inductive Cls where
 | p (f:PF)
 | l (f:LF)
 | a (f:AF)
 | m (f:OpF)
def no:Cls:= .m fun _ _ _ _ _=>false
def two2 (l:List AV) (k:AV→AV→Bool):Bool:=
 match l with
 | [x,y]=>k x y
 | _=>false
def minV (mx:Bool) (l:List AV) (k:AV→Bool):Bool:=
 match l with
 | x::l=>minK mx x l k
 | []=>false
def builtinC (b:Builtin) (ts:Array TypeId) (as:En→List AV):Cls:=
 match b with
 | .append=>match ts.toList with
  | [t,u]=> .m fun _ e H k _=>two2 (as e) fun s x=>appendK P H t u s x k
  | _=>no
 | .len=>match ts.toList with
  | [t]=> .l fun e H k=>one1 (as e) fun x=>lenK P t x H k
  | _=>no
 | .copy=>match ts.toList with
  | t::_=> .m fun _ e H k _=>two2 (as e) fun d s=>copyK P H t d s k
  | _=>no
 | .clear=>match ts.toList with
  | t::_=> .m fun _ e H k _=>one1 (as e) fun x=>clearK P H t x k
  | _=>no
 | .unsafeSliceData=> .p fun e k=>one1 (as e) fun x=>usdV x k
 | .unsafeString=>match ts.toList with
  | [t,_]=> .m fun _ e H k _=>two2 (as e) fun p n=>ustrK P H t p n k
  | _=>no
 | .min=> .p fun e k=>minV false (as e) k
 | .max=> .p fun e k=>minV true (as e) k
 | _=>no
def callC (c:Call):Cls:=
 Box.casesOn (opdsB c.args.toList) fun as=>
 match c.callee with
 | .builtin b=>builtinC P b c.argTypes as
 | .value f=>Box.casesOn (opdB f) fun f=> .m fun ih e H k kp=>callV P (f e) (as e) ih H k kp
 | .invoke r m=>Box.casesOn (opdB r) fun r=> .m fun ih e H k kp=>invokeV P m (r e) (as e) ih H k kp
def opC (o:Oper):Cls:=
 match o.op with
 | .move x=>Box.casesOn (opdB x) fun x=> .p fun e k=>k (x e)
 | .assign x=>Box.casesOn (opdB x) fun x=> .p fun e k=>k (x e)
 | .pick c a b=>Box.casesOn (opdB c) fun c=>Box.casesOn (opdB a) fun a=>Box.casesOn (opdB b) fun b=> .p fun e k=>pickV (c e) (a e) (b e) k
 | .alloc t=>match zro P t with
  | some z=> .a fun _ k=>k (.cells (some t) false z.cells) retPtr
  | none=>no
 | .box t x=>Box.casesOn (opdB x) fun x=> .a fun e k=>k (.cells (some t) false (x e).cells) retPtr
 | .build t ps=>Box.casesOn (partsB ps.toList) fun ps=> .p fun e k=>buildK P t (ps e) k
 | .buildSlice t n ps=>Box.casesOn (partsB ps.toList) fun ps=> .a fun e k=>buildSliceK P t n (ps e) k
 | .load t a=>Box.casesOn (opdB a) fun a=> .l fun e H k=>loadK P G H t (a e) k
 | .store t a v=>Box.casesOn (opdB a) fun a=>Box.casesOn (opdB v) fun v=> .m fun _ e H k _=>storeK P H t (a e) (v e) fun H=>k (.tup []) H
 | .nilCheck x=>Box.casesOn (opdB x) fun x=> .p fun e k=>nilCheckV (x e) k
 | .binOp op t x y _=>Box.casesOn (opdB x) fun a=>Box.casesOn (opdB y) fun b=> .p fun e k=>binK P op t (isConstO x||isConstO y) (a e) (b e) k
 | .unOp op _ x=>Box.casesOn (opdB x) fun x=> .p fun e k=>unK op (x e) k
 | .convert s d x=>Box.casesOn (opdB x) fun x=>match isPtrConv P s d with
  | true=> .l fun e H k=>ptrConvK P s d (x e) H k
  | false=> .p fun e k=>convK P s d (x e) k
 | .makeInterface t x=>Box.casesOn (opdB x) fun x=>match ifaceType P t with
  | true=>no
  | false=> .p fun e k=>k (.ifc t (x e))
 | .makeFunc (.func f) first cap=>Box.casesOn (opdsB first.toList) fun a=>Box.casesOn (opdsB cap.toList) fun c=> .p fun e k=>k (.fn f (a e) (c e))
 | .makeMap _ none=> .a fun _ k=>k (.map false [] 0) retMap
 | .makeSlice t l c=>match elemSlice P t with
  | some el=>match zro P el with
   | some _=>Box.casesOn (opdB l) fun l=>Box.casesOn (opdB c) fun c=> .a fun e k=>makeSliceV el (P.cellsOf el) (P.bytesOf el) (zeroCs P el) (l e) (c e) k
   | none=>no
  | none=>no
 | .slice t x lo hi mx=>Box.casesOn (opdB x) fun x=>Box.casesOn (optB lo) fun lo=>Box.casesOn (optB hi) fun hi=>Box.casesOn (optB mx) fun mx=>
  .l fun e H k=>sliceAtK P H t (x e) (lo e) (hi e) (mx e) k
 | .fieldAddr s x f=>match P.underlying s with
  | some (.struct fs)=>match fs[f]? with
   | some f=>match Nat.beq (P.cellsOf f.type) 0 with
    | true=>no
    | false=>Box.casesOn (opdB x) fun x=> .p fun e k=>ptrPlus (x e) f.offset k
   | none=>no
  | _=>no
 | .field s x f=>match P.underlying s with
  | some (.struct fs)=>match fs[f]? with
   | some f=>Box.casesOn (opdB x) fun x=> .p fun e k=>fieldV P f.type f.offset (x e) k
   | none=>no
  | _=>no
 | .indexAddr t x i=>Box.casesOn (opdB x) fun x=>Box.casesOn (opdB i) fun i=> .p fun e k=>indexAtK P t (x e) (i e) k
 | .index t x i=>Box.casesOn (opdB x) fun x=>Box.casesOn (opdB i) fun i=> .p fun e k=>indexV P t (x e) (i e) k
 | .lookup t m i ok=>Box.casesOn (opdB m) fun m=>Box.casesOn (opdB i) fun i=> .l fun e H k=>lookupK P H t (m e) (i e) ok k
 | .mapUpdate t m i v=>Box.casesOn (opdB m) fun m=>Box.casesOn (opdB i) fun i=>Box.casesOn (opdB v) fun v=> .m fun _ e H k _=>mapUpdateK P H t (m e) (i e) (v e) fun H=>k (.tup []) H
 | .insert t m i v=>Box.casesOn (opdB m) fun m=>Box.casesOn (opdB i) fun i=>Box.casesOn (opdB v) fun v=> .m fun _ e H k _=>mapUpdateK P H t (m e) (i e) (v e) fun H=>k (.tup []) H
 | .mapEntry t m i=>Box.casesOn (opdB m) fun m=>Box.casesOn (opdB i) fun i=> .m fun _ e H k _=>mapEntryK P H t (m e) (i e) k
 | .entryStore _ m s v=>Box.casesOn (opdB m) fun m=>Box.casesOn (opdB s) fun s=>Box.casesOn (opdB v) fun v=> .m fun _ e H k _=>entryStoreK H (m e) (s e) (v e) fun H=>k (.tup []) H
 | .range t x=>Box.casesOn (opdB x) fun x=> .m fun _ e H k _=>rangeK P H t (x e) k
 | .next i false=>Box.casesOn (opdB i) fun i=> .m fun _ e H k _=>nextK H (i e) k
 | .next i true=>Box.casesOn (opdB i) fun i=> .m fun _ e H k _=>nextStrK H (i e) k
 | .entry i=>Box.casesOn (opdB i) fun i=> .l fun e H k=>entryK H (i e) k
 | .typeAssert x _ t ok=>Box.casesOn (opdB x) fun x=> .p fun e k=>assertK P (x e) t ok k
 | .extract x i=>Box.casesOn (opdB x) fun x=> .p fun e k=>extractV (x e) i k
 | .call c=>callC P c
 | .panic x=>Box.casesOn (opdB x) fun x=> .m fun _ e H _ kp=>panicV (x e) H kp
 | _=>no
def opK (o:Oper):Cls:=
 match o.op.operands.toList.all okOpd with
 | true=>opC P G o
 | false=>no
def run1 (c:Cls):OpF:=
 match c with
 | .p f=>fun _ e H k _=>f e fun v=>k v H
 | .l f=>fun _ e H k _=>f e H fun v=>k v H
 | .a f=>fun _ e H k _=>f e fun blk r=>H.new blk fun b H=>k (r b) H
 | .m f=>f
def runB (o:Oper):Box OpF:=
 match opK P G o with
 | .p f=> .mk fun _ e H k _=>f e fun v=>k v H
 | .l f=> .mk fun _ e H k _=>f e H fun v=>k v H
 | .a f=> .mk fun _ e H k _=>f e fun blk r=>H.new blk fun b H=>k (r b) H
 | .m f=> .mk f
def boolIs (w:Bool) (v:AV):Bool:=
 match v with
 | .bool true=>w
 | .bool false=> !w
 | _=>false
def wantB (all:List Oper) (j:Nat) (w:Bool):Box (En→Bool):=
 match all[j]? with
 | some oj=>match oj.dst with
  | some d=>match Nat.blt d 256 with
   | true=>Box.casesOn (opdB (.tmp d)) fun g=> .mk fun e=>boolIs w (g e)
   | false=> .mk fun _=>false
  | none=> .mk fun _=>false
 | none=> .mk fun _=>false
def wantOk (all:List Oper) (g:Option (Nat×Bool)):Bool:=
 match g with
 | none=>true
 | some (j,_)=>match all[j]? with
  | some oj=>match oj.dst with
   | some d=>Nat.blt d 256
   | none=>true
  | none=>true
abbrev PutF:=En→AV→(En→Bool)→Bool
def putB (nt:Nat):Option Tmp→Box PutF
 | some d=>match Nat.blt d nt,Nat.blt d 256 with
  | true,true=>Box.casesOn (eputB d) fun g=> .mk fun e v k=>En.casesOn e fun t dm=>g t v fun t=>k ⟨t,dm⟩
  | _,_=> .mk fun _ _ _=>false
 | none=> .mk fun e _ k=>k e
abbrev OpsF:=Evs→En→Hp→(AEx→En→Hp→Bool)→Bool
def gJoin (w:Bool) (F:AV→Hp→Bool) (run:(AV→Hp→Bool)→Bool) (H:Hp):Bool:=Bool.casesOn w (F (.tup []) H) (run F)
def opThen (nt:Nat) (all:List Oper) (f:OpF) (dst:Option Tmp) (r:OpsF) (g:Option (Nat×Bool)):Box OpsF:=
 Box.casesOn (putB nt dst) fun put=>
 match g with
 | none=> .mk fun ih e H k=>f ih e H (fun v H=>put e v fun e=>r ih e H k) (fun v H=>k (.pan v []) e H)
 | some (j,w)=>match wantOk all (some (j,w)) with
  | false=> .mk fun _ _ _ _=>false
  | true=>Box.casesOn (wantB all j w) fun want=> .mk fun ih e H k=>
   gJoin (want e) (fun v H=>put e v fun e=>r ih e H k) (fun F=>f ih e H F (fun v H=>k (.pan v []) e H)) H
def opsB (nt:Nat) (all:List Oper) (l:List Oper):Box OpsF:=
 List.rec (.mk fun _ e H k=>k .normal e H) (fun o _ r=>Box.casesOn (runB P G o) fun f=>Box.casesOn r fun r=>opThen nt all f o.dst r o.guard) l
mutual
def avSame:Nat→AV→AV→Bool
 | 0,_,_=>false
 | n+1,x,y=>
  match x,y with
  | .bool true, .bool b=>b
  | .bool false, .bool b=> !b
  | .int k a, .int l b=>Nat.beq (kcode k) (kcode l)&&ieq a b
  | .str a, .str b=>strEq a b
  | .ptr a i, .ptr b j=>Nat.beq a b&&Nat.beq i j
  | .nilp, .nilp=>true
  | .gptr a i, .gptr b j=>Nat.beq a b&&Nat.beq i j
  | .sl a i l z c, .sl b j m y d=>Nat.beq a b&&(Nat.beq i j&&(Nat.beq l m&&(Nat.beq z y&&(match c,d with
   | none,none=>true
   | some c,some d=>Nat.beq c d
   | _,_=>false))))
  | .nils, .nils=>true
  | .map a, .map b=>Nat.beq a b
  | .nilm, .nilm=>true
  | .fn f a b, .fn g c d=>Nat.beq f g&&(avSames n a c&&avSames n b d)
  | .yld a, .yld b=>Nat.beq a b
  | .nilf, .nilf=>true
  | .ifc t a, .ifc u b=>Nat.beq t u&&avSame n a b
  | .nili, .nili=>true
  | .agg a, .agg b=>avSames n a b
  | .tup a, .tup b=>avSames n a b
  | .dat a, .dat b=> @decide (a=b) (Classical.propDecidable _)
  | _,_=>false
def avSames:Nat→List AV→List AV→Bool
 | 0,_,_=>false
 | _+1,[],[]=>true
 | n+1,a::x,b::y=>avSame n a b&&avSames n x y
 | _+1,_,_=>false
end
def Cls.isM:Cls→Bool
 | .m _=>true
 | _=>false
structure It where
 i:Nat
 o:Oper
 anc:Nat
def itsOf:List Oper→List Nat→Nat→List It
 | o::os,a::as,i=>⟨i,o,a⟩::itsOf os as (i+1)
 | _,_,_=>[]
def its (ops:Array Oper):List It:=itsOf ops.toList (Region.before ops).toList 0
def itM (it:It):Bool:=(opK P G it.o).isM
def subB (m s:Nat):Bool:=Nat.beq (Nat.land m s) m
def pow2 (i:Nat):Nat:=Nat.pow 2 i
def annot:List It→List (It×Bool)
 | []=>[]
 | it::l=>(it,itM P G it)::annot l
def mMask:List (It×Bool)→Nat→Nat
 | [],m=>m
 | (it,true)::l,m=>mMask l (Nat.lor m (pow2 it.i))
 | (_,false)::l,m=>mMask l m
def stageOk (mm done:Nat) (it:It):Bool:=subB (Nat.land it.anc mm) done
def outs (mm done:Nat):List (It×Bool)→List It
 | []=>[]
 | (it,true)::l=>outs mm done l
 | (it,false)::l=>match stageOk mm done it with
  | true=>it::outs mm done l
  | false=>outs mm done l
def keeps (mm done:Nat):List (It×Bool)→List (It×Bool)
 | []=>[]
 | (it,true)::l=>(it,true)::keeps mm done l
 | (it,false)::l=>match stageOk mm done it with
  | true=>keeps mm done l
  | false=>(it,false)::keeps mm done l
def nextM (mm done:Nat):List (It×Bool)→Option It
 | []=>none
 | (it,true)::l=>match stageOk mm done it with
  | true=>some it
  | false=>nextM mm done l
 | (_,false)::l=>nextM mm done l
def lessIt (i:Nat):List (It×Bool)→List (It×Bool)
 | []=>[]
 | (it,b)::l=>match Nat.beq it.i i with
  | true=>lessIt i l
  | false=>(it,b)::lessIt i l
def canonL (mm:Nat):Nat→List (It×Bool)→Nat→List It
 | 0,_,_=>[]
 | f+1,l,done=>outs mm done l++(match nextM mm done (keeps mm done l) with
  | some y=>y::canonL mm f (lessIt y.i (keeps mm done l)) (Nat.lor done (pow2 y.i))
  | none=>[])
def canon (ops:Array Oper):List It:=canonL (mMask (annot P G (its ops)) 0) (ops.size+1) (annot P G (its ops)) 0
def looks (all:List Oper) (o:Oper):List Tmp:=
 (o.op.operands.toList.filterMap fun | .tmp t=>some t | _=>none)++
 (match o.guard with
   | some (g,_)=>match all[g]? with
     | some og=>og.dst.toList
     | none=>[]
   | none=>[])
def dstIs (t:Nat) (o:Oper):Bool:=
 match o.dst with
 | some d=>Nat.beq d t
 | none=>false
def dstsOk:List It→Bool
 | []=>true
 | it::l=>(match it.o.dst with
  | some d=>l.all fun x=> !dstIs d x.o
  | none=>true)&&dstsOk l
def looksOk (all:List Oper):List It→List It→Bool
 | _,[]=>true
 | pre,it::l=>((looks all it.o).all fun t=>(pre.all fun y=> !dstIs t y.o||it.anc.testBit y.i)&&(l.all fun y=> !dstIs t y.o||y.anc.testBit it.i))&&looksOk all (it::pre) l
def guardsOk (l:List It):Bool:=l.all fun it=>match it.o.guard with
 | some (j,_)=>it.anc.testBit j
 | none=>true
def canonOk (n:Nat):List It→Nat→Nat→Bool
 | [],seen,_=>Nat.beq seen (Nat.sub (pow2 n) 1)
 | it::l,seen,mm=>match subB it.anc seen,seen.testBit it.i,subB mm it.anc with
  | true,false,true=>canonOk n l (Nat.lor seen (pow2 it.i)) (match itM P G it with
   | true=>Nat.lor mm (pow2 it.i)
   | false=>mm)
  | _,_,_=>false
def ancAt (j:Nat):List It→Nat
 | []=>0
 | x::l=>match Nat.beq x.i j with
  | true=>x.anc
  | false=>ancAt j l
def ancFold (l:List It):List Edge→Nat→Nat
 | [],s=>s
 | e::es,s=>match Region.binds .any e with
  | true=>ancFold l es (Nat.lor s (Nat.lor (pow2 e.on) (ancAt e.on l)))
  | false=>ancFold l es s
def ancOk (l:List It):Bool:=l.all fun it=>Nat.beq it.anc (ancFold l it.o.after.toList 0)
def maskOf (md:Region.Mode):List Edge→Nat→Nat
 | [],s=>s
 | e::es,s=>match Region.binds md e with
  | true=>maskOf md es (Nat.lor s (pow2 e.on))
  | false=>maskOf md es s
def masks (md:Region.Mode):List It→List (Nat×Nat)
 | []=>[]
 | it::l=>(it.i,maskOf md it.o.after.toList 0)::masks md l
def passOver:List (Nat×Nat)→Nat→Nat
 | [],s=>s
 | (i,m)::l,s=>match subB m s with
  | true=>passOver l (Nat.lor s (pow2 i))
  | false=>passOver l s
def progOk (full:Nat) (l:List (Nat×Nat)):Nat→Nat→Bool
 | 0,s=>Nat.beq s full
 | f+1,s=>match Nat.beq s full with
  | true=>true
  | false=>forceN (passOver l s) fun s=>progOk full l f s
def modesOk (ops:Array Oper) (l:List It):Bool:=
 match Region.departs ops with
 | false=>progOk (Nat.sub (pow2 ops.size) 1) (masks .any l) (ops.size+1) 0
 | true=>progOk (Nat.sub (pow2 ops.size) 1) (masks .text l) (ops.size+1) 0&&progOk (Nat.sub (pow2 ops.size) 1) (masks .gc l) (ops.size+1) 0
def drawOk (ops:Array Oper) (l c:List It):Bool:=
 dstsOk c&&(looksOk ops.toList [] c&&(guardsOk c&&(canonOk P G ops.size c 0 0&&(ancOk l&&modesOk ops l))))
abbrev Loads:=List (Nat×(Hp→Bool))
abbrev Pend:=List (Nat×Nat×Blk)
abbrev DrawF:=Evs→En→Hp→Loads→Pend→(AEx→En→Hp→Bool)→Bool
def recheck (anc:Nat):Loads→Hp→Bool
 | [],_=>true
 | l::ls,H=>Prod.casesOn l fun i c=>match anc.testBit i with
  | true=>recheck anc ls H
  | false=>match c H with
   | true=>recheck anc ls H
   | false=>false
def layAnc (anc:Nat):Pend→Hp→(Pend→Hp→Bool)→Bool
 | [],H,k=>k [] H
 | p::ps,H,k=>Prod.casesOn p fun i q=>Prod.casesOn q fun b blk=>match anc.testBit i with
  | true=>H.put b (some blk) fun H=>layAnc anc ps H k
  | false=>layAnc anc ps H fun ps H=>k ((i,b,blk)::ps) H
def layAll:Pend→Hp→(Hp→Bool)→Bool
 | [],H,k=>k H
 | p::ps,H,k=>Prod.casesOn p fun _ q=>Prod.casesOn q fun b blk=>H.put b (some blk) fun H=>layAll ps H k
abbrev DJ:=AV→Hp→Loads→Pend→Bool
def gJoinD (w:Bool) (F:DJ) (run:DJ→Bool) (H:Hp) (L:Loads) (Q:Pend):Bool:=Bool.casesOn w (F (.tup []) H L Q) (run F)
def drawRun (bad:List Nat) (i anc:Nat) (c:Cls) (ih:Evs) (e:En) (H:Hp) (L:Loads) (Q:Pend) (k:AEx→En→Hp→Bool) (F:DJ):Bool:=
 match c with
 | .p f=>f e fun v=>F v H L Q
 | .l f=>f e H fun v=>F v H ((i,fun H'=>f e H' fun v'=>avSame 1000 v v')::L) Q
 | .a f=>f e fun blk mk=>H.reserve fun b H=>F (mk b) H L ((i,b,blk)::Q)
 | .m f=>layAnc anc Q H fun Q H=>f ih e H (fun v H=>Bool.casesOn (recheck anc L H) false (F v H L Q)) (fun v H=>k (.pan v bad) e H)
def drawOp (bad:List Nat) (i anc:Nat) (put:PutF) (r:DrawF) (c:Cls):DrawF:=fun ih e H L Q k=>drawRun bad i anc c ih e H L Q k fun v H L Q=>put e v fun e=>r ih e H L Q k
def drawStep (bad:List Nat) (nt:Nat) (all:List Oper) (it:It) (r:DrawF):Box DrawF:=
 Box.casesOn (putB nt it.o.dst) fun put=>
 match it.o.guard with
 | none=> .mk (drawOp bad it.i it.anc put r (opK P G it.o))
 | some (j,w)=>match wantOk all (some (j,w)) with
  | false=> .mk fun _ _ _ _ _ _=>false
  | true=>Box.casesOn (wantB all j w) fun want=> .mk fun ih e H L Q k=>
   gJoinD (want e) (fun v H L Q=>put e v fun e=>r ih e H L Q k) (fun F=>drawRun bad it.i it.anc (opK P G it.o) ih e H L Q k F) H L Q
def drawsB (bad:List Nat) (nt:Nat) (all:List Oper) (l:List It):Box DrawF:=
 List.rec (.mk fun _ e H _ Q k=>layAll Q H fun H=>k .normal e H) (fun it _ r=>Box.casesOn r fun r=>drawStep P G bad nt all it r) l
def dstsOf:List Oper→List Nat
 | []=>[]
 | o::l=>match o.dst with
  | some d=>d::dstsOf l
  | none=>dstsOf l
def drawB (nt:Nat) (ops:Array Oper):Box OpsF:=
 match forceL (its ops) fun l=>forceL (canon P G ops) fun c=>drawOk P G ops l c with
 | true=>Box.casesOn (drawsB P G (dstsOf ops.toList) nt ops.toList (canon P G ops)) fun f=> .mk fun ih e H k=>f ih e H [] [] k
 | false=> .mk fun _ _ _ _=>false
abbrev CodeF:=Evs→Option Nat→En→Hp→(AEx→En→Hp→Bool)→Bool
def condV (c:AV) (a b:Unit→Bool):Bool:=
 match c with
 | .bool true=>a ()
 | .bool false=>b ()
 | _=>false
def endRange (l:Nat) (e:En) (H:Hp) (k:AEx→En→Hp→Bool):Bool:=
 match H.get l with
 | some (.loop st pe en nt ps a b d)=>match st with
  | .busy=>false
  | _=>H.put l (some (.loop .exhausted pe en nt ps a b d)) fun H=>
   match pe with
   | none=>k .normal e H
   | some (.exit i)=>k (.exit i) e H
   | some .ret=>k .ret e H
   | some _=>false
 | _=>false
def goRange (nt:Nat) (ps:List Nat) (asg body:Code) (g:FuncId) (first cap:List AV) (ih:Evs) (d:Nat) (e:En) (H:Hp) (k:AEx→En→Hp→Bool):Bool:=
 H.new (.loop .ready none e.t nt ps asg body d) fun l H=>
 forceL (first++[.yld l]++cap) fun args=>
 match enters P g with
 | true=>ih.call g args H fun en H=>match en with
  | .pan v=>k (.pan v []) e H
  | .ret _=>endRange l e H k
 | false=>false
def rangeFuncV (nt:Nat) (ps:List Nat) (asg body:Code) (f:AV) (ih:Evs) (ro:Option Nat) (e:En) (H:Hp) (k:AEx→En→Hp→Bool):Bool:=
 match f with
 | .fn g first cap=>match ro with
  | none=>H.new (.dfr true) fun d H=>goRange P nt ps asg body g first cap ih d ⟨e.t, .mark d::e.dm⟩ H k
  | some l=>match H.get l with
   | some (.loop _ _ _ _ _ _ _ d)=>goRange P nt ps asg body g first cap ih d e H k
   | _=>false
 | _=>false
def isExit (id:Nat) (x:AEx) (y:Unit→Bool) (n:AEx→Bool):Bool:=
 match x with
 | .exit i=>match Nat.beq i id with
  | true=>y ()
  | false=>n (.exit i)
 | x=>n x
def isNormal (x:AEx) (y:Unit→Bool) (n:AEx→Bool):Bool:=
 match x with
 | .normal=>y ()
 | x=>n x
def deferOf:List Oper→Option (List Oper×Call)
 | []=>none
 | o::l=>match l with
  | []=>match o.op,o.guard,o.dst with
   | .defer c,none,none=>some ([],c)
   | _,_,_=>none
  | _=>match deferOf l with
   | some (i,c)=>some (o::i,c)
   | none=>none
def deferV (f:AV) (as:List AV) (e:En) (H:Hp) (k:AEx→En→Hp→Bool):Bool:=
 match f with
 | .fn g first cap=>forceL (first++as++cap) fun args=>k .normal ⟨e.t, .call g args::e.dm⟩ H
 | _=>false
def deferB (nt:Nat) (all init:List Oper) (c:Call):Box CodeF:=
 match c.callee with
 | .value f=>match okOpd f,c.args.toList.all okOpd with
  | true,true=>Box.casesOn (opsB P G nt all init) fun g=>Box.casesOn (opdB f) fun f=>Box.casesOn (opdsB c.args.toList) fun as=> .mk fun ih ro e H k=>match ro with
   | none=>g ih e H fun x e H=>isNormal x (fun _=>deferV (f e) (as e) e H k) (fun x=>k x e H)
   | some _=>false
  | _,_=> .mk fun _ _ _ _ _=>false
 | _=> .mk fun _ _ _ _ _=>false
def codeB (nt:Nat) (c:Code):Box CodeF:=
 match c with
 | .skip=> .mk fun _ _ e H k=>k .normal e H
 | .label _=> .mk fun _ _ e H k=>k .normal e H
 | .region _ ops false=>match deferOf ops.toList with
  | none=>Box.casesOn (opsB P G nt ops.toList ops.toList) fun f=> .mk fun ih _ e H k=>f ih e H k
  | some (init,d)=>deferB P G nt ops.toList init d
 | .region _ ops true=>Box.casesOn (drawB P G nt ops) fun f=> .mk fun ih _ e H k=>f ih e H k
 | .seq a b=> .mk fun ih ro e H k=>ih.code nt a ro e H fun x e H=>isNormal x (fun _=>ih.code nt b ro e H k) (fun x=>k x e H)
 | .cond c a b=>match okOpd c with
  | true=>Box.casesOn (opdB c) fun c=> .mk fun ih ro e H k=>condV (c e) (fun _=>ih.code nt a ro e H k) (fun _=>ih.code nt b ro e H k)
  | false=> .mk fun _ _ _ _ _=>false
 | .block id b=> .mk fun ih ro e H k=>ih.code nt b ro e H fun x e H=>isExit id x (fun _=>k .normal e H) (fun x=>k x e H)
 | .loop b=> .mk fun ih ro e H k=>ih.code nt b ro e H fun x e H=>isNormal x (fun _=>ih.code nt (.loop b) ro e H k) (fun x=>k x e H)
 | .exit i=> .mk fun _ _ e H k=>k (.exit i) e H
 | .ret=> .mk fun _ _ e H k=>k .ret e H
 | .scope b=> .mk fun ih ro e H k=>ih.code nt b ro e H k
 | .rangeFunc f ps asg body=>match okOpd f with
  | true=>Box.casesOn (opdB f) fun f=> .mk fun ih ro e H k=>rangeFuncV P nt ps.toList asg body (f e) ih ro e H k
  | false=> .mk fun _ _ _ _ _=>false
 | .goto _=> .mk fun _ _ _ _ _=>false
 | .refuse _=> .mk fun _ _ _ _ _=>false
def resK:List ResultVar→En→Hp→(List AV→Bool)→Bool
 | [],_,_,k=>k []
 | .tmp t::rs,e,H,k=>match Nat.blt t 256 with
  | true=>resK rs e H fun vs=>k (opd e (.tmp t)::vs)
  | false=>false
 | .cell a t::rs,e,H,k=>match Nat.blt a 256 with
  | true=>loadK P G H t (opd e (.tmp a)) fun v=>resK rs e H fun vs=>k (v::vs)
  | false=>false
def oneOr (vs:List AV):AV:=
 match vs with
 | [v]=>v
 | vs=> .tup vs
def resOk (bad:List Nat):List ResultVar→Bool
 | []=>true
 | .tmp t::rs=>match memN t bad with
  | true=>false
  | false=>resOk bad rs
 | .cell a _::rs=>match memN a bad with
  | true=>false
  | false=>resOk bad rs
def isRec (o:Oper):Bool:=
 match o.op with
 | .call c=>match c.callee,c.args.toList with
  | .builtin .recover,[]=>true
  | _,_=>false
 | _=>false
def recOps (nt:Nat):List Oper→Option AV→Bool→En→(Bool→En→Bool)→Bool
 | [],_,rc,e,k=>k rc e
 | o::l,pv,rc,e,k=>
  match o.guard with
  | some _=>false
  | none=>match isRec o with
   | true=>match pv,rc with
    | some v,false=>Box.casesOn (putB nt o.dst) fun put=>put e v fun e=>recOps nt l pv true e k
    | pv,rc=>Box.casesOn (putB nt o.dst) fun put=>put e .nili fun e=>recOps nt l pv rc e k
   | false=>match opK P G o with
    | .p f=>f e fun v=>Box.casesOn (putB nt o.dst) fun put=>put e v fun e=>recOps nt l pv rc e k
    | _=>false
def defEnd (fn:Func) (rc:Bool) (k:Bool→Hp→Bool) (x:AEx) (e:En) (H:Hp):Bool:=
 match x,e.dm with
 | .normal,[]=>resK P G fn.results.toList e H fun _=>k rc H
 | .ret,[]=>resK P G fn.results.toList e H fun _=>k rc H
 | _,_=>false
def defCall (ih:Evs) (f:FuncId) (args:List AV) (pv:Option AV) (H:Hp) (k:Bool→Hp→Bool):Bool:=
 match P.funcs[f]? with
 | some fn=>match fn.body with
  | some (.seq (.region _ ops false) rest)=>
   match Nat.ble args.length fn.ntmps&&Nat.ble args.length 256 with
   | true=>initEn args 0 E2.empty fun t=>recOps P G fn.ntmps ops.toList pv false ⟨t,[]⟩ fun rc e=>ih.code fn.ntmps rest none e H (defEnd P G fn rc k)
   | false=>false
  | _=>false
 | none=>false
def leaveK (ih:Evs):List Dm→Option AV→Hp→(Option AV→Hp→Bool)→Bool
 | [],pv,H,k=>k pv H
 | .mark d::ds,pv,H,k=>match H.get d with
  | some (.dfr true)=>H.put d (some (.dfr false)) fun H=>leaveK ih ds pv H k
  | _=>false
 | .call f args::ds,pv,H,k=>match enters P f with
  | true=>defCall P G ih f args pv H fun rc H=>match rc with
   | true=>leaveK ih ds none H k
   | false=>leaveK ih ds pv H k
  | false=>false
def bodyEnd (fn:Func) (ih:Evs) (k:AEnd→Hp→Bool) (x:AEx) (e:En) (H:Hp):Bool:=
 match x with
 | .exit _=>false
 | .pan v bad=>leaveK P G ih e.dm (some v) H fun pv H=>match pv with
  | some v=>k (.pan v) H
  | none=>match resOk bad fn.results.toList with
   | true=>resK P G fn.results.toList e H fun vs=>k (.ret (oneOr vs)) H
   | false=>false
 | _=>leaveK P G ih e.dm none H fun pv H=>match pv with
  | some _=>false
  | none=>resK P G fn.results.toList e H fun vs=>k (.ret (oneOr vs)) H
abbrev BodyF:=Evs→List AV→Hp→(AEnd→Hp→Bool)→Bool
def bodyB (f:FuncId):Box BodyF:=
 match P.funcs[f]? with
 | some fn=>match fn.body with
  | some c=> .mk fun ih args H k=>
   forceN fn.ntmps fun nt=>
   Bool.casesOn (Nat.ble args.length nt&&Nat.ble args.length 256) false<|
   initEn args 0 E2.empty fun t=>
   ih.code nt c none ⟨t,[]⟩ H (bodyEnd P G fn ih k)
  | none=> .mk fun _ _ _ _=>false
 | none=> .mk fun _ _ _ _=>false
def callBody (ih:Evs) (f:FuncId) (args:List AV) (H:Hp) (k:AEnd→Hp→Bool):Bool:=Box.casesOn (bodyB P G f) fun b=>b ih args H k
def callStep (ih:Evs) (f:FuncId) (args:List AV) (H:Hp) (k:AEnd→Hp→Bool):Bool:=
 match pr f with
 | none=>callBody P G ih f args H k
 | some g=>match rds 1000 H args with
  | some ds=>match g ds with
   | some d=>al false 1000 d H fun v H=>k (.ret v) H
   | none=>callBody P G ih f args H k
  | none=>callBody P G ih f args H k
end
def evs (P:Program) (G:Globals) (pr:Prims):Nat→Evs
 | 0=>⟨fun _ _ _ _ _ _=>false,fun _ _ _ _=>false⟩
 | n+1=>⟨fun nt c ro e H k=>Box.casesOn (codeB P G nt c) fun f=>f (evs P G pr n) ro e H k,fun f a H k=>callStep P G pr (evs P G pr n) f a H k⟩
end
end Go.Ev
namespace Go.Ev
set_option linter.unusedVariables false
section
variable {α : Type}
def R.get (r:R α) (d:Nat):α:=Box.casesOn (getB (α:=α) d) fun g=>g r
def R.set (r:R α) (d:Nat) (x:α):R α:=
 match d with
 | 0=>{r with a0:=x}
 | 1=>{r with a1:=x}
 | 2=>{r with a2:=x}
 | 3=>{r with a3:=x}
 | 4=>{r with a4:=x}
 | 5=>{r with a5:=x}
 | 6=>{r with a6:=x}
 | 7=>{r with a7:=x}
 | 8=>{r with a8:=x}
 | 9=>{r with a9:=x}
 | 10=>{r with a10:=x}
 | 11=>{r with a11:=x}
 | 12=>{r with a12:=x}
 | 13=>{r with a13:=x}
 | 14=>{r with a14:=x}
 | _=>{r with a15:=x}
theorem R.mod_eq (r:R α) (d:Nat) (f:α→(α→Bool)→Bool) (k:R α→Bool) (h:d<16):
  (Box.casesOn (modB (α:=α) d) fun g=>g r f k:Bool)=f (r.get d) fun x=>k (r.set d x):=by
 have:d=0∨d=1∨d=2∨d=3∨d=4∨d=5∨d=6∨d=7∨d=8∨d=9∨d=10∨d=11∨d=12∨d=13∨d=14∨d=15:=by omega
 rcases this with rfl|rfl|rfl|rfl|rfl|rfl|rfl|rfl|rfl|rfl|rfl|rfl|rfl|rfl|rfl|rfl<;>rfl
theorem R.get_set_same (r:R α) (d:Nat) (x:α) (h:d<16):(r.set d x).get d=x:=by
 have:d=0∨d=1∨d=2∨d=3∨d=4∨d=5∨d=6∨d=7∨d=8∨d=9∨d=10∨d=11∨d=12∨d=13∨d=14∨d=15:=by omega
 rcases this with rfl|rfl|rfl|rfl|rfl|rfl|rfl|rfl|rfl|rfl|rfl|rfl|rfl|rfl|rfl|rfl<;>rfl
theorem R.get_set_ne (r:R α) (d d':Nat) (x:α) (h:d<16) (h':d'<16) (hne:d'≠d):(r.set d x).get d'=r.get d':=by
 have:d=0∨d=1∨d=2∨d=3∨d=4∨d=5∨d=6∨d=7∨d=8∨d=9∨d=10∨d=11∨d=12∨d=13∨d=14∨d=15:=by omega
 have:d'=0∨d'=1∨d'=2∨d'=3∨d'=4∨d'=5∨d'=6∨d'=7∨d'=8∨d'=9∨d'=10∨d'=11∨d'=12∨d'=13∨d'=14∨d'=15:=by omega
 rcases ‹d=0∨d=1∨d=2∨d=3∨d=4∨d=5∨d=6∨d=7∨d=8∨d=9∨d=10∨d=11∨d=12∨d=13∨d=14∨d=15› with rfl|rfl|rfl|rfl|rfl|rfl|rfl|rfl|rfl|rfl|rfl|rfl|rfl|rfl|rfl|rfl<;>rcases ‹d'=0∨d'=1∨d'=2∨d'=3∨d'=4∨d'=5∨d'=6∨d'=7∨d'=8∨d'=9∨d'=10∨d'=11∨d'=12∨d'=13∨d'=14∨d'=15› with rfl|rfl|rfl|rfl|rfl|rfl|rfl|rfl|rfl|rfl|rfl|rfl|rfl|rfl|rfl|rfl<;>first | rfl | exact absurd rfl hne
theorem R.get_all (x:α) (d:Nat):(R.all x).get d=x:=by
 unfold R.get getB
 split<;>rfl
end
def E2.get (e:E2) (t:Nat):AV:=(R.get (R.get e (t/16)) (t%16))
def E2.set (e:E2) (t:Nat) (v:AV):E2:=R.set e (t/16) (R.set (R.get e (t/16)) (t%16) v)
theorem E2.egetB_eq (e:E2) (t:Nat):(Box.casesOn (egetB t) fun g=>g e:AV)=e.get t:=by
 unfold egetB E2.get R.get
 show (Box.casesOn (Box.casesOn (getB (α:=R AV) (Nat.div t 16)) fun g=>Box.casesOn (getB (α:=AV) (Nat.mod t 16)) fun h=>Box.mk fun e=>h (g e)) fun g=>g e:AV)=_
 change _=(Box.casesOn (getB (α:=AV) (Nat.mod t 16)) fun g=>g (Box.casesOn (getB (α:=R AV) (Nat.div t 16)) fun g=>g e):AV)
 cases getB (α:=R AV) (Nat.div t 16)
 cases getB (α:=AV) (Nat.mod t 16)
 rfl
theorem E2.eputB_eq (e:E2) (t:Nat) (v:AV) (k:E2→Bool) (h:t<256):(Box.casesOn (eputB t) fun g=>g e v k:Bool)=k (e.set t v):=by
 have h1:t/16<16:=by omega
 have h2:t%16<16:=by omega
 have e1:=R.mod_eq e (t/16) (fun r kr=>(Box.casesOn (modB (α:=AV) (t%16)) fun g=>g r (fun _ kx=>kx v) kr:Bool)) k h1
 have:(Box.casesOn (eputB t) fun g=>g e v k:Bool)=(Box.casesOn (modB (α:=R AV) (t/16)) fun g=>g e (fun r kr=>(Box.casesOn (modB (α:=AV) (t%16)) fun g=>g r (fun _ kx=>kx v) kr:Bool)) k:Bool):=by
  unfold eputB
  change (Box.casesOn (Box.casesOn (modB (α:=R AV) (t/16)) fun g=>Box.casesOn (modB (α:=AV) (t%16)) fun h=>Box.mk fun e v k=>g e (fun r kr=>h r (fun _ kx=>kx v) kr) k) fun g=>g e v k:Bool)=_
  cases modB (α:=R AV) (t/16)
  cases modB (α:=AV) (t%16)
  rfl
 rw [this,e1,R.mod_eq _ _ _ _ h2]
 rfl
theorem E2.get_set_same (e:E2) (t:Nat) (v:AV) (h:t<256):(e.set t v).get t=v:=by
 unfold E2.get E2.set
 rw [R.get_set_same _ _ _ (by omega),R.get_set_same _ _ _ (by omega)]
theorem E2.get_set_ne (e:E2) (t u:Nat) (v:AV) (h:t<256) (h':u<256) (hne:u≠t):(e.set t v).get u=e.get u:=by
 unfold E2.get E2.set
 by_cases hd:u/16=t/16
 ·rw [hd,R.get_set_same _ _ _ (by omega),R.get_set_ne _ _ _ _ (by omega) (by omega) (by omega)]
 ·rw [R.get_set_ne _ _ _ _ (by omega) (by omega) hd]
theorem E2.get_empty (t:Nat):E2.empty.get t= .tup []:=by
 unfold E2.get E2.empty
 rw [R.get_all,R.get_all]
def H4.get (t:H4) (b:Nat):Option Blk:=R.get (R.get (R.get (R.get t (b/4096%16)) (b/256%16)) (b/16%16)) (b%16)
def H4.set (t:H4) (b:Nat) (x:Option Blk):H4:=
 R.set t (b/4096%16) (R.set (R.get t (b/4096%16)) (b/256%16) (R.set (R.get (R.get t (b/4096%16)) (b/256%16)) (b/16%16)
  (R.set (R.get (R.get (R.get t (b/4096%16)) (b/256%16)) (b/16%16)) (b%16) x)))
theorem H4.hgetB_eq (t:H4) (b:Nat):(Box.casesOn (hgetB b) fun g=>g t:Option Blk)=t.get b:=by
 unfold hgetB H4.get R.get
 change (Box.casesOn (Box.casesOn (getB (α:=R (R (R (Option Blk)))) (b/4096%16)) fun g=>Box.casesOn (getB (α:=R (R (Option Blk))) (b/256%16)) fun h=>
  Box.casesOn (getB (α:=R (Option Blk)) (b/16%16)) fun i=>Box.casesOn (getB (α:=Option Blk) (b%16)) fun j=>Box.mk fun t=>j (i (h (g t)))) fun g=>g t:Option Blk)=_
 cases getB (α:=R (R (R (Option Blk)))) (b/4096%16)
 cases getB (α:=R (R (Option Blk))) (b/256%16)
 cases getB (α:=R (Option Blk)) (b/16%16)
 cases getB (α:=Option Blk) (b%16)
 rfl
theorem H4.hputB_eq (t:H4) (b:Nat) (x:Option Blk) (k:H4→Bool):(Box.casesOn (hputB b) fun g=>g t x k:Bool)=k (t.set b x):=by
 have:(Box.casesOn (hputB b) fun g=>g t x k:Bool)=
   (Box.casesOn (modB (α:=R (R (R (Option Blk)))) (b/4096%16)) fun g=>g t (fun r kr=>
    (Box.casesOn (modB (α:=R (R (Option Blk))) (b/256%16)) fun g=>g r (fun r kr=>
     (Box.casesOn (modB (α:=R (Option Blk)) (b/16%16)) fun g=>g r (fun r kr=>
      (Box.casesOn (modB (α:=Option Blk) (b%16)) fun g=>g r (fun _ kx=>kx x) kr:Bool)) kr:Bool)) kr:Bool)) k:Bool):=by
  unfold hputB
  change (Box.casesOn (Box.casesOn (modB (α:=R (R (R (Option Blk)))) (b/4096%16)) fun g=>Box.casesOn (modB (α:=R (R (Option Blk))) (b/256%16)) fun h=>
   Box.casesOn (modB (α:=R (Option Blk)) (b/16%16)) fun i=>Box.casesOn (modB (α:=Option Blk) (b%16)) fun j=>
    Box.mk fun t v k=>g t (fun r kr=>h r (fun r kr=>i r (fun r kr=>j r (fun _ kx=>kx v) kr) kr) kr) k) fun g=>g t x k:Bool)=_
  cases modB (α:=R (R (R (Option Blk)))) (b/4096%16)
  cases modB (α:=R (R (Option Blk))) (b/256%16)
  cases modB (α:=R (Option Blk)) (b/16%16)
  cases modB (α:=Option Blk) (b%16)
  rfl
 rw [this,R.mod_eq _ _ _ _ (Nat.mod_lt _ (by decide)),R.mod_eq _ _ _ _ (Nat.mod_lt _ (by decide)),R.mod_eq _ _ _ _ (Nat.mod_lt _ (by decide)),R.mod_eq _ _ _ _ (Nat.mod_lt _ (by decide))]
 rfl
theorem H4.get_set_same (t:H4) (b:Nat) (x:Option Blk):(t.set b x).get b=x:=by
 have l:∀n:Nat,n%16<16:=fun n=>Nat.mod_lt _ (by decide)
 unfold H4.get H4.set
 rw [R.get_set_same _ _ _ (l _),R.get_set_same _ _ _ (l _),R.get_set_same _ _ _ (l _),R.get_set_same _ _ _ (l _)]
theorem H4.get_set_ne (t:H4) (b c:Nat) (x:Option Blk) (hb:b<65536) (hc:c<65536) (hne:c≠b):(t.set b x).get c=t.get c:=by
 have l:∀n:Nat,n%16<16:=fun n=>Nat.mod_lt _ (by decide)
 unfold H4.get H4.set
 by_cases h1:c/4096%16=b/4096%16
 ·rw [h1,R.get_set_same _ _ _ (l _)]
  by_cases h2:c/256%16=b/256%16
  ·rw [h2,R.get_set_same _ _ _ (l _)]
   by_cases h3:c/16%16=b/16%16
   ·rw [h3,R.get_set_same _ _ _ (l _),R.get_set_ne _ _ _ _ (l _) (l _) (by omega)]
   ·rw [R.get_set_ne _ _ _ _ (l _) (l _) h3]
  ·rw [R.get_set_ne _ _ _ _ (l _) (l _) h2]
 ·rw [R.get_set_ne _ _ _ _ (l _) (l _) h1]
theorem H4.get_empty (b:Nat):H4.empty.get b=none:=by
 unfold H4.get H4.empty
 rw [R.get_all,R.get_all,R.get_all,R.get_all]
theorem forceN_eq (n:Nat) (k:Nat→Bool):forceN n k=k n:=by cases n<;>rfl
theorem forceI_eq (n:Int) (k:Int→Bool):forceI n k=k n:=by
 cases n with
 | ofNat m=>exact forceN_eq m fun m=>k (.ofNat m)
 | negSucc m=>exact forceN_eq m fun m=>k (.negSucc m)
theorem forceL_eq {α:Type} (l:List α) (k:List α→Bool):forceL l k=k l:=by
 induction l generalizing k with
 | nil=>rfl
 | cons x xs ih=>exact ih _
theorem forceB_eq (b:Bool) (k:Bool→Bool):forceB b k=k b:=by cases b<;>rfl
def T4.get (t:T4) (b:Nat):Option Blk:=if b<65536 then t.h.get b else t.r b
def T4.set (t:T4) (b:Nat) (x:Option Blk):T4:=if b<65536 then⟨t.h.set b x,t.r⟩ else⟨t.h,fun c=>Bool.casesOn (Nat.beq c b) (t.r c) x⟩
theorem Hp.get_eq (H:Hp) (b:Nat):H.get b=H.t.get b:=by
 obtain⟨⟨t,r⟩,nx⟩:=H
 show (Bool.casesOn (Nat.blt b 65536) (r b) (Box.casesOn (hgetB b) fun g=>g t):Option Blk)=_
 rw [H4.hgetB_eq]
 unfold T4.get
 by_cases h:b<65536
 ·rw [if_pos h,show Nat.blt b 65536=true from by simpa [Nat.blt_eq] using h]
 ·rw [if_neg h,show Nat.blt b 65536=false from by rw [←Bool.not_eq_true,Nat.blt_eq];exact h]
theorem Hp.put_eq (H:Hp) (b:Nat) (x:Option Blk) (k:Hp→Bool):H.put b x k=k ⟨H.t.set b x,H.nx⟩:=by
 obtain⟨⟨t,r⟩,nx⟩:=H
 show (Bool.casesOn (Nat.blt b 65536) (k ⟨⟨t,fun c=>Bool.casesOn (Nat.beq c b) (r c) x⟩,nx⟩) (Box.casesOn (hputB b) fun g=>g t x fun t=>k ⟨⟨t,r⟩,nx⟩):Bool)=_
 rw [H4.hputB_eq]
 unfold T4.set
 by_cases hb:b<65536
 ·rw [show Nat.blt b 65536=true from by simpa [Nat.blt_eq] using hb,if_pos hb]
 ·rw [show Nat.blt b 65536=false from by rw [←Bool.not_eq_true,Nat.blt_eq];exact hb,if_neg hb]
theorem Hp.put_elim {H:Hp} {b:Nat} {x:Option Blk} {k:Hp→Bool} (h:H.put b x k=true):True∧k ⟨H.t.set b x,H.nx⟩=true:=⟨trivial,Hp.put_eq H b x k▸h⟩
theorem Hp.reserve_eq (H:Hp) (k:Nat→Hp→Bool):H.reserve k=k H.nx ⟨H.t,H.nx+1⟩:=by
 obtain⟨t,nx⟩:=H
 exact forceN_eq (Nat.succ nx) fun nx'=>k nx ⟨t,nx'⟩
theorem Hp.new_eq (H:Hp) (x:Blk) (k:Nat→Hp→Bool):H.new x k=k H.nx ⟨H.t.set H.nx (some x),H.nx+1⟩:=by
 unfold Hp.new
 rw [Hp.reserve_eq,Hp.put_eq]
theorem Hp.new_elim {H:Hp} {x:Blk} {k:Nat→Hp→Bool} (h:H.new x k=true):True∧k H.nx ⟨H.t.set H.nx (some x),H.nx+1⟩=true:=⟨trivial,Hp.new_eq H x k▸h⟩
theorem T4.get_set_same (t:T4) (b:Nat) (x:Option Blk):(t.set b x).get b=x:=by
 unfold T4.get T4.set
 by_cases hb:b<65536
 ·rw [if_pos hb,if_pos hb,H4.get_set_same]
 ·rw [if_neg hb,if_neg hb]
  show (Bool.casesOn (Nat.beq b b) (t.r b) x:Option Blk)=x
  rw [show Nat.beq b b=true from Nat.beq_refl b]
theorem T4.get_set_ne (t:T4) {b c:Nat} (x:Option Blk) (hne:c≠b):(t.set b x).get c=t.get c:=by
 unfold T4.get T4.set
 by_cases hb:b<65536
 ·rw [if_pos hb]
  by_cases hc:c<65536
  ·rw [if_pos hc,if_pos hc,H4.get_set_ne _ _ _ _ hb hc hne]
  ·rw [if_neg hc,if_neg hc]
 ·rw [if_neg hb]
  by_cases hc:c<65536
  ·rw [if_pos hc,if_pos hc]
  ·rw [if_neg hc,if_neg hc]
   show (Bool.casesOn (Nat.beq c b) (t.r c) x:Option Blk)=t.r c
   rw [show Nat.beq c b=false from by rw [←Bool.not_eq_true,Nat.beq_eq];exact hne]
theorem Hp.get_set_same {t:T4} {b nx:Nat} {x:Option Blk} (hb:True):(⟨t.set b x,nx⟩:Hp).get b=x:=by
 rw [Hp.get_eq,T4.get_set_same]
theorem Hp.get_set_ne {t:T4} {b c nx nx':Nat} {x:Option Blk} (hb:True) (hne:c≠b):(⟨t.set b x,nx⟩:Hp).get c=(⟨t,nx'⟩:Hp).get c:=by
 rw [Hp.get_eq,Hp.get_eq,T4.get_set_ne _ _ hne]
theorem Hp.get_empty (b:Nat):Hp.empty.get b=none:=by
 rw [Hp.get_eq]
 show (if b<65536 then H4.empty.get b else none)=none
 split
 ·exact H4.get_empty b
 ·rfl
end Go.Ev
namespace Go.Ev
set_option linter.unusedVariables false
structure Pl where
 blk:Nat
 base:Nat
 tot:Nat
structure Mu where
 f:Nat→Option Pl
 z:Nat→Option Obj
instance:CoeFun Mu (fun _=>Nat→Option Pl):=⟨Mu.f⟩
abbrev hpz (w:World):Nat→Option Obj:=fun k=>w.heap[k]?
mutual
inductive DV (z:Nat→Option Obj) (ro:Bool):D→Value→List Nat→Prop where
 | bool (b):DV z ro (.bool b) (.bool b) []
 | int (k n):DV z ro (.int k n) (.int k n) []
 | str (s:ByteArray) (l) (h:s.data.toList.map UInt8.toNat=l):DV z ro (.str l) (.string s) []
 | nilp:DV z ro .nilp (.pointer none) []
 | ptr (ds off) (p:Pl) (arr el fz) (xs:List Value) (L) (h:z p.blk=some (.cells arr el fz)) (ht:p.base+p.tot≤arr.size) (hl:ds.length≤p.tot) (hf:ro=false→fz=(0,0))
   (hx:∀(i:Nat) (x:Value),xs[i]? =some x→arr[p.base+i]? =some x) (hs:DVs z ro ds xs L):DV z ro (.ptr ds off) (.pointer (some ⟨p.blk,p.base+off,none⟩)) (p.blk::L)
 | nils:DV z ro .nils (.slice none 0 0) []
 | sl (sz ds len) (a:Addr) (cap:Nat) (p:Pl) (arr el fz) (xs:List Value) (L) (h:z p.blk=some (.cells arr el fz)) (hlc:len≤cap) (hc:cap * sz=p.tot) (ht:p.base+p.tot≤arr.size)
   (hl:ds.length≤p.tot) (hf:ro=false→fz=(0,0)) (hx:∀(i:Nat) (x:Value),xs[i]? =some x→arr[p.base+i]? =some x) (ha:0<cap→a=⟨p.blk,p.base,none⟩) (hs:DVs z ro ds xs L):
   DV z ro (.sl sz ds len) (.slice (some a) len cap) (p.blk::L)
 | nilm:DV z ro .nilm (.map none) []
 | map (ks vs) (r:Nat) (ents:Array MapEntry) (xs ys:List Value) (L M) (h:z r=some (.map ents ks.length)) (hsz:ents.size=ks.length) (hlen:vs.length=ks.length)
   (he:∀(i:Nat) (e:MapEntry),ents[i]? =some e→xs[i]? =some e.key∧ys[i]? =some e.val∧e.born=i) (hk:DVs z ro ks xs L) (hv:DVs z ro vs ys M):DV z ro (.map ks vs) (.map (some r)) (r::(L++M))
 | fn (f a c) (a' c':Array Value) (L M) (ha:DVs z ro a a'.toList L) (hc:DVs z ro c c'.toList M):DV z ro (.fn f a c) (.func (.func f) a' c') (L++M)
 | nilf:DV z ro .nilf .nilFunc []
 | ifc (t v v' L) (h:DV z ro v v' L):DV z ro (.ifc t v) (.iface t v') L
 | nili:DV z ro .nili .nilIface []
 | agg (cs) (cs':Array Value) (L) (h:DVs z ro cs cs'.toList L):DV z ro (.agg cs) (.agg cs') L
 | tup (cs) (cs':Array Value) (L) (h:DVs z ro cs cs'.toList L):DV z ro (.tup cs) (.tuple cs') L
inductive DVs (z:Nat→Option Obj) (ro:Bool):List D→List Value→List Nat→Prop where
 | nil:DVs z ro [] [] []
 | cons (d v L ds vs M) (h:DV z ro d v L) (hs:DVs z ro ds vs M):DVs z ro (d::ds) (v::vs) (L++M)
end
theorem DVs.length {z:Nat→Option Obj} {ro:Bool} {ds:List D} {vs:List Value} {L:List Nat} (h:DVs z ro ds vs L):vs.length=ds.length:=by
 induction ds generalizing vs L with
 | nil=>cases h;rfl
 | cons d ds ih=>cases h with | cons _ _ _ _ _ _ _ hs=>simp [ih hs]
theorem DV.ptr_inv {z:Nat→Option Obj} {ro:Bool} {ds:List D} {off:Nat} {v:Value} {L:List Nat} (h:DV z ro (.ptr ds off) v L):
  ∃b base,v= .pointer (some ⟨b,base+off,none⟩)∧∀off',DV z ro (.ptr ds off') (.pointer (some ⟨b,base+off',none⟩)) L:=by
 cases h with
 | ptr _ _ p arr el fz xs L h ht hl hf hx hs=>exact⟨p.blk,p.base,rfl,fun off'=> .ptr ds off' p arr el fz xs L h ht hl hf hx hs⟩
def D.mem:D→Bool
 | .ptr _ _=>true
 | .sl _ _ _=>true
 | .map _ _=>true
 | _=>false
mutual
theorem DV.le {z z':Nat→Option Obj} (hz:∀j o,z j=some o→z' j=some o) {ro:Bool} {d:D} {v:Value} {L:List Nat} (h:DV z ro d v L):DV z' ro d v L:=by
 cases h with
 | bool=>exact .bool _
 | int=>exact .int _ _
 | str _ _ h=>exact .str _ _ h
 | nilp=>exact .nilp
 | ptr _ _ p arr el fz xs L h ht hl hf hx hs=>exact .ptr _ _ p arr el fz xs L (hz _ _ h) ht hl hf hx (DVs.le hz hs)
 | nils=>exact .nils
 | sl _ _ _ a cap p arr el fz xs L h hlc hc ht hl hf hx ha hs=>exact .sl _ _ _ a cap p arr el fz xs L (hz _ _ h) hlc hc ht hl hf hx ha (DVs.le hz hs)
 | nilm=>exact .nilm
 | map _ _ r ents xs ys L M h hsz hlen he hk hv=>exact .map _ _ r ents xs ys L M (hz _ _ h) hsz hlen he (DVs.le hz hk) (DVs.le hz hv)
 | fn _ _ _ _ _ L M ha hc=>exact .fn _ _ _ _ _ L M (DVs.le hz ha) (DVs.le hz hc)
 | nilf=>exact .nilf
 | ifc _ _ _ _ h=>exact .ifc _ _ _ _ (DV.le hz h)
 | nili=>exact .nili
 | agg _ _ _ h=>exact .agg _ _ _ (DVs.le hz h)
 | tup _ _ _ h=>exact .tup _ _ _ (DVs.le hz h)
theorem DVs.le {z z':Nat→Option Obj} (hz:∀j o,z j=some o→z' j=some o) {ro:Bool} {d:List D} {v:List Value} {L:List Nat} (h:DVs z ro d v L):DVs z' ro d v L:=by
 cases h with
 | nil=>exact .nil
 | cons _ _ _ _ _ _ h hs=>exact .cons _ _ _ _ _ _ (DV.le hz h) (DVs.le hz hs)
end
mutual
inductive VR (μ:Mu):AV→Value→Prop where
 | bool (b):VR μ (.bool b) (.bool b)
 | int (k n):VR μ (.int k n) (.int k n)
 | str (s:ByteArray) (l) (h:s.data.toList.map UInt8.toNat=l):VR μ (.str l) (.string s)
 | ptr (b off) (p:Pl) (h:μ b=some p):VR μ (.ptr b off) (.pointer (some ⟨p.blk,p.base+off,none⟩))
 | nilp:VR μ .nilp (.pointer none)
 | gptr (g off):VR μ (.gptr g off) (.pointer (some ⟨g,off,none⟩))
 | sl (b off len sz c) (p:Pl) (cap:Nat) (a:Addr) (h:μ b=some p) (hl:len≤cap) (ht:off+cap * sz≤p.tot) (hc:∀n,c=some n→cap=n)
   (hn:c=none→off+cap * sz=p.tot) (ha:0<cap→a=⟨p.blk,p.base+off,none⟩):VR μ (.sl b off len sz c) (.slice (some a) len cap)
 | nils:VR μ .nils (.slice none 0 0)
 | map (b) (p:Pl) (h:μ b=some p):VR μ (.map b) (.map (some p.blk))
 | nilm:VR μ .nilm (.map none)
 | fn (f a c) (a' c':Array Value) (ha:VRs μ a a'.toList) (hc:VRs μ c c'.toList):VR μ (.fn f a c) (.func (.func f) a' c')
 | yld (b) (p:Pl) (h:μ b=some p):VR μ (.yld b) (.func (.yield p.blk) #[] #[])
 | nilf:VR μ .nilf .nilFunc
 | ifc (t v v') (h:VR μ v v'):VR μ (.ifc t v) (.iface t v')
 | nili:VR μ .nili .nilIface
 | agg (cs) (cs':Array Value) (h:VRs μ cs cs'.toList):VR μ (.agg cs) (.agg cs')
 | tup (cs) (cs':Array Value) (h:VRs μ cs cs'.toList):VR μ (.tup cs) (.tuple cs')
 | dat (d v L) (hm:d.mem=true) (h:DV μ.z true d v L):VR μ (.dat d) v
inductive VRs (μ:Mu):List AV→List Value→Prop where
 | nil:VRs μ [] []
 | cons (v v' vs vs') (h:VR μ v v') (hs:VRs μ vs vs'):VRs μ (v::vs) (v'::vs')
end
def Mu.le (μ μ':Mu):Prop:=(∀b p,μ b=some p→μ' b=some p)∧∀j o,μ.z j=some o→μ'.z j=some o
theorem Mu.le_refl (μ:Mu):μ.le μ:=⟨fun _ _ h=>h,fun _ _ h=>h⟩
theorem Mu.le_trans {μ μ' μ'':Mu} (h:μ.le μ') (h':μ'.le μ''):μ.le μ'':=⟨fun b p hb=>h'.1 b p (h.1 b p hb),fun b p hb=>h'.2 b p (h.2 b p hb)⟩
mutual
theorem VR.mono {μ μ':Mu} (hm:μ.le μ') {v:AV} {x:Value} (h:VR μ v x):VR μ' v x:=by
 cases h with
 | bool=>exact .bool _
 | int=>exact .int _ _
 | str _ _ h=>exact .str _ _ h
 | ptr _ _ p h=>exact .ptr _ _ p (hm.1 _ _ h)
 | nilp=>exact .nilp
 | gptr=>exact .gptr _ _
 | sl _ _ _ _ _ p cap a h hl ht hc hn ha=>exact .sl _ _ _ _ _ p cap a (hm.1 _ _ h) hl ht hc hn ha
 | nils=>exact .nils
 | map _ p h=>exact .map _ p (hm.1 _ _ h)
 | nilm=>exact .nilm
 | fn _ _ _ _ _ ha hc=>exact .fn _ _ _ _ _ (VRs.mono hm ha) (VRs.mono hm hc)
 | yld _ p h=>exact .yld _ p (hm.1 _ _ h)
 | nilf=>exact .nilf
 | ifc _ _ _ h=>exact .ifc _ _ _ (VR.mono hm h)
 | nili=>exact .nili
 | agg _ _ h=>exact .agg _ _ (VRs.mono hm h)
 | tup _ _ h=>exact .tup _ _ (VRs.mono hm h)
 | dat _ _ L hd h=>exact .dat _ _ L hd (DV.le hm.2 h)
theorem VRs.mono {μ μ':Mu} (hm:μ.le μ') {v:List AV} {x:List Value} (h:VRs μ v x):VRs μ' v x:=by
 cases h with
 | nil=>exact .nil
 | cons _ _ _ _ h hs=>exact .cons _ _ _ _ (VR.mono hm h) (VRs.mono hm hs)
end
theorem DVs.drop {z:Nat→Option Obj} {ro:Bool}:∀{ds:List D} {xs:List Value} {L:List Nat} (n:Nat),DVs z ro ds xs L→∃M,DVs z ro (ds.drop n) (xs.drop n) M
 | _,_,_,0,h=>⟨_,h⟩
 | _,_,_,n+1, .nil=>⟨_, .nil⟩
 | _,_,_,n+1, .cons _ _ _ _ _ _ _ hs=>hs.drop n
theorem DVs.take {z:Nat→Option Obj} {ro:Bool}:∀{ds:List D} {xs:List Value} {L:List Nat} (n:Nat),DVs z ro ds xs L→∃M,DVs z ro (ds.take n) (xs.take n) M
 | _,_,_,0,h=>⟨_, .nil⟩
 | _,_,_,n+1, .nil=>⟨_, .nil⟩
 | _,_,_,n+1, .cons _ _ _ _ _ _ h hs=>let ⟨_,g⟩:=hs.take n;⟨_, .cons _ _ _ _ _ _ h g⟩
mutual
theorem ofD_vr {μ:Mu} {d:D} {v:Value} {L:List Nat} (h:DV μ.z true d v L):VR μ (ofD d) v:=by
 cases h with
 | bool=>exact .bool _
 | int=>exact .int _ _
 | str _ _ h=>exact .str _ _ h
 | nilp=>exact .nilp
 | ptr _ _ p arr el fz xs L h ht hl hf hx hs=>exact .dat _ _ _ rfl (.ptr _ _ p arr el fz xs L h ht hl hf hx hs)
 | nils=>exact .nils
 | sl _ _ _ a cap p arr el fz xs L h hlc hc ht hl hf hx ha hs=>exact .dat _ _ _ rfl (.sl _ _ _ a cap p arr el fz xs L h hlc hc ht hl hf hx ha hs)
 | nilm=>exact .nilm
 | map _ _ r ents xs ys L M h hsz hlen he hk hv=>exact .dat _ _ _ rfl (.map _ _ r ents xs ys L M h hsz hlen he hk hv)
 | fn _ _ _ _ _ L M ha hc=>exact .fn _ _ _ _ _ (ofDs_vr ha) (ofDs_vr hc)
 | nilf=>exact .nilf
 | ifc _ _ _ _ h=>exact .ifc _ _ _ (ofD_vr h)
 | nili=>exact .nili
 | agg _ _ _ h=>exact .agg _ _ (ofDs_vr h)
 | tup _ _ _ h=>exact .tup _ _ (ofDs_vr h)
theorem ofDs_vr {μ:Mu} {d:List D} {v:List Value} {L:List Nat} (h:DVs μ.z true d v L):VRs μ (ofDs d) v:=by
 cases h with
 | nil=>exact .nil
 | cons _ _ _ _ _ _ h hs=>exact .cons _ _ _ _ (ofD_vr h) (ofDs_vr hs)
end
theorem ofDs_length:∀(ds:List D),(ofDs ds).length=ds.length
 | []=>rfl
 | d::ds=>by simp [ofDs,ofDs_length ds]
theorem ofDs_get:∀(ds:List D) (i:Nat),(ofDs ds)[i]? =ds[i]?.map ofD
 | [],i=>by simp [ofDs]
 | d::ds,0=>by simp [ofDs]
 | d::ds,i+1=>by simp [ofDs,ofDs_get ds i]
theorem VR.dat_inv {μ:Mu} {d:D} {v:Value} (h:VR μ (.dat d) v):(∃a,v= .pointer (some a))∨(∃a n c,v= .slice (some a) n c)∨∃r,v= .map (some r):=by
 cases h with
 | dat _ _ L hm h=>cases h<;>first | (cases hm;done)| exact .inl ⟨_,rfl⟩| exact .inr (.inl ⟨_,_,_,rfl⟩)| exact .inr (.inr ⟨_,rfl⟩)
theorem VR.int_back {μ:Mu} {x:AV} {k:IntKind} {n:Int} (h:VR μ x (.int k n)):x= .int k n:=by
 cases x with
 | dat d=>rcases h.dat_inv with⟨_,h⟩| ⟨_,_,_,h⟩| ⟨_,h⟩<;>cases h
 | int=>cases h;rfl
 | _=>cases h
theorem VR.str_back {μ:Mu} {x:AV} {s:ByteArray} (h:VR μ x (.string s)):x= .str (s.data.toList.map UInt8.toNat):=by
 cases x with
 | dat d=>rcases h.dat_inv with⟨_,h⟩| ⟨_,_,_,h⟩| ⟨_,h⟩<;>cases h
 | str l=>cases h with | str _ _ h=>rw [h]
 | _=>cases h
theorem VR.bool_back {μ:Mu} {x:AV} {b:Bool} (h:VR μ x (.bool b)):x= .bool b:=by
 cases x with
 | dat d=>rcases h.dat_inv with⟨_,h⟩| ⟨_,_,_,h⟩| ⟨_,h⟩<;>cases h
 | bool=>cases h;rfl
 | _=>cases h
section
variable {μ : Mu}
theorem VRs.length {vs:List AV} {xs:List Value} (h:VRs μ vs xs):xs.length=vs.length:=by
 induction vs generalizing xs with
 | nil=>cases h;rfl
 | cons v vs ih=>cases h with | cons _ _ _ _ _ hs=>simp [ih hs]
theorem VRs.get {vs:List AV} {xs:List Value} (h:VRs μ vs xs) (i:Nat) {v:AV} (hv:vs[i]? =some v):∃x,xs[i]? =some x∧VR μ v x:=by
 induction vs generalizing xs i with
 | nil=>simp at hv
 | cons a vs ih=>
  cases h with
  | cons _ a' _ xs' h hs=>
   cases i with
   | zero=>simp at hv;subst hv;exact⟨a',by simp,h⟩
   | succ i=>simp at hv;simpa using ih hs i hv
theorem VRs.of_get {vs:List AV} {xs:List Value} (hl:xs.length=vs.length) (h:∀(i:Nat) (v:AV),vs[i]? =some v→∃x,xs[i]? =some x∧VR μ v x):VRs μ vs xs:=by
 induction vs generalizing xs with
 | nil=>cases xs with
  | nil=>exact .nil
  | cons=>simp at hl
 | cons v vs ih=>cases xs with
  | nil=>simp at hl
  | cons x xs=>
   refine .cons _ _ _ _ ?_ (ih (by simpa using hl) fun i u hu=>by simpa using h (i+1) u (by simpa using hu))
   obtain⟨y,hy,hv⟩:=h 0 v (by simp)
   simp at hy
   exact hy▸hv
theorem VRs.append {a b:List AV} {x y:List Value} (h:VRs μ a x) (h':VRs μ b y):VRs μ (a++b) (x++y):=by
 induction a generalizing x with
 | nil=>cases h;exact h'
 | cons v a ih=>cases h with | cons _ _ _ _ hv hs=>exact .cons _ _ _ _ hv (ih hs)
theorem VRs.drop {a:List AV} {x:List Value} (h:VRs μ a x) (n:Nat):VRs μ (a.drop n) (x.drop n):=by
 induction n generalizing a x with
 | zero=>simpa using h
 | succ n ih=>cases h with
  | nil=>simpa using VRs.nil
  | cons _ _ _ _ _ hs=>simpa using ih hs
theorem VRs.take {a:List AV} {x:List Value} (h:VRs μ a x) (n:Nat):VRs μ (a.take n) (x.take n):=by
 induction n generalizing a x with
 | zero=>simpa using VRs.nil
 | succ n ih=>cases h with
  | nil=>simpa using VRs.nil
  | cons _ _ _ _ hv hs=>simpa using VRs.cons _ _ _ _ hv (ih hs)
theorem takeN_eq {n:Nat} {a b:List AV} (h:takeN n a=some b):b=a.take n∧n≤a.length:=by
 induction n generalizing a b with
 | zero=>simp [takeN] at h;simp [h]
 | succ n ih=>cases a with
  | nil=>simp [takeN] at h
  | cons x xs=>
   simp only [takeN] at h
   split at h
   ·rename_i ys hy
    obtain⟨h1,h2⟩:=ih hy
    simp at h
    subst h
    simp [h1,h2]
   ·simp at h
theorem VR.undef:VR μ (.tup []) undef:= .tup _ _ .nil
end
mutual
theorem ofC_vr' {μ:Mu}:∀(d:Nat) {v:Value} {a:AV},ofC d v=some a→VR μ a v
 | 0,_,_,h=>by simp [ofC] at h
 | d+1,v,a,h=>by
  unfold ofC at h
  split at h
  ·simp at h;subst h;exact .bool _
  ·simp at h;subst h;exact .int _ _
  ·simp at h;subst h;exact .str _ _ rfl
  ·simp at h;subst h;exact .nilp
  ·simp at h;subst h;exact .nils
  ·simp at h;subst h;exact .nilm
  ·simp at h;subst h;exact .nilf
  ·simp at h;subst h;exact .nili
  ·split at h
   ·rename_i a' ha;simp at h;subst h;exact .ifc _ _ _ (ofC_vr' d ha)
   ·simp at h
  ·split at h
   ·rename_i l hl;simp at h;subst h;exact .agg _ _ (ofC_vrs' d _ _ hl)
   ·simp at h
  ·split at h
   ·rename_i l hl;simp at h;subst h;exact .tup _ _ (ofC_vrs' d _ _ hl)
   ·simp at h
  ·simp at h
theorem ofC_vrs' {μ:Mu}:∀(d:Nat) (vs:List Value) (l:List AV),vs.mapM (ofC d)=some l→VRs μ l vs
 | d,[],l,h=>by simp at h;subst h;exact .nil
 | d,v::vs,l,h=>by
  simp only [List.mapM_cons,Option.pure_def,Option.bind_eq_bind,Option.bind_eq_some_iff] at h
  obtain⟨a,ha,l',hl,h⟩:=h
  simp at h
  subst h
  exact .cons _ _ _ _ (ofC_vr' d ha) (ofC_vrs' d vs l' hl)
end
theorem cst_vr {μ:Mu} {v:Value} (h:(ofC 6 v).isSome=true):VR μ (cst v) v:=by
 unfold cst
 cases ha:ofC 6 v with
 | none=>simp [ha] at h
 | some a=>exact ofC_vr' 6 ha
structure EnvR (μ:Mu) (e:E2) (nt:Nat) (tmps:Array Value):Prop where
 size:tmps.size=nt
 get:∀t,t<256→VR μ (e.get t) (tmps.getD t undef)
theorem EnvR.mono {μ μ':Mu} (hm:μ.le μ') {e:E2} {nt:Nat} {tmps:Array Value} (h:EnvR μ e nt tmps):EnvR μ' e nt tmps:=
 ⟨h.size,fun t ht=>(h.get t ht).mono hm⟩
theorem EnvR.set {μ:Mu} {e:E2} {nt d:Nat} {tmps:Array Value} {v:AV} {x:Value} (h:EnvR μ e nt tmps) (hd:d<nt) (hd':d<256) (hv:VR μ v x):
  EnvR μ (e.set d v) nt (tmps.setIfInBounds d x):=by
 refine⟨by simpa using h.size,fun t ht=> ?_⟩
 by_cases hne:t=d
 ·subst hne
  rw [E2.get_set_same _ _ _ hd']
  have:t<tmps.size:=by rw [h.size];exact hd
  simpa [Array.getD,this] using hv
 ·rw [E2.get_set_ne _ _ _ _ hd' ht hne]
  have:=h.get t ht
  have hne':d≠t:=Ne.symm hne
  simpa [Array.getD_eq_getD_getElem?,Array.getElem?_setIfInBounds_ne hne'] using this
def DmR (μ:Mu):List Dm→List Deferred→Prop
 | [],ds=>ds=[]
 | .mark d::dm,ds=>∃p r,μ d=some p∧ds={target:= .collected p.blk,args:=#[]}::r∧DmR μ dm r
 | .call g args::dm,ds=>∃(cap as:Array Value) (r:List Deferred),ds={target:= .fn (.func g) cap,args:=as}::r∧VRs μ args (as++cap).toList∧DmR μ dm r
theorem DmR.mono {μ μ':Mu} (hm:μ.le μ'):∀{dm:List Dm} {ds:List Deferred},DmR μ dm ds→DmR μ' dm ds
 | [],_,h=>h
 | .mark _::_,_,⟨p,r,hp,hd,hr⟩=>⟨p,r,hm.1 _ _ hp,hd,DmR.mono hm hr⟩
 | .call _ _::_,_,⟨cap,as,r,hd,hv,hr⟩=>⟨cap,as,r,hd,hv.mono hm,DmR.mono hm hr⟩
theorem opd_eq (e:En) (t:Nat):opd e (.tmp t)=e.t.get t:=by
 obtain⟨x,dm⟩:=e
 show (Box.casesOn (Box.casesOn (egetB t) fun g=>Box.mk fun e:En=>En.casesOn e fun x _=>g x) fun g=>g ⟨x,dm⟩:AV)=_
 rw [←E2.egetB_eq]
theorem opd_vr {μ:Mu} {e:En} {nt:Nat} {a:Act} (h:EnvR μ e.t nt a.tmps) {x:Operand} (hx:okOpd x=true):VR μ (opd e x) (a.eval x):=by
 cases x with
 | tmp t=>
  rw [opd_eq]
  exact h.get t (by simpa [okOpd,Nat.blt_eq] using hx)
 | const v=>exact cst_vr hx
 | global g=>exact .gptr g 0
 | func f=>exact .fn _ _ _ _ _ .nil .nil
def Blk.own:Blk→Bool
 | .cells _ ro _=> !ro
 | .map ro _ _=> !ro
 | _=>true
def ElOk (t:Option TypeId) (p:Pl) (arr:Array Value) (el:TypeId):Prop:=∀e,t=some e→el=e∧p.base=0∧arr.size=p.tot
theorem ElOk.none {p:Pl} {arr:Array Value} {el:TypeId}:ElOk Option.none p arr el:=fun e h=>by cases h
def BR (μ:Mu) (p:Pl):Blk→Option Obj→Prop
 | .cells t ro cs,o=>∃arr el fz,o=some (.cells arr el fz)∧p.base+p.tot≤arr.size∧cs.length≤p.tot∧(ro=false→fz=(0,0)∧ElOk t p arr el)∧
   ∀(i:Nat) (c:AV),cs[i]? =some c→∃v,arr[p.base+i]? =some v∧VR μ c v
 | .map _ es cl,o=>∃ents:Array MapEntry,o=some (.map ents cl)∧ents.size=es.length∧
   ∀(i:Nat) (y:AV) (v:AV) (s:Nat),es[i]? =some (y,v,s)→∃x:MapEntry,ents[i]? =some x∧VR μ y x.key∧VR μ v x.val∧x.born=s
 | .siter s pos,o=>p.base=0∧∃b:ByteArray,o=some (.stringIter b pos)∧b.data.toList.map UInt8.toNat=s
 | .miter none since seen stepped,o=>p.base=0∧∃a:Array Nat,o=some (.mapIter none since a stepped)∧a.toList.reverse=seen
 | .miter (some m) since seen stepped,o=>p.base=0∧∃(a:Array Nat) (q:Pl),μ m=some q∧o=some (.mapIter (some q.blk) since a stepped)∧a.toList.reverse=seen
 | .loop st pe env nt ps asg body d,o=>∃(fn:FuncId) (tmps:Array Value) (params:Array Tmp) (q:Pl),μ d=some q∧EnvR μ env nt tmps∧params.toList=ps∧
   o=some (.loop {state:=st,pending:=pe,fn:=fn,tmps:=tmps,params:=params,assign:=asg,body:=body,defers:=q.blk})
 | .dfr true,o=>o=some (.deferred (some []))
 | .dfr false,o=>o=some (.deferred none)
theorem BR.some {μ:Mu} {p:Pl} {x:Blk} {o:Option Obj} (h:BR μ p x o):∃y,o=some y:=by
 cases x with
 | cells=>obtain⟨_,_,_,h,_⟩:=h;exact⟨_,h⟩
 | map=>obtain⟨_,h,_⟩:=h;exact⟨_,h⟩
 | siter=>obtain⟨_,_,h,_⟩:=h;exact⟨_,h⟩
 | miter m=>cases m with
  | none=>obtain⟨_,_,h,_⟩:=h;exact⟨_,h⟩
  | some=>obtain⟨_,_,_,_,h,_⟩:=h;exact⟨_,h⟩
 | loop=>obtain⟨_,_,_,_,_,_,_,h⟩:=h;exact⟨_,h⟩
 | dfr b=>cases b<;>exact⟨_,h⟩
theorem BR.mono {μ μ':Mu} (hm:μ.le μ') {p:Pl} {x:Blk} {o:Option Obj} (h:BR μ p x o):BR μ' p x o:=by
 cases x with
 | cells=>
  obtain⟨arr,el,fz,h1,h2,h3,h4,h5⟩:=h
  exact⟨arr,el,fz,h1,h2,h3,h4,fun i c hc=>let ⟨v,hv,hr⟩:=h5 i c hc;⟨v,hv,hr.mono hm⟩⟩
 | map=>
  obtain⟨ents,h1,h2,h3⟩:=h
  exact⟨ents,h1,h2,fun i y v s hs=>let ⟨x,hx,hk,hv,hb⟩:=h3 i y v s hs;⟨x,hx,hk.mono hm,hv.mono hm,hb⟩⟩
 | siter=>exact h
 | miter m=>cases m with
  | none=>exact h
  | some=>obtain⟨h0,a,q,hq,h⟩:=h;exact⟨h0,a,q,hm.1 _ _ hq,h⟩
 | loop=>obtain⟨fn,tmps,params,q,hq,he,h⟩:=h;exact⟨fn,tmps,params,q,hm.1 _ _ hq,he.mono hm,h⟩
 | dfr b=>cases b<;>exact h
structure HRg (G:Globals) (μ:Mu) (H:Hp) (w:World):Prop where
 get:∀b x,H.get b=some x→∃p,μ b=some p∧BR μ p x w.heap[p.blk]?
 own:∀b x p c y q,H.get b=some x→μ b=some p→x.own=true→H.get c=some y→μ c=some q→p.blk=q.blk→b=c
 glob:∀g cs,G g=some cs→∃arr el fz,w.heap[g]? =some (.cells arr el fz)∧arr.size=cs.length∧∀(i:Nat) (c:AV),cs[i]? =some c→∃v,arr[i]? =some v∧VR μ c v
 globf:∀g cs b x p,G g=some cs→H.get b=some x→x.own=true→μ b=some p→p.blk≠g
 froz:∀j o,μ.z j=some o→w.heap[j]? =some o
 frof:∀b x p,H.get b=some x→x.own=true→μ b=some p→μ.z p.blk=none
structure HR (G:Globals) (μ:Mu) (H:Hp) (w:World):Prop extends HRg G μ H w where
 dom:∀b p,μ b=some p→b<H.nx
theorem HRg.nx {G:Globals} {μ:Mu} {t:T4} {n n':Nat} {w:World} (h:HRg G μ ⟨t,n⟩ w):HRg G μ ⟨t,n'⟩ w:=⟨h.get,h.own,h.glob,h.globf,h.froz,h.frof⟩
abbrev Outs (w:World):=(w.output,w.tape)
structure Ext (μ:Mu) (H:Hp) (w:World) (μ':Mu) (H':Hp) (w':World):Prop where
 mu:μ.le μ'
 below:∀b,b<H.nx→μ' b=μ b
 gone:∀b,b<H.nx→H.get b=none→H'.get b=none
 nx:H.nx≤H'.nx
 size:w.heap.size≤w'.heap.size
 keep:∀k,k<w.heap.size→(∀b x p,H.get b=some x→x.own=true→μ b=some p→p.blk≠k)→w'.heap[k]? =w.heap[k]?
 grow:∀b x p,H'.get b=some x→μ' b=some p→w.heap.size≤p.blk∨∃c y q,H.get c=some y∧μ c=some q∧q.blk=p.blk∧(x.own=true→y.own=true)
 os:w'.os=w.os
 out:Outs w'=Outs w
 zgrow:∀j o,μ'.z j=some o→μ.z j=some o∨w.heap.size≤j∨∃c y q,H.get c=some y∧μ c=some q∧q.blk=j
theorem Ext.refl {μ:Mu} {H:Hp} {w:World}:Ext μ H w μ H w:=
 ⟨Mu.le_refl _,fun _ _=>rfl,fun _ _ h=>h,Nat.le_refl _,Nat.le_refl _,fun _ _ _=>rfl,fun b x p hb hp=> .inr ⟨b,x,p,hb,hp,rfl,id⟩,rfl,rfl,fun _ _ h=> .inl h⟩
theorem Ext.trans {μ μ' μ'':Mu} {H H' H'':Hp} {w w' w'':World} (h:Ext μ H w μ' H' w') (h':Ext μ' H' w' μ'' H'' w''):Ext μ H w μ'' H'' w'' where
 mu:=Mu.le_trans h.mu h'.mu
 below b hb:=(h'.below b (Nat.lt_of_lt_of_le hb h.nx)).trans (h.below b hb)
 gone b hb hg:=h'.gone b (Nat.lt_of_lt_of_le hb h.nx) (h.gone b hb hg)
 nx:=Nat.le_trans h.nx h'.nx
 size:=Nat.le_trans h.size h'.size
 keep k hk hno:=by
  rw [h'.keep k (Nat.lt_of_lt_of_le hk h.size) ?_,h.keep k hk hno]
  intro b x p hb hx hp he
  rcases h.grow b x p hb hp with hlt | ⟨c,y,q,hc,hq,hqe,hy⟩
  ·omega
  ·exact hno c y q hc (hy hx) hq (hqe.trans he)
 grow b x p hb hp:=by
  rcases h'.grow b x p hb hp with hlt | ⟨c,y,q,hc,hq,hqe,hy⟩
  ·exact .inl (Nat.le_trans h.size hlt)
  ·rcases h.grow c y q hc hq with hlt | ⟨d,z,r,hd,hr,hre,hz⟩
   ·exact .inl (hqe▸hlt)
   ·exact .inr ⟨d,z,r,hd,hr,hre.trans hqe,fun h=>hz (hy h)⟩
 os:=h'.os.trans h.os
 out:=h'.out.trans h.out
 zgrow j o hj:=by
  rcases h'.zgrow j o hj with hz | hlt | ⟨c,y,q,hc,hq,hqe⟩
  ·exact h.zgrow j o hz
  ·exact .inr (.inl (Nat.le_trans h.size hlt))
  ·rcases h.grow c y q hc hq with hlt | ⟨d,z,r,hd,hr,hre,_⟩
   ·exact .inr (.inl (hqe▸hlt))
   ·exact .inr (.inr ⟨d,z,r,hd,hr,hre.trans hqe⟩)
section
variable {G : Globals} {μ : Mu} {H : Hp} {w : World}
theorem HR.lt (h:HR G μ H w) {b:Nat} {x:Blk} {p:Pl} (hb:H.get b=some x) (hp:μ b=some p):p.blk<w.heap.size:=by
 obtain⟨q,hq,hr⟩:=h.get b x hb
 obtain rfl:p=q:=by rw [hp] at hq;exact Option.some.inj hq
 obtain⟨y,hy⟩:=hr.some
 exact (Array.getElem?_eq_some_iff.1 hy).1
theorem HRg.at (h:HRg G μ H w) {b:Nat} {x:Blk} {p:Pl} (hb:H.get b=some x) (hp:μ b=some p):BR μ p x w.heap[p.blk]? :=by
 obtain⟨q,hq,hr⟩:=h.get b x hb
 obtain rfl:p=q:=by rw [hp] at hq;exact Option.some.inj hq
 exact hr
theorem HR.world (h:HR G μ H w) {w':World} (hw:∀b x p,H.get b=some x→μ b=some p→w'.heap[p.blk]? =w.heap[p.blk]?)
  (hg:∀g cs,G g=some cs→w'.heap[g]? =w.heap[g]?) (hf:∀j o,μ.z j=some o→w'.heap[j]? =w.heap[j]?):HR G μ H w' where
 dom:=h.dom
 get b x hb:=by
  obtain⟨p,hp,hr⟩:=h.get b x hb
  exact⟨p,hp,by rw [hw b x p hb hp];exact hr⟩
 own:=h.own
 glob g cs hG:=by rw [hg g cs hG];exact h.glob g cs hG
 globf:=h.globf
 froz j o hj:=by rw [hf j o hj];exact h.froz j o hj
 frof:=h.frof
theorem HR.frolt (h:HR G μ H w) {j:Nat} {o:Obj} (hj:μ.z j=some o):j<w.heap.size:=(Array.getElem?_eq_some_iff.1 (h.froz j o hj)).1
theorem HR.globlt (h:HR G μ H w) {g:Nat} {cs:List AV} (hG:G g=some cs):g<w.heap.size:=by
 obtain⟨arr,el,fz,ha,_⟩:=h.glob g cs hG
 exact (Array.getElem?_eq_some_iff.1 ha).1
theorem HR.put (h:HR G μ H w) {b:Nat} {x y:Blk} {p:Pl} (hb:H.get b=some x) (hx:x.own=true) (hp:μ b=some p) (hb':True) {o:Obj}
  (hy:BR μ p y (some o)):HR G μ ⟨H.t.set b (some y),H.nx⟩ (w.putObj p.blk o):=by
 have hlt:=h.lt hb hp
 have hget:∀c,c≠b→(⟨H.t.set b (some y),H.nx⟩:Hp).get c=H.get c:=fun c hc=>Hp.get_set_ne (nx':=H.nx) hb' hc
 have hself:(⟨H.t.set b (some y),H.nx⟩:Hp).get b=some y:=Hp.get_set_same hb'
 have hold:∀c z,(⟨H.t.set b (some y),H.nx⟩:Hp).get c=some z→(c=b∧z=y)∨(c≠b∧H.get c=some z):=by
  intro c z hc
  by_cases e:c=b
  ·subst e;rw [hself] at hc;exact .inl ⟨rfl,(Option.some.inj hc).symm⟩
  ·rw [hget c e] at hc;exact .inr ⟨e,hc⟩
 refine⟨⟨fun c z hc=> ?_,fun c z q d u r hc hq hz hd hr he=> ?_,fun g cs hG=> ?_,fun g cs c z q hG hc hz hq=> ?_,fun j o' hj=> ?_,fun c z q hc hz hq=> ?_⟩,h.dom⟩
 ·rcases hold c z hc with⟨rfl,rfl⟩| ⟨hne,hc⟩
  ·exact⟨p,hp,by rw [World.putObj_heap_same hlt];exact hy⟩
  ·obtain⟨q,hq,hr⟩:=h.get c z hc
   refine⟨q,hq, ?_⟩
   rw [World.putObj_heap_other (fun e=>hne (h.own b x p c z q hb hp hx hc hq e.symm).symm)]
   exact hr
 ·rcases hold c z hc with⟨rfl,rfl⟩| ⟨hne,_⟩
  ·obtain rfl:p=q:=by rw [hp] at hq;exact Option.some.inj hq
   rcases hold d u hd with⟨rfl,rfl⟩| ⟨hne',hd⟩
   ·rfl
   ·exact h.own _ x p d u r hb hp hx hd hr he
  ·rename_i hc1
   rcases hold d u hd with⟨rfl,rfl⟩| ⟨hne',hd1⟩
   ·obtain rfl:p=r:=by rw [hp] at hr;exact Option.some.inj hr
    exact h.own c z q _ x p hc1 hq hz hb hp he
   ·exact h.own c z q d u r hc1 hq hz hd1 hr he
 ·obtain⟨arr,el,fz,ha,hv⟩:=h.glob g cs hG
  exact⟨arr,el,fz,by rw [World.putObj_heap_other (fun e=>h.globf g cs b x p hG hb hx hp e.symm)];exact ha,hv⟩
 ·rcases hold c z hc with⟨rfl,rfl⟩| ⟨hne,hc⟩
  ·obtain rfl:p=q:=by rw [hp] at hq;exact Option.some.inj hq
   exact h.globf g cs _ x p hG hb hx hp
  ·exact h.globf g cs c z q hG hc hz hq
 ·rw [World.putObj_heap_other (fun e=>by rw [e,h.frof b x p hb hx hp] at hj;cases hj)]
  exact h.froz j o' hj
 ·rcases hold c z hc with⟨rfl,rfl⟩| ⟨hne,hc⟩
  ·obtain rfl:p=q:=by rw [hp] at hq;exact Option.some.inj hq
   exact h.frof _ x p hb hx hp
  ·exact h.frof c z q hc hz hq
theorem Ext.put (h:HR G μ H w) {b:Nat} {x y:Blk} {p:Pl} (hb:H.get b=some x) (hx:x.own=true) (hp:μ b=some p) (hb':True) (o:Obj):
  Ext μ H w μ ⟨H.t.set b (some y),H.nx⟩ (w.putObj p.blk o) where
 mu:=Mu.le_refl _
 below _ _:=rfl
 gone c hc hg:=by
  by_cases e:c=b
  ·subst e;rw [hb] at hg;cases hg
  ·rw [Hp.get_set_ne (nx':=H.nx) hb' e];exact hg
 nx:=Nat.le_refl _
 size:=by simp
 keep k hk hno:=World.putObj_heap_other (fun e=>hno b x p hb hx hp e.symm)
 grow c z q hc hq:=by
  by_cases e:c=b
  ·subst e
   obtain rfl:p=q:=by rw [hp] at hq;exact Option.some.inj hq
   exact .inr ⟨c,x,p,hb,hp,rfl,fun _=>hx⟩
  ·rw [Hp.get_set_ne (nx':=H.nx) hb' e] at hc
   exact .inr ⟨c,z,q,hc,hq,rfl,id⟩
 os:=rfl
 out:=rfl
 zgrow:=fun _ _ h=> .inl h
theorem HR.del (h:HR G μ H w) {b:Nat} (hb':True):HR G μ ⟨H.t.set b none,H.nx⟩ w:=by
 have hold:∀c z,(⟨H.t.set b none,H.nx⟩:Hp).get c=some z→H.get c=some z:=by
  intro c z hc
  by_cases e:c=b
  ·subst e;rw [Hp.get_set_same hb'] at hc;cases hc
  ·rwa [Hp.get_set_ne (nx':=H.nx) hb' e] at hc
 exact⟨⟨fun c z hc=>h.get c z (hold c z hc),fun c z q d u r hc hq hz hd=>h.own c z q d u r (hold c z hc) hq hz (hold d u hd),h.glob,
  fun g cs c z q hG hc=>h.globf g cs c z q hG (hold c z hc),h.froz,fun c z q hc=>h.frof c z q (hold c z hc)⟩,h.dom⟩
def Mu.upd (μ:Mu) (b:Nat) (p:Pl):Mu:=⟨fun c=>if c=b then some p else μ c,μ.z⟩
theorem Mu.upd_same (μ:Mu) (b:Nat) (p:Pl):μ.upd b p b=some p:=by simp [Mu.upd]
theorem Mu.upd_ne (μ:Mu) {b c:Nat} (p:Pl) (h:c≠b):μ.upd b p c=μ c:=by simp [Mu.upd,h]
theorem Mu.le_upd {μ:Mu} {b:Nat} (p:Pl) (h:μ b=none):μ.le (μ.upd b p):=⟨fun c q hc=>by
 by_cases e:c=b
 ·subst e;rw [h] at hc;cases hc
 ·rw [Mu.upd_ne _ _ e];exact hc,fun _ _ h=>h⟩
theorem HR.lay (h:HR G μ H w) {b:Nat} {p:Pl} {y:Blk} (hb:True) (hp:μ b=some p) (hy:BR μ p y w.heap[p.blk]?)
  (hsep:∀c z q,H.get c=some z→μ c=some q→q.blk≠p.blk) (hgl:∀g cs,G g=some cs→p.blk≠g) (hfz:y.own=true→μ.z p.blk=none):
  HR G μ ⟨H.t.set b (some y),H.nx⟩ w:=by
 have hself:(⟨H.t.set b (some y),H.nx⟩:Hp).get b=some y:=Hp.get_set_same hb
 have hold:∀c z,(⟨H.t.set b (some y),H.nx⟩:Hp).get c=some z→(c=b∧z=y)∨(c≠b∧H.get c=some z):=by
  intro c z hc
  by_cases e:c=b
  ·subst e;rw [hself] at hc;exact .inl ⟨rfl,(Option.some.inj hc).symm⟩
  ·rw [Hp.get_set_ne (nx':=H.nx) hb e] at hc;exact .inr ⟨e,hc⟩
 refine⟨⟨fun c z hc=> ?_,fun c z q d u r hc hq hz hd hr he=> ?_,h.glob,fun g cs c z q hG hc hz hq=> ?_,h.froz,fun c z q hc hz hq=> ?_⟩,h.dom⟩
 ·rcases hold c z hc with⟨rfl,rfl⟩| ⟨hne,hc⟩
  ·exact⟨p,hp,hy⟩
  ·exact h.get c z hc
 ·rcases hold c z hc with⟨rfl,rfl⟩| ⟨hne,hc1⟩
  ·obtain rfl:p=q:=by rw [hp] at hq;exact Option.some.inj hq
   rcases hold d u hd with⟨rfl,rfl⟩| ⟨hne',hd⟩
   ·rfl
   ·exact absurd he.symm (hsep d u r hd hr)
  ·rcases hold d u hd with⟨rfl,rfl⟩| ⟨hne',hd1⟩
   ·obtain rfl:p=r:=by rw [hp] at hr;exact Option.some.inj hr
    exact absurd he (hsep c z q hc1 hq)
   ·exact h.own c z q d u r hc1 hq hz hd1 hr he
 ·rcases hold c z hc with⟨rfl,rfl⟩| ⟨hne,hc⟩
  ·obtain rfl:p=q:=by rw [hp] at hq;exact Option.some.inj hq
   exact hgl g cs hG
  ·exact h.globf g cs c z q hG hc hz hq
 ·rcases hold c z hc with⟨rfl,rfl⟩| ⟨hne,hc⟩
  ·obtain rfl:p=q:=by rw [hp] at hq;exact Option.some.inj hq
   exact hfz hz
  ·exact h.frof c z q hc hz hq
theorem HR.place (h:HR G μ H w) {b:Nat} (p:Pl) (hnx:b<H.nx) (hfree:μ b=none):HR G (μ.upd b p) H w:=by
 have hle:=Mu.le_upd p hfree
 have hold:∀c z,H.get c=some z→c≠b:=fun c z hc e=>by
  subst e
  obtain⟨q,hq,_⟩:=h.get c z hc
  rw [hfree] at hq;cases hq
 refine⟨⟨fun c z hc=> ?_,fun c z q d u r hc hq hz hd hr he=> ?_,fun g cs hG=> ?_,fun g cs c z q hG hc hz hq=> ?_,h.froz,fun c z q hc hz hq=> ?_⟩,fun c q hc=> ?_⟩
 ·obtain⟨q,hq,hr⟩:=h.get c z hc
  exact⟨q,by rw [Mu.upd_ne _ _ (hold c z hc)];exact hq,hr.mono hle⟩
 ·rw [Mu.upd_ne _ _ (hold c z hc)] at hq
  rw [Mu.upd_ne _ _ (hold d u hd)] at hr
  exact h.own c z q d u r hc hq hz hd hr he
 ·obtain⟨arr,el,fz,ha,hz,hv⟩:=h.glob g cs hG
  exact⟨arr,el,fz,ha,hz,fun i c hc=>let ⟨v,h1,h2⟩:=hv i c hc;⟨v,h1,h2.mono hle⟩⟩
 ·rw [Mu.upd_ne _ _ (hold c z hc)] at hq
  exact h.globf g cs c z q hG hc hz hq
 ·rw [Mu.upd_ne _ _ (hold c z hc)] at hq
  exact h.frof c z q hc hz hq
 ·by_cases e:c=b
  ·subst e;exact hnx
  ·rw [Mu.upd_ne _ _ e] at hc;exact h.dom c q hc
theorem HR.add (h:HR G μ H w) {b:Nat} {p:Pl} {y:Blk} (hb:True) (hnx:b<H.nx) (hfree:μ b=none) (hnone:H.get b=none) (hy:BR (μ.upd b p) p y w.heap[p.blk]?)
  (hsep:∀c z q,H.get c=some z→μ c=some q→q.blk≠p.blk) (hgl:∀g cs,G g=some cs→p.blk≠g) (hfz:y.own=true→μ.z p.blk=none):
  HR G (μ.upd b p) ⟨H.t.set b (some y),H.nx⟩ w:=by
 refine (h.place p hnx hfree).lay hb (Mu.upd_same _ _ _) hy (fun c z q hc hq=> ?_) hgl hfz
 have:c≠b:=fun e=>by subst e;rw [hnone] at hc;cases hc
 rw [Mu.upd_ne _ _ this] at hq
 exact hsep c z q hc hq
theorem HR.reserve (h:HR G μ H w):HR G μ ⟨H.t,H.nx+1⟩ w:=
 ⟨h.toHRg.nx,fun b p hb=>Nat.lt_succ_of_lt (h.dom b p hb)⟩
theorem HR.none (h:HR G μ H w) {b:Nat} (hb:H.nx≤b):μ b=none∧H.get b=none:=by
 constructor
 ·cases hm:μ b with
  | none=>rfl
  | some p=>have:=h.dom b p hm;omega
 ·cases hg:H.get b with
  | none=>rfl
  | some x=>obtain⟨p,hp,_⟩:=h.get b x hg;have:=h.dom b p hp;omega
theorem HR.new (h:HR G μ H w) (hnx:True) {y:Blk} {o:Obj} {tot:Nat} (hy:BR (μ.upd H.nx ⟨w.heap.size,0,tot⟩) ⟨w.heap.size,0,tot⟩ y (some o)):
  HR G (μ.upd H.nx ⟨w.heap.size,0,tot⟩) ⟨H.t.set H.nx (some y),H.nx+1⟩ (w.alloc o)∧
   Ext μ H w (μ.upd H.nx ⟨w.heap.size,0,tot⟩) ⟨H.t.set H.nx (some y),H.nx+1⟩ (w.alloc o):=by
 obtain⟨hm,hg⟩:=h.none (Nat.le_refl _)
 have hold:∀k,k<w.heap.size→(w.alloc o).heap[k]? =w.heap[k]? :=fun k hk=>by
  show (w.heap.push o)[k]? =_
  rw [Array.getElem?_push_lt hk,Array.getElem?_eq_getElem hk]
 have h1:HR G μ H (w.alloc o):=h.world (fun b x p hb hp=>hold _ (h.lt hb hp)) (fun g cs hG=>hold _ (h.globlt hG)) fun j o' hj=>hold _ (h.frolt hj)
 constructor
 ·exact HR.add (H:=⟨H.t,H.nx+1⟩) h1.reserve hnx (Nat.lt_succ_self _) hm (by simpa [Hp.get_eq] using hg) (by
   show BR _ _ _ (w.alloc o).heap[w.heap.size]?
   rw [World.alloc_heap_new];exact hy)
   (fun c z q hc hq=>Nat.ne_of_lt (h.lt (by simpa [Hp.get_eq] using hc) hq)) (fun g cs hG=>Nat.ne_of_gt (h.globlt hG)) (fun _=>by
    cases hz:μ.z w.heap.size with
    | none=>rfl
    | some o'=>exact absurd (h.frolt hz) (Nat.lt_irrefl _))
 ·refine⟨Mu.le_upd _ hm,fun b hb=>Mu.upd_ne _ _ (Nat.ne_of_lt hb),fun b hb hg=> ?_,Nat.le_succ _, ?_,fun k hk _=>hold k hk,fun b x p hb hp=> ?_,rfl,rfl,fun _ _ h=> .inl h⟩
  ·rw [Hp.get_set_ne (nx':=H.nx) hnx (Nat.ne_of_lt hb)];exact hg
  ·show w.heap.size≤(w.heap.push o).size
   simp
  ·by_cases e:b=H.nx
   ·subst e
    rw [Mu.upd_same] at hp
    obtain rfl:=Option.some.inj hp
    exact .inl (Nat.le_refl _)
   ·rw [Mu.upd_ne _ _ e] at hp
    rw [Hp.get_set_ne (nx':=H.nx) hnx e] at hb
    exact .inr ⟨b,x,p,hb,hp,rfl,id⟩
end
end Go.Ev
namespace Go.Ev
set_option linter.unusedVariables false
section
variable {P : Program} {w : World} {t : TypeId}
theorem info_of_under {d:TypeDesc} (h:P.underlying t=some d):∃i,P.info? t=some i:=by
 unfold Program.underlying at h
 cases hi:P.info? t with
 | none=>simp [hi] at h
 | some i=>exact⟨i,rfl⟩
theorem r_info {i:TypeInfo} (h:P.info? t=some i):(typeInfo t).run P w= .ok i w:=by
 unfold typeInfo program
 simp [Sem.run,h]
theorem r_under {d:TypeDesc} (h:P.underlying t=some d):(underlying t).run P w= .ok d w:=by
 unfold underlying program
 simp [Sem.run,h]
theorem r_size (h:(P.info? t).isSome=true):(sizeOf t).run P w= .ok (P.cellsOf t) w:=by
 obtain⟨i,hi⟩:=Option.isSome_iff_exists.1 h
 unfold sizeOf
 simp [r_info hi,Result.andThen,Program.cellsOf,hi]
theorem isAg_under {b:Bool} (h:isAg P t=some b):∃d,P.underlying t=some d:=by
 unfold isAg at h
 cases hu:P.underlying t with
 | none=>simp [hu] at h
 | some d=>exact⟨d,rfl⟩
theorem isAg_info {b:Bool} (h:isAg P t=some b):(P.info? t).isSome=true:=by
 obtain⟨d,hd⟩:=isAg_under h
 obtain⟨i,hi⟩:=info_of_under hd
 simp [hi]
theorem r_isAg {b:Bool} (h:isAg P t=some b):(isAgg t).run P w= .ok b w:=by
 obtain⟨d,hd⟩:=isAg_under h
 unfold isAgg
 simp only [Sem.run_bind,r_under hd,Result.andThen]
 unfold isAg at h
 rw [hd] at h
 cases d<;>simp at h<;>subst h<;>rfl
theorem r_zero {z:AV} (h:zro P t=some z) (μ:Mu):∃x,(zeroValue t).run P w= .ok x w∧VR μ z x:=by
 unfold zro at h
 split at h
 ·rename_i i hi
  split at h
  ·rename_i v hv
   refine⟨v, ?_,ofC_vr' 6 h⟩
   unfold zeroValue
   simp [r_info hi,Result.andThen,hv]
  ·simp at h
 ·simp at h
def PartV (P:Program) (t:TypeId) (cs:List AV) (off:Nat) (v:AV):Prop:=
 (isAg P t=some true∧v= .agg ((cs.drop off).take (P.cellsOf t))∧P.cellsOf t≤(cs.drop off).length)∨(isAg P t=some false∧cs[off]? =some v)
theorem partK_elim {cs:List AV} {off:Nat} {k:AV→Bool} (h:partK P t cs off k=true):∃v,PartV P t cs off v∧k v=true:=by
 unfold partK at h
 split at h
 ·rename_i hag
  split at h
  ·rename_i ys hy
   obtain⟨rfl,hlen⟩:=takeN_eq hy
   rw [forceL_eq] at h
   exact⟨_, .inl ⟨hag,rfl,hlen⟩,h⟩
  ·cases h
 ·rename_i hag
  split at h
  ·rename_i v hv
   exact⟨v, .inr ⟨hag,hv⟩,h⟩
  ·cases h
 ·cases h
theorem cell_at {b o:Nat} {arr:Array Value} {el:TypeId} {fz:Nat×Nat} (h:w.heap[b]? =some (.cells arr el fz)):w.cell? ⟨b,o,none⟩=arr[o]? :=by
 simp [World.cell?,h]
theorem vrs_window {μ:Mu} {cs:List AV} {arr:Array Value} {base n:Nat} (h:∀(i:Nat) (c:AV),cs[i]? =some c→∃v,arr[base+i]? =some v∧VR μ c v) (hn:n≤cs.length):
  ∃xs:List Value,xs.length=n∧VRs μ (cs.take n) xs∧∀(j:Nat) (v:Value),xs[j]? =some v→arr[base+j]? =some v:=by
 induction n with
 | zero=>exact⟨[],rfl,by simpa using VRs.nil,fun j v h=>by simp at h⟩
 | succ n ih=>
  obtain⟨xs,hl,hr,hx⟩:=ih (by omega)
  have hc:cs[n]? =some cs[n]:=List.getElem?_eq_getElem (by omega)
  obtain⟨v,hv,hvr⟩:=h n _ hc
  refine⟨xs++[v],by simp [hl], ?_,fun j u hu=> ?_⟩
  ·rw [List.take_succ_eq_append_getElem (by omega)]
   exact hr.append (.cons _ _ _ _ hvr .nil)
  ·by_cases hj:j<xs.length
   ·rw [List.getElem?_append_left hj] at hu;exact hx j u hu
   ·have:j=xs.length:=by
     by_cases hj':j=xs.length
     ·exact hj'
     ·rw [List.getElem?_append_right (by omega),List.getElem?_eq_none (by simp;omega)] at hu
      cases hu
    subst this
    rw [List.getElem?_append_right (Nat.le_refl _)] at hu
    simp at hu
    subst hu
    rw [hl]
    exact hv
theorem r_loadCells {b o n:Nat} {arr:Array Value} {el:TypeId} {fz:Nat×Nat} (h:w.heap[b]? =some (.cells arr el fz)) {xs:List Value} (hl:xs.length=n)
  (hx:∀(j:Nat) (v:Value),xs[j]? =some v→arr[o+j]? =some v):(loadCells ⟨b,o,none⟩ n).run P w= .ok xs.toArray w:=by
 subst hl
 refine run_loadCells_list (P:=P) (w:=w) ⟨b,o,none⟩ xs fun j v hv=> ?_
 have:(⟨b,o,none⟩:Addr).add j=⟨b,o+j,none⟩:=by
  unfold Addr.add
  split
  ·rename_i hj;subst hj;rfl
  ·rfl
 rw [this,cell_at h]
 exact hx j v hv
theorem r_loadVar {μ:Mu} {cs:List AV} {arr:Array Value} {el:TypeId} {fz:Nat×Nat} {b base off:Nat} {v:AV} (hb:w.heap[b]? =some (.cells arr el fz))
  (h:∀(i:Nat) (c:AV),cs[i]? =some c→∃v,arr[base+i]? =some v∧VR μ c v) (hp:PartV P t cs off v):
  ∃x,(loadVar t ⟨b,base+off,none⟩).run P w= .ok x w∧VR μ v x:=by
 rcases hp with⟨hag,rfl,hlen⟩| ⟨hag,hv⟩
 ·have h':∀(i:Nat) (c:AV),(cs.drop off)[i]? =some c→∃v,arr[base+off+i]? =some v∧VR μ c v:=fun i c hc=>by
   rw [List.getElem?_drop] at hc
   rw [Nat.add_assoc]
   exact h _ _ hc
  obtain⟨xs,hl,hr,hx⟩:=vrs_window h' hlen
  refine⟨.agg xs.toArray, ?_, .agg _ _ (by simpa using hr)⟩
  unfold loadVar
  simp [r_isAg hag,Result.andThen,r_size (isAg_info hag),r_loadCells hb hl hx]
 ·obtain⟨x,hx,hr⟩:=h off v hv
  refine⟨x, ?_,hr⟩
  unfold loadVar
  have hc:w.cell? ⟨b,base+off,none⟩=some x:=by rw [cell_at hb];exact hx
  simp [r_isAg hag,Result.andThen,load,Sem.run,hc]
theorem r_part {μ:Mu} {cs:List AV} {xs:Array Value} {off:Nat} {v:AV} (h:VRs μ cs xs.toList) (hp:PartV P t cs off v):
  ∃x,(part t xs off).run P w= .ok x w∧VR μ v x:=by
 rcases hp with⟨hag,rfl,hlen⟩| ⟨hag,hv⟩
 ·refine⟨.agg (xs.extract off (off+P.cellsOf t)), ?_, .agg _ _ ?_⟩
  ·unfold part
   simp [r_isAg hag,Result.andThen,r_size (isAg_info hag)]
  ·have:=(h.drop off).take (P.cellsOf t)
   simpa [Array.toList_extract,List.extract_eq_take_drop] using this
 ·obtain⟨x,hx,hr⟩:=h.get off hv
  refine⟨x, ?_,hr⟩
  unfold part
  have:xs[off]? =some x:=by simpa using hx
  simp [r_isAg hag,Result.andThen,this]
end
end Go.Ev
namespace Go.Ev
set_option linter.unusedVariables false
theorem opdB_cases {β:Type} (x:Operand) (F:OpdF→β):(Box.casesOn (opdB x) F:β)=F (fun e=>opd e x):=by
 unfold opd
 cases opdB x
 rfl
theorem opdsB_cases {β:Type} (l:List Operand) (F:(En→List AV)→β):(Box.casesOn (opdsB l) F:β)=F (fun e=>l.map (opd e)):=by
 have:opdsB l= .mk (fun e=>l.map (opd e)):=by
  induction l with
  | nil=>rfl
  | cons o l ih=>
   refine (opdB_cases o fun g=>(Box.casesOn (opdsB l) fun r=>Box.mk fun e=>g e::r e:Box (En→List AV))).trans ?_
   rw [ih]
   rfl
 rw [this]
theorem partsB_cases {β:Type} (l:List (Nat×Operand)) (F:(En→List (Nat×AV))→β):(Box.casesOn (partsB l) F:β)=F (fun e=>l.map fun p=>(p.1,opd e p.2)):=by
 have:partsB l= .mk (fun e=>l.map fun p=>(p.1,opd e p.2)):=by
  induction l with
  | nil=>rfl
  | cons o l ih=>
   obtain⟨i,o⟩:=o
   refine (opdB_cases o fun g=>(Box.casesOn (partsB l) fun r=>Box.mk fun e=>(i,g e)::r e:Box (En→List (Nat×AV)))).trans ?_
   rw [ih]
   rfl
 rw [this]
theorem optB_cases {β:Type} (x:Option Operand) (F:(En→Option AV)→β):(Box.casesOn (optB x) F:β)=F (fun e=>x.map (opd e)):=by
 cases x with
 | none=>rfl
 | some x=>
  have:optB (some x)= .mk (fun e=>some (opd e x)):=opdB_cases x fun g=>(Box.mk fun e=>some (g e):Box (En→Option AV))
  rw [this]
  rfl
def OpdR (μ:Mu) (e:En) (a:Act) (o:Oper):Prop:=∀x∈o.op.operands.toList,VR μ (opd e x) (a.eval x)
def PSpec (P:Program) (o:Oper) (e:En) (v:AV):Prop:=∀(μ:Mu) (a:Act) (w:World),OpdR μ e a o→∃x,(execOp a.eval o).run P w= .ok (.value x) w∧VR μ v x
theorem kcode_inj {k l:IntKind} (h:Nat.beq (kcode k) (kcode l)=true):k=l:=by
 cases k<;>cases l<;>first | rfl | (exact absurd h (by decide))
theorem ilt_eq (a b:Int):ilt a b=decide (a<b):=by
 cases a<;>cases b<;>simp only [ilt]
 ·rw [Bool.eq_iff_iff];simp [Nat.blt_eq]
 ·simp;omega
 ·simp;omega
 ·rw [Bool.eq_iff_iff];simp [Nat.blt_eq];omega
theorem ieq_eq (a b:Int):ieq a b=(a==b):=by
 cases a<;>cases b<;>simp only [ieq]
 ·rw [Bool.eq_iff_iff];simp [Nat.beq_eq];omega
 ·simp
 ·simp
 ·rw [Bool.eq_iff_iff];simp [Nat.beq_eq]
theorem wrp_eq (k:IntKind) (n:Int):wrp k n=k.wrap n:=by
 unfold wrp
 split
 ·split
  ·rename_i m h
   rw [Go.IntWalk.i64_in]
   simp [Nat.blt_eq] at h
   simp
   omega
  ·rfl
 ·split
  ·rename_i m h
   rw [Go.IntWalk.i64_in]
   simp [Nat.blt_eq] at h
   omega
  ·rfl
 ·rfl
theorem strEq_eq (a b:List Nat):strEq a b=decide (a=b):=by
 induction a generalizing b with
 | nil=>cases b<;>simp [strEq]
 | cons x a ih=>
  cases b with
  | nil=>simp [strEq]
  | cons y b=>
   simp only [strEq]
   split
   ·rename_i h
    have:=Nat.eq_of_beq_eq_true h
    subst this
    rw [ih]
    simp
   ·rename_i h
    have:x≠y:=fun e=>by subst e;simp [Nat.beq_refl] at h
    simp [this]
theorem toList_data (s:ByteArray):s.toList=s.data.toList:=ByteArray.toList_eq s
theorem map_toNat_inj {a b:List UInt8} (h:a.map UInt8.toNat=b.map UInt8.toNat):a=b:=by
 induction a generalizing b with
 | nil=>cases b with
  | nil=>rfl
  | cons=>simp at h
 | cons x a ih=>cases b with
  | nil=>simp at h
  | cons y b=>
   simp at h
   rw [ih h.2,UInt8.toNat_inj.1 h.1]
theorem strLt_eq (a b:List UInt8):strLt (a.map UInt8.toNat) (b.map UInt8.toNat)=Op.bytesLess a b:=by
 induction a generalizing b with
 | nil=>cases b<;>simp [strLt,Op.bytesLess]
 | cons x a ih=>
  cases b with
  | nil=>simp [strLt,Op.bytesLess]
  | cons y b=>
   simp only [List.map_cons,strLt,Op.bytesLess,ih]
   by_cases h:x.toNat<y.toNat
   ·have h1:Nat.blt x.toNat y.toNat=true:=by simpa [Nat.blt_eq] using h
    have h2:x<y:=h
    simp [h1,h2]
   ·have h1:Nat.blt x.toNat y.toNat=false:=by rw [←Bool.not_eq_true,Nat.blt_eq];exact h
    have h2:¬x<y:=h
    rw [h1]
    by_cases he:x=y
    ·subst he
     simp [h2]
    ·have h3:Nat.beq x.toNat y.toNat=false:=by
      rw [←Bool.not_eq_true,Nat.beq_eq]
      exact fun e=>he (UInt8.toNat_inj.1 e)
     simp [h2,h3,he]
section
variable {P : Program} {G : Globals} {o : Oper} {e : En}
theorem OpdR.mem {μ:Mu} {a:Act} (h:OpdR μ e a o) {x:Operand} (hx:x∈o.op.operands):VR μ (opd e x) (a.eval x):=h x (by simpa using hx)
theorem p_move {x:Operand} (ho:o.op= .move x):PSpec P o e (opd e x):=fun μ a w h=>⟨a.eval x,by simp [execOp,ho],h.mem (by simp [ho,Op.operands])⟩
theorem p_assign {x:Operand} (ho:o.op= .assign x):PSpec P o e (opd e x):=fun μ a w h=>⟨a.eval x,by simp [execOp,ho],h.mem (by simp [ho,Op.operands])⟩
theorem p_pick {c x y:Operand} (ho:o.op= .pick c x y) {k:AV→Bool} (hk:pickV (opd e c) (opd e x) (opd e y) k=true):∃v,PSpec P o e v∧k v=true:=by
 unfold pickV at hk
 split at hk
 ·rename_i hc
  refine⟨_,fun μ a w h=> ?_,hk⟩
  have h1:=h.mem (x:=c) (by simp [ho,Op.operands])
  rw [hc] at h1
  generalize hca:a.eval c=cv at h1
  cases h1
  exact⟨a.eval x,by simp [execOp,ho,hca,asBool],h.mem (by simp [ho,Op.operands])⟩
 ·rename_i hc
  refine⟨_,fun μ a w h=> ?_,hk⟩
  have h1:=h.mem (x:=c) (by simp [ho,Op.operands])
  rw [hc] at h1
  generalize hca:a.eval c=cv at h1
  cases h1
  exact⟨a.eval y,by simp [execOp,ho,hca,asBool],h.mem (by simp [ho,Op.operands])⟩
 ·cases hk
theorem p_nilCheck {x:Operand} (ho:o.op= .nilCheck x) {k:AV→Bool} (hk:nilCheckV (opd e x) k=true):∃v,PSpec P o e v∧k v=true:=by
 unfold nilCheckV at hk
 split at hk
 ·cases hk
 ·cases hk
 ·cases hk
 ·rename_i h1 h2 h3
  refine⟨_,fun μ a w h=>⟨a.eval x, ?_,h.mem (by simp [ho,Op.operands])⟩,hk⟩
  have hx:=h.mem (x:=x) (by simp [ho,Op.operands])
  generalize hv:opd e x=v at *
  generalize hxa:a.eval x=xv at *
  cases hx with
  | dat d v L hm hd=>cases hd<;>first | (cases hm;done)| simp [execOp,ho,hxa]
  | _=>first | (exact absurd rfl h1)| (exact absurd rfl h2)| (exact absurd rfl h3)| simp [execOp,ho,hxa]
theorem p_makeInterface {t:TypeId} {x:Operand} (ho:o.op= .makeInterface t x) (ht:ifaceType P t=false):PSpec P o e (.ifc t (opd e x)):=fun μ a w h=>by
 refine⟨.iface t (a.eval x), ?_, .ifc _ _ _ (h.mem (by simp [ho,Op.operands]))⟩
 unfold ifaceType at ht
 split at ht
 ·cases ht
 ·rename_i d hd hu
  simp only [execOp,ho,Instr.makeInterface,Sem.run_bind,r_under hu,Result.andThen]
  cases d<;>first | (exact absurd rfl (hd _))| rfl
 ·cases ht
theorem vrs_opds {μ:Mu} {a:Act} {l:List Operand} (h:∀x∈l,VR μ (opd e x) (a.eval x)):VRs μ (l.map (opd e)) (l.map a.eval):=by
 induction l with
 | nil=>exact .nil
 | cons x l ih=>exact .cons _ _ _ _ (h x (by simp)) (ih fun y hy=>h y (by simp [hy]))
theorem p_makeFunc {f:FuncId} {first cap:Array Operand} (ho:o.op= .makeFunc (.func f) first cap):PSpec P o e (.fn f (first.toList.map (opd e)) (cap.toList.map (opd e))):=fun μ a w h=>by
 refine⟨.func (.func f) (first.map a.eval) (cap.map a.eval),by simp [execOp,ho,Instr.makeFunc], .fn _ _ _ _ _ ?_ ?_⟩
 ·rw [Array.toList_map];exact vrs_opds fun x hx=>h.mem (by simp [ho,Op.operands];exact .inl (by simpa using hx))
 ·rw [Array.toList_map];exact vrs_opds fun x hx=>h.mem (by simp [ho,Op.operands];exact .inr (by simpa using hx))
theorem p_extract {x:Operand} {i:Nat} (ho:o.op= .extract x i) {k:AV→Bool} (hk:extractV (opd e x) i k=true):∃v,PSpec P o e v∧k v=true:=by
 unfold extractV at hk
 split at hk
 ·rename_i vs hvs
  split at hk
  ·rename_i v hv
   refine⟨v,fun μ a w h=> ?_,hk⟩
   have h1:=h.mem (x:=x) (by simp [ho,Op.operands])
   rw [hvs] at h1
   generalize hxa:a.eval x=xv at h1
   cases h1 with
   | tup _ xs hr=>
    obtain⟨y,hy,hvr⟩:=hr.get i hv
    have:xs[i]? =some y:=by simpa using hy
    exact⟨y,by simp [execOp,ho,hxa,Instr.extract,this],hvr⟩
  ·cases hk
 ·cases hk
theorem p_ptrPlus {s:TypeId} {x:Operand} {f:Nat} (ho:o.op= .fieldAddr s x f) {fs:Array Field} (hu:P.underlying s=some (.struct fs)) {fl:Field} (hf:fs[f]? =some fl)
  (hne:Nat.beq (P.cellsOf fl.type) 0=false) {k:AV→Bool} (hk:ptrPlus (opd e x) fl.offset k=true):∃v,PSpec P o e v∧k v=true:=by
 have hne':¬P.cellsOf fl.type=0:=fun e=>by rw [e] at hne;cases hne
 have hinfo:(P.info? fl.type).isSome=true:=by
  cases hi:P.info? fl.type with
  | none=>simp [Program.cellsOf,hi] at hne'
  | some=>rfl
 have run:∀(a:Act) (w:World) (p:Addr),p.spot=none→a.eval x= .pointer (some p)→(execOp a.eval o).run P w= .ok (.value (.pointer (some ⟨p.block,p.off+fl.offset,none⟩))) w:=by
  intro a w p hs hx
  obtain⟨pb,po,ps⟩:=p
  simp only at hs
  subst hs
  have ha:(⟨pb,po,none⟩:Addr).add fl.offset=⟨pb,po+fl.offset,none⟩:=by
   unfold Addr.add
   split
   ·rename_i h0;rw [h0];rfl
   ·rfl
  simp [execOp,ho,hx,Instr.fieldAt,r_under hu,Result.andThen,hf,Instr.sureAddr,fieldPlace,r_size hinfo,hne',ha]
 unfold ptrPlus at hk
 split at hk
 ·rename_i b off hx
  rw [forceN_eq] at hk
  refine⟨_,fun μ a w h=> ?_,hk⟩
  have h1:=h.mem (x:=x) (by simp [ho,Op.operands])
  rw [hx] at h1
  generalize hxa:a.eval x=xv at h1
  cases h1 with
  | ptr _ _ p hp=>
   refine⟨_,run a w _ rfl hxa, ?_⟩
   show VR μ _ (.pointer (some ⟨p.blk,p.base+off+fl.offset,none⟩))
   rw [Nat.add_assoc]
   exact .ptr _ _ p hp
 ·rename_i g off hx
  rw [forceN_eq] at hk
  refine⟨_,fun μ a w h=> ?_,hk⟩
  have h1:=h.mem (x:=x) (by simp [ho,Op.operands])
  rw [hx] at h1
  generalize hxa:a.eval x=xv at h1
  cases h1
  exact⟨_,run a w _ rfl hxa, .gptr _ _⟩
 ·rename_i cs off hx
  rw [forceN_eq] at hk
  refine⟨_,fun μ a w h=> ?_,hk⟩
  have h1:=h.mem (x:=x) (by simp [ho,Op.operands])
  rw [hx] at h1
  generalize hxa:a.eval x=xv at h1
  cases h1 with
  | dat _ _ L hm hd=>
   obtain⟨b,base,rfl,hd'⟩:=hd.ptr_inv
   refine⟨_,run a w _ rfl hxa, ?_⟩
   show VR μ _ (.pointer (some ⟨b,base+off+fl.offset,none⟩))
   rw [Nat.add_assoc]
   exact .dat _ _ L rfl (hd' _)
 ·cases hk
theorem p_field {s:TypeId} {x:Operand} {f:Nat} (ho:o.op= .field s x f) {fs:Array Field} (hu:P.underlying s=some (.struct fs)) {fl:Field} (hf:fs[f]? =some fl)
  {k:AV→Bool} (hk:fieldV P fl.type fl.offset (opd e x) k=true):∃v,PSpec P o e v∧k v=true:=by
 unfold fieldV at hk
 split at hk
 ·rename_i cs hx
  obtain⟨v,hp,hk⟩:=partK_elim hk
  refine⟨v,fun μ a w h=> ?_,hk⟩
  have h1:=h.mem (x:=x) (by simp [ho,Op.operands])
  rw [hx] at h1
  generalize hxa:a.eval x=xv at h1
  cases h1 with
  | agg _ xs hr=>
   obtain⟨y,hy,hvr⟩:=r_part (w:=w) hr hp
   exact⟨y,by simp [execOp,ho,hxa,Instr.field,r_under hu,Result.andThen,hf,asAgg,hy],hvr⟩
 ·cases hk
end
end Go.Ev
namespace Go.Ev
set_option linter.unusedVariables false
set_option linter.unusedSimpArgs false
theorem addr_add (b o n:Nat):(⟨b,o,none⟩:Addr).add n=⟨b,o+n,none⟩:=by
 unfold Addr.add
 split
 ·rename_i h;subst h;rfl
 ·rfl
section
variable {P : Program} {G : Globals} {o : Oper} {e : En}
theorem VR.int_inv {μ:Mu} {k:IntKind} {n:Int} {x:Value} (h:VR μ (.int k n) x):x= .int k n:=by cases h;rfl
theorem VR.bool_inv {μ:Mu} {b:Bool} {x:Value} (h:VR μ (.bool b) x):x= .bool b:=by cases h;rfl
theorem VR.str_inv {μ:Mu} {l:List Nat} {x:Value} (h:VR μ (.str l) x):∃s:ByteArray,x= .string s∧s.data.toList.map UInt8.toNat=l:=by cases h with | str s _ h=>exact⟨s,rfl,h⟩
theorem OpdR.at {μ:Mu} {a:Act} {o:Oper} {e:En} (h:OpdR μ e a o) {x:Operand} (hx:x∈o.op.operands) {v:AV} (hv:opd e x=v):VR μ v (a.eval x):=hv▸h.mem hx
theorem p_indexAddr {t:TypeId} {x i:Operand} (ho:o.op= .indexAddr t x i) {k:AV→Bool} (hk:indexAtK P t (opd e x) (opd e i) k=true):∃v,PSpec P o e v∧k v=true:=by
 have hmx:x∈o.op.operands:=by simp [ho,Op.operands]
 have hmi:i∈o.op.operands:=by simp [ho,Op.operands]
 unfold indexAtK at hk
 split at hk
 ·rename_i ik n hi
  split at hk
  ·rename_i len el b off hu hx
   split at hk
   ·rename_i hlt hinfo
    rw [forceN_eq] at hk
    rw [Nat.blt_eq] at hlt
    refine⟨_,fun μ a w h=> ?_,hk⟩
    have h1:=h.at hmx hx
    have h2:=(h.at hmi hi).int_inv
    generalize hxa:a.eval x=xv at h1
    cases h1 with
    | ptr _ _ p hp=>
     refine⟨.pointer (some ⟨p.blk,p.base+off+n * P.cellsOf el,none⟩), ?_, ?_⟩
     ·have hlt':(0:Int)≤Int.ofNat n∧Int.ofNat n<(len:Int):=by simp;exact hlt
      simp only [execOp,ho,hxa,h2,Instr.indexAt,asIntOf,Sem.run_bind,Sem.run_pure,Result.andThen,r_under hu,Instr.sureAddr,if_pos hlt',r_size hinfo,addr_add]
      rfl
     ·have:=VR.ptr (μ:=μ) b (off+n * P.cellsOf el) p hp
      rwa [←Nat.add_assoc] at this
   ·cases hk
  ·rename_i len el g off hu hx
   split at hk
   ·rename_i hlt hinfo
    rw [forceN_eq] at hk
    rw [Nat.blt_eq] at hlt
    refine⟨_,fun μ a w h=> ?_,hk⟩
    have h1:=h.at hmx hx
    have h2:=(h.at hmi hi).int_inv
    generalize hxa:a.eval x=xv at h1
    cases h1
    refine⟨.pointer (some ⟨g,off+n * P.cellsOf el,none⟩), ?_, .gptr _ _⟩
    have hlt':(0:Int)≤Int.ofNat n∧Int.ofNat n<(len:Int):=by simp;exact hlt
    simp only [execOp,ho,hxa,h2,Instr.indexAt,asIntOf,Sem.run_bind,Sem.run_pure,Result.andThen,r_under hu,Instr.sureAddr,if_pos hlt',r_size hinfo,addr_add]
    rfl
   ·cases hk
  ·rename_i el b off len sz c hu hx
   split at hk
   ·rename_i hlt hinfo hsz
    rw [forceN_eq] at hk
    rw [Nat.blt_eq] at hlt
    have hsz:=Nat.eq_of_beq_eq_true hsz
    refine⟨_,fun μ a w h=> ?_,hk⟩
    have h1:=h.at hmx hx
    have h2:=(h.at hmi hi).int_inv
    generalize hxa:a.eval x=xv at h1
    cases h1 with
    | sl _ _ _ _ _ p cap ad hp hl ht hc hn ha=>
     obtain rfl:=ha (by omega)
     refine⟨.pointer (some ⟨p.blk,p.base+off+n * P.cellsOf el,none⟩), ?_, ?_⟩
     ·have hlt':(0:Int)≤Int.ofNat n∧Int.ofNat n<(len:Int):=by simp;exact hlt
      simp only [execOp,ho,hxa,h2,Instr.indexAt,asIntOf,Sem.run_bind,Sem.run_pure,Result.andThen,r_under hu,if_pos hlt',r_size hinfo,addr_add]
      rfl
     ·have:=VR.ptr (μ:=μ) b (off+n * sz) p hp
      rw [hsz] at this⊢
      rwa [←Nat.add_assoc] at this
   ·cases hk
  ·rename_i el sz cs len hu hx
   split at hk
   ·rename_i hlt hinfo hsz
    rw [forceN_eq] at hk
    rw [Nat.blt_eq] at hlt
    have hsz:=Nat.eq_of_beq_eq_true hsz
    refine⟨_,fun μ a w h=> ?_,hk⟩
    have h1:=h.at hmx hx
    have h2:=(h.at hmi hi).int_inv
    generalize hxa:a.eval x=xv at h1
    cases h1 with
    | dat _ _ L hm hd=>
    cases hd with
    | sl _ _ _ ad cap p arr el' fz xs L g hlc hc ht hl hf hx' ha hs=>
     obtain rfl:=ha (by omega)
     refine⟨.pointer (some ⟨p.blk,p.base+n * P.cellsOf el,none⟩), ?_, ?_⟩
     ·have hlt':(0:Int)≤Int.ofNat n∧Int.ofNat n<(len:Int):=by simp;exact hlt
      simp only [execOp,ho,hxa,h2,Instr.indexAt,asIntOf,Sem.run_bind,Sem.run_pure,Result.andThen,r_under hu,if_pos hlt',r_size hinfo,addr_add]
      rfl
     ·rw [hsz]
      exact .dat _ _ _ rfl (.ptr _ _ p arr el' fz xs L g ht hl hf hx' hs)
   ·cases hk
  ·cases hk
 ·cases hk
theorem isString_under {t:TypeId} (h:isString P t=true):P.underlying t=some .string:=by
 unfold isString at h
 split at h
 ·assumption
 ·cases h
theorem str_getElem {s:ByteArray} {l:List Nat} (h:s.data.toList.map UInt8.toNat=l) {n c:Nat} (hc:l[n]? =some c):∃b:UInt8,s[n]? =some b∧b.toNat=c:=by
 subst h
 rw [List.getElem?_map] at hc
 obtain⟨b,hb,hbc⟩:=Option.map_eq_some_iff.1 hc
 refine⟨b, ?_,hbc⟩
 have hb':s.data[n]? =some b:=by simpa using hb
 obtain⟨hlt,hv⟩:=Array.getElem?_eq_some_iff.1 hb'
 have hlt':n<s.size:=hlt
 rw [getElem?_pos s n hlt']
 exact congrArg some hv
theorem p_index {t:TypeId} {x i:Operand} (ho:o.op= .index t x i) {k:AV→Bool} (hk:indexV P t (opd e x) (opd e i) k=true):∃v,PSpec P o e v∧k v=true:=by
 have hmx:x∈o.op.operands:=by simp [ho,Op.operands]
 have hmi:i∈o.op.operands:=by simp [ho,Op.operands]
 unfold indexV at hk
 split at hk
 ·rename_i s ik n hx hi
  split at hk
  ·rename_i c hst hc
   refine⟨_,fun μ a w h=> ?_,hk⟩
   obtain⟨bs,h1,hl⟩:=(h.at hmx hx).str_inv
   have h2:=(h.at hmi hi).int_inv
   obtain⟨b,hb,hbc⟩:=str_getElem hl hc
   refine⟨.int .u8 (.ofNat c), ?_, .int _ _⟩
   simp only [execOp,ho,h1,h2,Instr.index,asIntOf,Sem.run_bind,Sem.run_pure,Result.andThen,r_under (isString_under hst)]
   simp [hb,hbc]
  ·cases hk
 ·rename_i cs ik n hx hi
  split at hk
  ·rename_i len el hu
   split at hk
   ·rename_i hlt hinfo
    rw [Nat.blt_eq] at hlt
    obtain⟨v,hp,hk⟩:=partK_elim hk
    refine⟨v,fun μ a w h=> ?_,hk⟩
    have h1:=h.at hmx hx
    have h2:=(h.at hmi hi).int_inv
    generalize hxa:a.eval x=xv at h1
    cases h1 with
    | agg _ xs hr=>
     obtain⟨y,hy,hvr⟩:=r_part (w:=w) hr hp
     have hlt':(0:Int)≤Int.ofNat n∧Int.ofNat n<(len:Int):=by simp;exact hlt
     refine⟨y, ?_,hvr⟩
     have hy':(part el xs ((Int.ofNat n).toNat * P.cellsOf el)).run P w= .ok y w:=hy
     simp only [execOp,ho,hxa,h2,Instr.index,asIntOf,Sem.run_bind,Sem.run_pure,Result.andThen,r_under hu,if_pos hlt',r_size hinfo,hy']
   ·cases hk
  ·cases hk
 ·cases hk
theorem p_typeAssert {x:Operand} {xt t:TypeId} {ok:Bool} (ho:o.op= .typeAssert x xt t ok) {k:AV→Bool} (hk:assertK P (opd e x) t ok k=true):∃v,PSpec P o e v∧k v=true:=by
 have hmx:x∈o.op.operands:=by simp [ho,Op.operands]
 unfold assertK at hk
 split at hk
 ·cases hk
 ·cases hk
 ·rename_i d hd hu
  split at hk
  ·rename_i hx
   split at hk
   ·rename_i z hz
    refine⟨_,fun μ a w h=> ?_,hk⟩
    have h1:=h.at hmx hx
    generalize hxa:a.eval x=xv at h1
    cases h1
    obtain⟨zv,hzr,hzv⟩:=r_zero (w:=w) hz μ
    refine⟨.tuple #[zv, .bool false], ?_, .tup _ _ (.cons _ _ _ _ hzv (.cons _ _ _ _ (.bool _) .nil))⟩
    simp only [execOp,ho,hxa,Instr.typeAssert,Sem.run_bind,Sem.run_pure,Result.andThen,r_under hu]
    cases d<;>first | (exact absurd rfl (hd _))| simp [hzr,Result.andThen]
   ·cases hk
  ·rename_i u v hx
   split at hk
   ·rename_i hut
    have hut:=Nat.eq_of_beq_eq_true hut
    split at hk
    ·refine⟨_,fun μ a w h=> ?_,hk⟩
     have h1:=h.at hmx hx
     generalize hxa:a.eval x=xv at h1
     cases h1 with
     | ifc _ _ y hy=>
      refine⟨.tuple #[y, .bool true], ?_, .tup _ _ (.cons _ _ _ _ hy (.cons _ _ _ _ (.bool _) .nil))⟩
      simp only [execOp,ho,hxa,Instr.typeAssert,Sem.run_bind,Sem.run_pure,Result.andThen,r_under hu]
      cases d<;>first | (exact absurd rfl (hd _))| simp [hut]
    ·refine⟨_,fun μ a w h=> ?_,hk⟩
     have h1:=h.at hmx hx
     generalize hxa:a.eval x=xv at h1
     cases h1 with
     | ifc _ _ y hy=>
      refine⟨y, ?_,hy⟩
      simp only [execOp,ho,hxa,Instr.typeAssert,Sem.run_bind,Sem.run_pure,Result.andThen,r_under hu]
      cases d<;>first | (exact absurd rfl (hd _))| simp [hut]
   ·rename_i hut
    have hut':¬u=t:=fun e=>by subst e;simp [Nat.beq_refl] at hut
    split at hk
    ·rename_i z hz
     refine⟨_,fun μ a w h=> ?_,hk⟩
     have h1:=h.at hmx hx
     generalize hxa:a.eval x=xv at h1
     cases h1
     obtain⟨zv,hzr,hzv⟩:=r_zero (w:=w) hz μ
     refine⟨.tuple #[zv, .bool false], ?_, .tup _ _ (.cons _ _ _ _ hzv (.cons _ _ _ _ (.bool _) .nil))⟩
     simp only [execOp,ho,hxa,Instr.typeAssert,Sem.run_bind,Sem.run_pure,Result.andThen,r_under hu]
     cases d<;>first | (exact absurd rfl (hd _))| simp [hut',hzr,Result.andThen]
    ·cases hk
  ·cases hk
theorem p_convert {s d:TypeId} {x:Operand} (ho:o.op= .convert s d x) {k:AV→Bool} (hk:convK P s d (opd e x) k=true):∃v,PSpec P o e v∧k v=true:=by
 have hmx:x∈o.op.operands:=by simp [ho,Op.operands]
 unfold convK at hk
 split at hk
 ·rename_i td ik ik' n hs hd hx
  rw [forceI_eq,wrp_eq] at hk
  refine⟨_,fun μ a w h=>⟨_, ?_, .int _ _⟩,hk⟩
  have h1:=(h.at hmx hx).int_inv
  simp only [execOp,ho,h1,convert,Sem.run_bind,Sem.run_pure,Result.andThen,r_under hs,r_under hd]
  rfl
 ·rename_i td st hs hd hx
  refine⟨_,fun μ a w h=> ?_,hk⟩
  obtain⟨bs,h1,hl⟩:=(h.at hmx hx).str_inv
  refine⟨.string bs, ?_, .str _ _ hl⟩
  simp only [execOp,ho,h1,convert,Sem.run_bind,Sem.run_pure,Result.andThen,r_under hs,r_under hd]
 ·cases hk
theorem p_unOp {op:UnOp} {t:TypeId} {x:Operand} (ho:o.op= .unOp op t x) {k:AV→Bool} (hk:unK op (opd e x) k=true):∃v,PSpec P o e v∧k v=true:=by
 have hmx:x∈o.op.operands:=by simp [ho,Op.operands]
 unfold unK at hk
 split at hk
 ·rename_i ik n hx
  rw [forceI_eq,wrp_eq] at hk
  refine⟨_,fun μ a w h=>⟨_, ?_, .int _ _⟩,hk⟩
  have h1:=(h.at hmx hx).int_inv
  simp only [execOp,ho,h1,Op.unary];rfl
 ·rename_i b hx
  rw [forceB_eq] at hk
  refine⟨_,fun μ a w h=>⟨_, ?_, .bool _⟩,hk⟩
  have h1:=(h.at hmx hx).bool_inv
  simp only [execOp,ho,h1,Op.unary];rfl
 ·rename_i ik n hx
  rw [forceI_eq] at hk
  refine⟨_,fun μ a w h=>⟨_, ?_, .int _ _⟩,hk⟩
  have h1:=(h.at hmx hx).int_inv
  simp only [execOp,ho,h1,Op.unary];rfl
 ·cases hk
end
end Go.Ev
namespace Go.Ev
set_option linter.unusedVariables false
set_option linter.unusedSimpArgs false
def ScOf:Sc→Value→Prop
 | .b,v=>∃b,v= .bool b
 | .i,v=>∃k n,v= .int k n
 | .s,v=>∃s,v= .string s
def Sc2:Sc→Value→Value→Prop
 | .b,u,v=>∃a b,u= .bool a∧v= .bool b
 | .i,u,v=>∃k a b,u= .int k a∧v= .int k b
 | .s,u,v=>∃a b,u= .string a∧v= .string b
inductive ScsOf:List Sc→List Value→Prop where
 | nil:ScsOf [] []
 | cons (c v cs vs) (h:ScOf c v) (hs:ScsOf cs vs):ScsOf (c::cs) (v::vs)
inductive Scs2:List Sc→List Value→List Value→Prop where
 | nil:Scs2 [] [] []
 | cons (c u v cs us vs) (h:Sc2 c u v) (hs:Scs2 cs us vs):Scs2 (c::cs) (u::us) (v::vs)
def FlOf (fl:Fl) (v:Value):Prop:=
 (fl.ag=true∧∃a:Array Value,v= .agg a∧ScsOf fl.sc a.toList)∨(fl.ag=false∧ScsOf fl.sc [v])
def Fl2 (fl:Fl) (u v:Value):Prop:=
 (fl.ag=true∧∃a b:Array Value,u= .agg a∧v= .agg b∧Scs2 fl.sc a.toList b.toList)∨(fl.ag=false∧Scs2 fl.sc [u] [v])
theorem str_inj {μ:Mu} {a b:List Nat} {s t:ByteArray} (h:s.data.toList.map UInt8.toNat=a) (h':t.data.toList.map UInt8.toNat=b):(a=b↔s=t):=by
 subst h;subst h'
 constructor
 ·intro h
  have:=map_toNat_inj h
  obtain⟨⟨x⟩⟩:=s
  obtain⟨⟨y⟩⟩:=t
  simp at this
  rw [this]
 ·intro h;rw [h]
theorem scEq_sound {μ:Mu} {c:Sc} {x y:AV} {u v:Value} {r:Bool} (h:scEq c x y=some r) (hu:VR μ x u) (hv:VR μ y v):Sc2 c u v∧(r=true↔u=v):=by
 unfold scEq at h
 split at h
 ·cases hu;cases hv;cases h;exact⟨⟨_,_,rfl,rfl⟩,by simp⟩
 ·cases hu;cases hv;cases h;exact⟨⟨_,_,rfl,rfl⟩,by simp⟩
 ·split at h
  ·rename_i hk
   have:=kcode_inj hk
   subst this
   cases hu;cases hv
   simp at h
   subst h
   exact⟨⟨_,_,_,rfl,rfl⟩,by rw [ieq_eq];simp⟩
  ·cases h
 ·cases hu with
  | str s _ hs=>cases hv with
   | str t _ ht=>
    simp at h
    subst h
    exact⟨⟨_,_,rfl,rfl⟩,by rw [strEq_eq];simp [str_inj (μ:=μ) hs ht]⟩
 ·cases h
theorem scEqs_sound {μ:Mu} {cs:List Sc} {x y:List AV} {u v:List Value} {r:Bool} (h:scEqs cs x y=some r) (hu:VRs μ x u) (hv:VRs μ y v):Scs2 cs u v∧(r=true↔u=v):=by
 induction cs generalizing x y u v r with
 | nil=>
  cases x with
  | nil=>cases y with
   | nil=>cases hu;cases hv;simp [scEqs] at h;subst h;exact⟨.nil,by simp⟩
   | cons=>simp [scEqs] at h
  | cons=>simp [scEqs] at h
 | cons c cs ih=>
  cases x with
  | nil=>simp [scEqs] at h
  | cons a x=>cases y with
   | nil=>simp [scEqs] at h
   | cons b y=>
    cases hu with | cons _ u1 _ u2 hu1 hu2=>cases hv with | cons _ v1 _ v2 hv1 hv2=>
    simp only [scEqs] at h
    split at h
    ·rename_i p q hp hq
     obtain⟨h1,h2⟩:=scEq_sound hp hu1 hv1
     obtain⟨h3,h4⟩:=ih hq hu2 hv2
     simp at h
     subst h
     exact⟨.cons _ _ _ _ _ _ h1 h3,by simp [h2,h4]⟩
    ·cases h
theorem flEq_sound {μ:Mu} {fl:Fl} {x y:AV} {u v:Value} {r:Bool} (h:flEq fl x y=some r) (hu:VR μ x u) (hv:VR μ y v):Fl2 fl u v∧(r=true↔u=v):=by
 unfold flEq at h
 split at h
 ·rename_i hag
  cases hu with | agg _ a ha=>cases hv with | agg _ b hb=>
  obtain⟨h1,h2⟩:=scEqs_sound h ha hb
  refine⟨.inl ⟨hag,a,b,rfl,rfl,h1⟩,h2.trans ?_⟩
  simp
 ·cases h
 ·have hag:fl.ag=false:=by assumption
  obtain⟨h1,h2⟩:=scEqs_sound h (.cons _ _ _ _ hu .nil) (.cons _ _ _ _ hv .nil)
  exact⟨.inr ⟨hag,h1⟩,h2.trans (by simp)⟩
theorem scFit_sound {μ:Mu} {c:Sc} {x:AV} {u:Value} (h:scFit c x=true) (hu:VR μ x u):ScOf c u:=by
 unfold scFit at h
 split at h
 ·cases hu;exact⟨_,rfl⟩
 ·cases hu;exact⟨_,_,rfl⟩
 ·cases hu;exact⟨_,rfl⟩
 ·cases h
theorem scFits_sound {μ:Mu} {cs:List Sc} {x:List AV} {u:List Value} (h:scFits cs x=true) (hu:VRs μ x u):ScsOf cs u:=by
 induction cs generalizing x u with
 | nil=>cases x with
  | nil=>cases hu;exact .nil
  | cons=>simp [scFits] at h
 | cons c cs ih=>cases x with
  | nil=>simp [scFits] at h
  | cons a x=>
   cases hu with | cons _ u1 _ u2 hu1 hu2=>
   simp only [scFits] at h
   split at h
   ·rename_i hc
    exact .cons _ _ _ _ (scFit_sound hc hu1) (ih h hu2)
   ·cases h
theorem flFit_sound {μ:Mu} {fl:Fl} {x:AV} {u:Value} (h:flFit fl x=true) (hu:VR μ x u):FlOf fl u:=by
 unfold flFit at h
 split at h
 ·rename_i hag
  cases hu with | agg _ a ha=>exact .inl ⟨hag,a,rfl,scFits_sound h ha⟩
 ·cases h
 ·have hag:fl.ag=false:=by assumption
  exact .inr ⟨hag,scFits_sound h (.cons _ _ _ _ hu .nil)⟩
theorem Scs2.len {cs:List Sc} {u v:List Value} (h:Scs2 cs u v):u.length=cs.length∧v.length=cs.length:=by
 induction h with
 | nil=>simp
 | cons _ _ _ _ _ _ _ _ ih=>simp [ih]
theorem Scs2.one {c:Sc} {u v:Value} (h:Scs2 [c] [u] [v]):Sc2 c u v:=by cases h;assumption
theorem ScsOf.len {cs:List Sc} {u:List Value} (h:ScsOf cs u):u.length=cs.length:=by
 induction h with
 | nil=>simp
 | cons _ _ _ _ _ _ ih=>simp [ih]
theorem Scs2.split {c1 c2:List Sc} {u v:List Value} (h:Scs2 (c1++c2) u v):
  Scs2 c1 (u.take c1.length) (v.take c1.length)∧Scs2 c2 (u.drop c1.length) (v.drop c1.length):=by
 induction c1 generalizing u v with
 | nil=>exact⟨by simpa using Scs2.nil,by simpa using h⟩
 | cons c c1 ih=>
  cases h with | cons _ u1 v1 _ us vs h hs=>
  obtain⟨h1,h2⟩:=ih hs
  exact⟨by simpa using Scs2.cons _ _ _ _ _ _ h h1,by simpa using h2⟩
theorem ScsOf.split {c1 c2:List Sc} {u:List Value} (h:ScsOf (c1++c2) u):ScsOf c1 (u.take c1.length)∧ScsOf c2 (u.drop c1.length):=by
 induction c1 generalizing u with
 | nil=>exact⟨by simpa using ScsOf.nil,by simpa using h⟩
 | cons c c1 ih=>
  cases h with | cons _ u1 _ us h hs=>
  obtain⟨h1,h2⟩:=ih hs
  exact⟨by simpa using ScsOf.cons _ _ _ _ h h1,by simpa using h2⟩
section
variable {P : Program}
theorem flat_ag {d:Nat} {t:TypeId} {fl:Fl} (h:flat P d t=some fl):isAg P t=some fl.ag∧(fl.ag=false→fl.sc.length=1):=by
 cases d with
 | zero=>simp [flat] at h
 | succ d=>
  unfold flat at h
  split at h
  ·rename_i hu;cases h;simp [isAg,hu]
  ·rename_i hu;cases h;simp [isAg,hu]
  ·rename_i hu;cases h;simp [isAg,hu]
  ·rename_i fs hu
   split at h
   ·cases h
   ·split at h
    ·cases h;simp [isAg,hu]
    ·cases h
  ·rename_i n e hu
   split at h
   ·split at h
    ·cases h;simp [isAg,hu]
    ·cases h
   ·cases h
  ·cases h
theorem flat_part {d:Nat} {t:TypeId} {fl:Fl} (h:flat P d t=some fl) (hc:fl.sc.length=P.cellsOf t) (a:Array Value) (off:Nat) (w:World) (hl:fl.sc.length≤(a.toList.drop off).length):
  ∃x,(part t a off).run P w= .ok x w∧((fl.ag=true∧∃b:Array Value,x= .agg b∧b.toList=(a.toList.drop off).take fl.sc.length)∨(fl.ag=false∧(a.toList.drop off).take fl.sc.length=[x])):=by
 obtain⟨hag,h1⟩:=flat_ag h
 cases hb:fl.ag with
 | true=>
  refine⟨.agg (a.extract off (off+P.cellsOf t)), ?_, .inl ⟨rfl,_,rfl, ?_⟩⟩
  ·unfold part
   rw [hb] at hag
   simp [r_isAg hag,Result.andThen,r_size (isAg_info hag)]
  ·rw [hc]
   simp [Array.toList_extract,List.extract_eq_take_drop]
 | false=>
  have h1:=h1 hb
  rw [h1] at hl⊢
  cases hd:a.toList.drop off with
  | nil=>rw [hd] at hl;simp at hl
  | cons x r=>
   refine⟨x, ?_, .inr ⟨rfl,by simp⟩⟩
   unfold part
   rw [hb] at hag
   have:a[off]? =some x:=by
    have:(a.toList.drop off)[0]? =some x:=by rw [hd];rfl
    rw [List.getElem?_drop] at this
    simpa using this
   simp [r_isAg hag,Result.andThen,this]
def EqFl (P:Program) (D:Nat) (t:TypeId) (fl:Fl):Prop:=
 ∀(u v:Value) (w:World),Fl2 fl u v→∃r,(Op.equalIn D t u v).run P w= .ok r w∧(r=true↔u=v)
theorem take_drop_eq {α:Type} {n:Nat} {u v:List α}:(u.take n=v.take n∧u.drop n=v.drop n)↔u=v:=by
 constructor
 ·rintro⟨h1,h2⟩
  rw [←List.take_append_drop n u,←List.take_append_drop n v,h1,h2]
 ·intro h;rw [h];exact⟨rfl,rfl⟩
theorem eqFields_flat {D d:Nat} (ih:∀t fl,flat P d t=some fl→EqFl P D t fl) (xs ys:Array Value) (w:World):
  ∀(fs:List Field) (off:Nat) (sc:List Sc),flatFields P (flat P d) fs off=some sc→Scs2 sc (xs.toList.drop off) (ys.toList.drop off)→
   ∃r,(Op.eqFields D xs ys fs).run P w= .ok r w∧(r=true↔xs.toList.drop off=ys.toList.drop off):=by
 intro fs
 induction fs with
 | nil=>
  intro off sc h h2
  simp [flatFields] at h
  subst h
  generalize xs.toList.drop off=u at *
  generalize ys.toList.drop off=v at *
  cases h2
  exact⟨true,by simp [Op.eqFields],by simp⟩
 | cons f fs ihf=>
  intro off sc h h2
  simp only [flatFields] at h
  split at h
  ·rename_i fl hne hoff hfl
   split at h
   ·rename_i r hlen hr
    simp at h
    subst h
    have hoff:=Nat.eq_of_beq_eq_true hoff
    subst hoff
    have hlen:=Nat.eq_of_beq_eq_true hlen
    obtain⟨h3,h4⟩:=h2.split
    have hl1:=h2.len.1
    have hl2:=h2.len.2
    obtain⟨p,hp,hpv⟩:=flat_part hfl hlen xs f.offset w (by rw [hl1];simp)
    obtain⟨q,hq,hqv⟩:=flat_part hfl hlen ys f.offset w (by rw [hl2];simp)
    have hne':f.name≠ "_" :=by simpa using hne
    have h5:Fl2 fl p q∧(p=q↔(xs.toList.drop f.offset).take fl.sc.length=(ys.toList.drop f.offset).take fl.sc.length):=by
     rcases hpv with⟨ha,b,rfl,hb⟩| ⟨ha,hb⟩
     ·rcases hqv with⟨ha',c,rfl,hc⟩| ⟨ha',hc⟩
      ·rw [←hb,←hc] at h3⊢
       exact⟨.inl ⟨ha,b,c,rfl,rfl,h3⟩,by simp⟩
      ·rw [ha] at ha';cases ha'
     ·rcases hqv with⟨ha',c,rfl,hc⟩| ⟨ha',hc⟩
      ·rw [ha] at ha';cases ha'
      ·rw [hb,hc] at h3⊢
       exact⟨.inr ⟨ha,h3⟩,by simp⟩
    obtain⟨e,he,hev⟩:=ih _ _ hfl p q w h5.1
    rw [List.drop_drop,List.drop_drop] at h4
    obtain⟨r',hr',hrv⟩:=ihf _ r hr h4
    simp only [Op.eqFields,hne',if_true,Sem.run_bind,hp,hq,he,Result.andThen_ok,ne_eq,not_false_eq_true]
    cases e with
    | false=>
     refine⟨false,by simp, ?_⟩
     simp
     intro heq
     have:p=q:=h5.2.2 (by rw [heq])
     simp [this] at hev
    | true=>
     refine⟨r',by simpa using hr', ?_⟩
     have hpq:p=q:=hev.1 rfl
     rw [hrv,←take_drop_eq (n:=fl.sc.length) (u:=xs.toList.drop f.offset),List.drop_drop,List.drop_drop]
     exact⟨fun h=>⟨h5.2.1 hpq,h⟩,fun h=>h.2⟩
   ·cases h
  ·cases h
theorem part2_flat {d:Nat} {e:TypeId} {fl:Fl} {sc:List Sc} (hfl:flat P d e=some fl) (hlen:fl.sc.length=P.cellsOf e) (xs ys:Array Value) (off:Nat) (w:World)
  (h2:Scs2 (fl.sc++sc) (xs.toList.drop off) (ys.toList.drop off)):∃p q,(part e xs off).run P w= .ok p w∧(part e ys off).run P w= .ok q w∧Fl2 fl p q∧
   (p=q↔(xs.toList.drop off).take fl.sc.length=(ys.toList.drop off).take fl.sc.length):=by
 obtain⟨h3,h4⟩:=h2.split
 have hl1:=h2.len.1
 have hl2:=h2.len.2
 obtain⟨p,hp,hpv⟩:=flat_part hfl hlen xs off w (by rw [hl1];simp)
 obtain⟨q,hq,hqv⟩:=flat_part hfl hlen ys off w (by rw [hl2];simp)
 refine⟨p,q,hp,hq, ?_⟩
 rcases hpv with⟨ha,b,rfl,hb⟩| ⟨ha,hb⟩
 ·rcases hqv with⟨ha',c,rfl,hc⟩| ⟨ha',hc⟩
  ·rw [←hb,←hc] at h3⊢
   exact⟨.inl ⟨ha,b,c,rfl,rfl,h3⟩,by simp⟩
  ·rw [ha] at ha';cases ha'
 ·rcases hqv with⟨ha',c,rfl,hc⟩| ⟨ha',hc⟩
  ·rw [ha] at ha';cases ha'
  ·rw [hb,hc] at h3⊢
   exact⟨.inr ⟨ha,h3⟩,by simp⟩
theorem eqElems_flat {D d:Nat} {e:TypeId} {fl:Fl} (hfl:flat P d e=some fl) (hlen:fl.sc.length=P.cellsOf e) (ih:EqFl P D e fl) (xs ys:Array Value) (w:World):
  ∀(m i:Nat),Scs2 (List.replicate m fl.sc).flatten (xs.toList.drop (i * P.cellsOf e)) (ys.toList.drop (i * P.cellsOf e))→
   ∃r:Option Bool×Unit,(forIn (List.range' i m 1) ((none,()):Option Bool×Unit) (fun i __s=>do
      let a←part e xs (i * P.cellsOf e)
      let b←part e ys (i * P.cellsOf e)
      let c←Op.equalIn D e a b
      if (!c)=true then pure (ForInStep.done (some false,())) else pure (ForInStep.yield (none,()))):Sem (Option Bool×Unit)).run P w= .ok r w∧
    ((r.1=none∧xs.toList.drop (i * P.cellsOf e)=ys.toList.drop (i * P.cellsOf e))∨(r.1=some false∧¬xs.toList.drop (i * P.cellsOf e)=ys.toList.drop (i * P.cellsOf e))):=by
 intro m
 induction m with
 | zero=>
  intro i h2
  simp only [List.replicate_zero,List.flatten_nil] at h2
  generalize xs.toList.drop _=u at *
  generalize ys.toList.drop _=v at *
  cases h2
  exact⟨(none,()),by simp, .inl ⟨rfl,rfl⟩⟩
 | succ m ihm=>
  intro i h2
  rw [List.replicate_succ,List.flatten_cons] at h2
  obtain⟨p,q,hp,hq,h5,h6⟩:=part2_flat hfl hlen xs ys _ w h2
  obtain⟨h3,h4⟩:=h2.split
  rw [List.drop_drop,List.drop_drop,hlen,←Nat.succ_mul] at h4
  obtain⟨c,hc,hcv⟩:=ih p q w h5
  obtain⟨r,hr,hrv⟩:=ihm (i+1) h4
  have hsplit:=take_drop_eq (n:=fl.sc.length) (u:=xs.toList.drop (i * P.cellsOf e)) (v:=ys.toList.drop (i * P.cellsOf e))
  rw [List.drop_drop,List.drop_drop,hlen,←Nat.succ_mul] at hsplit
  rw [hlen] at h6
  simp only [List.range'_succ,List.forIn_cons,Sem.run_bind,hp,hq,hc,Result.andThen_ok]
  cases c with
  | false=>
   refine⟨(some false,()),by simp, .inr ⟨rfl,fun he=> ?_⟩⟩
   have:p=q:=h6.2 (by rw [he])
   simp [this] at hcv
  | true=>
   refine⟨r,by simpa using hr, ?_⟩
   have hpq:p=q:=hcv.1 rfl
   rcases hrv with⟨g1,g2⟩| ⟨g1,g2⟩
   ·exact .inl ⟨g1,hsplit.1 ⟨h6.1 hpq,g2⟩⟩
   ·exact .inr ⟨g1,fun he=>g2 (hsplit.2 he).2⟩
theorem equalIn_flat {D:Nat}:∀(d:Nat) (t:TypeId) (fl:Fl),flat P d t=some fl→EqFl P (D+d) t fl
 | 0,t,fl,h=>by simp [flat] at h
 | d+1,t,fl,h=>by
  intro u v w h2
  unfold flat at h
  split at h
  ·rename_i hu
   cases h
   rcases h2 with⟨h2,_⟩| ⟨_,h2⟩
   ·cases h2
   have h2:=h2.one
   obtain⟨a,b,rfl,rfl⟩:=h2
   exact⟨_,run_equalIn_bool w (D+d) t a b hu,by simp⟩
  ·rename_i ik hu
   cases h
   rcases h2 with⟨h2,_⟩| ⟨_,h2⟩
   ·cases h2
   have h2:=h2.one
   obtain⟨k,a,b,rfl,rfl⟩:=h2
   exact⟨_,run_equalIn_int w (D+d) t k ik a b hu,by simp⟩
  ·rename_i hu
   cases h
   rcases h2 with⟨h2,_⟩| ⟨_,h2⟩
   ·cases h2
   have h2:=h2.one
   obtain⟨a,b,rfl,rfl⟩:=h2
   refine⟨_,run_equalIn_string w (D+d) t a b hu, ?_⟩
   simp only [toList_data,beq_iff_eq,Value.string.injEq,Array.toList_inj]
   exact⟨fun h=>ByteArray.ext h,fun h=>by rw [h]⟩
  ·rename_i fs hu
   split at h
   ·cases h
   ·rename_i hst
    split at h
    ·rename_i sc hsc
     cases h
     rcases h2 with⟨_,xs,ys,rfl,rfl,h2⟩| ⟨h2,_⟩
     ·have hfo:P.fieldsOf t=fs:=by simp [Program.fieldsOf,hu]
      obtain⟨r,hr,hrv⟩:=eqFields_flat (D:=D+d) (fun t fl h=>equalIn_flat d t fl h) xs ys w fs.toList 0 sc hsc (by simpa using h2)
      refine⟨r, ?_, ?_⟩
      ·rw [show D+(d+1)=(D+d)+1 from rfl,run_equalIn_struct w (D+d) t xs ys (by rw [hfo];exact hu) hst,hfo]
       exact hr
      ·rw [hrv];simp
     ·cases h2
    ·cases h
  ·rename_i n e hu
   split at h
   ·rename_i fl' hfl
    split at h
    ·rename_i hlen
     cases h
     have hlen:=Nat.eq_of_beq_eq_true hlen
     rcases h2 with⟨_,xs,ys,rfl,rfl,h2⟩| ⟨h2,_⟩
     ·have hinfo:=isAg_info (flat_ag hfl).1
      obtain⟨r,hr,hrv⟩:=eqElems_flat (D:=D+d) hfl hlen (equalIn_flat d e fl' hfl) xs ys w n 0 (by simpa using h2)
      refine⟨r.1.isNone, ?_, ?_⟩
      ·rw [show D+(d+1)=(D+d)+1 from rfl]
       simp only [Op.equalIn,Sem.run_bind,r_under hu,Result.andThen_ok,r_size hinfo,Std.Legacy.Range.forIn_eq_forIn_range']
       rw [show [:n].size=n by simp [Std.Legacy.Range.size]]
       rw [hr]
       rcases hrv with⟨g1,_⟩| ⟨g1,_⟩<;>simp [g1]
      ·rcases hrv with⟨g1,g2⟩| ⟨g1,g2⟩
       ·simp at g2;simp [g1,g2]
       ·simp at g2;simp [g1,g2]
     ·cases h2
    ·cases h
   ·cases h
  ·cases h
def CkFl (P:Program) (emp:Bool) (D:Nat) (t:TypeId) (fl:Fl):Prop:=
 ∀(u:Value) (w:World),FlOf fl u→(Instr.checkKey emp D t u).run P w= .ok () w
theorem checkKey_flat {emp:Bool} {D:Nat}:∀(d:Nat) (t:TypeId) (fl:Fl),flat P d t=some fl→CkFl P emp (D+d) t fl
 | 0,t,fl,h=>by simp [flat] at h
 | d+1,t,fl,h=>by
  intro u w h2
  unfold flat at h
  split at h
  ·rename_i hu
   cases h
   simp [Instr.checkKey,r_under hu,Result.andThen]
  ·rename_i ik hu
   cases h
   simp [Instr.checkKey,r_under hu,Result.andThen]
  ·rename_i hu
   cases h
   simp [Instr.checkKey,r_under hu,Result.andThen]
  ·rename_i fs hu
   split at h
   ·cases h
   ·rename_i hst
    split at h
    ·rename_i sc hsc
     cases h
     rcases h2 with⟨_,cs,rfl,ht⟩| ⟨h2,_⟩
     ·have key:∀(L:List Field) (off:Nat) (sc:List Sc),flatFields P (flat P d) L off=some sc→ScsOf sc (cs.toList.drop off)→
        (forIn L PUnit.unit (fun f r=>
         if f.name≠ "_" then do
          let x←part f.type cs f.offset
          Instr.checkKey emp (D+d) f.type x
          pure (ForInStep.yield PUnit.unit)
         else pure (ForInStep.yield PUnit.unit)):Sem PUnit).run P w= .ok PUnit.unit w:=by
       intro L
       induction L with
       | nil=>intro off sc _ _;simp
       | cons f fs ihf=>
        intro off sc h h2
        simp only [flatFields] at h
        split at h
        ·rename_i fl hne hoff hfl
         split at h
         ·rename_i r hlen hr
          simp at h
          subst h
          have hoff:=Nat.eq_of_beq_eq_true hoff
          subst hoff
          have hlen:=Nat.eq_of_beq_eq_true hlen
          obtain⟨h3,h4⟩:=h2.split
          obtain⟨p,hp,hpv⟩:=flat_part hfl hlen cs f.offset w (by rw [h2.len];simp)
          have hne':f.name≠ "_" :=by simpa using hne
          have h5:FlOf fl p:=by
           rcases hpv with⟨ha,b,rfl,hb⟩| ⟨ha,hb⟩
           ·rw [←hb] at h3
            exact .inl ⟨ha,b,rfl,h3⟩
           ·rw [hb] at h3
            exact .inr ⟨ha,h3⟩
          have hck:=checkKey_flat (emp:=emp) (D:=D) d f.type fl hfl p w h5
          rw [List.drop_drop] at h4
          have:=ihf _ r hr h4
          simp only [List.forIn_cons,Sem.run_bind,if_pos hne',hp,hck,Result.andThen_ok,Sem.run_pure]
          exact this
         ·cases h
        ·cases h
      have:=key fs.toList 0 sc hsc (by simpa using ht)
      simp only [Instr.checkKey,Sem.run_bind,r_under hu,Result.andThen_ok]
      rw [←Array.forIn_toList]
      refine Eq.trans (congrArg (fun r:Result Unit=>r.andThen fun a w'=>(pure ():Sem Unit).run P w') this) ?_
      rfl
     ·cases h2
    ·cases h
  ·rename_i n e hu
   split at h
   ·rename_i fl' hfl
    split at h
    ·rename_i hlen
     cases h
     have hlen:=Nat.eq_of_beq_eq_true hlen
     rcases h2 with⟨_,cs,rfl,ht⟩| ⟨h2,_⟩
     ·have hinfo:=isAg_info (flat_ag hfl).1
      have key:∀(m i:Nat),ScsOf (List.replicate m fl'.sc).flatten (cs.toList.drop (i * P.cellsOf e))→
        (forIn (List.range' i m 1) PUnit.unit (fun i __s=>do
         let a←sizeOf e
         let b←part e cs (i * a)
         Instr.checkKey emp (D+d) e b
         pure (ForInStep.yield PUnit.unit)):Sem PUnit).run P w= .ok PUnit.unit w:=by
       intro m
       induction m with
       | zero=>intro i _;simp
       | succ m ihm=>
        intro i h2
        rw [List.replicate_succ,List.flatten_cons] at h2
        obtain⟨h3,h4⟩:=h2.split
        obtain⟨p,hp,hpv⟩:=flat_part hfl hlen cs (i * P.cellsOf e) w (by rw [h2.len];simp)
        have h5:FlOf fl' p:=by
         rcases hpv with⟨ha,b,rfl,hb⟩| ⟨ha,hb⟩
         ·rw [←hb] at h3
          exact .inl ⟨ha,b,rfl,h3⟩
         ·rw [hb] at h3
          exact .inr ⟨ha,h3⟩
        have hck:=checkKey_flat (emp:=emp) (D:=D) d e fl' hfl p w h5
        rw [List.drop_drop,hlen,←Nat.succ_mul] at h4
        have:=ihm (i+1) h4
        simp only [List.range'_succ,List.forIn_cons,Sem.run_bind,r_size hinfo,hp,hck,Result.andThen_ok,Sem.run_pure]
        exact this
      have:=key n 0 (by simpa using ht)
      simp only [Instr.checkKey,Sem.run_bind,r_under hu,Result.andThen_ok,Std.Legacy.Range.forIn_eq_forIn_range']
      rw [show [:n].size=n by simp [Std.Legacy.Range.size]]
      refine Eq.trans (congrArg (fun r:Result Unit=>r.andThen fun a w'=>(pure ():Sem Unit).run P w') this) ?_
      rfl
     ·cases h2
    ·cases h
   ·cases h
  ·cases h
end
end Go.Ev
namespace Go.Ev
set_option linter.unusedVariables false
set_option linter.unusedSimpArgs false
theorem setAt_eq {cs vs r:List AV} {n:Nat} (h:setAt cs n vs=some r):n+vs.length≤cs.length∧r=cs.take n++vs++cs.drop (n+vs.length):=by
 fun_induction setAt cs n vs generalizing r with
 | case1 cs=>simp at h;simp [h]
 | case2=>cases h
 | case3 c cs v vs r' hr ih=>
  simp at h;subst h
  obtain⟨h1,h2⟩:=ih hr
  subst h2
  simp at h1
  refine⟨by simp;omega,by simp⟩
 | case4 c cs v vs hr ih=>cases h
 | case5=>cases h
 | case6 c cs n vs r' hr ih=>
  simp at h;subst h
  obtain⟨h1,h2⟩:=ih hr
  subst h2
  refine⟨by simp;omega, ?_⟩
  have:n+1+vs.length=(n+vs.length)+1:=by omega
  simp [this]
 | case7=>cases h
section
variable {μ : Mu}
theorem VRs.over {cs vs r:List AV} {xs ys:List Value} {n:Nat} (h:setAt cs n vs=some r) (hc:VRs μ cs xs) (hv:VRs μ vs ys):
  n+ys.length≤xs.length∧VRs μ r (xs.take n++ys++xs.drop (n+ys.length)):=by
 obtain⟨h1,h2⟩:=setAt_eq h
 subst h2
 rw [hc.length,hv.length]
 exact⟨h1,((hc.take n).append hv).append (hc.drop _)⟩
theorem fold_over (vs:List Value):∀(i:Nat) (off:Nat) (cs:Array Value),off+i+vs.length≤cs.size→
  ((vs.zipIdx i).foldl (fun (cs:Array Value) (p:Value×Nat)=>cs.setIfInBounds (off+p.2) p.1) cs).toList=cs.toList.take (off+i)++vs++cs.toList.drop (off+i+vs.length):=by
 induction vs with
 | nil=>intro i off cs h;simp
 | cons v vs ih=>
  intro i off cs h
  simp only [List.zipIdx_cons,List.foldl_cons]
  rw [ih (i+1) off _ (by simp at h⊢;omega)]
  have e:=list_seg_step cs.toList (off+i) v vs (by simp at h⊢;omega)
  simpa [Array.toList_setIfInBounds,Nat.add_assoc] using e
theorem VR.cells {v:AV} {x:Value} (h:VR μ v x):VRs μ v.cells x.cells.toList:=by
 cases h with
 | agg _ a h=>exact h
 | bool=>exact .cons _ _ _ _ (.bool _) .nil
 | int=>exact .cons _ _ _ _ (.int _ _) .nil
 | str _ _ h=>exact .cons _ _ _ _ (.str _ _ h) .nil
 | ptr _ _ p h=>exact .cons _ _ _ _ (.ptr _ _ p h) .nil
 | nilp=>exact .cons _ _ _ _ .nilp .nil
 | gptr=>exact .cons _ _ _ _ (.gptr _ _) .nil
 | sl _ _ _ _ _ p cap a h hl ht hc hn ha=>exact .cons _ _ _ _ (.sl _ _ _ _ _ p cap a h hl ht hc hn ha) .nil
 | nils=>exact .cons _ _ _ _ .nils .nil
 | map _ p h=>exact .cons _ _ _ _ (.map _ p h) .nil
 | nilm=>exact .cons _ _ _ _ .nilm .nil
 | fn _ _ _ _ _ ha hc=>exact .cons _ _ _ _ (.fn _ _ _ _ _ ha hc) .nil
 | yld _ p h=>exact .cons _ _ _ _ (.yld _ p h) .nil
 | nilf=>exact .cons _ _ _ _ .nilf .nil
 | ifc _ _ _ h=>exact .cons _ _ _ _ (.ifc _ _ _ h) .nil
 | nili=>exact .cons _ _ _ _ .nili .nil
 | tup _ a h=>exact .cons _ _ _ _ (.tup _ _ h) .nil
 | dat d _ L hm h=>rcases (VR.dat d x L hm h).dat_inv with⟨_,rfl⟩| ⟨_,_,_,rfl⟩| ⟨_,rfl⟩<;>exact .cons _ _ _ _ (.dat _ _ L hm h) .nil
theorem one_cell {v:AV} {x:Value} (h1:one v=true) (h:VR μ v x):x.oneCell'=true:=by
 cases h with
 | dat d _ L hm h=>cases h<;>first | (cases hm;done)| rfl
 | _=>first | rfl | (simp [one] at h1)
theorem ones_cell {vs:List AV} {xs:List Value} (h1:vs.all one=true) (h:VRs μ vs xs):∀x∈xs,x.oneCell'=true:=by
 induction vs generalizing xs with
 | nil=>cases h;simp
 | cons v vs ih=>
  cases h with | cons _ x _ xs h hs=>
  simp at h1
  intro y hy
  rcases List.mem_cons.1 hy with rfl | hy
  ·exact one_cell h1.1 h
  ·exact ih (by simpa using h1.2) hs y hy
inductive PVs (μ:Mu):List (Nat×AV)→List (Nat×Value)→Prop where
 | nil:PVs μ [] []
 | cons (i v x ps qs) (h:VR μ v x) (hs:PVs μ ps qs):PVs μ ((i,v)::ps) ((i,x)::qs)
theorem fillA_sound {places:List (Nat×Nat)} {ps:List (Nat×AV)} {qs:List (Nat×Value)} {cs r:List AV} {xs:Array Value}
  (h:fillA places ps cs=some r) (hp:PVs μ ps qs) (hc:VRs μ cs xs.toList):∃ys:Array Value,Instr.fill (places.toArray[·]?) xs qs=some ys∧VRs μ r ys.toList:=by
 induction ps generalizing qs cs xs with
 | nil=>cases hp;simp [fillA] at h;subst h;exact⟨xs,rfl,hc⟩
 | cons p ps ih=>
  cases hp with | cons i v x _ qs hv hs=>
  simp only [fillA] at h
  split at h
  ·rename_i off size hpl
   split at h
   ·rename_i hsz
    have hsz:=Nat.eq_of_beq_eq_true hsz
    split at h
    ·rename_i cs' hset
     have hvc:=hv.cells
     obtain⟨h1,h2⟩:=VRs.over hset hc hvc
     have hfo:=fold_over x.cells.toList 0 off xs (by simpa using h1)
     have hfo':(x.cells.zipIdx.foldl (fun (cs:Array Value) (p:Value×Nat)=>cs.setIfInBounds (off+p.2) p.1) xs).toList=xs.toList.take off++x.cells.toList++xs.toList.drop (off+x.cells.toList.length):=by
      rw [←Array.foldl_toList,Array.toList_zipIdx]
      simpa using hfo
     obtain⟨ys,hy,hr⟩:=ih (xs:=x.cells.zipIdx.foldl (fun (cs:Array Value) (p:Value×Nat)=>cs.setIfInBounds (off+p.2) p.1) xs) h hs (by rw [hfo'];exact h2)
     refine⟨ys, ?_,hr⟩
     have hl:=hvc.length
     have hle:off+x.cells.size≤xs.size:=by simpa using h1
     have hsize:x.cells.size=size:=by rw [←hsz,←hl];simp
     simp only [Instr.fill,List.getElem?_toArray,hpl]
     simp
     exact⟨⟨hsize,hle⟩,by simpa using hy⟩
    ·cases h
   ·cases h
  ·cases h
theorem fillS_sound {size:Nat} {ps:List (Nat×AV)} {qs:List (Nat×Value)} {cs r:List AV} {xs:Array Value}
  (h:fillS size ps cs=some r) (hp:PVs μ ps qs) (hc:VRs μ cs xs.toList):∃ys:Array Value,Instr.fill (fun i=>some (i * size,size)) xs qs=some ys∧VRs μ r ys.toList:=by
 induction ps generalizing qs cs xs with
 | nil=>cases hp;simp [fillS] at h;subst h;exact⟨xs,rfl,hc⟩
 | cons p ps ih=>
  cases hp with | cons i v x _ qs hv hs=>
  simp only [fillS] at h
  split at h
  ·rename_i hsz
   have hsz:=Nat.eq_of_beq_eq_true hsz
   split at h
   ·rename_i cs' hset
    have hvc:=hv.cells
    obtain⟨h1,h2⟩:=VRs.over hset hc hvc
    have hfo:=fold_over x.cells.toList 0 (i * size) xs (by simpa using h1)
    have hfo':(x.cells.zipIdx.foldl (fun (cs:Array Value) (p:Value×Nat)=>cs.setIfInBounds (i * size+p.2) p.1) xs).toList=xs.toList.take (i * size)++x.cells.toList++xs.toList.drop (i * size+x.cells.toList.length):=by
     rw [←Array.foldl_toList,Array.toList_zipIdx]
     simpa using hfo
    obtain⟨ys,hy,hr⟩:=ih (xs:=x.cells.zipIdx.foldl (fun (cs:Array Value) (p:Value×Nat)=>cs.setIfInBounds (i * size+p.2) p.1) xs) h hs (by rw [hfo'];exact h2)
    refine⟨ys, ?_,hr⟩
    have hl:=hvc.length
    have hle:i * size+x.cells.size≤xs.size:=by simpa using h1
    have hsize:x.cells.size=size:=by rw [←hsz,←hl];simp
    simp only [Instr.fill]
    simp
    exact⟨⟨hsize,hle⟩,by simpa using hy⟩
   ·cases h
  ·cases h
end
section
variable {P : Program} {G : Globals} {o : Oper} {e : En}
theorem zro_info {t:TypeId} {z:AV} (h:zro P t=some z):∃i v,P.info? t=some i∧i.zero=some v∧∀μ,VR μ z v:=by
 unfold zro at h
 split at h
 ·rename_i i hi
  split at h
  ·rename_i v hv
   exact⟨i,v,hi,hv,fun μ=>ofC_vr' 6 h⟩
  ·cases h
 ·cases h
theorem mapM_places {fs:List Field} (h:(fs.all fun f=>(P.info? f.type).isSome)=true):
  fs.mapM (fun f=>(P.info? f.type).map fun i=>(f.offset,i.size))=some (fs.map fun f=>(f.offset,P.cellsOf f.type)):=by
 induction fs with
 | nil=>rfl
 | cons f fs ih=>
  simp only [List.all_cons,Bool.and_eq_true] at h
  obtain⟨i,hi⟩:=Option.isSome_iff_exists.1 h.1
  simp [List.mapM_cons,ih h.2,hi,Program.cellsOf]
theorem parts_vr {μ:Mu} {a:Act} {l:List (Nat×Operand)} (h:∀p∈l,VR μ (opd e p.2) (a.eval p.2)):PVs μ (l.map fun p=>(p.1,opd e p.2)) (l.map fun p=>(p.1,a.eval p.2)):=by
 induction l with
 | nil=>exact .nil
 | cons x l ih=>exact .cons _ _ _ _ _ (h x (by simp)) (ih fun y hy=>h y (by simp [hy]))
theorem p_build {t:TypeId} {parts:Array (Nat×Operand)} (ho:o.op= .build t parts) {k:AV→Bool} (hk:buildK P t (parts.toList.map fun p=>(p.1,opd e p.2)) k=true):∃v,PSpec P o e v∧k v=true:=by
 unfold buildK at hk
 have hpv:∀(μ:Mu) (a:Act),OpdR μ e a o→PVs μ (parts.toList.map fun p=>(p.1,opd e p.2)) (parts.toList.map fun p=>(p.1,a.eval p.2)):=fun μ a h=>parts_vr fun p hp=>h.mem (by
  simp only [ho,Op.operands]
  simp
  exact⟨p.1,by simpa using hp⟩)
 have run:∀(a:Act) (w:World) (cells:Array Value),P.built t (parts.toList.map fun p=>(p.1,a.eval p.2))=some cells→(execOp a.eval o).run P w= .ok (.value (.agg cells)) w:=by
  intro a w cells h
  have:=run_build (P:=P) w t (parts.map fun (i,x)=>(i,a.eval x)) cells (by simpa using h)
  simp [execOp,ho,this]
 split at hk
 ·rename_i z fs hz hu
  split at hk
  ·rename_i hall
   split at hk
   ·rename_i cs hcs
    rw [forceL_eq] at hk
    refine⟨_,fun μ a w h=> ?_,hk⟩
    obtain⟨i,v,hi,hv,hzv⟩:=zro_info hz
    have hzv:=hzv μ
    cases hzv with | agg _ zs hzs=>
    obtain⟨ys,hy,hr⟩:=fillA_sound hcs (hpv μ a h) hzs
    refine⟨.agg ys,run a w ys ?_, .agg _ _ hr⟩
    simp only [Program.built,hi,hu,hv,mapM_places hall]
    exact hy
   ·cases hk
  ·cases hk
 ·rename_i z n el hz hu
  split at hk
  ·rename_i hinfo
   split at hk
   ·rename_i cs hcs
    rw [forceL_eq] at hk
    refine⟨_,fun μ a w h=> ?_,hk⟩
    obtain⟨i,v,hi,hv,hzv⟩:=zro_info hz
    obtain⟨ie,hie⟩:=Option.isSome_iff_exists.1 hinfo
    have hzv:=hzv μ
    cases hzv with | agg _ zs hzs=>
    have hce:P.cellsOf el=ie.size:=by simp [Program.cellsOf,hie]
    rw [hce] at hcs
    obtain⟨ys,hy,hr⟩:=fillS_sound hcs (hpv μ a h) hzs
    refine⟨.agg ys,run a w ys ?_, .agg _ _ hr⟩
    simp only [Program.built,hi,hu,hv,hie]
    exact hy
   ·cases hk
  ·cases hk
 ·cases hk
theorem minK_sound {mx:Bool} {x:AV} {l:List AV} {k:AV→Bool} (h:minK mx x l k=true):
  ∃v,k v=true∧∀(μ:Mu) (u:Value) (us:List Value) (w:World),VR μ x u→VRs μ l us→∃y,(us.foldlM (if mx then Builtin.max2 else Builtin.min2) u).run P w= .ok y w∧VR μ v y:=by
 induction l generalizing x with
 | nil=>
  cases x<;>exact⟨_,h,fun μ u us w hx hl=>by cases hl;exact⟨u,by simp,hx⟩⟩
 | cons y l ih=>
  cases x with
  | int kx a=>
   cases y with
   | int ky b=>
    simp only [minK] at h
    obtain⟨v,hv,hr⟩:=ih h
    refine⟨v,hv,fun μ u us w hx hl=> ?_⟩
    cases hx
    cases hl with | cons _ y' _ us hy hs=>
    cases hy
    obtain⟨z,hz,hzv⟩:=hr μ (match mx with
     | true=> .int kx (if b>a then b else a)
     | false=> .int kx (if b<a then b else a)) us w (by
      cases mx
      ·simp only [ilt_eq]
       by_cases hlt:b<a
       ·simp only [hlt,decide_true,if_true];exact .int _ _
       ·simp only [hlt,decide_false,if_false];exact .int _ _
      ·simp only [ilt_eq]
       by_cases hlt:a<b
       ·simp only [hlt,decide_true,if_true];exact .int _ _
       ·simp only [hlt,decide_false,if_false];exact .int _ _) hs
    refine⟨z, ?_,hzv⟩
    cases mx
    ·simpa [List.foldlM_cons,Builtin.min2] using hz
    ·simpa [List.foldlM_cons,Builtin.max2] using hz
   | _=>simp [minK] at h
  | _=>simp [minK] at h
theorem p_minmax {c:Call} {mx:Bool} (ho:o.op= .call c) (hc:c.callee= .builtin (if mx then .max else .min)) {k:AV→Bool} (hk:minV mx (c.args.toList.map (opd e)) k=true):∃v,PSpec P o e v∧k v=true:=by
 unfold minV at hk
 split at hk
 ·rename_i x l hl
  obtain⟨v,hv,hr⟩:=minK_sound (P:=P) hk
  refine⟨v,fun μ a w h=> ?_,hv⟩
  have hvs:VRs μ (c.args.toList.map (opd e)) (c.args.toList.map a.eval):=vrs_opds fun y hy=>h.mem (by
   simp only [ho,Op.operands,Call.operands]
   simp
   exact .inr (by simpa using hy))
  rw [hl] at hvs
  generalize has:c.args.toList.map a.eval=as at hvs
  cases hvs with | cons _ u _ us hu hus=>
  obtain⟨y,hy,hyv⟩:=hr μ u us w hu hus
  refine⟨y, ?_,hyv⟩
  cases mx
  ·simp only [execOp,ho,resolve,hc,Sem.run_bind,Sem.run_pure,Result.andThen_ok,invoke,builtin,Builtin.min_,Array.toList_map,has]
   simp at hy
   simp [hy]
  ·simp only [execOp,ho,resolve,hc,Sem.run_bind,Sem.run_pure,Result.andThen_ok,invoke,builtin,Builtin.max_,Array.toList_map,has]
   simp at hy
   simp [hy]
 ·cases hk
def EqRun (P:Program) (t:TypeId) (x y:Operand) (u v:Value) (r:Bool):Prop:=
 (∀w,(Op.equal t u v).run P w= .ok r w)∧(∀op w,(eqGuard op t x y u v).run P w= .ok () w)∧
  (∀w,(binOp .eql t u v).run P w=((Op.equal t u v).run P w).andThen fun b w'=> .ok (.bool b) w')∧
  (∀w,(binOp .neq t u v).run P w=((Op.equal t u v).run P w).andThen fun b w'=> .ok (.bool (!b)) w')
section
variable {d : Nat} {t : TypeId} {w : World}
theorem q_slice {el:TypeId} (ht:P.underlying t=some (.slice el)) {a b:Option Addr} {l c l' c':Nat} (h:a=none∨b=none):(Op.equalIn (d+1) t (.slice a l c) (.slice b l' c')).run P w= .ok (a.isNone&&b.isNone) w:=by
 rcases h with rfl | rfl
 ·simp [Op.equalIn,r_under ht,Result.andThen]
 ·cases a<;>simp [Op.equalIn,r_under ht,Result.andThen]
theorem q_map {kt el:TypeId} (ht:P.underlying t=some (.map kt el)) {a b:Option Nat} (h:a=none∨b=none):(Op.equalIn (d+1) t (.map a) (.map b)).run P w= .ok (a.isNone&&b.isNone) w:=by
 rcases h with rfl | rfl
 ·simp [Op.equalIn,r_under ht,Result.andThen]
 ·cases a<;>simp [Op.equalIn,r_under ht,Result.andThen]
theorem q_pointer {el:TypeId} (ht:P.underlying t=some (.pointer el)) {a b:Option Addr} (h:a=none∨b=none):(Op.equalIn (d+1) t (.pointer a) (.pointer b)).run P w= .ok (a.isNone&&b.isNone) w:=by
 rcases h with rfl | rfl
 ·simp [Op.equalIn,r_under ht,Result.andThen]
 ·cases a<;>simp [Op.equalIn,r_under ht,Result.andThen]
def fnNil:Value→Option Bool
 | .nilFunc=>some true
 | .func _ _ _=>some false
 | _=>none
theorem q_func {ps rs:Array TypeId} {vr:Bool} (ht:P.underlying t=some (.func ps rs vr)) {u v:Value} {a b:Bool} (hu:fnNil u=some a) (hv:fnNil v=some b) (h:a=true∨b=true):(Op.equalIn (d+1) t u v).run P w= .ok (a&&b) w:=by
 cases u<;>simp [fnNil] at hu<;>cases v<;>simp [fnNil] at hv<;>subst hu<;>subst hv<;>simp at h<;>simp [Op.equalIn,r_under ht,Result.andThen]
def ifNil:Value→Option Bool
 | .nilIface=>some true
 | .iface _ _=>some false
 | _=>none
theorem q_iface {ms:Array (String×TypeId)} (ht:P.underlying t=some (.interface ms)) {u v:Value} {a b:Bool} (hu:ifNil u=some a) (hv:ifNil v=some b) (h:a=true∨b=true):(Op.equalIn (d+1) t u v).run P w= .ok (a&&b) w:=by
 cases u<;>simp [ifNil] at hu<;>cases v<;>simp [ifNil] at hv<;>subst hu<;>subst hv<;>simp at h<;>simp [Op.equalIn,r_under ht,Result.andThen]
end
theorem q_samePtr {d:Nat} {t el:TypeId} {j:TypeInfo} (h:P.underlying t=some (.pointer el)) (hj:P.info? el=some j) {a:Addr} {w:World}:
  (Op.equalIn (d+1) t (.pointer (some a)) (.pointer (some a))).run P w= .ok true w:=by
 simp [Op.equalIn,run_underlying h,sizeOf,typeInfo,hj,run_sameAddr_same]
theorem eqV_sound {t:TypeId} {xo yo:Operand} {x y:AV} {r:Bool} (h:eqV P t (isConstO xo||isConstO yo) x y=some r)
  (hni:∀k a l b,¬(x= .int k a∧y= .int l b)) (hns:∀a b,¬(x= .str a∧y= .str b)) {μ:Mu} {u v:Value} (hu:VR μ x u) (hv:VR μ y v):EqRun P t xo yo u v r:=by
 unfold eqV at h
 split at h
 ·rename_i el ht
  split at h
  ·cases hu;cases hv;cases h
   refine⟨fun w=> ?_,fun op w=>by cases op<;>rfl,fun w=>by simp [binOp],fun w=>by simp [binOp]⟩
   exact q_slice (d:=9999) ht (.inl rfl)
  ·cases hu;cases hv;cases h
   refine⟨fun w=> ?_,fun op w=>by cases op<;>rfl,fun w=>by simp [binOp],fun w=>by simp [binOp]⟩
   exact q_slice (d:=9999) ht (.inl rfl)
  ·cases hu;cases hv;cases h
   refine⟨fun w=> ?_,fun op w=>by cases op<;>rfl,fun w=>by simp [binOp],fun w=>by simp [binOp]⟩
   exact q_slice (d:=9999) ht (.inr rfl)
  ·cases hu;cases hv with | dat _ _ L hm hv=> ?_
   cases hv;cases h
   refine⟨fun w=> ?_,fun op w=>by cases op<;>rfl,fun w=>by simp [binOp],fun w=>by simp [binOp]⟩
   exact q_slice (d:=9999) ht (.inl rfl)
  ·cases hv;cases hu with | dat _ _ L hm hu=> ?_
   cases hu;cases h
   refine⟨fun w=> ?_,fun op w=>by cases op<;>rfl,fun w=>by simp [binOp],fun w=>by simp [binOp]⟩
   exact q_slice (d:=9999) ht (.inr rfl)
  ·cases h
 ·rename_i kt el ht
  split at h
  ·cases hu;cases hv;cases h
   refine⟨fun w=> ?_,fun op w=>by cases op<;>rfl,fun w=>by simp [binOp],fun w=>by simp [binOp]⟩
   exact q_map (d:=9999) ht (.inl rfl)
  ·cases hu;cases hv;cases h
   refine⟨fun w=> ?_,fun op w=>by cases op<;>rfl,fun w=>by simp [binOp],fun w=>by simp [binOp]⟩
   exact q_map (d:=9999) ht (.inl rfl)
  ·cases hu;cases hv;cases h
   refine⟨fun w=> ?_,fun op w=>by cases op<;>rfl,fun w=>by simp [binOp],fun w=>by simp [binOp]⟩
   exact q_map (d:=9999) ht (.inr rfl)
  ·cases h
 ·rename_i ps rs vr ht
  split at h
  ·cases hu;cases hv;cases h
   refine⟨fun w=> ?_,fun op w=>by cases op<;>rfl,fun w=>by simp [binOp],fun w=>by simp [binOp]⟩
   exact q_func (d:=9999) (a:=true) (b:=true) ht rfl rfl (.inl rfl)
  ·cases hu;cases hv;cases h
   refine⟨fun w=> ?_,fun op w=>by cases op<;>rfl,fun w=>by simp [binOp],fun w=>by simp [binOp]⟩
   exact q_func (d:=9999) (a:=true) (b:=false) ht rfl rfl (.inl rfl)
  ·cases hu;cases hv;cases h
   refine⟨fun w=> ?_,fun op w=>by cases op<;>rfl,fun w=>by simp [binOp],fun w=>by simp [binOp]⟩
   exact q_func (d:=9999) (a:=false) (b:=true) ht rfl rfl (.inr rfl)
  ·cases h
 ·rename_i el ht
  split at h
  ·cases hu;cases hv;cases h
   refine⟨fun w=> ?_,fun op w=>by cases op<;>rfl,fun w=>by simp [binOp],fun w=>by simp [binOp]⟩
   exact q_pointer (d:=9999) ht (.inl rfl)
  ·cases hu;cases hv;cases h
   refine⟨fun w=> ?_,fun op w=>by cases op<;>rfl,fun w=>by simp [binOp],fun w=>by simp [binOp]⟩
   exact q_pointer (d:=9999) ht (.inl rfl)
  ·cases hu;cases hv;cases h
   refine⟨fun w=> ?_,fun op w=>by cases op<;>rfl,fun w=>by simp [binOp],fun w=>by simp [binOp]⟩
   exact q_pointer (d:=9999) ht (.inr rfl)
  ·split at h
   ·rename_i hsame hinfo
    simp only [Bool.and_eq_true] at hsame
    obtain rfl:=Nat.eq_of_beq_eq_true hsame.1
    obtain rfl:=Nat.eq_of_beq_eq_true hsame.2
    cases h
    cases hu with | ptr _ _ p hp=>cases hv with | ptr _ _ q hq=>
    obtain rfl:p=q:=by rw [hp] at hq;exact Option.some.inj hq
    refine⟨fun w=> ?_,fun op w=>by cases op<;>rfl,fun w=>by simp [binOp],fun w=>by simp [binOp]⟩
    obtain⟨j,hj⟩:=Option.isSome_iff_exists.1 hinfo
    exact q_samePtr (d:=9999) ht hj
   ·cases h
  ·cases h
 ·rename_i ms ht
  split at h
  ·split at h
   ·rename_i hnc
    cases hu;cases hv;cases h
    refine⟨fun w=> ?_,fun op w=> ?_,fun w=>by simp [binOp],fun w=>by simp [binOp]⟩
    ·exact q_iface (d:=9999) (a:=true) (b:=true) ht rfl rfl (.inl rfl)
    ·cases xo<;>cases yo<;>first | (simp [isConstO] at hnc;done)| (cases op<;>simp [eqGuard])
   ·cases h
  ·cases hu;cases hv;cases h
   refine⟨fun w=> ?_,fun op w=>by cases op<;>rfl,fun w=>by simp [binOp],fun w=>by simp [binOp]⟩
   exact q_iface (d:=9999) (a:=true) (b:=false) ht rfl rfl (.inl rfl)
  ·cases hu;cases hv;cases h
   refine⟨fun w=> ?_,fun op w=>by cases op<;>rfl,fun w=>by simp [binOp],fun w=>by simp [binOp]⟩
   exact q_iface (d:=9999) (a:=false) (b:=true) ht rfl rfl (.inr rfl)
  ·cases h
 ·split at h
  ·rename_i fl hfl
   unfold eqOk at hfl
   split at hfl
   ·cases hfl
   ·rename_i hgt
    obtain⟨h2,hr⟩:=flEq_sound h hu hv
    have heq:∀w,(Op.equal t u v).run P w= .ok r w:=fun w=>by
     obtain⟨r',h1,h3⟩:=equalIn_flat (D:=9992) 8 t fl hfl u v w h2
     have:r'=r:=by rw [Bool.eq_iff_iff,h3,hr]
     rw [←this]
     exact h1
    rcases h2 with⟨_,a,b,rfl,rfl,_⟩| ⟨_,h2⟩
    ·exact⟨heq,fun op w=>run_eqGuard_agg w op t xo yo a b hgt,fun w=>by simp [binOp],fun w=>by simp [binOp]⟩
    ·generalize fl.sc=sc at h2
     cases h2 with | cons c _ _ cs _ _ h2 hs=>
     cases c with
     | b=>
      obtain⟨a,b,rfl,rfl⟩:=h2
      exact⟨heq,fun op w=>by cases op<;>rfl,fun w=>by simp [binOp],fun w=>by simp [binOp]⟩
     | i=>
      obtain⟨k,a,b,rfl,rfl⟩:=h2
      exact absurd ⟨hu.int_back,hv.int_back⟩ (hni _ _ _ _)
     | s=>
      obtain⟨a,b,rfl,rfl⟩:=h2
      exact absurd ⟨hu.str_back,hv.str_back⟩ (hns _ _)
  ·cases h
theorem r_guard_int {op:BinOp} {t:TypeId} {x y:Operand} {k l:IntKind} {a b:Int} {w:World}:(eqGuard op t x y (.int k a) (.int l b)).run P w= .ok () w:=by
 cases op<;>rfl
theorem r_guard_str {op:BinOp} {t:TypeId} {x y:Operand} {a b:ByteArray} {w:World}:(eqGuard op t x y (.string a) (.string b)).run P w= .ok () w:=by
 cases op<;>rfl
theorem intBin_sound {op:BinOp} {ik:IntKind} {a b:Int} {k:AV→Bool} (hs:isShift op=false) (h:intBin op ik a b k=true) (t:TypeId):
  ∃v,k v=true∧∀(μ:Mu) (w:World),∃y,(binOp op t (.int ik a) (.int ik b)).run P w= .ok y w∧VR μ v y:=by
 unfold intBin at h
 split at h
 all_goals try (simp [isShift] at hs;done)
 ·rw [forceI_eq,wrp_eq] at h;exact⟨_,h,fun μ w=>⟨_,by simp [binOp,Op.intArith], .int _ _⟩⟩
 ·rw [forceI_eq,wrp_eq] at h;exact⟨_,h,fun μ w=>⟨_,by simp [binOp,Op.intArith], .int _ _⟩⟩
 ·rw [forceI_eq,wrp_eq] at h;exact⟨_,h,fun μ w=>⟨_,by simp [binOp,Op.intArith], .int _ _⟩⟩
 ·split at h
  ·cases h
  ·rename_i hb
   have hb:¬b=0:=fun e=>by subst e;simp [ieq] at hb
   rw [forceI_eq,wrp_eq] at h;exact⟨_,h,fun μ w=>⟨_,by simp [binOp,Op.intDiv,hb], .int _ _⟩⟩
 ·split at h
  ·cases h
  ·rename_i hb
   have hb:¬b=0:=fun e=>by subst e;simp [ieq] at hb
   rw [forceI_eq] at h;exact⟨_,h,fun μ w=>⟨_,by simp [binOp,Op.intDiv,hb], .int _ _⟩⟩
 ·rw [forceB_eq,ieq_eq] at h;exact⟨_,h,fun μ w=>⟨_,by simp [binOp,Op.intCmp], .bool _⟩⟩
 ·rw [forceB_eq,ieq_eq] at h;exact⟨_,h,fun μ w=>⟨_,by simp [binOp,Op.intCmp];rfl, .bool _⟩⟩
 ·rw [forceB_eq,ilt_eq] at h;exact⟨_,h,fun μ w=>⟨_,by simp [binOp,Op.intCmp], .bool _⟩⟩
 ·rw [forceB_eq,ilt_eq] at h
  refine⟨_,h,fun μ w=>⟨.bool (decide (a≤b)),by simp [binOp,Op.intCmp], ?_⟩⟩
  rw [show (!decide (b<a))=decide (a≤b) by rw [←decide_not];simp]
  exact .bool _
 ·rw [forceB_eq,ilt_eq] at h;exact⟨_,h,fun μ w=>⟨_,by simp [binOp,Op.intCmp], .bool _⟩⟩
 ·rw [forceB_eq,ilt_eq] at h
  refine⟨_,h,fun μ w=>⟨.bool (decide (a≥b)),by simp [binOp,Op.intCmp], ?_⟩⟩
  rw [show (!decide (a<b))=decide (a≥b) by rw [←decide_not];simp]
  exact .bool _
 ·rw [forceI_eq] at h;exact⟨_,h,fun μ w=>⟨_,by simp only [binOp,Op.intBits,ne_eq,not_true_eq_false,if_false];rfl, .int _ _⟩⟩
 ·rw [forceI_eq] at h;exact⟨_,h,fun μ w=>⟨_,by simp only [binOp,Op.intBits,ne_eq,not_true_eq_false,if_false];rfl, .int _ _⟩⟩
 ·rw [forceI_eq] at h;exact⟨_,h,fun μ w=>⟨_,by simp only [binOp,Op.intBits,ne_eq,not_true_eq_false,if_false];rfl, .int _ _⟩⟩
 ·rw [forceI_eq] at h;exact⟨_,h,fun μ w=>⟨_,by simp only [binOp,Op.intBits,ne_eq,not_true_eq_false,if_false];rfl, .int _ _⟩⟩
 ·cases h
theorem intShift_sound {op:BinOp} {ik il:IntKind} {a b:Int} {k:AV→Bool} (h:intShift op ik a b k=true) (t:TypeId):
  ∃v,k v=true∧∀(μ:Mu) (w:World),∃y,(binOp op t (.int ik a) (.int il b)).run P w= .ok y w∧VR μ v y:=by
 unfold intShift at h
 split at h
 ·cases h
 ·rename_i hb
  rw [ilt_eq] at hb
  have hb:¬b<0:=by simpa using hb
  split at h
  ·rw [forceI_eq] at h;exact⟨_,h,fun μ w=>⟨_,by simp [binOp,Op.shift,hb], .int _ _⟩⟩
  ·rw [forceI_eq] at h;exact⟨_,h,fun μ w=>⟨_,by simp [binOp,Op.shift,hb], .int _ _⟩⟩
  ·cases h
theorem strBin_sound {op:BinOp} {a b:List Nat} {k:AV→Bool} (h:strBin op a b k=true) (t:TypeId):
  ∃v,k v=true∧∀(μ:Mu) (s s':ByteArray) (w:World),s.data.toList.map UInt8.toNat=a→s'.data.toList.map UInt8.toNat=b→∃y,(binOp op t (.string s) (.string s')).run P w= .ok y w∧VR μ v y:=by
 have heq:∀(s s':ByteArray),s.data.toList.map UInt8.toNat=a→s'.data.toList.map UInt8.toNat=b→strEq a b=(s.toList==s'.toList):=by
  intro s s' h1 h2
  rw [strEq_eq,Bool.eq_iff_iff,decide_eq_true_eq,beq_iff_eq,toList_data,toList_data,←h1,←h2]
  exact⟨map_toNat_inj,fun h=>by rw [h]⟩
 have hlt:∀(s s':ByteArray),s.data.toList.map UInt8.toNat=a→s'.data.toList.map UInt8.toNat=b→strLt a b=Op.bytesLess s.toList s'.toList:=by
  intro s s' h1 h2
  rw [toList_data,toList_data,←h1,←h2,strLt_eq]
 unfold strBin at h
 split at h
 ·split at h
  ·rename_i hle
   rw [forceL_eq] at h
   refine⟨_,h,fun μ s s' w h1 h2=>⟨.string (s++s'), ?_, .str _ _ ?_⟩⟩
   ·have hl:s.size+s'.size≤1048576:=by
     have:=Nat.le_of_ble_eq_true hle
     rw [←h1,←h2] at this
     simp at this
     exact this
    have hno:¬(((s.size+s'.size:Nat):Int)>IntKind.i64.max):=by
     have:IntKind.i64.max=9223372036854775807:=by decide
     rw [this];omega
    simp only [binOp,Op.stringOp,hno,if_false,Sem.run_pure]
   ·rw [←h1,←h2];simp
  ·cases h
 ·rw [forceB_eq] at h;refine⟨_,h,fun μ s s' w h1 h2=>⟨_,by simp only [binOp,Op.stringOp];rfl,by rw [heq s s' h1 h2];exact .bool _⟩⟩
 ·rw [forceB_eq] at h;refine⟨_,h,fun μ s s' w h1 h2=>⟨_,by simp only [binOp,Op.stringOp];rfl,by rw [heq s s' h1 h2];exact .bool _⟩⟩
 ·rw [forceB_eq] at h;refine⟨_,h,fun μ s s' w h1 h2=>⟨_,by simp only [binOp,Op.stringOp];rfl,by rw [hlt s s' h1 h2];exact .bool _⟩⟩
 ·rw [forceB_eq] at h;refine⟨_,h,fun μ s s' w h1 h2=>⟨_,by simp only [binOp,Op.stringOp];rfl,by rw [hlt s s' h1 h2,heq s s' h1 h2];exact .bool _⟩⟩
 ·rw [forceB_eq] at h;refine⟨_,h,fun μ s s' w h1 h2=>⟨_,by simp only [binOp,Op.stringOp];rfl,by rw [hlt s s' h1 h2,heq s s' h1 h2];exact .bool _⟩⟩
 ·rw [forceB_eq] at h;refine⟨_,h,fun μ s s' w h1 h2=>⟨_,by simp only [binOp,Op.stringOp];rfl,by rw [hlt s s' h1 h2];exact .bool _⟩⟩
 ·cases h
theorem p_binOp {op:BinOp} {t:TypeId} {x y:Operand} {b:TypeId} (ho:o.op= .binOp op t x y b) {k:AV→Bool}
  (hk:binK P op t (isConstO x||isConstO y) (opd e x) (opd e y) k=true):∃v,PSpec P o e v∧k v=true:=by
 have hmx:x∈o.op.operands:=by simp [ho,Op.operands]
 have hmy:y∈o.op.operands:=by simp [ho,Op.operands]
 have run:∀(a:Act) (w:World) (u v z:Value),a.eval x=u→a.eval y=v→(eqGuard op t x y u v).run P w= .ok () w→(binOp op t u v).run P w= .ok z w→(execOp a.eval o).run P w= .ok (.value z) w:=by
  intro a w u v z h1 h2 h3 h4
  simp only [execOp,ho,h1,h2,Sem.run_bind,h3,h4,Result.andThen_ok,Sem.run_pure]
 unfold binK at hk
 split at hk
 ·rename_i ik n ik' m hx hy
  split at hk
  ·obtain⟨v,hv,hr⟩:=intShift_sound (P:=P) (il:=ik') hk t
   refine⟨v,fun μ a w h=> ?_,hv⟩
   obtain⟨z,hz,hzv⟩:=hr μ w
   exact⟨z,run a w _ _ z (h.at hmx hx).int_inv (h.at hmy hy).int_inv r_guard_int hz,hzv⟩
  ·rename_i hs
   split at hk
   ·rename_i hkk
    have:=kcode_inj hkk
    subst this
    obtain⟨v,hv,hr⟩:=intBin_sound (P:=P) hs hk t
    refine⟨v,fun μ a w h=> ?_,hv⟩
    obtain⟨z,hz,hzv⟩:=hr μ w
    exact⟨z,run a w _ _ z (h.at hmx hx).int_inv (h.at hmy hy).int_inv r_guard_int hz,hzv⟩
   ·cases hk
 ·rename_i s s' hx hy
  obtain⟨v,hv,hr⟩:=strBin_sound (P:=P) hk t
  refine⟨v,fun μ a w h=> ?_,hv⟩
  obtain⟨b1,hb1,hl1⟩:=(h.at hmx hx).str_inv
  obtain⟨b2,hb2,hl2⟩:=(h.at hmy hy).str_inv
  obtain⟨z,hz,hzv⟩:=hr μ b1 b2 w hl1 hl2
  exact⟨z,run a w _ _ z hb1 hb2 r_guard_str hz,hzv⟩
 ·rename_i hni hns
  unfold eqBin at hk
  split at hk
  ·split at hk
   ·rename_i r hr
    rw [forceB_eq] at hk
    refine⟨_,fun μ a w h=> ?_,hk⟩
    obtain⟨h1,h2,h3,h4⟩:=eqV_sound hr (fun k a l b hh=>hni _ _ _ _ hh.1 hh.2) (fun a b hh=>hns _ _ hh.1 hh.2) (h.mem hmx) (h.mem hmy)
    exact⟨.bool r,run a w _ _ _ rfl rfl (h2 _ _) (by rw [h3,h1];rfl), .bool _⟩
   ·cases hk
  ·split at hk
   ·rename_i r hr
    rw [forceB_eq] at hk
    refine⟨_,fun μ a w h=> ?_,hk⟩
    obtain⟨h1,h2,h3,h4⟩:=eqV_sound hr (fun k a l b hh=>hni _ _ _ _ hh.1 hh.2) (fun a b hh=>hns _ _ hh.1 hh.2) (h.mem hmx) (h.mem hmy)
    exact⟨.bool (!r),run a w _ _ _ rfl rfl (h2 _ _) (by rw [h4,h1];rfl), .bool _⟩
   ·cases hk
  ·cases hk
end
end Go.Ev
namespace Go.Ev
set_option linter.unusedVariables false
set_option linter.unusedSimpArgs false
theorem opdB_mk (x:Operand):opdB x= .mk fun e=>opd e x:=by unfold opd;cases opdB x;rfl
theorem opdsB_mk (l:List Operand):opdsB l= .mk fun e=>l.map (opd e):=by
 induction l with
 | nil=>rfl
 | cons o l ih=>
  show (Box.casesOn (opdB o) fun g=>Box.casesOn (opdsB l) fun r=>Box.mk fun e=>g e::r e:Box (En→List AV))=_
  rw [ih,opdB_mk]
  rfl
theorem partsB_mk (l:List (Nat×Operand)):partsB l= .mk fun e=>l.map fun p=>(p.1,opd e p.2):=by
 induction l with
 | nil=>rfl
 | cons o l ih=>
  obtain⟨i,o⟩:=o
  show (Box.casesOn (opdB o) fun g=>Box.casesOn (partsB l) fun r=>Box.mk fun e=>(i,g e)::r e:Box (En→List (Nat×AV)))=_
  rw [ih,opdB_mk]
  rfl
theorem optB_mk (x:Option Operand):optB x= .mk fun e=>x.map (opd e):=by
 cases x with
 | none=>rfl
 | some x=>
  show (Box.casesOn (opdB x) fun g=>Box.mk fun e=>some (g e):Box (En→Option AV))=_
  rw [opdB_mk]
  rfl
section
variable {P : Program} {G : Globals} {o : Oper} {e : En}
theorem no_p {f:PF} (h:no= .p f):False:=by unfold no at h;cases h
theorem no_l {f:LF} (h:no= .l f):False:=by unfold no at h;cases h
theorem no_a {f:AF} (h:no= .a f):False:=by unfold no at h;cases h
theorem p_usd {c:Call} (ho:o.op= .call c) (hc:c.callee= .builtin .unsafeSliceData) {k:AV→Bool} (hk:one1 (c.args.toList.map (opd e)) (fun x=>usdV x k)=true):∃v,PSpec P o e v∧k v=true:=by
 unfold one1 at hk
 split at hk
 ·rename_i x hx
  have args:∀(μ:Mu) (a:Act),OpdR μ e a o→∃u,c.args.map a.eval=#[u]∧VR μ x u:=by
   intro μ a h
   have hvs:VRs μ (c.args.toList.map (opd e)) (c.args.toList.map a.eval):=vrs_opds fun y hy=>h.mem (by
    simp only [ho,Op.operands,Call.operands]
    simp
    exact .inr (by simpa using hy))
   rw [hx] at hvs
   generalize has:c.args.toList.map a.eval=as at hvs
   cases hvs with
   | cons _ u _ us hu hs=>
    cases hs
    refine⟨u, ?_,hu⟩
    rw [←Array.toList_inj]
    simpa using has
  have run:∀(a:Act) (w:World) (u v:Value),c.args.map a.eval=#[u]→(Builtin.unsafeSliceData_ c.argTypes o.type #[u]).run P w= .ok v w→(execOp a.eval o).run P w= .ok (.value v) w:=by
   intro a w u v h1 h2
   simp [execOp,ho,resolve,hc,invoke,builtin,h1,h2,Result.andThen]
  have hk:usdV x k=true:=hk
  unfold usdV at hk
  split at hk
  ·refine⟨_,fun μ a w hr=> ?_,hk⟩
   obtain⟨u,hargs,hu⟩:=args μ a hr
   cases hu
   exact⟨_,run a w _ _ hargs (Lib.run_unsafeSliceData_nil w _ _ _ _), .nilp⟩
  ·rename_i b off len sz cp
   split at hk
   ·cases hk
   ·refine⟨_,fun μ a w hr=> ?_,hk⟩
    obtain⟨u,hargs,hu⟩:=args μ a hr
    cases hu with
    | sl _ _ _ _ _ p cap ad hp hl htot hcc hn ha=>
     refine⟨_,run a w _ _ hargs (Lib.run_unsafeSliceData_row w _ _ _ _ _ (by omega)), ?_⟩
     rw [ha (by omega)]
     exact .ptr _ _ p hp
  ·cases hk
 ·cases hk
theorem opC_p {f:PF} (h:opC P G o= .p f) {k:AV→Bool} (hk:f e k=true):∃v,PSpec P o e v∧k v=true:=by
 unfold opC at h
 split at h<;>rename_i ho
 ·simp only [opdB_mk,optB_mk,opdsB_mk,partsB_mk] at h;cases h;exact⟨_,p_move ho,hk⟩
 ·simp only [opdB_mk,optB_mk,opdsB_mk,partsB_mk] at h;cases h;exact⟨_,p_assign ho,hk⟩
 ·simp only [opdB_mk,optB_mk,opdsB_mk,partsB_mk] at h;cases h;exact p_pick ho hk
 ·split at h
  ·cases h
  ·exact (no_p h).elim
 ·simp only [opdB_mk,optB_mk,opdsB_mk,partsB_mk] at h;cases h
 ·simp only [opdB_mk,optB_mk,opdsB_mk,partsB_mk] at h;cases h;exact p_build ho hk
 ·simp only [opdB_mk,optB_mk,opdsB_mk,partsB_mk] at h;cases h
 ·simp only [opdB_mk,optB_mk,opdsB_mk,partsB_mk] at h;cases h
 ·simp only [opdB_mk,optB_mk,opdsB_mk,partsB_mk] at h;cases h
 ·simp only [opdB_mk,optB_mk,opdsB_mk,partsB_mk] at h;cases h;exact p_nilCheck ho hk
 ·simp only [opdB_mk,optB_mk,opdsB_mk,partsB_mk] at h;cases h;exact p_binOp ho hk
 ·simp only [opdB_mk,optB_mk,opdsB_mk,partsB_mk] at h;cases h;exact p_unOp ho hk
 ·simp only [opdB_mk,optB_mk,opdsB_mk,partsB_mk] at h
  split at h
  ·cases h
  ·cases h;exact p_convert ho hk
 ·simp only [opdB_mk,optB_mk,opdsB_mk,partsB_mk] at h
  split at h
  ·exact (no_p h).elim
  ·rename_i ht
   cases h;exact⟨_,p_makeInterface ho ht,hk⟩
 ·simp only [opdB_mk,optB_mk,opdsB_mk,partsB_mk] at h;cases h;exact⟨_,p_makeFunc ho,hk⟩
 ·cases h
 ·split at h
  ·split at h
   ·simp only [opdB_mk,optB_mk,opdsB_mk,partsB_mk] at h;cases h
   ·exact (no_p h).elim
  ·exact (no_p h).elim
 ·simp only [opdB_mk,optB_mk,opdsB_mk,partsB_mk] at h;cases h
 ·split at h
  ·rename_i fs hu
   split at h
   ·rename_i fl hf
    split at h
    ·exact (no_p h).elim
    ·rename_i hne
     simp only [opdB_mk,optB_mk,opdsB_mk,partsB_mk] at h;cases h;exact p_ptrPlus ho hu hf hne hk
   ·exact (no_p h).elim
  ·exact (no_p h).elim
 ·split at h
  ·rename_i fs hu
   split at h
   ·rename_i fl hf
    simp only [opdB_mk,optB_mk,opdsB_mk,partsB_mk] at h;cases h;exact p_field ho hu hf hk
   ·exact (no_p h).elim
  ·exact (no_p h).elim
 ·simp only [opdB_mk,optB_mk,opdsB_mk,partsB_mk] at h;cases h;exact p_indexAddr ho hk
 ·simp only [opdB_mk,optB_mk,opdsB_mk,partsB_mk] at h;cases h;exact p_index ho hk
 ·simp only [opdB_mk,optB_mk,opdsB_mk,partsB_mk] at h;cases h
 ·simp only [opdB_mk,optB_mk,opdsB_mk,partsB_mk] at h;cases h
 ·simp only [opdB_mk,optB_mk,opdsB_mk,partsB_mk] at h;cases h
 ·simp only [opdB_mk,optB_mk,opdsB_mk,partsB_mk] at h;cases h
 ·simp only [opdB_mk,optB_mk,opdsB_mk,partsB_mk] at h;cases h
 ·simp only [opdB_mk,optB_mk,opdsB_mk,partsB_mk] at h;cases h
 ·simp only [opdB_mk,optB_mk,opdsB_mk,partsB_mk] at h;cases h
 ·simp only [opdB_mk,optB_mk,opdsB_mk,partsB_mk] at h;cases h
 ·simp only [opdB_mk,optB_mk,opdsB_mk,partsB_mk] at h;cases h
 ·simp only [opdB_mk,optB_mk,opdsB_mk,partsB_mk] at h;cases h;exact p_typeAssert ho hk
 ·simp only [opdB_mk,optB_mk,opdsB_mk,partsB_mk] at h;cases h;exact p_extract ho hk
 ·rename_i c
  unfold callC at h
  simp only [opdB_mk,optB_mk,opdsB_mk,partsB_mk] at h
  split at h
  ·rename_i b hc
   unfold builtinC at h
   split at h
   ·split at h
    ·cases h
    ·exact (no_p h).elim
   ·split at h
    ·cases h
    ·exact (no_p h).elim
   ·split at h
    ·cases h
    ·exact (no_p h).elim
   ·split at h
    ·cases h
    ·exact (no_p h).elim
   ·cases h;exact p_usd ho hc hk
   ·split at h
    ·cases h
    ·exact (no_p h).elim
   ·cases h;exact p_minmax (mx:=false) ho hc hk
   ·cases h;exact p_minmax (mx:=true) ho hc hk
   ·exact (no_p h).elim
  ·cases h
  ·cases h
 ·simp only [opdB_mk,optB_mk,opdsB_mk,partsB_mk] at h;cases h
 ·exact (no_p h).elim
end
end Go.Ev
