/- A part of the proof of RoundChanges. -/
import Derived.Test.YtnljpmbidnnlkaaGreatDoorRAb
import Derived.Test.YtnljpmbidnnlkaaGreatDoorProg
import Derived.KernelRfl
set_option maxRecDepth 1000000
set_option linter.unusedVariables false
set_option linter.unusedSimpArgs false
namespace Go.S5
open Go.Ev Go.Proofs
noncomputable section
noncomputable abbrev P:Program:=Tryz.prog
noncomputable def deB:List AV:=[0,1,56,2,57,49,28,3,61,58,42,50,38,29,17,4,62,47,59,36,45,43,51,22,53,39,33,30,24,18,12,5,63,55,48,27,60,41,37,16,46,35,44,21,52,32,23,11,54,26,40,15,34,20,31,10,25,14,19,9,13,8,7,6].map fun n=>.int .u8 (.ofNat n)
noncomputable def G:bK:=fun g=>match g with
 | 0=>some deB
 | _=>none
theorem hG:mH G:=fun g cs h=>by
 unfold G at h
 split at h<;>cases h<;>rfl
noncomputable abbrev ee:Evs:=⟨cd P G 200,dY P G⟩
noncomputable abbrev aJ (f:Nat) (p:List Nat):Code:=a2K P f p
end
end Go.S5
namespace Go.Ev
noncomputable section
section
variable {P : Program} {G : bK} {H : Hp} {k : AV -> Bool}
def lk:List (Nat×AV)->Nat->AV->AV
 | [],_,d=>d
 | (j,v)::l,i,d=>lk l i (if i=j then v else d)
theorem E2.get_set_lt (e:E2) (i j:Nat) (v:AV) (hi:i<256) (hj:j<256):(E2.set e j v).get i=if i=j then v else e.get i:=by
 by_cases h:i=j
 ·subst h;rw [if_pos rfl,E2.get_set_same _ _ _ hi]
 ·rw [if_neg h,E2.get_set_ne _ _ _ _ hj hi h]
def nE:List (Nat×AV)->Bool
 | []=>true
 | (j,_)::l=>decide (j<256)&&nE l
theorem qF:∀(l:List (Nat×AV)) (t:E2) (i:Nat),i<256->nE l=true->(es t l).get i=lk l i (t.get i)
 | [],t,i,_,_=>rfl
 | (j,v)::l,t,i,hi,hs=>by
  simp only [nE,Bool.and_eq_true,decide_eq_true_eq] at hs
  show (es (E2.set t j v) l).get i=lk l i (if i=j then v else t.get i)
  rw [qF l _ i hi hs.2,E2.get_set_lt _ _ _ _ hi hs.1]
@[go_sem] theorem amN:nE []=true:=rfl
@[go_sem] theorem afI (j:Nat) (v:AV) (l:List (Nat×AV)):nE ((j,v)::l)=(decide (j<256)&&nE l):=rfl
@[go_sem] theorem abA (l:List (Nat×AV)) (t:E2) (i:Nat) (h:(Nat.blt i 256&&nE l)=true):(es t l).get i=lk l i (t.get i):=by
 rw [Bool.and_eq_true,Nat.blt_eq] at h
 exact qF l t i h.1 h.2
theorem eg {l:List (Nat×AV)} {t:E2} {i:Nat} {v:AV} (h:(Nat.blt i 256&&nE l)=true) (hv:lk l i (t.get i)=v):(es t l).get i=v:=(abA l t i h).trans hv
attribute [go_sem] Nat.reduceAdd Nat.reduceMul Nat.reduceEqDiff Nat.reduceLT Nat.reduceLeDiff reduceIte
theorem bk {a b:Bool} (h:a=b):a=b:=h
theorem spl:(∀(p:Prop) [Decidable p],(decide p=true)=p)/\(∀(p:Prop) [Decidable p],(decide p=false)=¬p)/\(∀b:Bool,((!b)=true)=(b=false))/\(∀b:Bool,((!b)=false)=(b=true))/\(∀b:Bool,(¬(b=true))=(b=false))/\(∀b:Bool,(¬(b=false))=(b=true))/\(∀b:Bool,(!!b)=b):=
 ⟨fun p _=>by simp,fun p _=>by simp,fun b=>by simp,fun b=>by simp,fun b=>by simp,fun b=>by simp,fun b=>by simp⟩
@[go_sem] theorem a2P (i:Nat) (d:AV):lk [] i d=d:=rfl
@[go_sem] theorem azQ (j:Nat) (v:AV) (l:List (Nat×AV)) (i:Nat) (d:AV):lk ((j,v)::l) i d=lk l i (if i=j then v else d):=rfl
@[congr] theorem axJ {l:List (Nat×AV)} {i:Nat} {d d':AV} (h:d=d'):lk l i d=lk l i d':=by rw [h]
def Hp.push (H:Hp) (x:Blk):Hp:=⟨H.t.set H.nx (some x),H.nx+1⟩
def Hp.setb (H:Hp) (b:Nat) (x:Option Blk):Hp:=⟨H.t.set b x,H.nx⟩
@[go_sem] theorem Hp.nx_push (H:Hp) (x:Blk):(H.push x).nx=H.nx+1:=rfl
@[go_sem] theorem Hp.nx_setb (H:Hp) (b:Nat) (x:Option Blk):(H.setb b x).nx=H.nx:=rfl
@[go_sem] theorem Hp.nx_empty:Hp.empty.nx=0:=rfl
@[go_sem] theorem Hp.get_push (H:Hp) (x:Blk) (b:Nat):(H.push x).get b=if b=H.nx then some x else H.get b:=by
 unfold Hp.push
 by_cases h:b=H.nx
 ·subst h;rw [if_pos rfl,Hp.get_set_same trivial]
 ·rw [if_neg h,Hp.get_set_ne (nx':=H.nx) trivial h]
@[go_sem] theorem Hp.get_setb (H:Hp) (x:Option Blk) (b c:Nat):(H.setb b x).get c=if c=b then x else H.get c:=by
 unfold Hp.setb
 by_cases h:c=b
 ·subst h;rw [if_pos rfl,Hp.get_set_same trivial]
 ·rw [if_neg h,Hp.get_set_ne (nx':=H.nx) trivial h]
@[go_sem ↓] theorem Hp.new_r (H:Hp) (x:Blk) (k:Nat->Hp->Bool):H.new x k=k H.nx (H.push x):=Hp.new_eq H x k
@[go_sem ↓] theorem Hp.put_r (H:Hp) (b:Nat) (x:Option Blk) (k:Hp->Bool):H.put b x k=k (H.setb b x):=Hp.put_eq H b x k
@[go_sem ↓] theorem Hp.reserve_r (H:Hp) (k:Nat->Hp->Bool):H.reserve k=k H.nx ⟨H.t,H.nx+1⟩:=Hp.reserve_eq H k
def aGB (o:Option AV) (k:AV->Bool):Bool:=match o with | some v=>k v | none=>false
def oT (o:Option (List AV)) (k:AV->Bool):Bool:=match o with | some v=>k (.agg v)| none=>false
def nA (a:Option Bool) (n:Nat) (cs:List AV) (off:Nat) (k:AV->Bool):Bool:=match a with
 | some true=>oT (fK n (cs.drop off)) k
 | some false=>aGB cs[off]? k
 | none=>false
theorem aOQ (t:TypeId) (cs:List AV) (off:Nat):uF P t cs off k=nA (dI P t) (P.cellsOf t) cs off k:=by
 unfold uF nA
 cases dI P t with
 | none=>rfl
 | some b=>cases b with
  | true=>dsimp only;unfold oT;cases fK (P.cellsOf t) (cs.drop off) with
   | none=>rfl
   | some v=>exact bY _ _
  | false=>rfl
def sC (P:Program) (t:TypeId) (off:Nat) (k:AV->Bool) (o:Option Blk):Bool:=match o with
 | some (.cells _ _ cs)=>nA (dI P t) (P.cellsOf t) cs off k
 | _=>false
@[go_sem ↓] theorem aWZ (t:TypeId) (b off:Nat):aB P G H t (.ptr b off) k=sC P t off k (H.get b):=by
 unfold aB sC
 dsimp only
 cases H.get b with
 | none=>rfl
 | some x=>cases x<;>first | rfl | exact aOQ _ _ _
@[go_sem ↓] theorem aqM (t:TypeId) (cs:List D) (off:Nat):aB P G H t (.dat (.ptr cs off)) k=nA (dI P t) (P.cellsOf t) (bD cs) off k:=aOQ _ _ _
@[go_sem ↓] theorem aKM (t:TypeId) (off:Nat) (el:Option TypeId) (ro:Bool) (cs:List AV):sC P t off k (some (.cells el ro cs))=nA (dI P t) (P.cellsOf t) cs off k:=rfl
@[go_sem ↓] theorem acN (n:Nat) (cs:List AV) (off:Nat):nA (some true) n cs off k=oT (fK n (cs.drop off)) k:=rfl
@[go_sem ↓] theorem azU (n:Nat) (cs:List AV) (off:Nat):nA (some false) n cs off k=aGB cs[off]? k:=rfl
@[go_sem ↓] theorem a5Z (v:AV):aGB (some v) k=k v:=rfl
@[go_sem ↓] theorem a0A (v:List AV):oT (some v) k=k (.agg v):=rfl
@[congr] theorem agM {t:TypeId} {a a':AV} (h:a=a'):aB P G H t a k=aB P G H t a' k:=by rw [h]
@[congr] theorem aeS {t:TypeId} {off:Nat} {o o':Option Blk} (h:o=o'):sC P t off k o=sC P t off k o':=by rw [h]
@[congr] theorem afG {a a':Option Bool} {n n':Nat} {cs:List AV} {off off':Nat} (h:a=a') (hn:n=n') (ho:off=off'):nA a n cs off k=nA a' n' cs off' k:=by rw [h,hn,ho]
@[congr] theorem aoB {o o':Option AV} (h:o=o'):aGB o k=aGB o' k:=by rw [h]
@[congr] theorem aeU {o o':Option (List AV)} (h:o=o'):oT o k=oT o' k:=by rw [h]
theorem fR:∀(n:Nat) (l:List AV),n<=l.length->fK n l=some (l.take n)
 | 0,l,_=>rfl
 | n+1,[],h=>by simp at h
 | n+1,x::l,h=>by
  show (match fK n l with | some ys=>some (x::ys)| none=>none)=_
  rw [fR n l (by simpa using h)]
  rfl
@[go_sem] theorem azA (l:List AV):fK 0 l=some []:=rfl
@[go_sem] theorem azB (n:Nat) (x:AV) (l:List AV):fK (n+1) (x::l)=(fK n l).map (x::·):=by
 show (match fK n l with | some ys=>some (x::ys)| none=>none)=_
 cases fK n l<;>rfl
def pW (a:Option Bool) (n:Nat) (H:Hp) (b off:Nat) (vs:List AV) (k:Hp->Bool) (o:Option Blk):Bool:=match o with
 | some (.cells el false cs)=>match Nat.beq vs.length n,a,vs.all one,fI cs off vs with
  | true,some _,true,some cs=>k (H.setb b (some (.cells el false cs)))
  | _,_,_,_=>false
 | _=>false
def aHM (H:Hp) (b:Nat) (el:Option TypeId) (k:Hp->Bool) (g:Bool) (o:Option (List AV)):Bool:=match g,o with
 | true,some cs=>k (H.setb b (some (.cells el false cs)))
 | _,_=>false
@[go_sem ↓] theorem aSV (t:TypeId) (b off:Nat) (v:AV) (k:Hp->Bool):bB P H t (.ptr b off) v k=pW (dI P t) (P.cellsOf t) H b off v.cells k (H.get b):=by
 unfold bB pW
 dsimp only
 cases H.get b with
 | none=>rfl
 | some x=>cases x with
  | cells el ro cs=>cases ro with
   | true=>rfl
   | false=>
    dsimp only
    cases Nat.beq v.cells.length (P.cellsOf t)<;>cases dI P t<;>cases v.cells.all one<;>cases fI cs off v.cells<;>first | rfl | (dsimp only;rw [bY,Hp.put_eq];rfl)
  | _=>rfl
@[go_sem ↓] theorem aHG (a:Bool) (n off b:Nat) (vs:List AV) (el:Option TypeId) (cs:List AV) (k:Hp->Bool):
  pW (some a) n H b off vs k (some (.cells el false cs))=aHM H b el k (Nat.beq vs.length n&&vs.all one) (fI cs off vs):=by
 unfold pW aHM
 dsimp only
 cases Nat.beq vs.length n<;>cases vs.all one<;>cases fI cs off vs<;>rfl
@[go_sem ↓] theorem a3S (b:Nat) (el:Option TypeId) (cs:List AV) (k:Hp->Bool):aHM H b el k true (some cs)=k (H.setb b (some (.cells el false cs))):=rfl
@[congr] theorem aaW {t:TypeId} {a a' v v':AV} {k:Hp->Bool} (h:a=a') (hv:v=v'):bB P H t a v k=bB P H t a' v' k:=by rw [h,hv]
@[congr] theorem adI {a a':Option Bool} {n n' b off off':Nat} {vs vs':List AV} {k:Hp->Bool} {o o':Option Blk} (ha:a=a') (hn:n=n') (hf:off=off') (hv:vs=vs') (h:o=o'):
  pW a n H b off vs k o=pW a' n' H b off' vs' k o':=by rw [ha,hn,hf,hv,h]
@[congr] theorem amY {b:Nat} {el:Option TypeId} {k:Hp->Bool} {g g':Bool} {o o':Option (List AV)} (hg:g=g') (h:o=o'):aHM H b el k g o=aHM H b el k g' o':=by rw [hg,h]
@[go_sem] theorem aSB (cs:List AV):AV.cells (.agg cs)=cs:=rfl
@[go_sem] theorem aoL (i:IntKind) (n:Int):AV.cells (.int i n)=[.int i n]:=rfl
@[go_sem] theorem aiJ (b:Bool):AV.cells (.bool b)=[.bool b]:=rfl
@[go_sem] theorem aoP (s:List Nat):AV.cells (.str s)=[.str s]:=rfl
@[go_sem] theorem amV:AV.cells .nils=[.nils]:=rfl
@[go_sem] theorem aoD (d:D):AV.cells (.dat d)=[.dat d]:=rfl
@[go_sem] theorem arI (b o n z:Nat) (c:Option Nat):AV.cells (.sl b o n z c)=[.sl b o n z c]:=rfl
@[go_sem] theorem aoM (b o:Nat):AV.cells (.ptr b o)=[.ptr b o]:=rfl
@[go_sem] theorem aoU (b:Nat):AV.cells (.map b)=[.map b]:=rfl
@[go_sem] theorem auR (f:FuncId) (a c:List AV):AV.cells (.fn f a c)=[.fn f a c]:=rfl
@[go_sem] theorem azE (i:IntKind) (n:Int):one (.int i n)=true:=rfl
@[go_sem] theorem auY (b:Bool):one (.bool b)=true:=rfl
@[go_sem] theorem azS (s:List Nat):one (.str s)=true:=rfl
@[go_sem] theorem arB:one .nils=true:=rfl
@[go_sem] theorem azC (d:D):one (.dat d)=true:=rfl
@[go_sem] theorem a2I (b o n z:Nat) (c:Option Nat):one (.sl b o n z c)=true:=rfl
@[go_sem] theorem ayV (b o:Nat):one (.ptr b o)=true:=rfl
@[go_sem] theorem ayM (b:Nat):one (.map b)=true:=rfl
@[go_sem] theorem a1M (f:FuncId) (a c:List AV):one (.fn f a c)=true:=rfl
def aCI:List AV->List AV->Option (List AV)
 | cs,[]=>some cs
 | [],_::_=>none
 | _::cs,v::vs=>(aCI cs vs).map (v::·)
theorem aBK:∀(cs vs:List AV),fI cs 0 vs=aCI cs vs
 | cs,[]=>by cases cs<;>rfl
 | [],_::_=>rfl
 | _::cs,v::vs=>by
  show (match fI cs 0 vs with | some r=>some (v::r)| none=>none)=_
  rw [aBK cs vs]
  show _=(aCI cs vs).map (v::·)
  cases aCI cs vs<;>rfl
@[go_sem] theorem abV (cs vs:List AV):fI cs 0 vs=aCI cs vs:=aBK cs vs
@[go_sem] theorem adT (c:AV) (cs:List AV) (n:Nat) (vs:List AV):fI (c::cs) (n+1) vs=(fI cs n vs).map (c::·):=by
 show (match fI cs n vs with | some r=>some (c::r)| none=>none)=_
 cases fI cs n vs<;>rfl
@[go_sem] theorem aZJ (cs:List AV):aCI cs []=some cs:=by cases cs<;>rfl
@[go_sem] theorem aRS (c:AV) (cs:List AV) (v:AV) (vs:List AV):aCI (c::cs) (v::vs)=(aCI cs vs).map (v::·):=rfl
@[go_sem ↓] theorem a0S (b off n:Nat):aA (.ptr b off) n k=k (.ptr b (off+n)):=bQ (off+n) fun o=>k (.ptr b o)
@[go_sem ↓] theorem a3Y (cs:List D) (off n:Nat):aA (.dat (.ptr cs off)) n k=k (.dat (.ptr cs (off+n))):=bQ (off+n) fun o=>k (.dat (.ptr cs o))
@[congr] theorem aaI {a a':AV} {n:Nat} (h:a=a'):aA a n k=aA a' n k:=by rw [h]
@[go_sem] theorem avR (a b:Int):ilt a b=decide (a<b):=jW a b
@[go_sem] theorem oR (a b:Int):ieq a b=decide (a=b):=by rw [xG,Bool.eq_iff_iff];simp
@[go_sem ↓] theorem ayU (t:TypeId) (nc:Bool) (i:IntKind) (a b:Int):aH P .lss t nc (.int i a) (.int i b) k=k (.bool (decide (a<b))):=by
 simp [aH,gX,kA,cD,jW]
@[go_sem ↓] theorem azZ (t:TypeId) (nc:Bool) (i:IntKind) (a b:Int):aH P .leq t nc (.int i a) (.int i b) k=k (.bool (decide (a<=b))):=by
 simp [aH,gX,kA,cD,jW,←Int.not_lt]
@[go_sem ↓] theorem azT (t:TypeId) (nc:Bool) (i:IntKind) (a b:Int):aH P .gtr t nc (.int i a) (.int i b) k=k (.bool (decide (b<a))):=by
 simp [aH,gX,kA,cD,jW]
@[go_sem ↓] theorem azG (t:TypeId) (nc:Bool) (i:IntKind) (a b:Int):aH P .geq t nc (.int i a) (.int i b) k=k (.bool (decide (b<=a))):=by
 simp [aH,gX,kA,cD,jW,←Int.not_lt]
@[go_sem ↓] theorem ayI (t:TypeId) (nc:Bool) (i:IntKind) (a b:Int):aH P .eql t nc (.int i a) (.int i b) k=k (.bool (decide (a=b))):=by
 simp [aH,gX,kA,cD,oR]
@[go_sem ↓] theorem azD (t:TypeId) (nc:Bool) (i:IntKind) (a b:Int):aH P .neq t nc (.int i a) (.int i b) k=k (.bool (!decide (a=b))):=by
 simp [aH,gX,kA,cD,oR]
theorem aBM {n:Int} (h: -9223372036854775808<=n/\n<=9223372036854775807):wrp .i64 n=n:=by
 rw [qE]
 exact IntWalk.i64_in n h
@[go_sem ↓] theorem ayK (t:TypeId) (nc:Bool) (a b:Int) (h: -9223372036854775808<=a+b/\a+b<=9223372036854775807):aH P .add t nc (.int .i64 a) (.int .i64 b) k=k (.int .i64 (a+b)):=by
 simp [aH,gX,kA,cZ,aBM h]
@[go_sem ↓] theorem azF (t:TypeId) (nc:Bool) (a b:Int) (h: -9223372036854775808<=a - b/\a - b<=9223372036854775807):aH P .sub t nc (.int .i64 a) (.int .i64 b) k=k (.int .i64 (a - b)):=by
 simp [aH,gX,kA,cZ,aBM h]
@[congr] theorem amC {op:BinOp} {t:TypeId} {nc:Bool} {a a' b b':AV} (ha:a=a') (hb:b=b'):aH P op t nc a b k=aH P op t nc a' b' k:=by rw [ha,hb]
@[go_sem ↓] theorem a0O (b:Bool):unK .not (.bool b) k=k (.bool (!b)):=cD (!b) fun b=>k (.bool b)
@[congr] theorem aoI {op:UnOp} {a a':AV} (h:a=a'):unK op a k=unK op a' k:=by rw [h]
@[go_sem ↓] theorem a2Z (a b:AV):aT (.bool true) a b k=k a:=rfl
@[go_sem ↓] theorem a4G (a b:AV):aT (.bool false) a b k=k b:=rfl
@[congr] theorem ahD {c c' a a' b b':AV} (h:c=c') (ha:a=a') (hb:b=b'):aT c a b k=aT c' a' b' k:=by rw [h,ha,hb]
@[go_sem ↓] theorem a1I (a b:Unit->Bool):aQ (.bool true) a b=a ():=rfl
@[go_sem ↓] theorem a6H (a b:Unit->Bool):aQ (.bool false) a b=b ():=rfl
@[congr] theorem afD {c c':AV} {a b:Unit->Bool} (h:c=c'):aQ c a b=aQ c' a b:=by rw [h]
@[go_sem] theorem asA (b:Bool):gJ true (.bool b)=b:=by cases b<;>rfl
@[go_sem] theorem avJ (b:Bool):gJ false (.bool b)= !b:=by cases b<;>rfl
@[go_sem ↓] theorem azW (F:AV->Hp->Bool) (run:(AV->Hp->Bool)->Bool):mU true F run H=run F:=rfl
@[go_sem ↓] theorem azR (F:AV->Hp->Bool) (run:(AV->Hp->Bool)->Bool):mU false F run H=F (.tup []) H:=rfl
@[congr] theorem afE {w w':Bool} {F:AV->Hp->Bool} {run:(AV->Hp->Bool)->Bool} (h:w=w'):mU w F run H=mU w' F run H:=by rw [h]
@[go_sem ↓] theorem avE (F:DJ) (run:DJ->Bool) (L:fJ) (Q:fM):jU true F run H L Q=run F:=rfl
@[go_sem ↓] theorem awE (F:DJ) (run:DJ->Bool) (L:fJ) (Q:fM):jU false F run H L Q=F (.tup []) H L Q:=rfl
@[congr] theorem aaR {w w':Bool} {F:DJ} {run:DJ->Bool} {L:fJ} {Q:fM} (h:w=w'):jU w F run H L Q=jU w' F run H L Q:=by rw [h]
@[go_sem ↓ high] theorem bAF (v:AV) (F:AV->Hp->Bool) (r:(AV->Hp->Bool)->Bool) (H:Hp):gF v F r H=mU (gJ false v) F r H:=Bool.eq_iff_iff.mpr Iff.rfl
@[go_sem ↓ high] theorem bAJ (v:AV) (F:AV->Hp->Bool) (r:(AV->Hp->Bool)->Bool) (H:Hp):gT v F r H=mU (gJ true v) F r H:=Bool.eq_iff_iff.mpr Iff.rfl
@[go_sem ↓ high] theorem a8T (v:AV) (F:DJ) (r:DJ->Bool) (H:Hp) (L:fJ) (Q:fM):gDF v F r H L Q=jU (gJ false v) F r H L Q:=Bool.eq_iff_iff.mpr Iff.rfl
@[go_sem ↓ high] theorem a8J (v:AV) (F:DJ) (r:DJ->Bool) (H:Hp) (L:fJ) (Q:fM):gDT v F r H L Q=jU (gJ true v) F r H L Q:=Bool.eq_iff_iff.mpr Iff.rfl
theorem aE {b:Bool} {A B:Unit->Bool} (h1:b=true->A ()=true) (h2:b=false->B ()=true):aQ (.bool b) A B=true:=by cases b<;>first | exact h1 rfl | exact h2 rfl
theorem aD {b:Bool} {F:AV->Hp->Bool} {run:(AV->Hp->Bool)->Bool} (h1:b=true->run F=true) (h2:b=false->F (.tup []) H=true):mU b F run H=true:=by cases b<;>first | exact h1 rfl | exact h2 rfl
theorem aC {b:Bool} {F:DJ} {run:DJ->Bool} {L:fJ} {Q:fM} (h1:b=true->run F=true) (h2:b=false->F (.tup []) H L Q=true):jU b F run H L Q=true:=by cases b<;>first | exact h1 rfl | exact h2 rfl
@[go_sem ↓] theorem amB (y:Unit->Bool) (n:AEx->Bool):aO .normal y n=y ():=rfl
@[go_sem ↓] theorem akS (i:Nat) (y:Unit->Bool) (n:AEx->Bool):aO (.exit i) y n=n (.exit i):=rfl
@[go_sem ↓] theorem ahX (y:Unit->Bool) (n:AEx->Bool):aO .ret y n=n .ret:=rfl
@[go_sem ↓] theorem apE (i:Nat) (y:Unit->Bool) (n:AEx->Bool):aW i .normal y n=n .normal:=rfl
@[go_sem ↓] theorem awI (i:Nat) (y:Unit->Bool) (n:AEx->Bool):aW i .ret y n=n .ret:=rfl
@[go_sem ↓] theorem aqT (i:Nat) (y:Unit->Bool) (n:AEx->Bool):aW i (.exit i) y n=y ():=by
 show (match Nat.beq i i with | true=>y ()| false=>n (.exit i))=_
 rw [Nat.beq_refl]
@[go_sem ↓] theorem aoT (i j:Nat) (y:Unit->Bool) (n:AEx->Bool) (h:i≠j):aW j (.exit i) y n=n (.exit i):=by
 show (match Nat.beq i j with | true=>y ()| false=>n (.exit i))=_
 rw [show Nat.beq i j=false from by rw [←Bool.not_eq_true,Nat.beq_eq];exact h]
@[congr] theorem aWT {x x':AEx} {y:Unit->Bool} {n:AEx->Bool} (h:x=x'):aO x y n=aO x' y n:=by rw [h]
@[congr] theorem abY {i:Nat} {x x':AEx} {y:Unit->Bool} {n:AEx->Bool} (h:x=x'):aW i x y n=aW i x' y n:=by rw [h]
@[congr] theorem ayB {g:FuncId} {a a':List AV} {k:AV->Hp->Bool} (h:a=a'):cl P G g a H k=cl P G g a' H k:=by rw [h]
@[congr] theorem aoW {n:Nat} {f f':AV} {a a':List AV} {k:AV->Hp->Bool} (hf:f=f') (h:a=a'):clv P G n f a H k=clv P G n f' a' H k:=by rw [hf,h]
@[congr] theorem ajQ {nt:Nat} {c:Code} {ro:Option Nat} {e:En} {k:AEx->En->Hp->Bool}:cI P G nt c ro e H k=cI P G nt c ro e H k:=rfl
@[congr] theorem awU {m nt:Nat} {c:Code} {ro:Option Nat} {e:En} {k:AEx->En->Hp->Bool}:cd P G m nt c ro e H k=cd P G m nt c ro e H k:=rfl
@[congr] theorem afJ {Inv:Nat->En->Hp->Prop} {m:Nat} {e:En}:yB Inv m e H=yB Inv m e H:=rfl
@[congr] theorem aaD {fn:Func} {i:Evs} {k:fE->Hp->Bool} {x x':AEx} {e:En} (h:x=x'):aS P G fn i k x e H=aS P G fn i k x' e H:=by rw [h]
end
section
variable {P : Program} {G : bK} {H : Hp} {k : AV -> Bool} {α : Type} {sz : Nat} {enc : α -> List D} {xs : List α} {d : D}
def cB (enc:α->List D) (xs:List α):List D:=(xs.map enc).flatten
def Sl (sz:Nat) (enc:α->List D) (xs:List α) (d:D):Prop:=(d= .nils/\xs=[])∨d= .sl sz (cB enc xs) xs.length
theorem eF:∀(a b:List D),bD (a++b)=bD a++bD b
 | [],b=>rfl
 | x::a,b=>by simp [bD,eF a b]
theorem eG (hs:∀x,(enc x).length=sz):∀(xs:List α),(cB enc xs).length=xs.length * sz
 | []=>by simp [cB]
 | x::xs=>by
  have:=eG hs xs
  simp only [cB,List.map_cons,List.flatten_cons,List.length_append,List.length_cons] at this⊢
  rw [this,hs x,Nat.succ_mul];omega
theorem dF (hs:∀x,(enc x).length=sz):∀(xs:List α) (n j:Nat) (hn:n<xs.length),j<sz->(bD (cB enc xs))[n * sz+j]? =(bD (enc xs[n]))[j]?
 | x::xs,0,j,hn,hj=>by
  show (bD (enc x++cB enc xs))[0 * sz+j]? =_
  rw [eF,List.getElem?_append_left (by rw [cT,hs x];omega)]
  simp
 | x::xs,n+1,j,hn,hj=>by
  show (bD (enc x++cB enc xs))[(n+1) * sz+j]? =_
  rw [eF,List.getElem?_append_right (by rw [cT,hs x,Nat.succ_mul];omega),cT,hs x]
  have:=dF hs xs n j (by simpa using hn) hj
  rw [show (n+1) * sz+j - sz=n * sz+j from by rw [Nat.succ_mul];omega,this]
  simp
theorem aY (hs:∀x,(enc x).length=sz) {n:Nat} (hn:n<xs.length):fK sz ((bD (cB enc xs)).drop (n * sz))=some (bD (enc xs[n])):=by
 have hl:(bD (cB enc xs)).length=xs.length * sz:=by rw [cT,eG hs]
 have hm:(n+1) * sz<=xs.length * sz:=Nat.mul_le_mul_right _ hn
 rw [Nat.succ_mul] at hm
 rw [fR _ _ (by simp [hl];omega)]
 congr 1
 apply List.ext_getElem?
 intro j
 by_cases hj:j<sz
 ·rw [List.getElem?_take_of_lt hj,List.getElem?_drop,dF hs xs n j hn hj]
 ·rw [List.getElem?_take_eq_none (by omega),List.getElem?_eq_none (by rw [cT,hs];omega)]
theorem bL (hs:∀x,(enc x).length=sz) {n:Nat} (hn:n<xs.length) (hp:0<sz):(bD (cB enc xs))[n * sz]? =(bD (enc xs[n]))[0]? :=by
 have:=dF hs xs n 0 hn hp
 simpa using this
theorem aK (h:Sl sz enc xs d) {t e:TypeId} (hu:P.underlying t=some (.slice e)):bH P t (ofD d) H k=k (.int .i64 (xs.length:Int)):=by
 unfold bH
 rw [hu]
 rcases h with⟨rfl,rfl⟩| rfl<;>rfl
theorem Sl.pos (h:Sl sz enc xs d) {n:Nat} (hn:n<xs.length):d= .sl sz (cB enc xs) xs.length:=by
 rcases h with⟨rfl,rfl⟩| rfl
 ·simp at hn
 ·rfl
theorem aX (h:Sl sz enc xs d) {t e:TypeId} (hu:P.underlying t=some (.slice e)) (hi:(P.info? e).isSome=true) (hc:P.cellsOf e=sz) {n:Nat} (hn:n<xs.length) {i:IntKind}:
  aN P t (ofD d) (.int i (n:Int)) k=k (.dat (.ptr (cB enc xs) (n * sz))):=by
 rw [h.pos hn]
 unfold aN
 show (match P.underlying t,(AV.dat (.sl sz (cB enc xs) xs.length)) with
  | some (.array len e),.ptr b off=>_
  | some (.array len e),.gptr b off=>_
  | some (.slice e),.sl b off len z _=>_
  | some (.slice e),.dat (.sl sz cs len)=>match Nat.blt n len,(P.info? e).isSome,Nat.beq sz (P.cellsOf e) with
   | true,true,true=>dN (n * sz) fun o=>k (.dat (.ptr cs o))
   | _,_,_=>false
  | _,_=>false)=_
 rw [hu]
 dsimp only
 rw [hi,hc,Nat.beq_refl,show Nat.blt n xs.length=true from by simpa [Nat.blt_eq] using hn]
 exact bQ (n * sz) fun o=>k (.dat (.ptr (cB enc xs) o))
@[congr] theorem amU {t:TypeId} {a a':AV} (h:a=a'):bH P t a H k=bH P t a' H k:=by rw [h]
@[congr] theorem aYN {t:TypeId} {a a' i i':AV} (h:a=a') (hi:i=i'):aN P t a i k=aN P t a' i' k:=by rw [h,hi]
@[go_sem] theorem uY:bD []=[]:=rfl
@[go_sem] theorem nS (d:D) (ds:List D):bD (d::ds)=ofD d::bD ds:=rfl
@[go_sem] theorem yZ (i:IntKind) (n:Int):ofD (.int i n)= .int i n:=rfl
@[go_sem] theorem asD (b:Bool):ofD (.bool b)= .bool b:=rfl
@[go_sem] theorem azY (s:List Nat):ofD (.str s)= .str s:=rfl
@[go_sem] theorem azV (l:List D):ofD (.agg l)= .agg (bD l):=rfl
@[go_sem] theorem azK (l:List D):ofD (.tup l)= .tup (bD l):=rfl
@[go_sem] theorem azM (l:List D) (o:Nat):ofD (.ptr l o)= .dat (.ptr l o):=rfl
theorem iO {Q:D->Prop} {v:AV} {d:D} {I:List Nat} (hq:Q d) (hr:Rd H v d I):kU Q (.ret v) H=true:=by
 unfold kU
 exact @decide_eq_true _ (Classical.propDecidable _) ⟨v,d,I,rfl,hq,hr⟩
theorem aG {Q:D->Prop} (d:D) (hq:Q d):kU Q (.ret (ofD d)) H=true:=iO hq (.fro d)
theorem CQ.enter {f:FuncId} {ds:List D} {Q:D->Prop} (hG:mH G) (h:aP P G ⟨cd P G 200,dY P G⟩ f (bD ds) Hp.empty (kU Q)=true):CQ P G f ds Q:= .run hG (aAO 200 h)
attribute [go_sem] eq_self if_true if_false List.getElem?_cons_zero List.getElem?_cons_succ List.drop_zero List.drop_succ_cons Option.map_some Option.map_none decide_true decide_false Bool.not_true Bool.not_false Nat.add_zero Nat.zero_add List.all_cons List.all_nil Bool.and_true Bool.true_and List.length_cons List.length_nil Bool.and_false Bool.false_and
@[go_sem] theorem aoF (n:Nat):Nat.beq n n=true:=Nat.beq_refl n
end
end
end Go.Ev
namespace Go.S5
open Go.Ev Go.Proofs
@[go_sem] theorem ag3:dI P 3=some false:=by kernel_rfl
@[go_sem] theorem ce3:P.cellsOf 3=1:=by kernel_rfl
@[go_sem] theorem in3:(P.info? 3).isSome=true:=by kernel_rfl
@[go_sem] theorem un3:P.underlying 3=some (.int .i64):=by kernel_rfl
@[go_sem] theorem ag4:dI P 4=some false:=by kernel_rfl
@[go_sem] theorem ce4:P.cellsOf 4=1:=by kernel_rfl
@[go_sem] theorem in4:(P.info? 4).isSome=true:=by kernel_rfl
@[go_sem] theorem un4:P.underlying 4=some .bool:=by kernel_rfl
@[go_sem] theorem ag5:dI P 5=some false:=by kernel_rfl
@[go_sem] theorem ce5:P.cellsOf 5=1:=by kernel_rfl
@[go_sem] theorem in5:(P.info? 5).isSome=true:=by kernel_rfl
@[go_sem] theorem un5:P.underlying 5=some (.int .u8):=by kernel_rfl
@[go_sem] theorem ag9:dI P 9=some false:=by kernel_rfl
@[go_sem] theorem ce9:P.cellsOf 9=1:=by kernel_rfl
@[go_sem] theorem in9:(P.info? 9).isSome=true:=by kernel_rfl
@[go_sem] theorem un9:P.underlying 9=some .string:=by kernel_rfl
@[go_sem] theorem bBM:dI P 22=some false:=by kernel_rfl
@[go_sem] theorem a3G:P.cellsOf 22=1:=by kernel_rfl
@[go_sem] theorem a9Y:(P.info? 22).isSome=true:=by kernel_rfl
@[go_sem] theorem jC:P.underlying 22=some (.slice 136):=by kernel_rfl
@[go_sem] theorem a9N:cK P 22=some 136:=by kernel_rfl
@[go_sem] theorem axZ:P.bytesOf 136=24:=by kernel_rfl
@[go_sem] theorem bAM:dI P 23=some false:=by kernel_rfl
@[go_sem] theorem a5W:P.cellsOf 23=1:=by kernel_rfl
@[go_sem] theorem a9X:(P.info? 23).isSome=true:=by kernel_rfl
@[go_sem] theorem gR:P.underlying 23=some (.slice 78):=by kernel_rfl
@[go_sem] theorem a9D:cK P 23=some 78:=by kernel_rfl
@[go_sem] theorem azI:P.bytesOf 78=48:=by kernel_rfl
@[go_sem] theorem bBA:dI P 24=some false:=by kernel_rfl
@[go_sem] theorem a6A:P.cellsOf 24=1:=by kernel_rfl
@[go_sem] theorem bAA:(P.info? 24).isSome=true:=by kernel_rfl
@[go_sem] theorem nY:P.underlying 24=some (.slice 138):=by kernel_rfl
@[go_sem] theorem a9O:cK P 24=some 138:=by kernel_rfl
@[go_sem] theorem auP:P.bytesOf 138=40:=by kernel_rfl
@[go_sem] theorem a9U:dI P 26=some true:=by kernel_rfl
@[go_sem] theorem arG:P.cellsOf 26=3:=by kernel_rfl
@[go_sem] theorem bBL:(P.info? 26).isSome=true:=by kernel_rfl
@[go_sem] theorem a8X:dI P 28=some true:=by kernel_rfl
@[go_sem] theorem eP:P.cellsOf 28=2:=by kernel_rfl
@[go_sem] theorem gD:(P.info? 28).isSome=true:=by kernel_rfl
@[go_sem] theorem bAP:dI P 29=some false:=by kernel_rfl
@[go_sem] theorem a0Z:P.cellsOf 29=1:=by kernel_rfl
@[go_sem] theorem bBH:(P.info? 29).isSome=true:=by kernel_rfl
@[go_sem] theorem kQ:P.underlying 29=some (.slice 201):=by kernel_rfl
@[go_sem] theorem a9M:cK P 29=some 201:=by kernel_rfl
@[go_sem] theorem asJ:P.bytesOf 201=24:=by kernel_rfl
@[go_sem] theorem a9W:dI P 31=some true:=by kernel_rfl
@[go_sem] theorem atQ:P.cellsOf 31=12:=by kernel_rfl
@[go_sem] theorem a9J:(P.info? 31).isSome=true:=by kernel_rfl
@[go_sem] theorem bAR:dI P 33=some true:=by kernel_rfl
@[go_sem] theorem awA:P.cellsOf 33=3:=by kernel_rfl
@[go_sem] theorem bAN:(P.info? 33).isSome=true:=by kernel_rfl
@[go_sem] theorem bAZ:dI P 34=some false:=by kernel_rfl
@[go_sem] theorem a4V:P.cellsOf 34=1:=by kernel_rfl
@[go_sem] theorem bBE:(P.info? 34).isSome=true:=by kernel_rfl
@[go_sem] theorem gO:P.underlying 34=some (.slice 96):=by kernel_rfl
@[go_sem] theorem a9E:cK P 34=some 96:=by kernel_rfl
@[go_sem] theorem azP:P.bytesOf 96=24:=by kernel_rfl
@[go_sem] theorem bBB:dI P 35=some false:=by kernel_rfl
@[go_sem] theorem a6D:P.cellsOf 35=1:=by kernel_rfl
@[go_sem] theorem a9F:(P.info? 35).isSome=true:=by kernel_rfl
@[go_sem] theorem gZ:P.underlying 35=some (.slice 94):=by kernel_rfl
@[go_sem] theorem a9P:cK P 35=some 94:=by kernel_rfl
@[go_sem] theorem ayG:P.bytesOf 94=32:=by kernel_rfl
@[go_sem] theorem a9A:dI P 36=some false:=by kernel_rfl
@[go_sem] theorem a1R:P.cellsOf 36=1:=by kernel_rfl
@[go_sem] theorem bBJ:(P.info? 36).isSome=true:=by kernel_rfl
@[go_sem] theorem gY:P.underlying 36=some (.slice 50):=by kernel_rfl
@[go_sem] theorem a9I:cK P 36=some 50:=by kernel_rfl
@[go_sem] theorem ayO:P.bytesOf 50=40:=by kernel_rfl
@[go_sem] theorem a9C:dI P 37=some false:=by kernel_rfl
@[go_sem] theorem a0H:P.cellsOf 37=1:=by kernel_rfl
@[go_sem] theorem a9R:(P.info? 37).isSome=true:=by kernel_rfl
@[go_sem] theorem dE:P.underlying 37=some (.slice 9):=by kernel_rfl
@[go_sem] theorem aBZ:cK P 37=some 9:=by kernel_rfl
@[go_sem] theorem a2D:P.bytesOf 9=16:=by kernel_rfl
@[go_sem] theorem bBI:dI P 38=some false:=by kernel_rfl
@[go_sem] theorem a4Q:P.cellsOf 38=1:=by kernel_rfl
@[go_sem] theorem bAT:(P.info? 38).isSome=true:=by kernel_rfl
@[go_sem] theorem dS:P.underlying 38=some (.slice 40):=by kernel_rfl
@[go_sem] theorem bAG:cK P 38=some 40:=by kernel_rfl
@[go_sem] theorem azJ:P.bytesOf 40=96:=by kernel_rfl
@[go_sem] theorem awV:dI P 40=some true:=by kernel_rfl
@[go_sem] theorem kC:P.cellsOf 40=8:=by kernel_rfl
@[go_sem] theorem mM:(P.info? 40).isSome=true:=by kernel_rfl
@[go_sem] theorem a8Z:dI P 42=some true:=by kernel_rfl
@[go_sem] theorem a3T:P.cellsOf 42=31:=by kernel_rfl
@[go_sem] theorem bBK:(P.info? 42).isSome=true:=by kernel_rfl
@[go_sem] theorem bBC:dI P 45=some false:=by kernel_rfl
@[go_sem] theorem bAS:P.cellsOf 45=1:=by kernel_rfl
@[go_sem] theorem a9K:(P.info? 45).isSome=true:=by kernel_rfl
@[go_sem] theorem bAU:P.underlying 45=some (.int .i64):=by kernel_rfl
@[go_sem] theorem a9Z:dI P 48=some true:=by kernel_rfl
@[go_sem] theorem aCE:P.cellsOf 48=2:=by kernel_rfl
@[go_sem] theorem aTP:(P.info? 48).isSome=true:=by kernel_rfl
@[go_sem] theorem aqH:dI P 50=some true:=by kernel_rfl
@[go_sem] theorem qC:P.cellsOf 50=5:=by kernel_rfl
@[go_sem] theorem wU:(P.info? 50).isSome=true:=by kernel_rfl
@[go_sem] theorem bBF:dI P 51=some false:=by kernel_rfl
@[go_sem] theorem bAO:P.cellsOf 51=1:=by kernel_rfl
@[go_sem] theorem bAY:(P.info? 51).isSome=true:=by kernel_rfl
@[go_sem] theorem aFL:P.underlying 51=some (.slice 3):=by kernel_rfl
@[go_sem] theorem a9G:cK P 51=some 3:=by kernel_rfl
@[go_sem] theorem a3M:P.bytesOf 3=8:=by kernel_rfl
@[go_sem] theorem bAW:dI P 71=some false:=by kernel_rfl
@[go_sem] theorem bAE:P.cellsOf 71=1:=by kernel_rfl
@[go_sem] theorem bAB:(P.info? 71).isSome=true:=by kernel_rfl
@[go_sem] theorem anV:P.underlying 71=some (.slice 160):=by kernel_rfl
@[go_sem] theorem bAC:cK P 71=some 160:=by kernel_rfl
@[go_sem] theorem aqJ:P.bytesOf 160=24:=by kernel_rfl
@[go_sem] theorem bAD:dI P 72=some false:=by kernel_rfl
@[go_sem] theorem bAH:P.cellsOf 72=1:=by kernel_rfl
@[go_sem] theorem a9V:(P.info? 72).isSome=true:=by kernel_rfl
@[go_sem] theorem aWH:P.underlying 72=some (.slice 163):=by kernel_rfl
@[go_sem] theorem bAX:cK P 72=some 163:=by kernel_rfl
@[go_sem] theorem asV:P.bytesOf 163=24:=by kernel_rfl
@[go_sem] theorem bBD:dI P 74=some true:=by kernel_rfl
@[go_sem] theorem bAV:P.cellsOf 74=14:=by kernel_rfl
@[go_sem] theorem bBG:(P.info? 74).isSome=true:=by kernel_rfl
@[go_sem] theorem bAQ:dI P 76=some false:=by kernel_rfl
@[go_sem] theorem a2R:P.cellsOf 76=1:=by kernel_rfl
@[go_sem] theorem a9S:(P.info? 76).isSome=true:=by kernel_rfl
@[go_sem] theorem cO:P.underlying 76=some (.slice 28):=by kernel_rfl
@[go_sem] theorem aVS:cK P 76=some 28:=by kernel_rfl
@[go_sem] theorem ayL:P.bytesOf 28=16:=by kernel_rfl
@[go_sem] theorem a9Q:dI P 78=some true:=by kernel_rfl
@[go_sem] theorem tB:P.cellsOf 78=2:=by kernel_rfl
@[go_sem] theorem vW:(P.info? 78).isSome=true:=by kernel_rfl
@[go_sem] theorem a9B:dI P 94=some true:=by kernel_rfl
@[go_sem] theorem rM:P.cellsOf 94=3:=by kernel_rfl
@[go_sem] theorem xF:(P.info? 94).isSome=true:=by kernel_rfl
@[go_sem] theorem a9T:dI P 96=some true:=by kernel_rfl
@[go_sem] theorem oV:P.cellsOf 96=3:=by kernel_rfl
@[go_sem] theorem rK:(P.info? 96).isSome=true:=by kernel_rfl
@[go_sem] theorem a7E:dI P 136=some true:=by kernel_rfl
@[go_sem] theorem xT:P.cellsOf 136=2:=by kernel_rfl
@[go_sem] theorem aCS:(P.info? 136).isSome=true:=by kernel_rfl
@[go_sem] theorem a8G:dI P 138=some true:=by kernel_rfl
@[go_sem] theorem aEG:P.cellsOf 138=5:=by kernel_rfl
@[go_sem] theorem aPP:(P.info? 138).isSome=true:=by kernel_rfl
@[go_sem] theorem a7D:dI P 155=some false:=by kernel_rfl
@[go_sem] theorem a8C:P.cellsOf 155=1:=by kernel_rfl
@[go_sem] theorem a7P:(P.info? 155).isSome=true:=by kernel_rfl
@[go_sem] theorem auE:P.underlying 155=some (.map 9 4):=by kernel_rfl
@[go_sem] theorem a6X:dI P 158=some false:=by kernel_rfl
@[go_sem] theorem a8M:P.cellsOf 158=1:=by kernel_rfl
@[go_sem] theorem a7N:(P.info? 158).isSome=true:=by kernel_rfl
@[go_sem] theorem a7W:P.underlying 158=some (.map 3 4):=by kernel_rfl
@[go_sem] theorem a8H:dI P 160=some true:=by kernel_rfl
@[go_sem] theorem a7J:P.cellsOf 160=3:=by kernel_rfl
@[go_sem] theorem a7F:(P.info? 160).isSome=true:=by kernel_rfl
@[go_sem] theorem a6W:dI P 163=some true:=by kernel_rfl
@[go_sem] theorem a7K:P.cellsOf 163=3:=by kernel_rfl
@[go_sem] theorem a8A:(P.info? 163).isSome=true:=by kernel_rfl
@[go_sem] theorem a8R:dI P 166=some false:=by kernel_rfl
@[go_sem] theorem a7Y:P.cellsOf 166=1:=by kernel_rfl
@[go_sem] theorem a7Q:(P.info? 166).isSome=true:=by kernel_rfl
@[go_sem] theorem a7T:dI P 167=some false:=by kernel_rfl
@[go_sem] theorem a7X:P.cellsOf 167=1:=by kernel_rfl
@[go_sem] theorem a8O:(P.info? 167).isSome=true:=by kernel_rfl
@[go_sem] theorem a8Q:dI P 168=some false:=by kernel_rfl
@[go_sem] theorem asH:P.cellsOf 168=1:=by kernel_rfl
@[go_sem] theorem avO:(P.info? 168).isSome=true:=by kernel_rfl
@[go_sem] theorem jL:P.underlying 168=some (.slice 48):=by kernel_rfl
@[go_sem] theorem afP:cK P 168=some 48:=by kernel_rfl
@[go_sem] theorem apQ:P.bytesOf 48=16:=by kernel_rfl
@[go_sem] theorem a8U:dI P 173=some false:=by kernel_rfl
@[go_sem] theorem a6Z:P.cellsOf 173=1:=by kernel_rfl
@[go_sem] theorem a7S:(P.info? 173).isSome=true:=by kernel_rfl
@[go_sem] theorem a6R:P.underlying 173=some (.pointer 3):=by kernel_rfl
@[go_sem] theorem a7L:dI P 201=some true:=by kernel_rfl
@[go_sem] theorem oQ:P.cellsOf 201=3:=by kernel_rfl
@[go_sem] theorem sD:(P.info? 201).isSome=true:=by kernel_rfl
@[go_sem] theorem a7V:dI P 261=some false:=by kernel_rfl
@[go_sem] theorem a6N:P.cellsOf 261=1:=by kernel_rfl
@[go_sem] theorem a8W:(P.info? 261).isSome=true:=by kernel_rfl
@[go_sem] theorem a7H:dI P 263=some true:=by kernel_rfl
@[go_sem] theorem a8K:P.cellsOf 263=3:=by kernel_rfl
@[go_sem] theorem a8V:(P.info? 263).isSome=true:=by kernel_rfl
@[go_sem] theorem agS:P.underlying 263=some (.array 3 3):=by kernel_rfl
@[go_sem] theorem a8I:dI P 268=some false:=by kernel_rfl
@[go_sem] theorem a7A:P.cellsOf 268=1:=by kernel_rfl
@[go_sem] theorem a6U:(P.info? 268).isSome=true:=by kernel_rfl
@[go_sem] theorem a6Q:dI P 278=some true:=by kernel_rfl
@[go_sem] theorem a8E:P.cellsOf 278=2:=by kernel_rfl
@[go_sem] theorem a8B:(P.info? 278).isSome=true:=by kernel_rfl
@[go_sem] theorem atN:P.underlying 278=some (.array 2 3):=by kernel_rfl
@[go_sem] theorem a6T:dI P 334=some false:=by kernel_rfl
@[go_sem] theorem a6V:P.cellsOf 334=1:=by kernel_rfl
@[go_sem] theorem a7B:(P.info? 334).isSome=true:=by kernel_rfl
@[go_sem] theorem a6S:dI P 336=some false:=by kernel_rfl
@[go_sem] theorem a6M:P.cellsOf 336=1:=by kernel_rfl
@[go_sem] theorem a8P:(P.info? 336).isSome=true:=by kernel_rfl
@[go_sem] theorem a7I:dI P 337=some true:=by kernel_rfl
@[go_sem] theorem a8S:P.cellsOf 337=2:=by kernel_rfl
@[go_sem] theorem a7C:(P.info? 337).isSome=true:=by kernel_rfl
@[go_sem] theorem arW:P.underlying 337=some (.array 2 168):=by kernel_rfl
@[go_sem] theorem a7Z:dI P 372=some false:=by kernel_rfl
@[go_sem] theorem a7R:P.cellsOf 372=1:=by kernel_rfl
@[go_sem] theorem a7O:(P.info? 372).isSome=true:=by kernel_rfl
@[go_sem] theorem a7G:P.underlying 372=some (.int .u64):=by kernel_rfl
@[go_sem] theorem a6O:dI P 411=some false:=by kernel_rfl
@[go_sem] theorem a6P:P.cellsOf 411=1:=by kernel_rfl
@[go_sem] theorem a8F:(P.info? 411).isSome=true:=by kernel_rfl
@[go_sem] theorem a7M:P.underlying 411=some (.int .i64):=by kernel_rfl
end Go.S5
namespace Go.Ev
noncomputable section
section
variable {P : Program} {G : bK} {H : Hp} {k : AV -> Bool} {α : Type} {sz : Nat} {enc : α -> List D} {xs : List α} {d : D}
def mJ (a b:Int):Int:=IntKind.wrap .i64 ((BitVec.ofInt 64 a)&&& (BitVec.ofInt 64 b)).toNat
def bOr (a b:Int):Int:=IntKind.wrap .i64 ((BitVec.ofInt 64 a)||| (BitVec.ofInt 64 b)).toNat
def fU (a b:Int):Int:=IntKind.wrap .i64 ((BitVec.ofInt 64 a)&&& ~~~(BitVec.ofInt 64 b)).toNat
def adO (a b:Int):Int:=a.fdiv (2 ^(min b.toNat 64))
@[go_sem ↓] theorem azH (t:TypeId) (nc:Bool) (a b:Int):aH P .and t nc (.int .i64 a) (.int .i64 b) k=k (.int .i64 (mJ a b)):=cZ (mJ a b) fun n=>k (.int .i64 n)
@[go_sem ↓] theorem a3F (t:TypeId) (nc:Bool) (a b:Int):aH P .or t nc (.int .i64 a) (.int .i64 b) k=k (.int .i64 (bOr a b)):=cZ (bOr a b) fun n=>k (.int .i64 n)
@[go_sem ↓] theorem ajB (t:TypeId) (nc:Bool) (a b:Int):aH P .andNot t nc (.int .i64 a) (.int .i64 b) k=k (.int .i64 (fU a b)):=cZ (fU a b) fun n=>k (.int .i64 n)
@[go_sem ↓] theorem ayT (t:TypeId) (nc:Bool) (j:IntKind) (a b:Int) (h:0<=b):aH P .shr t nc (.int .i64 a) (.int j b) k=k (.int .i64 (adO a b)):=by
 have:¬b<0:=by omega
 simp [aH,gX,uH,cZ,adO,IntKind.bits,avR,this]
@[go_sem ↓] theorem ayN (t:TypeId) (nc:Bool) (i:IntKind) (a b:Int) (h:b≠0):aH P .rem t nc (.int i a) (.int i b) k=k (.int i (a.tmod b)):=by
 simp [aH,gX,kA,cZ,oR,h]
@[go_sem ↓] theorem ayY (t:TypeId) (nc:Bool) (a b:Int) (h: -9223372036854775808<=a * b/\a * b<=9223372036854775807):aH P .mul t nc (.int .i64 a) (.int .i64 b) k=k (.int .i64 (a * b)):=by
 simp [aH,gX,kA,cZ,aBM h]
@[go_sem ↓] theorem a5P (a:Int) (h: -9223372036854775807<=a/\a<=9223372036854775807):unK .neg (.int .i64 a) k=k (.int .i64 (0 - a)):=by
 simp only [unK,cZ]
 rw [aBM (by omega)]
theorem rE (a b:List Nat):mZ a b=decide (a=b):=by rw [pL]
@[go_sem ↓] theorem ayS (t:TypeId) (nc:Bool) (a b:List Nat):aH P .eql t nc (.str a) (.str b) k=k (.bool (decide (a=b))):=by
 simp [aH,wG,cD,rE]
@[go_sem ↓] theorem apY (t:TypeId) (nc:Bool) (a b:List Nat):aH P .neq t nc (.str a) (.str b) k=k (.bool (!decide (a=b))):=by
 simp [aH,wG,cD,rE]
theorem gK {t:TypeId} (hu:P.underlying t=some .string) (s:List Nat):bH P t (.str s) H k=k (.int .i64 (s.length:Int)):=by
 unfold bH
 rw [hu]
 exact bQ _ _
theorem vS {t:TypeId} (hu:P.underlying t=some .string) {s:List Nat} {n:Nat} (hn:n<s.length) {i:IntKind}:dM P t (.str s) (.int i (n:Int)) k=k (.int .u8 (s[n]:Int)):=by
 have h1:lR P t=true:=by unfold lR;rw [hu]
 have h2:s[n]? =some s[n]:=List.getElem?_eq_getElem hn
 show (match lR P t,s[n]? with | true,some c=>k (.int .u8 (.ofNat c))| _,_=>false)=_
 rw [h1,h2]
 rfl
@[congr] theorem abL {t:TypeId} {a a' i i':AV} (h:a=a') (hi:i=i'):dM P t a i k=dM P t a' i' k:=by rw [h,hi]
def slT (d:D) (n:Nat):D:=match d with
 | .sl sz cs len=>.sl sz (cs.take (n * sz)) n
 | d=>d
theorem uV (hs:∀x,(enc x).length=sz):∀(xs:List α) (n:Nat),n<=xs.length->(cB enc xs).take (n * sz)=cB enc (xs.take n)
 | xs,0,_=>by simp [cB]
 | x::xs,n+1,h=>by
  have ih:=uV hs xs n (by simpa using h)
  show (enc x++cB enc xs).take ((n+1) * sz)=enc x++cB enc (xs.take n)
  rw [←ih,Nat.succ_mul,List.take_append,List.take_of_length_le (by rw [hs x];omega),hs x]
  congr 2;omega
theorem Sl.take (h:Sl sz enc xs d) (hs:∀x,(enc x).length=sz) {n:Nat} (hn:n<=xs.length):Sl sz enc (xs.take n) (slT d n):=by
 rcases h with⟨rfl,rfl⟩| rfl
 ·exact .inl ⟨rfl,by simp⟩
 ·exact .inr (by simp only [slT];rw [uV hs xs n hn,List.length_take,Nat.min_eq_left hn])
theorem jS (h:Sl sz enc xs d) {t e:TypeId} (he:cK P t=some e) (hc:P.cellsOf e=sz) {n:Nat} (hn:n<=xs.length) {i:IntKind}:
  cQ P H t (ofD d) none (some (.int i (n:Int))) none k=k (ofD (slT d n)):=by
 rcases h with⟨rfl,rfl⟩| rfl
 ·simp at hn
  subst hn
  unfold cQ
  simp only [ofD,he]
  rfl
 ·unfold cQ
  simp only [ofD,he,gL,oO]
  rw [hc,Nat.beq_refl,show Nat.ble n xs.length=true from by simpa using hn]
  simp only [Nat.ble,bQ,slT,Nat.zero_mul,List.drop_zero,Nat.sub_zero,ofD]
@[congr] theorem aXE {t:TypeId} {x x':AV} {lo lo' hi hi' mx mx':Option AV} (h:x=x') (hl:lo=lo') (hh:hi=hi') (hm:mx=mx'):cQ P H t x lo hi mx k=cQ P H t x' lo' hi' mx' k:=by rw [h,hl,hh,hm]
theorem aJM (hG:mH G) {f:FuncId} {args:List AV} {k:AV->Hp->Bool} {ds:List D} {I:List Nat} {Q:D->Prop} (hct:CQ P G f ds Q) (hr:Rds H args ds I)
  (hk:∀d,Q d->(I=[]∨d.flatB=true)/\k (ofD d) H=true):cl P G f args H k=true:=by
 have h:=aWW (k:=fun e H'=>fE.casesOn (motive:=fun _=>Bool) e (fun v=>k v H') (fun _=>false)) hG hct hr hk
 exact h
theorem bE (hG:mH G) {f:FuncId} {k:AV->Hp->Bool} {args:List AV} (ds:List D) {r:D} (hct:CQ P G f ds (·=r)) (ha:args=bD ds) (hk:k (ofD r) H=true):cl P G f args H k=true:=by
 subst ha
 exact aJM hG hct (.fro ds) fun d hd=>⟨.inl rfl,hd▸hk⟩
theorem cS (hG:mH G) {f:FuncId} {k:AV->Hp->Bool} {args:List AV} (ds:List D) {Q:D->Prop} (hct:CQ P G f ds Q) (ha:args=bD ds) (hk:∀d,Q d->k (ofD d) H=true):cl P G f args H k=true:=by
 subst ha
 exact aJM hG hct (.fro ds) fun d hd=>⟨.inl rfl,hk d hd⟩
theorem dA (n:Nat) {f:FuncId} {args:List AV} {k:AV->Hp->Bool} (h:aP P G ⟨cd P G n,dY P G⟩ f args H (fun en H=>fE.casesOn en (fun v=>k v H) fun _=>false)=true):cl P G f args H k=true:=aAO n h
theorem wQ {n:Nat} {g:FuncId} {first cap args:List AV} {k:AV->Hp->Bool} (h1:jN P g=false) (h2:iF P g=true):clv P G n (.fn g first cap) args H k=cl P G g (first++args++cap) H k:=by
 show eL (first++args++cap) (fun args=>match jN P g with
  | true=>aCF args fun x=>k x H
  | false=>xB P ⟨cd P G n,dY P G⟩ g args H k (fun _ _=>false))=_
 rw [bY,h1]
 dsimp only
 unfold xB
 rw [h2]
 rfl
@[go_sem] theorem a6L (f:FuncId) (a c:List D):ofD (.fn f a c)= .fn f (bD a) (bD c):=rfl
@[go_sem ↓] theorem a9H (v:AV) (vs:List AV):bR (.tup (v::vs)) 0 k=k v:=rfl
@[go_sem ↓] theorem bAK (v u:AV) (vs:List AV):bR (.tup (v::u::vs)) 1 k=k u:=rfl
@[go_sem ↓] theorem a9L (v u x:AV) (vs:List AV):bR (.tup (v::u::x::vs)) 2 k=k x:=rfl
@[congr] theorem aXU {x x':AV} {i:Nat} (h:x=x'):bR x i k=bR x' i k:=by rw [h]
def nP (places:List (Nat×Nat)) (ps:List (Nat×AV)) (z:List AV) (k:AV->Bool):Bool:=oT (xI places ps z) k
@[congr] theorem akJ {pl:List (Nat×Nat)} {ps ps':List (Nat×AV)} {z:List AV} (h:ps=ps'):nP pl ps z k=nP pl ps' z k:=by rw [h]
@[congr] theorem aaU {t:TypeId} {ps ps':List (Nat×AV)} (h:ps=ps'):bO P t ps k=bO P t ps' k:=by rw [h]
@[go_sem ↓] theorem asC (pl:List (Nat×Nat)) (z:List AV):nP pl [] z k=k (.agg z):=rfl
def aLS (pl:List (Nat×Nat)) (ps:List (Nat×AV)) (k:AV->Bool) (g:Bool) (o:Option (List AV)):Bool:=match g,o with
 | true,some z=>nP pl ps z k
 | _,_=>false
@[go_sem ↓] theorem aoH (pl:List (Nat×Nat)) (i:Nat) (v:AV) (ps:List (Nat×AV)) (z:List AV):nP pl ((i,v)::ps) z k=(match pl[i]? with
  | some (off,size)=>aLS pl ps k (Nat.beq v.cells.length size) (fI z off v.cells)
  | none=>false):=by
 unfold nP
 simp only [xI]
 cases pl[i]? with
 | none=>rfl
 | some p=>
  obtain⟨off,size⟩:=p
  dsimp only
  cases Nat.beq v.cells.length size<;>cases fI z off v.cells<;>rfl
@[go_sem ↓] theorem a6F (pl:List (Nat×Nat)) (ps:List (Nat×AV)) (z:List AV):aLS pl ps k true (some z)=nP pl ps z k:=rfl
@[congr] theorem akP {pl:List (Nat×Nat)} {ps:List (Nat×AV)} {g g':Bool} {o o':Option (List AV)} (hg:g=g') (ho:o=o'):aLS pl ps k g o=aLS pl ps k g' o':=by rw [hg,ho]
@[go_sem] theorem aiQ (w:Bool):gJ w (.tup [])=false:=rfl
@[go_sem ↓] theorem alW (k:Hp->Bool):cP [] H k=k H:=rfl
@[go_sem ↓] theorem aeM (i b:Nat) (x:Blk) (Q:fM) (k:Hp->Bool):cP ((i,b,x)::Q) H k=cP Q (H.setb b (some x)) k:=Hp.put_r H b (some x) fun H=>cP Q H k
@[go_sem ↓] theorem alM (a:Nat) (k:fM->Hp->Bool):cA a [] H k=k [] H:=rfl
@[go_sem] theorem aaV (q:Nat):(0=q+1)=False:=by simp
@[go_sem] theorem abX (n:Nat) (i:IntKind) (a:Int):aR (n+1) (.int i a) (.int i a)=true:=by
 have h1:ieq a a=true:=by rw [oR];simp
 have h2:Nat.beq (oU i) (oU i)=true:=Nat.beq_refl _
 simp [aR,h1,h2]
@[go_sem] theorem atU (n:Nat) (b:Bool):aR (n+1) (.bool b) (.bool b)=true:=by cases b<;>rfl
@[go_sem] theorem azN (n:Nat) (s:List Nat):aR (n+1) (.str s) (.str s)=true:=by simp [aR,rE]
@[go_sem] theorem awO (n:Nat):aR (n+1) .nils .nils=true:=rfl
@[go_sem] theorem adS (n:Nat) (d:D):aR (n+1) (.dat d) (.dat d)=true:=by simp [aR]
@[go_sem] theorem ayQ (n b o:Nat):aR (n+1) (.ptr b o) (.ptr b o)=true:=by simp [aR]
@[go_sem] theorem aiZ (n b o l z:Nat) (c:Option Nat):aR (n+1) (.sl b o l z c) (.sl b o l z c)=true:=by cases c<;>simp [aR]
@[go_sem] theorem aaP (n:Nat) (a b:List AV):aR (n+1) (.agg a) (.agg b)=gW n a b:=rfl
@[go_sem] theorem adB (n:Nat):gW (n+1) [] []=true:=rfl
@[go_sem] theorem aXQ (n:Nat) (x y:AV) (a b:List AV):gW (n+1) (x::a) (y::b)=(aR n x y&&gW n a b):=rfl
@[go_sem ↓] theorem aoN {a i:Nat} {c:Hp->Bool} {L:fJ} (h:a.testBit i=true):bV a ((i,c)::L) H=bV a L H:=by
 show (match a.testBit i with | true=>bV a L H | false=>_)=_
 rw [h]
@[go_sem ↓] theorem aoC {a i:Nat} {c:Hp->Bool} {L:fJ} (h:a.testBit i=false):bV a ((i,c)::L) H=(c H&&bV a L H):=by
 show (match a.testBit i with | true=>bV a L H | false=>match c H with | true=>bV a L H | false=>false)=_
 rw [h]
 cases c H<;>rfl
@[go_sem ↓] theorem a6I (k:Bool):(Bool.casesOn (motive:=fun _=>Bool) true false k:Bool)=k:=rfl
@[go_sem ↓] theorem avD {a i b:Nat} {x:Blk} {Q:fM} {k:fM->Hp->Bool} (h:a.testBit i=true):cA a ((i,b,x)::Q) H k=cA a Q (H.setb b (some x)) k:=by
 show (match a.testBit i with | true=>H.put b (some x) fun H=>cA a Q H k | false=>cA a Q H fun ps H=>k ((i,b,x)::ps) H)=_
 rw [h]
 exact Hp.put_eq _ _ _ _
@[go_sem ↓] theorem atO {a i b:Nat} {x:Blk} {Q:fM} {k:fM->Hp->Bool} (h:a.testBit i=false):cA a ((i,b,x)::Q) H k=cA a Q H fun ps H=>k ((i,b,x)::ps) H:=by
 show (match a.testBit i with | true=>H.put b (some x) fun H=>cA a Q H k | false=>cA a Q H fun ps H=>k ((i,b,x)::ps) H)=_
 rw [h]
@[go_sem ↓] theorem ahA (a:Nat):bV a [] H=true:=rfl
end
end
end Go.Ev
