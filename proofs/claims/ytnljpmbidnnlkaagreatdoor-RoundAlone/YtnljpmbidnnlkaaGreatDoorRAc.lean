/- A part of the proof of RoundAlone. -/
import Derived.Test.YtnljpmbidnnlkaaGreatDoorRAb
import Derived.Test.YtnljpmbidnnlkaaGreatDoorProg
import Derived.KernelRfl
set_option maxRecDepth 1000000
set_option linter.unusedVariables false
set_option linter.unusedSimpArgs false
namespace Go.S5
open Go.Ev Go.Proofs
noncomputable section
noncomputable abbrev P:Program:=Tryz.prog
noncomputable def deB:List AV:=[0,1,56,2,57,49,28,3,61,58,42,50,38,29,17,4,62,47,59,36,45,43,51,22,53,39,33,30,24,18,12,5,63,55,48,27,60,41,37,16,46,35,44,21,52,32,23,11,54,26,40,15,34,20,31,10,25,14,19,9,13,8,7,6].map fun n=>.int .u8 (.ofNat n)
noncomputable def G:bg:=fun g=>match g with
 | 0=>some deB
 | _=>none
theorem hG:mX G:=fun g cs h=>by
 unfold G at h
 split at h<;>cases h<;>rfl
noncomputable abbrev ee:Evs:=⟨cd P G 200,ff P G⟩
def dpG:Nat->Nat->List Nat->List Nat
 | 0,_,a=>a
 | k+1,n,a=>bif Nat.ble n 1 then a else dpG k (n/2) (n%2::a)
noncomputable abbrev fH (f p:Nat):Code:=Za P f (dpG 60 p [])
abbrev EX:=AEx->En->Hp->Bool
structure TX (m nt f p:Nat) (ro:Option Nat) (k:EX) where
def bY (m nt f p:Nat) (ro:Option Nat) (k:EX):TX m nt f p ro k:=⟨⟩
instance {m nt f p:Nat} {ro:Option Nat} {k:EX}:CoeFun (TX m nt f p ro k) fun _=>EX:=⟨fun _=>fun x e H=>aY x (fun _=>cd P G m nt (fH f p) ro e H k) (k · e H)⟩
structure TY (i:Nat) (k:EX) where
def cR (i:Nat) (k:EX):TY i k:=⟨⟩
instance {i:Nat} {k:EX}:CoeFun (TY i k) fun _=>EX:=⟨fun _=>fun x e H=>bz i x (fun _=>k .normal e H) (k · e H)⟩
structure TL (n f p:Nat) (r:Option Nat) where
def cI (n f p:Nat) (r:Option Nat):TL n f p r:=⟨⟩
instance {n f p:Nat} {r:Option Nat}:CoeFun (TL n f p r) fun _=>En->Hp->EX->Bool:=⟨fun _=>oE P G n (.loop (fH f p)) r⟩
structure TC (m n f p:Nat) where
def az (m n f p:Nat):TC m n f p:=⟨⟩
instance {m n f p:Nat}:CoeFun (TC m n f p) fun _=>Option Nat->En->Hp->EX->Bool:=⟨fun _=>cd P G m n (fH f p)⟩
structure TM (t:E2) (l:List (Nat×AV)) where
def aB (t:E2) (l:List (Nat×AV)):TM t l:=⟨⟩
instance {t:E2} {l:List (Nat×AV)}:CoeFun (TM t l) fun _=>List Dm->En:=⟨fun _=>En.mk (es t l)⟩
structure TI (l:List (Nat×AV)) where
def ce (l:List (Nat×AV)):TI l:=⟨⟩
instance {l:List (Nat×AV)} {x:TI l}:CoeDep (TI l) x En:=⟨⟨es E2.empty l,[]⟩⟩
def bj:Tk 2:=⟨⟩
instance:CoeFun (Tk 2) fun _=>FuncId->List AV->Hp->(fk->Hp->Bool)->Bool:=⟨fun _=>iZ P G ee⟩
def bc:Tk 3:=⟨⟩
instance:CoeFun (Tk 3) fun _=>FuncId->List D->(D->Prop)->Prop:=⟨fun _=>CQ P G⟩
def ac:Tk 4:=⟨⟩
instance:CoeFun (Tk 4) fun _=>Func->Evs->(fk->Hp->Bool)->AEx->En->Hp->Bool:=⟨fun _=>lr P G⟩
def rR:Tk 5:=⟨⟩
instance:CoeFun (Tk 5) fun _=>Evs->FuncId->List AV->Hp->(fk->Hp->Bool)->Bool:=⟨fun _=>iZ P G⟩
def gK:Tk 6:=⟨⟩
instance:CoeFun (Tk 6) fun _=>Nat->Nat->Code->Option Nat->En->Hp->EX->Bool:=⟨fun _=>cd P G⟩
def ay:Tk 7:=⟨⟩
instance:CoeFun (Tk 7) fun _=>FuncId->List AV->Hp->(AV->Hp->Bool)->Bool:=⟨fun _=>cl P G⟩
def eC:Tk 8:=⟨⟩
instance:CoeFun (Tk 8) fun _=>Nat->AV->List AV->Hp->(AV->Hp->Bool)->Bool:=⟨fun _=>clv P G⟩
def E:Tk 9:=⟨⟩
instance:CoeFun (Tk 9) fun _=>Hp->TypeId->AV->(AV->Bool)->Bool:=⟨fun _=>mw P G⟩
def kS:Tk 10:=⟨⟩
instance:CoeFun (Tk 10) fun _=>Nat->Code->Option Nat->En->Hp->EX->Bool:=⟨fun _=>oE P G⟩
def bu:Tk 11:=⟨⟩
instance:CoeFun (Tk 11) fun _=>Hp->TypeId->TypeId->AV->AV->(AV->Hp->Bool)->Bool:=⟨fun _=>fj P⟩
def aw:Tk 12:=⟨⟩
instance:CoeFun (Tk 12) fun _=>BinOp->TypeId->Bool->AV->AV->(AV->Bool)->Bool:=⟨fun _=>fP P⟩
def aU:Tk 13:=⟨⟩
instance:CoeFun (Tk 13) fun _=>TypeId->List (Nat×AV)->(AV->Bool)->Bool:=⟨fun _=>ma P⟩
def aO:Tk 14:=⟨⟩
instance:CoeFun (Tk 14) fun _=>TypeId->Nat->List (Nat×AV)->(Blk->(Nat->AV)->Bool)->Bool:=⟨fun _=>jp P⟩
def ah:Tk 15:=⟨⟩
instance:CoeFun (Tk 15) fun _=>TypeId->AV->AV->(AV->Bool)->Bool:=⟨fun _=>gu P⟩
def aN:Tk 16:=⟨⟩
instance:CoeFun (Tk 16) fun _=>TypeId->Option Bool:=⟨fun _=>kU P⟩
def ak:Tk 17:=⟨⟩
instance:CoeFun (Tk 17) fun _=>TypeId->AV->Hp->(AV->Bool)->Bool:=⟨fun _=>kJ P⟩
def aA:Tk 18:=⟨⟩
instance:CoeFun (Tk 18) fun _=>Hp->TypeId->AV->AV->(Hp->Bool)->Bool:=⟨fun _=>lU P⟩
def aK:Tk 19:=⟨⟩
instance:CoeFun (Tk 19) fun _=>AV->AV->(AV->Bool)->Bool:=⟨fun _=>fP P .add 3 true⟩
def bE:Tk 20:=⟨⟩
instance:CoeFun (Tk 20) fun _=>AV->AV->(AV->Bool)->Bool:=⟨fun _=>fP P .eql 3 true⟩
def ba:Tk 21:=⟨⟩
instance:CoeFun (Tk 21) fun _=>AV->AV->(AV->Bool)->Bool:=⟨fun _=>fP P .gtr 3 true⟩
def dg:Tk 22:=⟨⟩
instance:CoeFun (Tk 22) fun _=>AV->AV->(AV->Bool)->Bool:=⟨fun _=>fP P .leq 3 false⟩
def aJ:Tk 23:=⟨⟩
instance:CoeFun (Tk 23) fun _=>AV->AV->(AV->Bool)->Bool:=⟨fun _=>fP P .lss 3 false⟩
def cF:Tk 24:=⟨⟩
instance:CoeFun (Tk 24) fun _=>AV->AV->(AV->Bool)->Bool:=⟨fun _=>fP P .lss 3 true⟩
def bR:Tk 25:=⟨⟩
instance:CoeFun (Tk 25) fun _=>AV->AV->(AV->Bool)->Bool:=⟨fun _=>fP P .neq 45 true⟩
def df:Tk 26:=⟨⟩
instance:CoeFun (Tk 26) fun _=>AV->AV->(AV->Bool)->Bool:=⟨fun _=>fP P .sub 3 true⟩
end
end Go.S5
namespace Go.Ev
noncomputable section
section
variable {P : Program} {G : bg} {H : Hp} {k : AV -> Bool}
def lk:List (Nat×AV)->Nat->AV->AV
 | [],_,d=>d
 | (j,v)::l,i,d=>lk l i (if i=j then v else d)
theorem sW (e:E2) (i j:Nat) (v:AV) (hi:i<256) (hj:j<256):(E2.set e j v) i=if i=j then v else e i:=by
 by_cases h:i=j
 ·subst h;rw [if_pos rfl,cY _ _ _ hi]
 ·rw [if_neg h,cM _ _ _ _ hj hi h]
def yE:List (Nat×AV)->Bool
 | []=>true
 | (j,_)::l=>decide (j<256)&&yE l
theorem C6:∀(l:List (Nat×AV)) (t:E2) (i:Nat),i<256->(es t l) i=lk l i (t i)
 | [],t,i,_=>rfl
 | (j,v)::l,t,i,hi=>by
  refine (C6 l _ i hi).trans (congrArg (lk l i) ?_)
  by_cases hj:j<256
  ·rw [show Nat.blt j 256=true by rw [Nat.blt_eq];exact hj];exact sW _ _ _ _ hi hj
  ·rw [show Nat.blt j 256=false by rw [←Bool.not_eq_true,Nat.blt_eq];exact hj,if_neg (by omega)];rfl
theorem hU:∀(l:List (Nat×AV)) (t:E2) (i:Nat),i<256->yE l=true->(es t l) i=lk l i (t i):=fun l t i h _=>C6 l t i h
def gtB (b:Bool) (l:List (Nat×AV)) (i:Nat) (t:E2):AV:=Bool.casesOn b ((es t l) i) (lk l i (t i))
@[go_sem] theorem aFL (l:List (Nat×AV)) (i:Nat) (t:E2):gtB true l i t=lk l i (t i):=rfl
@[congr] theorem Tr {b b':Bool} {l:List (Nat×AV)} {i:Nat} {t:E2} (h:b=b'):gtB b l i t=gtB b' l i t:=by rw [h]
@[go_sem] theorem YG (l:List (Nat×AV)) (t:E2) (i:Nat):(es t l) i=gtB (decide (i<256)) l i t:=by
 by_cases h:i<256
 ·rw [decide_eq_true h];exact C6 l t i h
 ·rw [decide_eq_false h];rfl
theorem eg {l:List (Nat×AV)} {t:E2} {i:Nat} {v:AV} (h:Nat.blt i 256=true) (hv:lk l i (t i)=v):(es t l) i=v:=(C6 l t i (by rwa [Nat.blt_eq] at h)).trans hv
attribute [go_sem] Nat.reducePow Nat.reduceDiv Nat.reduceMod decide_true decide_false Nat.reduceAdd Nat.reduceMul Nat.reduceEqDiff Nat.reduceLT Nat.reduceLeDiff reduceIte
theorem bk {a b:Bool} (h:a=b):a=b:=h
theorem spl:(∀(p:Prop) [Decidable p],(decide p=true)=p)/\(∀(p:Prop) [Decidable p],(decide p=false)=¬p)/\(∀b:Bool,((!b)=true)=(b=false))/\(∀b:Bool,((!b)=false)=(b=true))/\(∀b:Bool,(¬(b=true))=(b=false))/\(∀b:Bool,(¬(b=false))=(b=true))/\(∀b:Bool,(!!b)=b):=
 ⟨fun p _=>by simp,fun p _=>by simp,fun b=>by simp,fun b=>by simp,fun b=>by simp,fun b=>by simp,fun b=>by simp⟩
@[go_sem] theorem aAI (i:Nat) (d:AV):lk [] i d=d:=rfl
@[go_sem] theorem YJ (j:Nat) (v:AV) (l:List (Nat×AV)) (i:Nat) (d:AV):lk ((j,v)::l) i d=lk l i (if i=j then v else d):=rfl
def nV:List AV->Nat->AV->AV
 | [],_,d=>d
 | a::_,0,_=>a
 | _::l,k+1,d=>nV l k d
attribute [go_sem] Nat.reduceSub
@[go_sem] theorem Z9:∀(l:List AV) (n:Nat) (r:List (Nat×AV)) (i:Nat) (d:AV),lk (ao n l r) i d=lk r i (if i<n then d else nV l (i-n) d)
 | [],n,r,i,d=>by show lk r i d=lk r i (if i<n then d else d);rw [ite_self]
 | a::l,n,r,i,d=>by
  refine (Z9 l (n+1) r i _).trans (congrArg (lk r i) ?_)
  by_cases h:i<n
  ·rw [if_pos h,if_pos (by omega),if_neg (by omega)]
  ·rw [if_neg h]
   by_cases e:i=n
   ·subst e;rw [if_pos (by omega),if_pos rfl,Nat.sub_self];rfl
   ·rw [if_neg (by omega),if_neg e,show i-n=(i-(n+1))+1 by omega];rfl
@[go_sem] theorem aFO (k:Nat) (d:AV):nV [] k d=d:=rfl
@[go_sem] theorem aFM (a:AV) (l:List AV) (d:AV):nV (a::l) 0 d=a:=rfl
@[go_sem] theorem aFT (a:AV) (l:List AV) (k:Nat) (d:AV):nV (a::l) (k+1) d=nV l k d:=rfl
@[congr] theorem WO {l:List AV} {k:Nat} {d d':AV} (h:d=d'):nV l k d=nV l k d':=by rw [h]
@[congr] theorem Uc {l:List (Nat×AV)} {i:Nat} {d d':AV} (h:d=d'):lk l i d=lk l i d':=by rw [h]
def Hp.push (H:Hp) (x:Blk):Hp:=⟨H.t.set H.nx (some x),H.nx+1⟩
def Hp.setb (H:Hp) (b:Nat) (x:Option Blk):Hp:=⟨H.t.set b x,H.nx⟩
@[go_sem] theorem am (H:Hp) (x:Blk):(H.push x).nx=H.nx+1:=rfl
@[go_sem] theorem au (H:Hp) (b:Nat) (x:Option Blk):(H.setb b x).nx=H.nx:=rfl
@[go_sem] theorem HO:Hp.empty.nx=0:=rfl
@[go_sem] theorem af (H:Hp) (x:Blk) (b:Nat):(H.push x).get b=if b=H.nx then some x else H.get b:=by
 unfold Hp.push
 by_cases h:b=H.nx
 ·subst h;rw [if_pos rfl,dJ aW]
 ·rw [if_neg h,cu (nx':=H.nx) aW h]
@[go_sem] theorem V (H:Hp) (x:Option Blk) (b c:Nat):(H.setb b x).get c=if c=b then x else H.get c:=by
 unfold Hp.setb
 by_cases h:c=b
 ·subst h;rw [if_pos rfl,dJ aW]
 ·rw [if_neg h,cu (nx':=H.nx) aW h]
@[go_sem ↓] theorem aI (H:Hp) (x:Blk) (k:Nat->Hp->Bool):H.new x k=k H.nx (H.push x):=sw H x k
@[go_sem ↓] theorem cJ (H:Hp) (b:Nat) (x:Option Blk) (k:Hp->Bool):H.put b x k=k (H.setb b x):=jQ H b x k
@[go_sem ↓] theorem dM (H:Hp) (k:Nat->Hp->Bool):H.reserve k=k H.nx ⟨H.t,H.nx+1⟩:=jV H k
def xS (o:Option AV) (k:AV->Bool):Bool:=match o with | some v=>k v | none=>false
def oD (o:Option (List AV)) (k:AV->Bool):Bool:=match o with | some v=>k (.agg v)| none=>false
def m0 (a:Option Bool) (n:Nat) (cs:List AV) (off:Nat) (k:AV->Bool):Bool:=match a with
 | some true=>oD (ew n (cs.drop off)) k
 | some false=>xS cs[off]? k
 | none=>false
theorem y6 (t:TypeId) (cs:List AV) (off:Nat):qf P t cs off k=m0 (kU P t) (P.cellsOf t) cs off k:=by
 unfold qf m0
 cases kU P t with
 | none=>rfl
 | some b=>cases b with
  | true=>dsimp only;unfold oD;cases ew (P.cellsOf t) (cs.drop off) with
   | none=>rfl
   | some v=>exact bH _ _
  | false=>rfl
def tL (P:Program) (t:TypeId) (off:Nat) (k:AV->Bool) (o:Option Blk):Bool:=match o with
 | some (.cells _ _ cs)=>m0 (kU P t) (P.cellsOf t) cs off k
 | _=>false
@[go_sem ↓] theorem iE (t:TypeId) (b off:Nat):mw P G H t (.ptr b off) k=tL P t off k (H.get b):=by
 unfold mw tL
 dsimp only
 cases H.get b with
 | none=>rfl
 | some x=>cases x<;>first | rfl | exact y6 _ _ _
@[go_sem ↓] theorem nk (t:TypeId) (cs:List D) (off:Nat):mw P G H t (.dat (.ptr cs off)) k=m0 (kU P t) (P.cellsOf t) (aq cs) off k:=y6 _ _ _
@[go_sem ↓] theorem fy (t:TypeId) (off:Nat) (el:Option TypeId) (ro:Bool) (cs:List AV):tL P t off k (some (.cells el ro cs))=m0 (kU P t) (P.cellsOf t) cs off k:=rfl
@[go_sem ↓] theorem jc (n:Nat) (cs:List AV) (off:Nat):m0 (some true) n cs off k=oD (ew n (cs.drop off)) k:=rfl
@[go_sem ↓] theorem pU (n:Nat) (cs:List AV) (off:Nat):m0 (some false) n cs off k=xS cs[off]? k:=rfl
@[go_sem ↓] theorem qt (v:AV):xS (some v) k=k v:=rfl
@[go_sem ↓] theorem fX (v:List AV):oD (some v) k=k (.agg v):=rfl
@[congr] theorem Nh {t:TypeId} {a a':AV} (h:a=a'):mw P G H t a k=mw P G H t a' k:=by rw [h]
@[congr] theorem Nw {t:TypeId} {off:Nat} {o o':Option Blk} (h:o=o'):tL P t off k o=tL P t off k o':=by rw [h]
@[congr] theorem Of {a a':Option Bool} {n n':Nat} {cs:List AV} {off off':Nat} (h:a=a') (hn:n=n') (ho:off=off'):m0 a n cs off k=m0 a' n' cs off' k:=by rw [h,hn,ho]
@[congr] theorem RH {o o':Option AV} (h:o=o'):xS o k=xS o' k:=by rw [h]
@[congr] theorem N8 {o o':Option (List AV)} (h:o=o'):oD o k=oD o' k:=by rw [h]
theorem dP:∀(n:Nat) (l:List AV),n<=l.length->ew n l=some (l.take n)
 | 0,l,_=>rfl
 | n+1,[],h=>by simp at h
 | n+1,x::l,h=>by
  show (match ew n l with | some ys=>some (x::ys)| none=>none)=_
  rw [dP n l (by simpa using h)]
  rfl
@[go_sem] theorem YM (l:List AV):ew 0 l=some []:=rfl
@[go_sem] theorem Yr (n:Nat) (x:AV) (l:List AV):ew (n+1) (x::l)=(ew n l).map (x::·):=by
 show (match ew n l with | some ys=>some (x::ys)| none=>none)=_
 cases ew n l<;>rfl
def oT (a:Option Bool) (n:Nat) (H:Hp) (b off:Nat) (vs:List AV) (k:Hp->Bool) (o:Option Blk):Bool:=match o with
 | some (.cells el false cs)=>match Nat.beq vs.length n,a,vs.all one,fg cs off vs with
  | true,some _,true,some cs=>k (H.setb b (some (.cells el false cs)))
  | _,_,_,_=>false
 | _=>false
def Ah (H:Hp) (b:Nat) (el:Option TypeId) (k:Hp->Bool) (g:Bool) (o:Option (List AV)):Bool:=match g,o with
 | true,some cs=>k (H.setb b (some (.cells el false cs)))
 | _,_=>false
@[go_sem ↓] theorem jv (t:TypeId) (b off:Nat) (v:AV) (k:Hp->Bool):lU P H t (.ptr b off) v k=oT (kU P t) (P.cellsOf t) H b off v.cells k (H.get b):=by
 unfold lU oT
 dsimp only
 cases H.get b with
 | none=>rfl
 | some x=>cases x with
  | cells el ro cs=>cases ro with
   | true=>rfl
   | false=>
    dsimp only
    cases Nat.beq v.cells.length (P.cellsOf t)<;>cases kU P t<;>cases v.cells.all one<;>cases fg cs off v.cells<;>first | rfl | (dsimp only;rw [bH,jQ];rfl)
  | _=>rfl
@[go_sem ↓] theorem gr (a:Bool) (n off b:Nat) (vs:List AV) (el:Option TypeId) (cs:List AV) (k:Hp->Bool):
  oT (some a) n H b off vs k (some (.cells el false cs))=Ah H b el k (Nat.beq vs.length n&&vs.all one) (fg cs off vs):=by
 unfold oT Ah
 dsimp only
 cases Nat.beq vs.length n<;>cases vs.all one<;>cases fg cs off vs<;>rfl
@[go_sem ↓] theorem qE (b:Nat) (el:Option TypeId) (cs:List AV) (k:Hp->Bool):Ah H b el k true (some cs)=k (H.setb b (some (.cells el false cs))):=rfl
@[congr] theorem KW {t:TypeId} {a a' v v':AV} {k:Hp->Bool} (h:a=a') (hv:v=v'):lU P H t a v k=lU P H t a' v' k:=by rw [h,hv]
@[congr] theorem LC {a a':Option Bool} {n n' b off off':Nat} {vs vs':List AV} {k:Hp->Bool} {o o':Option Blk} (ha:a=a') (hn:n=n') (hf:off=off') (hv:vs=vs') (h:o=o'):
  oT a n H b off vs k o=oT a' n' H b off' vs' k o':=by rw [ha,hn,hf,hv,h]
@[congr] theorem RN {b:Nat} {el:Option TypeId} {k:Hp->Bool} {g g':Bool} {o o':Option (List AV)} (hg:g=g') (h:o=o'):Ah H b el k g o=Ah H b el k g' o':=by rw [hg,h]
@[go_sem] theorem bJ (cs:List AV):AV.cells (.agg cs)=cs:=rfl
@[go_sem] theorem TD (i:IntKind) (n:Int):AV.cells (.int i n)=[.int i n]:=rfl
@[go_sem] theorem Qg (b:Bool):AV.cells (.bool b)=[.bool b]:=rfl
@[go_sem] theorem TG (s:List Nat):AV.cells (.str s)=[.str s]:=rfl
@[go_sem] theorem Rp:AV.cells .nils=[.nils]:=rfl
@[go_sem] theorem Tw (d:D):AV.cells (.dat d)=[.dat d]:=rfl
@[go_sem] theorem VS (b o n z:Nat) (c:Option Nat):AV.cells (.sl b o n z c)=[.sl b o n z c]:=rfl
@[go_sem] theorem Ty (b o:Nat):AV.cells (.ptr b o)=[.ptr b o]:=rfl
@[go_sem] theorem TH (b:Nat):AV.cells (.map b)=[.map b]:=rfl
@[go_sem] theorem Uk (f:FuncId) (a c:List AV):AV.cells (.fn f a c)=[.fn f a c]:=rfl
@[go_sem] theorem ym (i:IntKind) (n:Int):one (.int i n)=true:=rfl
@[go_sem] theorem Vt (b:Bool):one (.bool b)=true:=rfl
@[go_sem] theorem YP (s:List Nat):one (.str s)=true:=rfl
@[go_sem] theorem AH:one .nils=true:=rfl
@[go_sem] theorem YE (d:D):one (.dat d)=true:=rfl
@[go_sem] theorem aBX (b o n z:Nat) (c:Option Nat):one (.sl b o n z c)=true:=rfl
@[go_sem] theorem Yx (b o:Nat):one (.ptr b o)=true:=rfl
@[go_sem] theorem YL (b:Nat):one (.map b)=true:=rfl
@[go_sem] theorem Z2 (f:FuncId) (a c:List AV):one (.fn f a c)=true:=rfl
def vX:List AV->List AV->Option (List AV)
 | cs,[]=>some cs
 | [],_::_=>none
 | _::cs,v::vs=>(vX cs vs).map (v::·)
theorem vj:∀(cs vs:List AV),fg cs 0 vs=vX cs vs
 | cs,[]=>by cases cs<;>rfl
 | [],_::_=>rfl
 | _::cs,v::vs=>by
  show (match fg cs 0 vs with | some r=>some (v::r)| none=>none)=_
  rw [vj cs vs]
  show _=(vX cs vs).map (v::·)
  cases vX cs vs<;>rfl
@[go_sem] theorem yL (cs vs:List AV):fg cs 0 vs=vX cs vs:=vj cs vs
@[go_sem] theorem CY (c:AV) (cs:List AV) (n:Nat) (vs:List AV):fg (c::cs) (n+1) vs=(fg cs n vs).map (c::·):=by
 show (match fg cs n vs with | some r=>some (c::r)| none=>none)=_
 cases fg cs n vs<;>rfl
@[go_sem] theorem GV (cs:List AV):vX cs []=some cs:=by cases cs<;>rfl
@[go_sem] theorem DX (c:AV) (cs:List AV) (v:AV) (vs:List AV):vX (c::cs) (v::vs)=(vX cs vs).map (v::·):=rfl
@[go_sem ↓] theorem bL (b off n:Nat):U (.ptr b off) n k=k (.ptr b (off+n)):=bA (off+n) fun o=>k (.ptr b o)
@[go_sem ↓] theorem jZ (cs:List D) (off n:Nat):U (.dat (.ptr cs off)) n k=k (.dat (.ptr cs (off+n))):=bA (off+n) fun o=>k (.dat (.ptr cs o))
@[congr] theorem Jd {a a':AV} {n:Nat} (h:a=a'):U a n k=U a' n k:=by rw [h]
@[go_sem] theorem X' (a b:Int):ilt a b=decide (a<b):=jm a b
@[go_sem] theorem vG (a b:Int):ieq a b=decide (a=b):=by rw [o5,cg];simp
@[go_sem ↓] theorem cB (t:TypeId) (nc:Bool) (i:IntKind) (a b:Int):fP P .lss t nc (.int i a) (.int i b) k=k (.bool (decide (a<b))):=by
 simp [fP,ia,jN,cW,jm]
@[go_sem ↓] theorem C3 (t:TypeId) (nc:Bool) (i:IntKind) (a b:Int):fP P .leq t nc (.int i a) (.int i b) k=k (.bool (decide (a<=b))):=by
 simp [fP,ia,jN,cW,jm,←Int.not_lt]
@[go_sem ↓] theorem qX (t:TypeId) (nc:Bool) (i:IntKind) (a b:Int):fP P .gtr t nc (.int i a) (.int i b) k=k (.bool (decide (b<a))):=by
 simp [fP,ia,jN,cW,jm]
@[go_sem ↓] theorem Kz (t:TypeId) (nc:Bool) (i:IntKind) (a b:Int):fP P .geq t nc (.int i a) (.int i b) k=k (.bool (decide (b<=a))):=by
 simp [fP,ia,jN,cW,jm,←Int.not_lt]
@[go_sem ↓] theorem ij (t:TypeId) (nc:Bool) (i:IntKind) (a b:Int):fP P .eql t nc (.int i a) (.int i b) k=k (.bool (decide (a=b))):=by
 simp [fP,ia,jN,cW,vG]
@[go_sem ↓] theorem mT (t:TypeId) (nc:Bool) (i:IntKind) (a b:Int):fP P .neq t nc (.int i a) (.int i b) k=k (.bool (!decide (a=b))):=by
 simp [fP,ia,jN,cW,vG]
theorem om {n:Int} (h: -9223372036854775808<=n/\n<=9223372036854775807):wrp .i64 n=n:=by
 rw [oM]
 exact IntWalk.i64_in n h
@[go_sem ↓] theorem kn (t:TypeId) (nc:Bool) (a b:Int) (h: -9223372036854775808<=a+b/\a+b<=9223372036854775807):fP P .add t nc (O a) (O b) k=k (O (a+b)):=by
 simp [fP,ia,jN,cA,om h]
@[go_sem ↓] theorem jH (t:TypeId) (nc:Bool) (a b:Int) (h: -9223372036854775808<=a - b/\a - b<=9223372036854775807):fP P .sub t nc (O a) (O b) k=k (O (a - b)):=by
 simp [fP,ia,jN,cA,om h]
@[congr] theorem Th {op:BinOp} {t:TypeId} {nc:Bool} {a a' b b':AV} (ha:a=a') (hb:b=b'):fP P op t nc a b k=fP P op t nc a' b' k:=by rw [ha,hb]
@[go_sem ↓] theorem Ib (b:Bool):unK .not (.bool b) k=k (.bool (!b)):=cW (!b) fun b=>k (.bool b)
@[congr] theorem TJ {op:UnOp} {a a':AV} (h:a=a'):unK op a k=unK op a' k:=by rw [h]
@[go_sem ↓] theorem HC (a b:AV):aT (.bool true) a b k=k a:=rfl
@[go_sem ↓] theorem Gl (a b:AV):aT (.bool false) a b k=k b:=rfl
@[congr] theorem Ow {c c' a a' b b':AV} (h:c=c') (ha:a=a') (hb:b=b'):aT c a b k=aT c' a' b' k:=by rw [h,ha,hb]
@[go_sem ↓] theorem dH (a b:Unit->Bool):aE (.bool true) a b=a ():=rfl
@[go_sem ↓] theorem eV (a b:Unit->Bool):aE (.bool false) a b=b ():=rfl
@[congr] theorem Nd {c c':AV} {a b:Unit->Bool} (h:c=c'):aE c a b=aE c' a b:=by rw [h]
@[go_sem] theorem qQ (b:Bool):gD true (.bool b)=b:=by cases b<;>rfl
@[go_sem] theorem WK (b:Bool):gD false (.bool b)= !b:=by cases b<;>rfl
@[go_sem ↓] theorem YC (F:AV->Hp->Bool) (run:(AV->Hp->Bool)->Bool):lh true F run H=run F:=rfl
@[go_sem ↓] theorem Yu (F:AV->Hp->Bool) (run:(AV->Hp->Bool)->Bool):lh false F run H=F (.tup []) H:=rfl
@[congr] theorem Mi {w w':Bool} {F:AV->Hp->Bool} {run:(AV->Hp->Bool)->Bool} (h:w=w'):lh w F run H=lh w' F run H:=by rw [h]
@[go_sem ↓] theorem zy (F:DJ) (run:DJ->Bool) (L:fR) (Q:fT):jC true F run H L Q=run F:=rfl
@[go_sem ↓] theorem zn (F:DJ) (run:DJ->Bool) (L:fR) (Q:fT):jC false F run H L Q=F (.tup []) H L Q:=rfl
@[congr] theorem JD {w w':Bool} {F:DJ} {run:DJ->Bool} {L:fR} {Q:fT} (h:w=w'):jC w F run H L Q=jC w' F run H L Q:=by rw [h]
@[go_sem ↓ high] theorem aFU (v:AV) (F:AV->Hp->Bool) (r:(AV->Hp->Bool)->Bool) (H:Hp):gF v F r H=lh (gD false v) F r H:=cg.mpr de
@[go_sem ↓ high] theorem aFP (v:AV) (F:AV->Hp->Bool) (r:(AV->Hp->Bool)->Bool) (H:Hp):gT v F r H=lh (gD true v) F r H:=cg.mpr de
@[go_sem ↓ high] theorem aFK (v:AV) (F:DJ) (r:DJ->Bool) (H:Hp) (L:fR) (Q:fT):gDF v F r H L Q=jC (gD false v) F r H L Q:=cg.mpr de
@[go_sem ↓ high] theorem CP (v:AV) (F:DJ) (r:DJ->Bool) (H:Hp) (L:fR) (Q:fT):gDT v F r H L Q=jC (gD true v) F r H L Q:=cg.mpr de
theorem ab {b:Bool} {A B:Unit->Bool} (h1:b=true->A ()=true) (h2:b=false->B ()=true):aE (.bool b) A B=true:=by cases b<;>first | exact h1 rfl | exact h2 rfl
theorem aa {b:Bool} {F:AV->Hp->Bool} {run:(AV->Hp->Bool)->Bool} (h1:b=true->run F=true) (h2:b=false->F (.tup []) H=true):lh b F run H=true:=by cases b<;>first | exact h1 rfl | exact h2 rfl
theorem Z {b:Bool} {F:DJ} {run:DJ->Bool} {L:fR} {Q:fT} (h1:b=true->run F=true) (h2:b=false->F (.tup []) H L Q=true):jC b F run H L Q=true:=by cases b<;>first | exact h1 rfl | exact h2 rfl
@[go_sem ↓] theorem eU (y:Unit->Bool) (n:AEx->Bool):aY .normal y n=y ():=rfl
@[go_sem ↓] theorem qN (i:Nat) (y:Unit->Bool) (n:AEx->Bool):aY (.exit i) y n=n (.exit i):=rfl
@[go_sem ↓] theorem Sg (y:Unit->Bool) (n:AEx->Bool):aY .ret y n=n .ret:=rfl
@[go_sem ↓] theorem G6 (i:Nat) (y:Unit->Bool) (n:AEx->Bool):bz i .normal y n=n .normal:=rfl
@[go_sem ↓] theorem UT (i:Nat) (y:Unit->Bool) (n:AEx->Bool):bz i .ret y n=n .ret:=rfl
@[go_sem ↓] theorem pj (i:Nat) (y:Unit->Bool) (n:AEx->Bool):bz i (.exit i) y n=y ():=by
 show (match Nat.beq i i with | true=>y ()| false=>n (.exit i))=_
 rw [bW]
theorem EV (i j:Nat) (y:Unit->Bool) (n:AEx->Bool) (h:i≠j):bz j (.exit i) y n=n (.exit i):=by
 show (match Nat.beq i j with | true=>y ()| false=>n (.exit i))=_
 rw [show Nat.beq i j=false from by rw [←fW,i7];exact h]
@[go_sem ↓] theorem Vh (i j:Nat) (y:Unit->Bool) (n:AEx->Bool):bz j (.exit i) y n=aE (.bool (decide (i=j))) y fun _=>n (.exit i):=by
 by_cases h:i=j
 ·subst h;rw [pj,decide_eq_true rfl];rfl
 ·rw [EV i j y n h,decide_eq_false h];rfl
@[congr] theorem FE {x x':AEx} {y:Unit->Bool} {n:AEx->Bool} (h:x=x'):aY x y n=aY x' y n:=by rw [h]
@[congr] theorem Lm {i:Nat} {x x':AEx} {y:Unit->Bool} {n:AEx->Bool} (h:x=x'):bz i x y n=bz i x' y n:=by rw [h]
@[congr] theorem Uy {g:FuncId} {a a':List AV} {k:AV->Hp->Bool} (h:a=a'):cl P G g a H k=cl P G g a' H k:=by rw [h]
@[congr] theorem Ts {n:Nat} {f f':AV} {a a':List AV} {k:AV->Hp->Bool} (hf:f=f') (h:a=a'):clv P G n f a H k=clv P G n f' a' H k:=by rw [hf,h]
@[congr] theorem Ss {nt:Nat} {c:Code} {ro:Option Nat} {e:En} {k:AEx->En->Hp->Bool}:oE P G nt c ro e H k=oE P G nt c ro e H k:=rfl
@[congr] theorem VY {m nt:Nat} {c:Code} {ro:Option Nat} {e:En} {k:AEx->En->Hp->Bool}:cd P G m nt c ro e H k=cd P G m nt c ro e H k:=rfl
@[congr] theorem Oj {Inv:Nat->En->Hp->Prop} {m:Nat} {e:En}:uS Inv m e H=uS Inv m e H:=rfl
@[congr] theorem Jb {fn:Func} {i:Evs} {k:fk->Hp->Bool} {x x':AEx} {e:En} (h:x=x'):lr P G fn i k x e H=lr P G fn i k x' e H:=by rw [h]
end
section
variable {P : Program} {G : bg} {H : Hp} {k : AV -> Bool} {α : Type} {sz : Nat} {enc : α -> List D} {xs : List α} {d : D}
def cC (enc:α->List D) (xs:List α):List D:=(xs.map enc).flatten
def Sl (sz:Nat) (enc:α->List D) (xs:List α) (d:D):Prop:=(d= .nils/\xs=[])∨d= .sl sz (cC enc xs) xs.length
theorem fx:∀(a b:List D),aq (a++b)=aq a++aq b
 | [],b=>rfl
 | x::a,b=>by simp [aq,fx a b]
theorem fB (hs:∀x,(enc x).length=sz):∀(xs:List α),(cC enc xs).length=xs.length * sz
 | []=>by simp [cC]
 | x::xs=>by
  have:=fB hs xs
  simp only [cC,kG,List.flatten_cons,gZ,dR] at this⊢
  rw [this,hs x,fV];omega
theorem gt (hs:∀x,(enc x).length=sz):∀(xs:List α) (n j:Nat) (hn:n<xs.length),j<sz->(aq (cC enc xs))[n * sz+j]? =(aq (enc xs[n]))[j]?
 | x::xs,0,j,hn,hj=>by
  show (aq (enc x++cC enc xs))[0 * sz+j]? =_
  rw [fx,ot (by rw [cL,hs x];omega)]
  simp
 | x::xs,n+1,j,hn,hj=>by
  show (aq (enc x++cC enc xs))[(n+1) * sz+j]? =_
  rw [fx,kj (by rw [cL,hs x,fV];omega),cL,hs x]
  have:=gt hs xs n j (by simpa using hn) hj
  rw [show (n+1) * sz+j - sz=n * sz+j from by rw [fV];omega,this]
  simp
theorem bv (hs:∀x,(enc x).length=sz) {n:Nat} (hn:n<xs.length):ew sz ((aq (cC enc xs)).drop (n * sz))=some (aq (enc xs[n])):=by
 have hl:(aq (cC enc xs)).length=xs.length * sz:=by rw [cL,fB hs]
 have hm:(n+1) * sz<=xs.length * sz:=lu _ hn
 rw [fV] at hm
 rw [dP _ _ (by simp [hl];omega)]
 congr 1
 apply List.ext_getElem?
 intro j
 by_cases hj:j<sz
 ·rw [List.getElem?_take_of_lt hj,kB,gt hs xs n j hn hj]
 ·rw [List.getElem?_take_eq_none (by omega),List.getElem?_eq_none (by rw [cL,hs];omega)]
theorem bG (hs:∀x,(enc x).length=sz) {n:Nat} (hn:n<xs.length) (hp:0<sz):(aq (cC enc xs))[n * sz]? =(aq (enc xs[n]))[0]? :=by
 have:=gt hs xs n 0 hn hp
 simpa using this
theorem aF (h:Sl sz enc xs d) {t e:TypeId} (hu:P.underlying t=some (.slice e)):kJ P t (ofD d) H k=k (O (xs.length:Int)):=by
 unfold kJ
 rw [hu]
 rcases h with⟨rfl,rfl⟩| rfl<;>rfl
theorem Sl.pos (h:Sl sz enc xs d) {n:Nat} (hn:n<xs.length):d= .sl sz (cC enc xs) xs.length:=by
 rcases h with⟨rfl,rfl⟩| rfl
 ·simp at hn
 ·rfl
theorem bC (h:Sl sz enc xs d) {t e:TypeId} (hu:P.underlying t=some (.slice e)) (hi:(P.info? e).isSome=true) (hc:P.cellsOf e=sz) {n:Nat} (hn:n<xs.length) {i:IntKind}:
  gu P t (ofD d) (.int i (n:Int)) k=k (.dat (.ptr (cC enc xs) (n * sz))):=by
 rw [h.pos hn]
 unfold gu
 show (match P.underlying t,(AV.dat (.sl sz (cC enc xs) xs.length)) with
  | some (.array len e),.ptr b off=>_
  | some (.array len e),.gptr b off=>_
  | some (.slice e),.sl b off len z _=>_
  | some (.slice e),.dat (.sl sz cs len)=>match Nat.blt n len,(P.info? e).isSome,Nat.beq sz (P.cellsOf e) with
   | true,true,true=>ef (n * sz) fun o=>k (.dat (.ptr cs o))
   | _,_,_=>false
  | _,_=>false)=_
 rw [hu]
 dsimp only
 rw [hi,hc,bW,show Nat.blt n xs.length=true from by simpa [cT] using hn]
 exact bA (n * sz) fun o=>k (.dat (.ptr (cC enc xs) o))
@[congr] theorem Pe {t:TypeId} {a a':AV} (h:a=a'):kJ P t a H k=kJ P t a' H k:=by rw [h]
@[congr] theorem HI {t:TypeId} {a a' i i':AV} (h:a=a') (hi:i=i'):gu P t a i k=gu P t a' i' k:=by rw [h,hi]
@[go_sem] theorem sd:aq []=[]:=rfl
@[go_sem] theorem pL (d:D) (ds:List D):aq (d::ds)=ofD d::aq ds:=rfl
@[go_sem] theorem uJ (i:IntKind) (n:Int):ofD (.int i n)= .int i n:=rfl
@[go_sem] theorem VP (b:Bool):ofD (.bool b)= .bool b:=rfl
@[go_sem] theorem YT (s:List Nat):ofD (.str s)= .str s:=rfl
@[go_sem] theorem Yy (l:List D):ofD (.agg l)= .agg (aq l):=rfl
@[go_sem] theorem Yv (l:List D):ofD (.tup l)= .tup (aq l):=rfl
@[go_sem] theorem YH (l:List D) (o:Nat):ofD (.ptr l o)= .dat (.ptr l o):=rfl
theorem iy {Q:D->Prop} {v:AV} {d:D} {I:List Nat} (hq:Q d) (hr:Rd H v d I):mG Q (.ret v) H=true:=by
 unfold mG
 exact @decide_eq_true _ (Classical.propDecidable _) ⟨v,d,I,rfl,hq,hr⟩
theorem ax {Q:D->Prop} (d:D) (hq:Q d):mG Q (.ret (ofD d)) H=true:=iy hq (.fro d)
theorem aH {f:FuncId} {ds:List D} {Q:D->Prop} (hG:mX G) (h:iZ P G ⟨cd P G 200,ff P G⟩ f (aq ds) Hp.empty (mG Q)=true):CQ P G f ds Q:= .run hG (vB 200 h)
attribute [go_sem] eq_self gh eE rV nS fi List.drop_succ_cons nC Option.map_none dL i9 fq eP ko ca kM mh nq kb dR jG Bool.and_false Bool.false_and
@[go_sem] theorem Tu (n:Nat):Nat.beq n n=true:=bW n
end
end
end Go.Ev
namespace Go.S5
open Go.Ev Go.Proofs
@[go_sem] theorem ag3:aN 3=some false:=by kernel_rfl
@[go_sem] theorem ce3:P.cellsOf 3=1:=by kernel_rfl
@[go_sem] theorem in3:(P.info? 3).isSome=true:=by kernel_rfl
@[go_sem] theorem ag4:aN 4=some false:=by kernel_rfl
@[go_sem] theorem ce4:P.cellsOf 4=1:=by kernel_rfl
@[go_sem] theorem ag9:aN 9=some false:=by kernel_rfl
@[go_sem] theorem ce9:P.cellsOf 9=1:=by kernel_rfl
@[go_sem] theorem in9:(P.info? 9).isSome=true:=by kernel_rfl
@[go_sem] theorem un9:P.underlying 9=some .string:=by kernel_rfl
@[go_sem] theorem lC:P.underlying 22=some (.slice 136):=by kernel_rfl
@[go_sem] theorem mH:P.underlying 23=some (.slice 78):=by kernel_rfl
@[go_sem] theorem ru:P.underlying 24=some (.slice 138):=by kernel_rfl
@[go_sem] theorem Y3:aN 28=some true:=by kernel_rfl
@[go_sem] theorem um:P.cellsOf 28=2:=by kernel_rfl
@[go_sem] theorem D9:(P.info? 28).isSome=true:=by kernel_rfl
@[go_sem] theorem O7:aN 29=some false:=by kernel_rfl
@[go_sem] theorem Vb:P.cellsOf 29=1:=by kernel_rfl
@[go_sem] theorem jX:P.underlying 29=some (.slice 201):=by kernel_rfl
@[go_sem] theorem QG:aN 31=some true:=by kernel_rfl
@[go_sem] theorem Gv:P.cellsOf 31=12:=by kernel_rfl
@[go_sem] theorem jE:P.underlying 34=some (.slice 96):=by kernel_rfl
@[go_sem] theorem jR:P.underlying 35=some (.slice 94):=by kernel_rfl
@[go_sem] theorem LK:aN 36=some false:=by kernel_rfl
@[go_sem] theorem EP:P.underlying 36=some (.slice 50):=by kernel_rfl
@[go_sem] theorem aDJ:aN 37=some false:=by kernel_rfl
@[go_sem] theorem dA:P.underlying 37=some (.slice 9):=by kernel_rfl
@[go_sem] theorem wJ:bS P 37=some 9:=by kernel_rfl
@[go_sem] theorem EH:aN 38=some false:=by kernel_rfl
@[go_sem] theorem ez:P.underlying 38=some (.slice 40):=by kernel_rfl
@[go_sem] theorem KG:aN 40=some true:=by kernel_rfl
@[go_sem] theorem jS:P.cellsOf 40=8:=by kernel_rfl
@[go_sem] theorem m9:(P.info? 40).isSome=true:=by kernel_rfl
@[go_sem] theorem ZS:aN 42=some true:=by kernel_rfl
@[go_sem] theorem XP:P.cellsOf 42=31:=by kernel_rfl
@[go_sem] theorem Ak:aN 45=some false:=by kernel_rfl
@[go_sem] theorem Lp:P.cellsOf 45=1:=by kernel_rfl
@[go_sem] theorem B4:aN 51=some false:=by kernel_rfl
@[go_sem] theorem LJ:P.cellsOf 51=1:=by kernel_rfl
@[go_sem] theorem UM:(P.info? 51).isSome=true:=by kernel_rfl
@[go_sem] theorem kQ:P.underlying 51=some (.slice 3):=by kernel_rfl
@[go_sem] theorem IR:bS P 51=some 3:=by kernel_rfl
@[go_sem] theorem XY:aN 71=some false:=by kernel_rfl
@[go_sem] theorem zt:P.underlying 71=some (.slice 160):=by kernel_rfl
@[go_sem] theorem aDI:aN 72=some false:=by kernel_rfl
@[go_sem] theorem Ff:P.underlying 72=some (.slice 163):=by kernel_rfl
@[go_sem] theorem se:aN 74=some true:=by kernel_rfl
@[go_sem] theorem ug:P.cellsOf 74=14:=by kernel_rfl
@[go_sem] theorem oF:P.underlying 76=some (.slice 28):=by kernel_rfl
@[go_sem] theorem DT:P.cellsOf 78=2:=by kernel_rfl
@[go_sem] theorem Ks:(P.info? 78).isSome=true:=by kernel_rfl
@[go_sem] theorem qR:P.cellsOf 94=3:=by kernel_rfl
@[go_sem] theorem uQ:(P.info? 94).isSome=true:=by kernel_rfl
@[go_sem] theorem rE:P.cellsOf 96=3:=by kernel_rfl
@[go_sem] theorem ur:(P.info? 96).isSome=true:=by kernel_rfl
@[go_sem] theorem xp:P.cellsOf 136=2:=by kernel_rfl
@[go_sem] theorem Du:(P.info? 136).isSome=true:=by kernel_rfl
@[go_sem] theorem DP:P.cellsOf 138=5:=by kernel_rfl
@[go_sem] theorem NU:(P.info? 138).isSome=true:=by kernel_rfl
@[go_sem] theorem Xx:P.underlying 155=some (.map 9 4):=by kernel_rfl
@[go_sem] theorem Hn:aN 201=some true:=by kernel_rfl
@[go_sem] theorem kZ:P.cellsOf 201=3:=by kernel_rfl
@[go_sem] theorem py:(P.info? 201).isSome=true:=by kernel_rfl
@[go_sem] theorem NZ:P.underlying 263=some (.array 3 3):=by kernel_rfl
@[go_sem] theorem UO:P.underlying 278=some (.array 2 3):=by kernel_rfl
theorem FS:((List.range 511).all fun t=>(P.info? t).isSome)=true:=by kernel_rfl
@[go_sem] theorem aCP (t:Nat) (h:t<511):(P.info? t).isSome=true:=List.all_eq_true.1 FS t (List.mem_range.2 h)
@[go_sem] theorem Y6:P.underlying 3=some (.int .i64)/\P.underlying 4=some .bool/\aN 5=some false/\P.cellsOf 5=1/\P.underlying 5=some (.int .u8)/\aN 22=some false/\P.cellsOf 22=1/\bS P 22=some 136/\P.bytesOf 136=24/\aN 23=some false/\P.cellsOf 23=1/\bS P 23=some 78/\P.bytesOf 78=48/\aN 24=some false/\P.cellsOf 24=1/\bS P 24=some 138/\P.bytesOf 138=40/\aN 26=some true/\P.cellsOf 26=3/\bS P 29=some 201/\P.bytesOf 201=24/\aN 33=some true/\P.cellsOf 33=3/\aN 34=some false/\P.cellsOf 34=1/\bS P 34=some 96/\P.bytesOf 96=24/\aN 35=some false/\P.cellsOf 35=1/\bS P 35=some 94/\P.bytesOf 94=32/\P.cellsOf 36=1/\bS P 36=some 50/\P.bytesOf 50=40/\P.cellsOf 37=1/\P.bytesOf 9=16/\P.cellsOf 38=1/\bS P 38=some 40/\P.bytesOf 40=96/\P.underlying 45=some (.int .i64)/\aN 48=some true/\P.cellsOf 48=2/\aN 50=some true/\P.cellsOf 50=5/\P.bytesOf 3=8/\P.cellsOf 71=1/\bS P 71=some 160/\P.bytesOf 160=24/\P.cellsOf 72=1/\bS P 72=some 163/\P.bytesOf 163=24/\aN 76=some false/\P.cellsOf 76=1/\bS P 76=some 28/\P.bytesOf 28=16/\aN 78=some true/\aN 94=some true/\aN 96=some true/\aN 136=some true/\aN 138=some true/\aN 155=some false/\P.cellsOf 155=1/\aN 158=some false/\P.cellsOf 158=1/\P.underlying 158=some (.map 3 4)/\aN 160=some true/\P.cellsOf 160=3/\aN 163=some true/\P.cellsOf 163=3/\aN 166=some false/\P.cellsOf 166=1/\aN 167=some false/\P.cellsOf 167=1/\aN 168=some false/\P.cellsOf 168=1/\P.underlying 168=some (.slice 48)/\bS P 168=some 48/\P.bytesOf 48=16/\aN 173=some false/\P.cellsOf 173=1/\P.underlying 173=some (.pointer 3)/\aN 261=some false/\P.cellsOf 261=1/\aN 263=some true/\P.cellsOf 263=3/\aN 268=some false/\P.cellsOf 268=1/\aN 278=some true/\P.cellsOf 278=2/\aN 334=some false/\P.cellsOf 334=1/\aN 336=some false/\P.cellsOf 336=1/\aN 337=some true/\P.cellsOf 337=2/\P.underlying 337=some (.array 2 168)/\aN 372=some false/\P.cellsOf 372=1/\P.underlying 372=some (.int .u64)/\aN 411=some false/\P.cellsOf 411=1/\P.underlying 411=some (.int .i64):=by and_intros<;>kernel_rfl
end Go.S5
namespace Go.Ev
noncomputable section
section
variable {P : Program} {G : bg} {H : Hp} {k : AV -> Bool} {α : Type} {sz : Nat} {enc : α -> List D} {xs : List α} {d : D}
def p8 (a b:Int):Int:=IntKind.wrap .i64 ((BitVec.ofInt 64 a)&&& (BitVec.ofInt 64 b)).toNat
def bOr (a b:Int):Int:=IntKind.wrap .i64 ((BitVec.ofInt 64 a)||| (BitVec.ofInt 64 b)).toNat
def gG (a b:Int):Int:=IntKind.wrap .i64 ((BitVec.ofInt 64 a)&&& ~~~(BitVec.ofInt 64 b)).toNat
def JI (a b:Int):Int:=a.fdiv (2 ^(min b.toNat 64))
@[go_sem ↓] theorem Yq (t:TypeId) (nc:Bool) (a b:Int):fP P .and t nc (O a) (O b) k=k (O (p8 a b)):=cA (p8 a b) fun n=>k (O n)
@[go_sem ↓] theorem R9 (t:TypeId) (nc:Bool) (a b:Int):fP P .or t nc (O a) (O b) k=k (O (bOr a b)):=cA (bOr a b) fun n=>k (O n)
@[go_sem ↓] theorem Rf (t:TypeId) (nc:Bool) (a b:Int):fP P .andNot t nc (O a) (O b) k=k (O (gG a b)):=cA (gG a b) fun n=>k (O n)
@[go_sem ↓] theorem Yt (t:TypeId) (nc:Bool) (j:IntKind) (a b:Int) (h:0<=b):fP P .shr t nc (O a) (.int j b) k=k (O (JI a b)):=by
 have:¬b<0:=by omega
 simp [fP,ia,sB,cA,JI,IntKind.bits,X',this]
@[go_sem ↓] theorem Lz (t:TypeId) (nc:Bool) (i:IntKind) (a b:Int) (h:b≠0):fP P .rem t nc (.int i a) (.int i b) k=k (.int i (a.tmod b)):=by
 simp [fP,ia,jN,cA,vG,h]
@[go_sem ↓] theorem J1 (t:TypeId) (nc:Bool) (a b:Int) (h: -9223372036854775808<=a * b/\a * b<=9223372036854775807):fP P .mul t nc (O a) (O b) k=k (O (a * b)):=by
 simp [fP,ia,jN,cA,om h]
@[go_sem ↓] theorem Qn (a:Int) (h: -9223372036854775807<=a/\a<=9223372036854775807):unK .neg (O a) k=k (O (0 - a)):=by
 simp only [unK,cA]
 rw [om (by omega)]
theorem uD (a b:List Nat):mM a b=decide (a=b):=by rw [oO]
@[go_sem ↓] theorem YA (t:TypeId) (nc:Bool) (a b:List Nat):fP P .eql t nc (.str a) (.str b) k=k (.bool (decide (a=b))):=by
 simp [fP,tg,cW,uD]
@[go_sem ↓] theorem TU (t:TypeId) (nc:Bool) (a b:List Nat):fP P .neq t nc (.str a) (.str b) k=k (.bool (!decide (a=b))):=by
 simp [fP,tg,cW,uD]
theorem gU {t:TypeId} (hu:P.underlying t=some .string) (s:List Nat):kJ P t (.str s) H k=k (O (s.length:Int)):=by
 unfold kJ
 rw [hu]
 exact bA _ _
theorem rx {t:TypeId} (hu:P.underlying t=some .string) {s:List Nat} {n:Nat} (hn:n<s.length) {i:IntKind}:ej P t (.str s) (.int i (n:Int)) k=k (.int .u8 (s[n]:Int)):=by
 have h1:mi P t=true:=by unfold mi;rw [hu]
 have h2:s[n]? =some s[n]:=dW hn
 show (match mi P t,s[n]? with | true,some c=>k (.int .u8 (.ofNat c))| _,_=>false)=_
 rw [h1,h2]
 rfl
@[congr] theorem Lb {t:TypeId} {a a' i i':AV} (h:a=a') (hi:i=i'):ej P t a i k=ej P t a' i' k:=by rw [h,hi]
def slT (d:D) (n:Nat):D:=match d with
 | .sl sz cs len=>.sl sz (cs.take (n * sz)) n
 | d=>d
theorem sh (hs:∀x,(enc x).length=sz):∀(xs:List α) (n:Nat),n<=xs.length->(cC enc xs).take (n * sz)=cC enc (xs.take n)
 | xs,0,_=>by simp [cC]
 | x::xs,n+1,h=>by
  have ih:=sh hs xs n (by simpa using h)
  show (enc x++cC enc xs).take ((n+1) * sz)=enc x++cC enc (xs.take n)
  rw [←ih,fV,List.take_append,cN (by rw [hs x];omega),hs x]
  congr 2;omega
theorem Sl.take (h:Sl sz enc xs d) (hs:∀x,(enc x).length=sz) {n:Nat} (hn:n<=xs.length):Sl sz enc (xs.take n) (slT d n):=by
 rcases h with⟨rfl,rfl⟩| rfl
 ·exact .inl ⟨rfl,by simp⟩
 ·exact .inr (by simp only [slT];rw [sh hs xs n hn,gW,lI hn])
theorem jI (h:Sl sz enc xs d) {t e:TypeId} (he:bS P t=some e) (hc:P.cellsOf e=sz) {n:Nat} (hn:n<=xs.length) {i:IntKind}:
  cK P H t (ofD d) none (some (.int i (n:Int))) none k=k (ofD (slT d n)):=by
 rcases h with⟨rfl,rfl⟩| rfl
 ·simp at hn
  subst hn
  unfold cK
  simp only [ofD,he]
  rfl
 ·unfold cK
  simp only [ofD,he,gz,mP]
  rw [hc,bW,show Nat.ble n xs.length=true from by simpa using hn]
  simp only [Nat.ble,bA,slT,kF,fi,kC,ofD]
@[congr] theorem HE {t:TypeId} {x x':AV} {lo lo' hi hi' mx mx':Option AV} (h:x=x') (hl:lo=lo') (hh:hi=hi') (hm:mx=mx'):cK P H t x lo hi mx k=cK P H t x' lo' hi' mx' k:=by rw [h,hl,hh,hm]
theorem CR (hG:mX G) {f:FuncId} {args:List AV} {k:AV->Hp->Bool} {ds:List D} {I:List Nat} {Q:D->Prop} (hct:CQ P G f ds Q) (hr:Rds H args ds I)
  (hk:∀d,Q d->(I=[]∨d.flatB=true)/\k (ofD d) H=true):cl P G f args H k=true:=by
 have h:=IX (k:=fun e H'=>fk.casesOn (motive:=fun _=>Bool) e (fun v=>k v H') (fun _=>false)) hG hct hr hk
 exact h
theorem bB (hG:mX G) {f:FuncId} {k:AV->Hp->Bool} {args:List AV} (ds:List D) {r:D} (hct:CQ P G f ds (·=r)) (ha:args=aq ds) (hk:k (ofD r) H=true):cl P G f args H k=true:=by
 subst ha
 exact CR hG hct (.fro ds) fun d hd=>⟨.inl rfl,hd▸hk⟩
theorem ei (hG:mX G) {f:FuncId} {k:AV->Hp->Bool} {args:List AV} (ds:List D) {Q:D->Prop} (hct:CQ P G f ds Q) (ha:args=aq ds) (hk:∀d,Q d->k (ofD d) H=true):cl P G f args H k=true:=by
 subst ha
 exact CR hG hct (.fro ds) fun d hd=>⟨.inl rfl,hk d hd⟩
theorem cb (n:Nat) {f:FuncId} {args:List AV} {k:AV->Hp->Bool} (h:iZ P G ⟨cd P G n,ff P G⟩ f args H (fun en H=>fk.casesOn en (fun v=>k v H) fun _=>false)=true):cl P G f args H k=true:=vB n h
theorem o4 {n:Nat} {g:FuncId} {first cap args:List AV} {k:AV->Hp->Bool} (h1:kf P g=false) (h2:iz P g=true):clv P G n (.fn g first cap) args H k=cl P G g (first++args++cap) H k:=by
 show fF (first++args++cap) (fun args=>match kf P g with
  | true=>one1 args fun x=>k x H
  | false=>tw P ⟨cd P G n,ff P G⟩ g args H k (fun _ _=>false))=_
 rw [bH,h1]
 dsimp only
 unfold tw
 rw [h2]
 rfl
@[go_sem] theorem aAG (f:FuncId) (a c:List D):ofD (.fn f a c)= .fn f (aq a) (aq c):=rfl
@[go_sem ↓] theorem aFW (v:AV) (vs:List AV):aX (.tup (v::vs)) 0 k=k v:=rfl
@[go_sem ↓] theorem aFQ (v u:AV) (vs:List AV):aX (.tup (v::u::vs)) 1 k=k u:=rfl
@[go_sem ↓] theorem aFR (v u x:AV) (vs:List AV):aX (.tup (v::u::x::vs)) 2 k=k x:=rfl
@[congr] theorem GC {x x':AV} {i:Nat} (h:x=x'):aX x i k=aX x' i k:=by rw [h]
def mc (places:List (Nat×Nat)) (ps:List (Nat×AV)) (z:List AV) (k:AV->Bool):Bool:=oD (qj places ps z) k
@[congr] theorem Rl {pl:List (Nat×Nat)} {ps ps':List (Nat×AV)} {z:List AV} (h:ps=ps'):mc pl ps z k=mc pl ps' z k:=by rw [h]
@[congr] theorem Lh {t:TypeId} {ps ps':List (Nat×AV)} (h:ps=ps'):ma P t ps k=ma P t ps' k:=by rw [h]
@[go_sem ↓] theorem UR (pl:List (Nat×Nat)) (z:List AV):mc pl [] z k=k (.agg z):=rfl
def Bi (pl:List (Nat×Nat)) (ps:List (Nat×AV)) (k:AV->Bool) (g:Bool) (o:Option (List AV)):Bool:=match g,o with
 | true,some z=>mc pl ps z k
 | _,_=>false
@[go_sem ↓] theorem TA (pl:List (Nat×Nat)) (i:Nat) (v:AV) (ps:List (Nat×AV)) (z:List AV):mc pl ((i,v)::ps) z k=(match pl[i]? with
  | some (off,size)=>Bi pl ps k (Nat.beq v.cells.length size) (fg z off v.cells)
  | none=>false):=by
 unfold mc
 simp only [qj]
 cases pl[i]? with
 | none=>rfl
 | some p=>
  obtain⟨off,size⟩:=p
  dsimp only
  cases Nat.beq v.cells.length size<;>cases fg z off v.cells<;>rfl
@[go_sem ↓] theorem aAF (pl:List (Nat×Nat)) (ps:List (Nat×AV)) (z:List AV):Bi pl ps k true (some z)=mc pl ps z k:=rfl
@[congr] theorem SD {pl:List (Nat×Nat)} {ps:List (Nat×AV)} {g g':Bool} {o o':Option (List AV)} (hg:g=g') (ho:o=o'):Bi pl ps k g o=Bi pl ps k g' o':=by rw [hg,ho]
@[go_sem] theorem Qm (w:Bool):gD w (.tup [])=false:=rfl
@[go_sem ↓] theorem Sj (k:Hp->Bool):cG [] H k=k H:=rfl
@[go_sem ↓] theorem Nu (i b:Nat) (x:Blk) (Q:fT) (k:Hp->Bool):cG ((i,b,x)::Q) H k=cG Q (H.setb b (some x)) k:=cJ H b (some x) fun H=>cG Q H k
@[go_sem ↓] theorem Tm (a:Nat) (k:fT->Hp->Bool):bF a [] H k=k [] H:=rfl
@[go_sem] theorem KB (q:Nat):(0=q+1)=False:=by simp
@[go_sem] theorem lv (n:Nat) (i:IntKind) (a:Int):av (n+1) (.int i a) (.int i a)=true:=by
 have h1:ieq a a=true:=by rw [vG];simp
 have h2:Nat.beq (oB i) (oB i)=true:=bW _
 simp [av,h1,h2]
@[go_sem] theorem X6 (n:Nat) (b:Bool):av (n+1) (.bool b) (.bool b)=true:=by cases b<;>rfl
@[go_sem] theorem Yw (n:Nat) (s:List Nat):av (n+1) (.str s) (.str s)=true:=by simp [av,uD]
@[go_sem] theorem Wr (n:Nat):av (n+1) .nils .nils=true:=rfl
@[go_sem] theorem Kt (n:Nat) (d:D):av (n+1) (.dat d) (.dat d)=true:=by simp [av]
@[go_sem] theorem m7 (n b o:Nat):av (n+1) (.ptr b o) (.ptr b o)=true:=by simp [av]
@[go_sem] theorem Cr (n b o l z:Nat) (c:Option Nat):av (n+1) (.sl b o l z c) (.sl b o l z c)=true:=by cases c<;>simp [av]
@[go_sem] theorem LM (n:Nat) (a b:List AV):av (n+1) (.agg a) (.agg b)=ja n a b:=rfl
@[go_sem] theorem LO (n:Nat):ja (n+1) [] []=true:=rfl
@[go_sem] theorem Ir (n:Nat) (x y:AV) (a b:List AV):ja (n+1) (x::a) (y::b)=(av n x y&&ja n a b):=rfl
theorem bI {a i:Nat} {c:Hp->Bool} {L:fR} (h:a.testBit i=true):bf a ((i,c)::L) H=bf a L H:=by
 show (match a.testBit i with | true=>bf a L H | false=>_)=_
 rw [h]
theorem ct {a i:Nat} {c:Hp->Bool} {L:fR} (h:a.testBit i=false):bf a ((i,c)::L) H=(c H&&bf a L H):=by
 show (match a.testBit i with | true=>bf a L H | false=>match c H with | true=>bf a L H | false=>false)=_
 rw [h]
 cases c H<;>rfl
@[go_sem ↓] theorem aDZ (k:Bool):(Bool.casesOn (motive:=fun _=>Bool) true false k:Bool)=k:=rfl
theorem im {a i b:Nat} {x:Blk} {Q:fT} {k:fT->Hp->Bool} (h:a.testBit i=true):bF a ((i,b,x)::Q) H k=bF a Q (H.setb b (some x)) k:=by
 show (match a.testBit i with | true=>H.put b (some x) fun H=>bF a Q H k | false=>bF a Q H fun ps H=>k ((i,b,x)::ps) H)=_
 rw [h]
 exact jQ _ _ _ _
theorem zN {a i b:Nat} {x:Blk} {Q:fT} {k:fT->Hp->Bool} (h:a.testBit i=false):bF a ((i,b,x)::Q) H k=bF a Q H fun ps H=>k ((i,b,x)::ps) H:=by
 show (match a.testBit i with | true=>H.put b (some x) fun H=>bF a Q H k | false=>bF a Q H fun ps H=>k ((i,b,x)::ps) H)=_
 rw [h]
@[go_sem ↓] theorem TF {a i:Nat} {c:Hp->Bool} {L:fR}:bf a ((i,c)::L) H=aE (.bool (decide (a/2^i%2=1))) (fun _=>bf a L H) fun _=>c H&&bf a L H:=by
 by_cases h:a/2^i%2=1
 ·rw [bI (by rw [Nat.testBit_eq_decide_div_mod_eq];exact decide_eq_true h),decide_eq_true h];rfl
 ·rw [ct (by rw [Nat.testBit_eq_decide_div_mod_eq];exact decide_eq_false h),decide_eq_false h];rfl
@[go_sem ↓] theorem TO {a i b:Nat} {x:Blk} {Q:fT} {k:fT->Hp->Bool}:bF a ((i,b,x)::Q) H k=aE (.bool (decide (a/2^i%2=1))) (fun _=>bF a Q (H.setb b (some x)) k) fun _=>bF a Q H fun ps H=>k ((i,b,x)::ps) H:=by
 by_cases h:a/2^i%2=1
 ·rw [im (by rw [Nat.testBit_eq_decide_div_mod_eq];exact decide_eq_true h),decide_eq_true h];rfl
 ·rw [zN (by rw [Nat.testBit_eq_decide_div_mod_eq];exact decide_eq_false h),decide_eq_false h];rfl
@[go_sem ↓] theorem bP (a:Nat):bf a [] H=true:=rfl
end
end
end Go.Ev
