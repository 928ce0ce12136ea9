/- A part of the proof of RoundAlone. -/
import Derived.Test.YtnljpmbidnnlkaaGreatDoorRAi
import Derived.Test.YtnljpmbidnnlkaaGreatDoorRAh
import Derived.Sort.Grow
import Derived.Sort.EncStr
import Derived.Test.YtnljpmbidnnlkaaGreatDoorRAj
import Derived.Test.YtnljpmbidnnlkaaGreatDoorRAc
import Derived.Test.YtnljpmbidnnlkaaGreatDoorRAk
set_option maxRecDepth 1000000
set_option linter.unusedVariables false
set_option linter.unusedSimpArgs false
set_option maxHeartbeats 8000000
namespace Go.Ev
noncomputable section
def Mk:Prop:=True
@[go_sem] theorem aFX:Mk=True:=du aW
section
variable {P : Program} {G : bg} {H : Hp} {k : AV -> Bool} {α : Type} {sz : Nat} {enc : α -> List D} {xs : List α} {d : D}
@[congr] theorem Jr {t:TypeId} {a a':AV} (h:a=a') {pM:Prop} (hM:Mk=pM):mw P G H t a k=mw P G H t a' k:=by rw [h]
@[congr] theorem KA {t:TypeId} {off:Nat} {o o':Option Blk} (h:o=o') {pM:Prop} (hM:Mk=pM):tL P t off k o=tL P t off k o':=by rw [h]
@[congr] theorem Kk {a a':Option Bool} {n n':Nat} {cs:List AV} {off off':Nat} (h:a=a') (hn:n=n') (ho:off=off') {pM:Prop} (hM:Mk=pM):m0 a n cs off k=m0 a' n' cs off' k:=by rw [h,hn,ho]
@[congr] theorem Me {o o':Option AV} (h:o=o') {pM:Prop} (hM:Mk=pM):xS o k=xS o' k:=by rw [h]
@[congr] theorem Le {o o':Option (List AV)} (h:o=o') {pM:Prop} (hM:Mk=pM):oD o k=oD o' k:=by rw [h]
@[congr] theorem Jj {t:TypeId} {a a' v v':AV} {k:Hp->Bool} (h:a=a') (hv:v=v') {pM:Prop} (hM:Mk=pM):lU P H t a v k=lU P H t a' v' k:=by rw [h,hv]
@[congr] theorem Jg {a a':Option Bool} {n n' b off off':Nat} {vs vs':List AV} {k:Hp->Bool} {o o':Option Blk} (ha:a=a') (hn:n=n') (hf:off=off') (hv:vs=vs') (h:o=o') {pM:Prop} (hM:Mk=pM):oT a n H b off vs k o=oT a' n' H b off' vs' k o':=by rw [ha,hn,hf,hv,h]
@[congr] theorem Nn {b:Nat} {el:Option TypeId} {k:Hp->Bool} {g g':Bool} {o o':Option (List AV)} (hg:g=g') (h:o=o') {pM:Prop} (hM:Mk=pM):Ah H b el k g o=Ah H b el k g' o':=by rw [hg,h]
@[congr] theorem GJ {a a':AV} {n:Nat} (h:a=a') {pM:Prop} (hM:Mk=pM):U a n k=U a' n k:=by rw [h]
@[congr] theorem Nk {op:BinOp} {t:TypeId} {nc:Bool} {a a' b b':AV} (ha:a=a') (hb:b=b') {pM:Prop} (hM:Mk=pM):fP P op t nc a b k=fP P op t nc a' b' k:=by rw [ha,hb]
@[congr] theorem Qu {op:UnOp} {a a':AV} (h:a=a') {pM:Prop} (hM:Mk=pM):unK op a k=unK op a' k:=by rw [h]
@[congr] theorem K7 {c c' a a' b b':AV} (h:c=c') (ha:a=a') (hb:b=b') {pM:Prop} (hM:Mk=pM):aT c a b k=aT c' a' b' k:=by rw [h,ha,hb]
@[congr] theorem KM {c c':AV} {a b:Unit->Bool} (h:c=c') {pM:Prop} (hM:Mk=pM):aE c a b=aE c' a b:=by rw [h]
@[congr] theorem K6 {w w':Bool} {F:AV->Hp->Bool} {run:(AV->Hp->Bool)->Bool} (h:w=w') {pM:Prop} (hM:Mk=pM):lh w F run H=lh w' F run H:=by rw [h]
@[congr] theorem Jc {w w':Bool} {F:DJ} {run:DJ->Bool} {L:fR} {Q:fT} (h:w=w') {pM:Prop} (hM:Mk=pM):jC w F run H L Q=jC w' F run H L Q:=by rw [h]
@[congr] theorem Fx {x x':AEx} {y:Unit->Bool} {n:AEx->Bool} (h:x=x') {pM:Prop} (hM:Mk=pM):aY x y n=aY x' y n:=by rw [h]
@[congr] theorem Jf {i:Nat} {x x':AEx} {y:Unit->Bool} {n:AEx->Bool} (h:x=x') {pM:Prop} (hM:Mk=pM):bz i x y n=bz i x' y n:=by rw [h]
@[congr] theorem Ra {n:Nat} {f f':AV} {a a':List AV} {k:AV->Hp->Bool} (hf:f=f') (h:a=a') {pM:Prop} (hM:Mk=pM):clv P G n f a H k=clv P G n f' a' H k:=by rw [hf,h]
@[congr] theorem HJ {fn:Func} {i:Evs} {k:fk->Hp->Bool} {x x':AEx} {e:En} (h:x=x') {pM:Prop} (hM:Mk=pM):lr P G fn i k x e H=lr P G fn i k x' e H:=by rw [h]
@[congr] theorem Mh {t:TypeId} {a a':AV} (h:a=a') {pM:Prop} (hM:Mk=pM):kJ P t a H k=kJ P t a' H k:=by rw [h]
@[congr] theorem Fz {t:TypeId} {a a' i i':AV} (h:a=a') (hi:i=i') {pM:Prop} (hM:Mk=pM):gu P t a i k=gu P t a' i' k:=by rw [h,hi]
@[congr] theorem Ja {t:TypeId} {a a' i i':AV} (h:a=a') (hi:i=i') {pM:Prop} (hM:Mk=pM):ej P t a i k=ej P t a' i' k:=by rw [h,hi]
@[congr] theorem Fy {t:TypeId} {x x':AV} {lo lo' hi hi' mx mx':Option AV} (h:x=x') (hl:lo=lo') (hh:hi=hi') (hm:mx=mx') {pM:Prop} (hM:Mk=pM):cK P H t x lo hi mx k=cK P H t x' lo' hi' mx' k:=by rw [h,hl,hh,hm]
@[congr] theorem FA {x x':AV} {i:Nat} (h:x=x') {pM:Prop} (hM:Mk=pM):aX x i k=aX x' i k:=by rw [h]
@[congr] theorem OJ {pl:List (Nat×Nat)} {ps ps':List (Nat×AV)} {z:List AV} (h:ps=ps') {pM:Prop} (hM:Mk=pM):mc pl ps z k=mc pl ps' z k:=by rw [h]
@[congr] theorem Je {t:TypeId} {ps ps':List (Nat×AV)} (h:ps=ps') {pM:Prop} (hM:Mk=pM):ma P t ps k=ma P t ps' k:=by rw [h]
@[congr] theorem OC {pl:List (Nat×Nat)} {ps:List (Nat×AV)} {g g':Bool} {o o':Option (List AV)} (hg:g=g') (ho:o=o') {pM:Prop} (hM:Mk=pM):Bi pl ps k g o=Bi pl ps k g' o':=by rw [hg,ho]
@[congr] theorem KI {t:TypeId} {i i':AV} {ok:Bool} {o o':Option Blk} (hi:i=i') (ho:o=o') {pM:Prop} (hM:Mk=pM):qo P t i ok k o=qo P t i' ok k o':=by rw [hi,ho]
@[congr] theorem In {t:TypeId} {m m' i i':AV} {ok:Bool} (hm:m=m') (hi:i=i') {pM:Prop} (hM:Mk=pM):jf P H t m i ok k=jf P H t m' i' ok k:=by rw [hm,hi]
@[congr] theorem OF {b:Nat} {t:TypeId} {i i' v v':AV} {k:Hp->Bool} {o o':Option Blk} (hi:i=i') (hv:v=v') (ho:o=o') {pM:Prop} (hM:Mk=pM):tj P H b t i v k o=tj P H b t i' v' k o':=by rw [hi,hv,ho]
@[congr] theorem CK {t:TypeId} {m m' i i' v v':AV} {k:Hp->Bool} (hm:m=m') (hi:i=i') (hv:v=v') {pM:Prop} (hM:Mk=pM):eM P H t m i v k=eM P H t m' i' v' k:=by rw [hm,hi,hv]
@[congr] theorem Sd {x y b b':Bool} {pM:Prop} (h:b=b') (hM:Mk=pM): @Bool.rec (fun _=>Bool) x y b= @Bool.rec (fun _=>Bool) x y b':=by rw [h]
@[congr] theorem Kj {x y b b':Bool} {pM:Prop} (h:b=b') (hM:Mk=pM): @Bool.casesOn (fun _=>Bool) b x y= @Bool.casesOn (fun _=>Bool) b' x y:=by rw [h]
@[go_sem ↓ high] theorem M0 (y:Unit->Bool) (n:AEx->Bool):aY .normal y n=y ():=cg.mpr de
@[go_sem ↓ high] theorem M8 (i:Nat) (y:Unit->Bool) (n:AEx->Bool):aY (.exit i) y n=n (.exit i):=cg.mpr de
@[go_sem ↓ high] theorem Nv (y:Unit->Bool) (n:AEx->Bool):aY .ret y n=n .ret:=cg.mpr de
@[go_sem ↓ high] theorem Tp (i:Nat) (y:Unit->Bool) (n:AEx->Bool):bz i .normal y n=n .normal:=cg.mpr de
@[go_sem ↓ high] theorem Tx (i:Nat) (y:Unit->Bool) (n:AEx->Bool):bz i .ret y n=n .ret:=cg.mpr de
@[go_sem ↓ high] theorem YN (a b:Unit->Bool):aE (.bool true) a b=a ():=cg.mpr de
@[go_sem ↓ high] theorem YO (a b:Unit->Bool):aE (.bool false) a b=b ():=cg.mpr de
@[go_sem ↓ high] theorem Ur (F:AV->Hp->Bool) (run:(AV->Hp->Bool)->Bool):lh true F run H=run F:=cg.mpr de
@[go_sem ↓ high] theorem Xv (F:AV->Hp->Bool) (run:(AV->Hp->Bool)->Bool):lh false F run H=F (.tup []) H:=cg.mpr de
@[go_sem ↓ high] theorem Tq (F:DJ) (run:DJ->Bool) (L:fR) (Q:fT):jC true F run H L Q=run F:=cg.mpr de
@[go_sem ↓ high] theorem TK (F:DJ) (run:DJ->Bool) (L:fR) (Q:fT):jC false F run H L Q=F (.tup []) H L Q:=cg.mpr de
@[go_sem ↓ high] theorem YI (a b:AV):aT (.bool true) a b k=k a:=cg.mpr de
@[go_sem ↓ high] theorem YK (a b:AV):aT (.bool false) a b k=k b:=cg.mpr de
@[go_sem ↓ high] theorem cQ (k:Hp->Bool):cG [] H k=k H:=cg.mpr de
@[go_sem ↓ high] theorem bq (a:Nat) (k:fT->Hp->Bool):bF a [] H k=k [] H:=cg.mpr de
@[go_sem ↓ high] theorem Yz (x k:Bool): @Bool.rec (fun _=>Bool) x k true=k:=cg.mpr de
@[go_sem ↓ high] theorem YQ (x k:Bool): @Bool.casesOn (fun _=>Bool) true x k=k:=cg.mpr de
@[go_sem ↓ high] theorem YS (v:AV):xS (some v) k=k v:=cg.mpr de
@[go_sem ↓ high] theorem U7 (v:List AV):oD (some v) k=k (.agg v):=cg.mpr de
@[go_sem ↓ high] theorem U5 (n:Nat) (cs:List AV) (off:Nat):m0 (some true) n cs off k=oD (ew n (cs.drop off)) k:=cg.mpr de
@[go_sem ↓ high] theorem Um (n:Nat) (cs:List AV) (off:Nat):m0 (some false) n cs off k=xS cs[off]? k:=cg.mpr de
@[go_sem ↓ high] theorem Kf (t:TypeId) (off:Nat) (el:Option TypeId) (ro:Bool) (cs:List AV):tL P t off k (some (.cells el ro cs))=m0 (kU P t) (P.cellsOf t) cs off k:=cg.mpr de
@[go_sem ↓ high] theorem YD (b:Nat) (el:Option TypeId) (cs:List AV) (k:Hp->Bool):Ah H b el k true (some cs)=k (H.setb b (some (.cells el false cs))):=cg.mpr de
@[go_sem ↓ high] theorem TB (pl:List (Nat×Nat)) (z:List AV):mc pl [] z k=k (.agg z):=cg.mpr de
@[go_sem ↓ high] theorem Ys (pl:List (Nat×Nat)) (ps:List (Nat×AV)) (z:List AV):Bi pl ps k true (some z)=mc pl ps z k:=cg.mpr de
@[go_sem ↓ high] theorem lc (v:AV) (vs:List AV):aX (.tup (v::vs)) 0 k=k v:=cg.mpr de
@[go_sem ↓ high] theorem lf (v u:AV) (vs:List AV):aX (.tup (v::u::vs)) 1 k=k u:=cg.mpr de
@[go_sem ↓ high] theorem N6 (v u x:AV) (vs:List AV):aX (.tup (v::u::x::vs)) 2 k=k x:=cg.mpr de
@[congr] theorem Tv {m nt:Nat} {c:Code} {ro:Option Nat} {e e':En} {H H':Hp} {k:AEx->En->Hp->Bool} {pM:Prop} (he:e=e') (hH:H=H') (hM:Mk=pM):cd P G m nt c ro e H k=cd P G m nt c ro e' H' k:=by rw [he,hH]
@[congr] theorem ON {nt:Nat} {c:Code} {ro:Option Nat} {e e':En} {H H':Hp} {k:AEx->En->Hp->Bool} {pM:Prop} (he:e=e') (hH:H=H') (hM:Mk=pM):oE P G nt c ro e H k=oE P G nt c ro e' H' k:=by rw [he,hH]
@[congr] theorem TN {g:FuncId} {a a':List AV} {H H':Hp} {k:AV->Hp->Bool} {pM:Prop} (h:a=a') (hH:H=H') (hM:Mk=pM):cl P G g a H k=cl P G g a' H' k:=by rw [h,hH]
@[congr] theorem Jz {Inv:Nat->En->Hp->Prop} {m:Nat} {e e':En} {H H':Hp} {pM:Prop} (he:e=e') (hH:H=H') (hM:Mk=pM):uS Inv m e H=uS Inv m e' H':=by rw [he,hH]
theorem TE {l:List (Nat×AV)} (h:yE l=true):yE l=true:=h
theorem S8 {a i:Nat} (h:a.testBit i=true):a.testBit i=true:=h
theorem R4 {a i:Nat} (h:a.testBit i=false):a.testBit i=false:=h
theorem dv {f:FuncId} {args:List AV} {k:AV->Hp->Bool} (h:cl P G f args H k=true):cl P G f args H k=true:=h
@[congr] theorem F4 {t u:TypeId} {s s' x x':AV} {k:AV->Hp->Bool} {pM:Prop} (h:s=s') (h':x=x') (hM:Mk=pM):fj P H t u s x k=fj P H t u s' x' k:=by rw [h,h']
@[congr] theorem Bo {t n:Nat} {ps ps':List (Nat×AV)} {k:Blk->(Nat->AV)->Bool} {pM:Prop} (h:ps=ps') (hM:Mk=pM):jp P t n ps k=jp P t n ps' k:=by rw [h]
@[congr] theorem I9 {a:Nat} {Q Q':fT} {k:fT->Hp->Bool} {pM:Prop} (h:Q=Q') (hM:Mk=pM):bF a Q H k=bF a Q' H k:=by rw [h]
@[congr] theorem Ji {Q Q':fT} {k:Hp->Bool} {pM:Prop} (h:Q=Q') (hM:Mk=pM):cG Q H k=cG Q' H k:=by rw [h]
@[congr] theorem Mt {Q:D->Prop} {e e':fk} {pM:Prop} {H H':Hp} (h:e=e') (hH:H=H') (hM:Mk=pM):mG Q e H=mG Q e' H':=by rw [h,hH]
end
end
end Go.Ev
namespace Go.S5
open Go.Ev Go.Proofs
theorem eG {α:Type} {sz:Nat} {enc:α->List D} {xs:List α} {d:D} (h:Sl sz enc xs d) (n:Nat):av (n+1) (ofD d) (ofD d)=true:=by
 rcases h with⟨rfl,_⟩| rfl
 ·rfl
 ·exact Kt n _
theorem RC (a b c d:Int) (k:AV->Bool):aw .neq 28 false (.agg [O a, O b]) (.agg [O c, O d]) k=(match jT [.i,.i] [O a, O b] [O c, O d] with | some r=>ip (!r) fun r=>k (.bool r)| none=>false):=by kernel_rfl
theorem Dp (a b c d:Int) (k:AV->Bool):aw .neq 28 false (.agg [O a, O b]) (.agg [O c, O d]) k=k (.bool (!(decide (a=c)&&decide (b=d)))):=by
 rw [RC]
 have h:jT [.i,.i] [O a, O b] [O c, O d]=some (decide (a=c)&&decide (b=d)):=by
  simp only [jT,Ez,bW,vG,nq]
 rw [h]
 exact cW _ _
def C5 (k:Int) (gap:gB) (most lo hi:Int):Bool:=decide (((k=3∨k=6)->0<=gap.lo/\gap.lo<=gap.hi/\gap.hi<=86400)/\(¬(k=3∨k=6)->gap.lo=0/\gap.hi=0)/\(k=5->0<=most/\most<=86399)/\(k≠5->most=0)/\(k=6->1<=lo/\lo<=hi/\hi<=6)/\(k≠6->lo=0/\hi=0))
def ph (o:ai):Bool:=decide ((o.kids.length:Int)=iK o.kind)&&decide (o.names.length<=4)&&jM o&&C5 o.kind o.gap o.most o.lo o.hi
mutual
def fh:ai->Bool
 | .mk kind names dn gap most lo hi kids dk=>ph (.mk kind names dn gap most lo hi kids dk)&&vf kids
def vf:List ai->Bool
 | []=>true
 | o::l=>fh o&&vf l
end
theorem vh:∀l:List ai,vf l=l.all fh
 | []=>by simp [vf]
 | o::l=>by rw [vf,vh l];simp
theorem iO (o:ai):fh o=(ph o&&o.kids.all fh):=by
 cases o with | mk kind names dn gap most lo hi kids dk=>rw [fh,vh];rfl
def aBU (o:ai) (m:Nat) (e:En) (H:Hp):Prop:=∃n:Nat,n<=o.kids.length/\m=o.kids.length - n/\e.dm=[]/\(∀y∈o.kids.take n,fh y=true)/\e.t 4= O n/\e.t 1= .ptr 0 0/\H.get 0=some (ae 40 (aq (aC o)))
theorem lM {o:ai} (h:ph o=true->False):fh o=false:=by
 rw [iO]
 cases hx:ph o
 ·rfl
 ·exact (h hx).elim
theorem jJ {o:ai}:ph o=true->((o.kids.length:Int)=iK o.kind/\o.names.length<=4/\jM o=true)/\(((o.kind=3∨o.kind=6)->0<=o.gap.lo/\o.gap.lo<=o.gap.hi/\o.gap.hi<=86400)/\(¬(o.kind=3∨o.kind=6)->o.gap.lo=0/\o.gap.hi=0)/\(o.kind=5->0<=o.most/\o.most<=86399)/\(o.kind≠5->o.most=0)/\(o.kind=6->1<=o.lo/\o.lo<=o.hi/\o.hi<=6)/\(o.kind≠6->o.lo=0/\o.hi=0)):=by
 intro h
 simp only [ph,C5,bX,bU] at h
 exact⟨⟨h.1.1.1,h.1.1.2,h.1.2⟩,h.2⟩
theorem Hk {o:ai} (h1:(o.kids.length:Int)=iK o.kind) (h2:o.names.length<=4) (h3:jM o=true) (h4:((o.kind=3∨o.kind=6)->0<=o.gap.lo/\o.gap.lo<=o.gap.hi/\o.gap.hi<=86400)/\(¬(o.kind=3∨o.kind=6)->o.gap.lo=0/\o.gap.hi=0)/\(o.kind=5->0<=o.most/\o.most<=86399)/\(o.kind≠5->o.most=0)/\(o.kind=6->1<=o.lo/\o.lo<=o.hi/\o.hi<=6)/\(o.kind≠6->o.lo=0/\o.hi=0)):ph o=true:=by
 simp only [ph,C5,bX,bU]
 exact⟨⟨⟨h1,h2⟩,h3⟩,h4⟩
def bQ (o:ai):List AV:=[O o.kind,ofD o.dn, O o.gap.lo, O o.gap.hi, O o.most, O o.lo, O o.hi,ofD o.dk]
section
variable {o : ai} {t : E2} {H : Hp} {k : AEx -> En -> Hp -> Bool}
theorem QH (g1:t 1= .ptr 0 0) (hg0:H.get 0=some (ae 40 (bQ o))) (hk:∀t',t' 1= .ptr 0 0->t' 3= .bool (decide (o.kind=3)||decide (o.kind=6))->k .normal ⟨t',[]⟩ H=true):
  az 197 120 107 14 none ⟨t,[]⟩ H k=true:=by
 rw [RF]
 (try simp (disch:=omega) only [go_sem,bQ, *]);repeat' ((with_reducible first | apply aa | apply ab | apply Z)<;>intro h<;>(try simp only [spl] at h)<;>try simp (disch:=omega) only [go_sem,bQ, *])
 all_goals (refine hk _ ?_ ?_<;>(first | rfl | (simp (disch:=omega) only [go_sem,g1,h,Bool.or_true,Bool.true_or,lT,Bool.or_false]<;>rfl)))
theorem RX {g:Bool} (g1:t 1= .ptr 0 0) (g3:t 3= .bool g) (hg0:H.get 0=some (ae 40 (bQ o))) (hk:∀t',t' 1= .ptr 0 0->t' 47= .bool ((g&& !fL o.gap)||(!g&& !(decide (o.gap.lo=0)&&decide (o.gap.hi=0))))->k .normal ⟨t',[]⟩ H=true):
  az 195 120 107 60 none ⟨t,[]⟩ H k=true:=by
 rw [Se]
 have hgap:(⟨o.gap.lo,o.gap.hi⟩:gB)=o.gap:=rfl
 cases g
 ·(try simp (disch:=omega) only [go_sem,bQ,Jt,Dp, *]);repeat' ((with_reducible first | apply aa | apply ab | apply Z)<;>intro h<;>(try simp only [spl] at h)<;>try simp (disch:=omega) only [go_sem,bQ,Jt,Dp, *])
  all_goals (refine hk _ ?_ ?_<;>(first | rfl | (simp (disch:=omega) only [go_sem,g1,Bool.or_true,Bool.true_or,lT,Bool.or_false, *]<;>rfl)))
 ·have hgc:=Ii o.gap
  cases hb:fL o.gap<;>rw [hb] at hgc
  ·(try simp (disch:=omega) only [go_sem,bQ, *]);repeat' (first | ((with_reducible first | apply aa | apply ab | apply Z)<;>intro h<;>(try simp only [spl] at h)<;>try simp (disch:=omega) only [go_sem,bQ, *])| ((with_reducible refine dv ?_;refine bB hG _ (hgc) rfl ?_)<;>try simp (disch:=omega) only [go_sem,bQ, *]))
   all_goals (refine hk _ ?_ ?_<;>(first | rfl | (simp (disch:=omega) only [go_sem,g1,Bool.or_true,Bool.true_or,lT,Bool.or_false, *]<;>rfl)))
  ·(try simp (disch:=omega) only [go_sem,bQ, *]);repeat' (first | ((with_reducible first | apply aa | apply ab | apply Z)<;>intro h<;>(try simp only [spl] at h)<;>try simp (disch:=omega) only [go_sem,bQ, *])| ((with_reducible refine dv ?_;refine bB hG _ (hgc) rfl ?_)<;>try simp (disch:=omega) only [go_sem,bQ, *]))
   all_goals (refine hk _ ?_ ?_<;>(first | rfl | (simp (disch:=omega) only [go_sem,g1,Bool.or_true,Bool.true_or,lT,Bool.or_false, *]<;>rfl)))
theorem La (g1:t 1= .ptr 0 0) (hg0:H.get 0=some (ae 40 (bQ o))) (hk:∀t' r,t' 1= .ptr 0 0->t' 70= .bool r->(r=true↔((o.kind=5/\(o.most<0∨86399<o.most))∨(o.kind≠5/\o.most≠0)))->k .normal ⟨t',[]⟩ H=true):
  az 194 120 107 124 none ⟨t,[]⟩ H k=true:=by
 rw [J8]
 (try simp (disch:=omega) only [go_sem,bQ, *]);repeat' ((with_reducible first | apply aa | apply ab | apply Z)<;>intro h<;>(try simp only [spl] at h)<;>try simp (disch:=omega) only [go_sem,bQ, *])
 all_goals first
  | (refine hk _ true ?_ ?_ ?_<;>first | (first | rfl | (simp (disch:=omega) only [go_sem,g1, *]<;>rfl))| (exact⟨fun _=>by omega,fun _=>rfl⟩)| (exact⟨fun hx=>by simp at hx,fun hx=>by exfalso;omega⟩))
  | (refine hk _ false ?_ ?_ ?_<;>first | (first | rfl | (simp (disch:=omega) only [go_sem,g1, *]<;>rfl))| (exact⟨fun _=>by omega,fun _=>rfl⟩)| (exact⟨fun hx=>by simp at hx,fun hx=>by exfalso;omega⟩))
  | (refine hk _ (!decide (o.most=0)) ?_ ?_ ?_<;>first | (first | rfl | (simp (disch:=omega) only [go_sem,g1, *]<;>rfl))| (simp only [et,bU,cU];omega))
  | (refine hk _ (decide (86399<o.most)) ?_ ?_ ?_<;>first | (first | rfl | (simp (disch:=omega) only [go_sem,g1, *]<;>rfl))| (simp only [Bool.not_eq_true',decide_eq_true_eq,decide_eq_false_iff_not];omega))
theorem JP (g1:t 1= .ptr 0 0) (hg0:H.get 0=some (ae 40 (bQ o))) (hk:∀t' r,t' 1= .ptr 0 0->t' 105= .bool r->(r=true↔((o.kind=6/\(o.lo<1∨o.hi<o.lo∨6<o.hi))∨(o.kind≠6/\(o.lo≠0∨o.hi≠0))))->k .normal ⟨t',[]⟩ H=true):
  az 193 120 107 252 none ⟨t,[]⟩ H k=true:=by
 rw [Li]
 (try simp (disch:=omega) only [go_sem,bQ, *]);repeat' ((with_reducible first | apply aa | apply ab | apply Z)<;>intro h<;>(try simp only [spl] at h)<;>try simp (disch:=omega) only [go_sem,bQ, *])
 all_goals first
  | (refine hk _ true ?_ ?_ ?_<;>first | (first | rfl | (simp (disch:=omega) only [go_sem,g1, *]<;>rfl))| (exact⟨fun _=>by omega,fun _=>rfl⟩)| (exact⟨fun hx=>by simp at hx,fun hx=>by exfalso;omega⟩))
  | (refine hk _ false ?_ ?_ ?_<;>first | (first | rfl | (simp (disch:=omega) only [go_sem,g1, *]<;>rfl))| (exact⟨fun _=>by omega,fun _=>rfl⟩)| (exact⟨fun hx=>by simp at hx,fun hx=>by exfalso;omega⟩))
  | (refine hk _ (!decide (o.hi=0)) ?_ ?_ ?_<;>first | (first | rfl | (simp (disch:=omega) only [go_sem,g1, *]<;>rfl))| (simp only [et,bU,cU];omega))
  | (refine hk _ (decide (6<o.hi)) ?_ ?_ ?_<;>first | (first | rfl | (simp (disch:=omega) only [go_sem,g1, *]<;>rfl))| (simp only [Bool.not_eq_true',decide_eq_true_eq,decide_eq_false_iff_not];omega))
end
theorem AY {o:ai} (ho:cZ o):bc 107 [.agg (aC o)] (·= .bool (fh o)):=by
 induction ho with
 | mk kind names dn gap ms lo hi kids dk hn hnl hl hk hkl ho ih=>
  have hO:cZ (.mk kind names dn gap ms lo hi kids dk):= .mk kind names dn gap ms lo hi kids dk hn hnl hl hk hkl ho
  refine aH hG ?_
  by_cases hA:(kids.length:Int)=iK kind
  rotate_left
  ·have hA':((kids.length:Int)=iK kind)=False:=cm hA
   (try simp (disch:=omega) only [go_sem,hA',aC,ai.kind,ai.names,ai.dn,ai.gap,ai.most,ai.lo,ai.hi,ai.kids,ai.dk,ut,l8,kV,kW,kX,aF hn dA,aF hk ez,eG hn,eG hk]);repeat' (first | ((with_reducible first | apply aa | apply ab | apply Z)<;>intro h<;>(try simp only [spl] at h)<;>try simp (disch:=omega) only [go_sem,hA',aC,ai.kind,ai.names,ai.dn,ai.gap,ai.most,ai.lo,ai.hi,ai.kids,ai.dk,ut,l8,kV,kW,kX,aF hn dA,aF hk ez,eG hn,eG hk,h])| ((with_reducible refine dv ?_;refine bB hG _ (pZ _) rfl ?_)<;>try simp (disch:=omega) only [go_sem,hA',aC,ai.kind,ai.names,ai.dn,ai.gap,ai.most,ai.lo,ai.hi,ai.kids,ai.dk,ut,l8,kV,kW,kX,aF hn dA,aF hk ez,eG hn,eG hk]))
   all_goals (refine ax (.bool false) ?_;congr 1;symm;exact lM fun hx=>hA (jJ hx).1.1)
  have hA':((kids.length:Int)=iK kind)=True:=du hA
  by_cases hN:names.length<=4
  rotate_left
  ·have hN':((4:Int)<(names.length:Int))=True:=du (by omega)
   (try simp (disch:=omega) only [go_sem,hA',hN',aC,ai.kind,ai.names,ai.dn,ai.gap,ai.most,ai.lo,ai.hi,ai.kids,ai.dk,ut,l8,kV,kW,kX,aF hn dA,aF hk ez,eG hn,eG hk]);repeat' (first | ((with_reducible first | apply aa | apply ab | apply Z)<;>intro h<;>(try simp only [spl] at h)<;>try simp (disch:=omega) only [go_sem,hA',hN',aC,ai.kind,ai.names,ai.dn,ai.gap,ai.most,ai.lo,ai.hi,ai.kids,ai.dk,ut,l8,kV,kW,kX,aF hn dA,aF hk ez,eG hn,eG hk,h])| ((with_reducible refine dv ?_;refine bB hG _ (pZ _) rfl ?_)<;>try simp (disch:=omega) only [go_sem,hA',hN',aC,ai.kind,ai.names,ai.dn,ai.gap,ai.most,ai.lo,ai.hi,ai.kids,ai.dk,ut,l8,kV,kW,kX,aF hn dA,aF hk ez,eG hn,eG hk]))
   all_goals (refine ax (.bool false) ?_;congr 1;symm;exact lM fun hx=>hN (jJ hx).1.2.1)
  have hN':((4:Int)<(names.length:Int))=False:=cm (by omega)
  cases hB:jM (.mk kind names dn gap ms lo hi kids dk)
  ·(try simp (disch:=omega) only [go_sem,hA',hN',hB,aC,ai.kind,ai.names,ai.dn,ai.gap,ai.most,ai.lo,ai.hi,ai.kids,ai.dk,ut,l8,kV,kW,kX,aF hn dA,aF hk ez,eG hn,eG hk]);repeat' (first | ((with_reducible first | apply aa | apply ab | apply Z)<;>intro h<;>(try simp only [spl] at h)<;>try simp (disch:=omega) only [go_sem,hA',hN',hB,aC,ai.kind,ai.names,ai.dn,ai.gap,ai.most,ai.lo,ai.hi,ai.kids,ai.dk,ut,l8,kV,kW,kX,aF hn dA,aF hk ez,eG hn,eG hk,h])| ((with_reducible refine dv ?_;first | refine bB hG _ (pZ _) rfl ?_ | refine bB hG _ (tz (.mk kind names dn gap ms lo hi kids dk) hO) rfl ?_)<;>try simp (disch:=omega) only [go_sem,hA',hN',hB,aC,ai.kind,ai.names,ai.dn,ai.gap,ai.most,ai.lo,ai.hi,ai.kids,ai.dk,ut,l8,kV,kW,kX,aF hn dA,aF hk ez,eG hn,eG hk]))
   all_goals (refine ax (.bool false) ?_;congr 1;symm;exact lM fun hx=>by have:=(jJ hx).1.2.2;rw [hB] at this;cases this)
  simp (disch:=omega) only [go_sem,hA',hN',hB,aC,ai.kind,ai.names,ai.dn,ai.gap,ai.most,ai.lo,ai.hi,ai.kids,ai.dk,ut,l8,kV,kW,kX,aF hn dA,aF hk ez,eG hn,eG hk]
  refine bB hG _ (pZ _) rfl ?_
  simp (disch:=omega) only [go_sem,hA',hN',hB,aC,ai.kind,ai.names,ai.dn,ai.gap,ai.most,ai.lo,ai.hi,ai.kids,ai.dk,ut,l8,kV,kW,kX,aF hn dA,aF hk ez,eG hn,eG hk]
  refine bB hG _ (tz (.mk kind names dn gap ms lo hi kids dk) hO) rfl ?_
  simp (disch:=omega) only [go_sem,hA',hN',hB,aC,ai.kind,ai.names,ai.dn,ai.gap,ai.most,ai.lo,ai.hi,ai.kids,ai.dk,ut,l8,kV,kW,kX,SF,aF hn dA,aF hk ez,eG hn,eG hk]
  generalize hH:(Hp.empty.push _:Hp)=H
  have hg0:H.get 0=some (ae 40 (bQ (.mk kind names dn gap ms lo hi kids dk))):=by subst hH;simp (disch:=omega) only [go_sem,bQ,ai.kind,ai.names,ai.dn,ai.gap,ai.most,ai.lo,ai.hi,ai.kids,ai.dk]
  refine QH (o:= .mk kind names dn gap ms lo hi kids dk) (eg rfl rfl) hg0 fun t g1 g3=> ?_
  simp (disch:=omega) only [go_sem,Si,SZ]
  refine RX g1 g3 hg0 fun t g1 g47=> ?_
  simp (disch:=omega) only [go_sem,KH,g47]
  refine ab (fun hc=> ?_) (fun hc=> ?_)
  ·simp (disch:=omega) only [go_sem,l8]
   refine ax (.bool false) ?_
   congr 1;symm;refine lM fun hx=> ?_
   have hx:=(jJ hx).2
   simp only [fL,Bool.or_eq_true,bX,et,bU,cU,Bool.or_eq_false_iff,eB] at hc
   omega
  simp (disch:=omega) only [go_sem,Po,J2]
  refine La (o:= .mk kind names dn gap ms lo hi kids dk) g1 hg0 fun t r g1 g70 hr=> ?_
  simp (disch:=omega) only [go_sem,K9,g70]
  refine ab (fun hc2=> ?_) (fun hc2=> ?_)
  ·simp (disch:=omega) only [go_sem,l8]
   refine ax (.bool false) ?_
   congr 1;symm;refine lM fun hx=> ?_
   have hx:=(jJ hx).2
   have hr:=hr.1 hc2
   omega
  have hr:¬_:=fun hx=>by have:=hr.2 hx;rw [hc2] at this;cases this
  simp (disch:=omega) only [go_sem,KT,LP]
  refine JP (o:= .mk kind names dn gap ms lo hi kids dk) g1 hg0 fun t r2 g1 g105 hr2=> ?_
  simp (disch:=omega) only [go_sem,Ka,g105]
  refine ab (fun hc3=> ?_) (fun hc3=> ?_)
  ·simp (disch:=omega) only [go_sem,l8]
   refine ax (.bool false) ?_
   congr 1;symm;refine lM fun hx=> ?_
   have hx:=(jJ hx).2
   have hr2:=hr2.1 hc3
   omega
  have hr2:¬_:=fun hx=>by have:=hr2.2 hx;rw [hc3] at this;cases this
  have hnode:ph (.mk kind names dn gap ms lo hi kids dk)=true:=by
   refine Hk hA hN hB ?_
   simp only [fL,Bool.or_eq_false_iff,eB,Bool.not_eq_false',bU,cU,bX,Bool.or_eq_true,et] at hc
   simp only [ai.kind,ai.names,ai.dn,ai.gap,ai.most,ai.lo,ai.hi,ai.kids,ai.dk] at *
   omega
  simp (disch:=omega) only [go_sem,KS]
  refine aZ (aBU (.mk kind names dn gap ms lo hi kids dk)) (fun m e H hi=> ?_) (m:=kids.length) ?_
  rotate_left
  ·refine⟨0,bN _,rfl,rfl,fun y hy=>by simp at hy, ?_, ?_, ?_⟩<;>first | (first | rfl | (simp (disch:=omega) only [go_sem,g1]<;>rfl))| (rw [hg0];rfl)
  obtain⟨n,hn',rfl,hdm,ha,g4,g1,hg0⟩:=hi
  obtain⟨t,dm⟩:=e
  dsimp only [ai.kids] at hn' hdm ha g4 g1 hg0
  subst hdm
  simp only [aC,ai.kind,ai.names,ai.dn,ai.gap,ai.most,ai.lo,ai.hi,ai.kids,ai.dk,go_sem] at hg0
  refine aV 200 ?_
  rw [Ri]
  by_cases hlt:n<kids.length
  ·have hih:=ih _ (cO hlt)
   cases hf:fh kids[n]<;>rw [hf] at hih
   ·(try simp (disch:=omega) only [go_sem,g4,g1,hg0,aF hk ez,bC hk ez m9 jS hlt,bv cP hlt,aC,bp,hlt,l8]);repeat' (first | ((with_reducible first | apply aa | apply ab | apply Z)<;>intro h<;>(try simp only [spl] at h)<;>try simp (disch:=omega) only [go_sem,g4,g1,hg0,aF hk ez,bC hk ez m9 jS hlt,bv cP hlt,aC,Int.ofNat_lt,hlt,l8,h])| ((with_reducible refine dv ?_;refine bB hG _ (hih) rfl ?_)<;>try simp (disch:=omega) only [go_sem,g4,g1,hg0,aF hk ez,bC hk ez m9 jS hlt,bv cP hlt,aC,bp,hlt,l8]))
    refine ax (.bool false) ?_
    congr 1;symm;rw [iO,hnode,kb]
    exact List.all_eq_false.2 ⟨kids[n],cO hlt,by simp [hf]⟩
   ·(try simp (disch:=omega) only [go_sem,g4,g1,hg0,aF hk ez,bC hk ez m9 jS hlt,bv cP hlt,aC,bp,hlt,l8]);repeat' (first | ((with_reducible first | apply aa | apply ab | apply Z)<;>intro h<;>(try simp only [spl] at h)<;>try simp (disch:=omega) only [go_sem,g4,g1,hg0,aF hk ez,bC hk ez m9 jS hlt,bv cP hlt,aC,Int.ofNat_lt,hlt,l8,h])| ((with_reducible refine dv ?_;refine bB hG _ (hih) rfl ?_)<;>try simp (disch:=omega) only [go_sem,g4,g1,hg0,aF hk ez,bC hk ez m9 jS hlt,bv cP hlt,aC,bp,hlt,l8]))
    refine bd (m':=kids.length - (n+1)) (by simp only [ai.kids];omega) ⟨n+1,by simp only [ai.kids];omega,rfl,rfl, ?_, ?_, ?_, ?_⟩
    ·rw [show (ai.mk kind names dn gap ms lo hi kids dk).kids=kids from rfl,jd hlt]
     intro y hy
     rcases dF.1 hy with hy | hy
     ·exact ha y hy
     ·simp at hy;subst hy;exact hf
    all_goals (first | rfl | (simp (disch:=omega) only [go_sem,g4,g1,hg0,aC,ai.kind,ai.names,ai.dn,ai.gap,ai.most,ai.lo,ai.hi,ai.kids,ai.dk]<;>rfl))
  ·(try simp (disch:=omega) only [go_sem,g4,g1,hg0,aF hk ez,bp,hlt,C7,l8]);repeat' ((with_reducible first | apply aa | apply ab | apply Z)<;>intro h<;>(try simp only [spl] at h)<;>try simp (disch:=omega) only [go_sem,g4,g1,hg0,aF hk ez,Int.ofNat_lt,hlt,C7,l8,h])
   refine ax (.bool true) ?_
   congr 1;symm;rw [iO,hnode,kb]
   rw [cN (by omega)] at ha
   exact eI.2 ha
theorem Lc (a b c d e f:Int) (k:AV->Bool):aw .eql 263 false (.agg [O a, O b, O c]) (.agg [O d, O e, O f]) k=(match jT [.i,.i,.i] [O a, O b, O c] [O d, O e, O f] with | some r=>ip r fun r=>k (.bool r)| none=>false):=by kernel_rfl
theorem gC (a b c d e f:Int) (k:AV->Bool):aw .eql 263 false (.agg [O a, O b, O c]) (.agg [O d, O e, O f]) k=k (.bool (decide (a=d/\b=e/\c=f))):=by
 rw [Lc]
 have h:jT [.i,.i,.i] [O a, O b, O c] [O d, O e, O f]=some (decide (a=d/\b=e/\c=f)):=by
  simp only [jT,Ez,bW,vG,nq,Bool.decide_and]
 rw [h]
 exact cW _ _
theorem IB (x y z:Int) (k:AV->Bool):aU 263 [(0, O x),(1, O y),(2, O z)] k=k (.agg [O x, O y, O z]):=by
 rw [sJ (z:=[O 0, O 0, O 0]) (by kernel_rfl) NZ in3,ce3]
 rfl
theorem ft (k:AV->Bool):aU 263 [] k=k (.agg [O 0, O 0, O 0]):=by
 rw [sJ (z:=[O 0, O 0, O 0]) (by kernel_rfl) NZ in3,ce3]
 rfl
def dO (o:ai):Prop:=
 (o.kind=1/\o.names.length=1/\o.kids.length=0/\o.gap.lo=0/\o.gap.hi=0/\o.most=0/\o.lo=0/\o.hi=0)∨
 (o.kind=2/\2<=o.names.length/\o.names.length<=4/\o.kids.length=0/\o.gap.lo=0/\o.gap.hi=0/\o.most=0/\o.lo=0/\o.hi=0)∨
 (o.kind=3/\o.names.length=0/\o.kids.length=2/\0<=o.gap.lo/\o.gap.lo<=o.gap.hi/\o.gap.hi<=86400/\o.most=0/\o.lo=0/\o.hi=0)∨
 (o.kind=4/\o.names.length=0/\o.kids.length=2/\o.gap.lo=0/\o.gap.hi=0/\o.most=0/\o.lo=0/\o.hi=0)∨
 (o.kind=5/\o.names.length=0/\o.kids.length=1/\o.gap.lo=0/\o.gap.hi=0/\0<=o.most/\o.most<86400/\o.lo=0/\o.hi=0)∨
 (o.kind=6/\o.names.length=0/\o.kids.length=1/\0<=o.gap.lo/\o.gap.lo<=o.gap.hi/\o.gap.hi<=86400/\o.most=0/\1<=o.lo/\o.lo<=o.hi/\o.hi<=6)
instance (o:ai):Decidable (dO o):=by unfold dO;infer_instance
theorem Oz (k:Int):((k=1)=True/\(k=2)=False/\(k=3)=False/\(k=4)=False/\(k=5)=False/\(k=6)=False)∨((k=1)=False/\(k=2)=True/\(k=3)=False/\(k=4)=False/\(k=5)=False/\(k=6)=False)∨
  ((k=1)=False/\(k=2)=False/\(k=3)=True/\(k=4)=False/\(k=5)=False/\(k=6)=False)∨((k=1)=False/\(k=2)=False/\(k=3)=False/\(k=4)=True/\(k=5)=False/\(k=6)=False)∨
  ((k=1)=False/\(k=2)=False/\(k=3)=False/\(k=4)=False/\(k=5)=True/\(k=6)=False)∨((k=1)=False/\(k=2)=False/\(k=3)=False/\(k=4)=False/\(k=5)=False/\(k=6)=True)∨
  ((k=1)=False/\(k=2)=False/\(k=3)=False/\(k=4)=False/\(k=5)=False/\(k=6)=False):=by
 simp only [eW,eH,eQ]
 omega
theorem wa (o:ai):ph o=(decide (dO o)&&oG [] o.names):=by
 rw [cg]
 simp only [ph,C5,jM,iK,mD,qg,bX,bU]
 unfold dO
 generalize oG [] o.names=b
 rcases Oz o.kind with⟨k1,k2,k3,k4,k5,k6⟩| ⟨k1,k2,k3,k4,k5,k6⟩| ⟨k1,k2,k3,k4,k5,k6⟩| ⟨k1,k2,k3,k4,k5,k6⟩| ⟨k1,k2,k3,k4,k5,k6⟩| ⟨k1,k2,k3,k4,k5,k6⟩| ⟨k1,k2,k3,k4,k5,k6⟩
 all_goals simp only [k1,k2,k3,k4,k5,k6,ne_eq,or_false,false_or,or_true,true_or,true_and,false_and,and_true,reduceIte,o9,not_false_eq_true,false_implies,true_implies,forall_const,gh,eE]
 all_goals simp only [bU]
 all_goals cases b<;>simp only [dI,and_false,false_and,and_true,true_and]<;>first | omega | (constructor<;>intro hx<;>first | omega | (exact hx.elim))
section
variable {o : ai} {t : E2} {H : Hp} {k : AEx -> En -> Hp -> Bool} {b : Nat}
theorem VQ (g1:t 1= .ptr 0 0) (g7:t 7= O (o.names.length:Int)) (g8:t 8= O (o.kids.length:Int)) (g9:t 9= .bool (!(decide (o.gap.lo=0)&&decide (o.gap.hi=0)))) (g10:t 10= .ptr b 0)
  (hg0:H.get 0=some (ae 40 (bQ o))) (hgb:H.get b=some (ae 263 [O o.most, O o.lo, O o.hi]))
  (hk1:∀t' r,t' 2= .bool r->(r=true↔dO o)->k .ret ⟨t',[]⟩ H=true) (hk2:∀t',¬dO o->k .normal ⟨t',[]⟩ H=true):
  az 193 201 95 254 none ⟨t,[]⟩ H k=true:=by
 have hgc:=IN ⟨o.gap.lo,o.gap.hi⟩
 rcases Oz o.kind with⟨k1,k2,k3,k4,k5,k6⟩| ⟨k1,k2,k3,k4,k5,k6⟩| ⟨k1,k2,k3,k4,k5,k6⟩| ⟨k1,k2,k3,k4,k5,k6⟩| ⟨k1,k2,k3,k4,k5,k6⟩| ⟨k1,k2,k3,k4,k5,k6⟩| ⟨k1,k2,k3,k4,k5,k6⟩
 ·(try simp (disch:=omega) only [go_sem,g1,g7,g8,g9,g10,hg0,hgb,k1,bQ,iP,A',Bm,ft,gC, *]);repeat' (first | ((with_reducible first | apply aa | apply ab | apply Z)<;>intro h<;>(try simp only [spl] at h)<;>try simp (disch:=omega) only [go_sem,g1,g7,g8,g9,g10,hg0,hgb,k1,bQ,iP,A',Bm,ft,gC, *])| ((with_reducible refine dv ?_;refine bB hG _ (hgc) rfl ?_)<;>try simp (disch:=omega) only [go_sem,g1,g7,g8,g9,g10,hg0,hgb,k1,bQ,iP,A',Bm,ft,gC, *]))
  all_goals first
   | (refine hk1 _ (true) ?_ ?_<;>first | (first | rfl | (simp (disch:=omega) only [go_sem, *]<;>rfl))| (simp only [dO,fL,eW,eH,eQ,bX,eB,et,bU,cU,eL,dI,eJ] at *;omega))
   | (refine hk1 _ (false) ?_ ?_<;>first | (first | rfl | (simp (disch:=omega) only [go_sem, *]<;>rfl))| (simp only [dO,fL,eW,eH,eQ,bX,eB,et,bU,cU,eL,dI,eJ] at *;omega))
   | (refine hk1 _ (decide (o.most=0/\o.lo=0/\o.hi=0)) ?_ ?_<;>first | (first | rfl | (simp (disch:=omega) only [go_sem, *]<;>rfl))| (simp only [dO,fL,eW,eH,eQ,bX,eB,et,bU,cU,eL,dI,eJ] at *;omega))
   | (refine hk1 _ (decide (o.hi=0)) ?_ ?_<;>first | (first | rfl | (simp (disch:=omega) only [go_sem, *]<;>rfl))| (simp only [dO,fL,eq_iff_iff,iff_true,iff_false,Bool.and_eq_true,Bool.and_eq_false_iff,Bool.not_eq_true',decide_eq_true_eq,decide_eq_false_iff_not,true_iff,Bool.false_eq_true,false_iff] at *;omega))
   | (refine hk1 _ (decide (o.hi<=6)) ?_ ?_<;>first | (first | rfl | (simp (disch:=omega) only [go_sem, *]<;>rfl))| (simp only [dO,fL,eq_iff_iff,iff_true,iff_false,Bool.and_eq_true,Bool.and_eq_false_iff,Bool.not_eq_true',decide_eq_true_eq,decide_eq_false_iff_not,true_iff,Bool.false_eq_true,false_iff] at *;omega))
   | (refine hk2 _ ?_;simp only [dO,eq_iff_iff,iff_true,iff_false] at *;omega)
 ·(try simp (disch:=omega) only [go_sem,g1,g7,g8,g9,g10,hg0,hgb,k1,k2,bQ,iP,BY,Ci,ft,gC, *]);repeat' (first | ((with_reducible first | apply aa | apply ab | apply Z)<;>intro h<;>(try simp only [spl] at h)<;>try simp (disch:=omega) only [go_sem,g1,g7,g8,g9,g10,hg0,hgb,k1,k2,bQ,iP,BY,Ci,ft,gC, *])| ((with_reducible refine dv ?_;refine bB hG _ (hgc) rfl ?_)<;>try simp (disch:=omega) only [go_sem,g1,g7,g8,g9,g10,hg0,hgb,k1,k2,bQ,iP,BY,Ci,ft,gC, *]))
  all_goals first
   | (refine hk1 _ (true) ?_ ?_<;>first | (first | rfl | (simp (disch:=omega) only [go_sem, *]<;>rfl))| (simp only [dO,fL,eW,eH,eQ,bX,eB,et,bU,cU,eL,dI,eJ] at *;omega))
   | (refine hk1 _ (false) ?_ ?_<;>first | (first | rfl | (simp (disch:=omega) only [go_sem, *]<;>rfl))| (simp only [dO,fL,eW,eH,eQ,bX,eB,et,bU,cU,eL,dI,eJ] at *;omega))
   | (refine hk1 _ (decide (o.most=0/\o.lo=0/\o.hi=0)) ?_ ?_<;>first | (first | rfl | (simp (disch:=omega) only [go_sem, *]<;>rfl))| (simp only [dO,fL,eW,eH,eQ,bX,eB,et,bU,cU,eL,dI,eJ] at *;omega))
   | (refine hk1 _ (decide (o.hi=0)) ?_ ?_<;>first | (first | rfl | (simp (disch:=omega) only [go_sem, *]<;>rfl))| (simp only [dO,fL,eq_iff_iff,iff_true,iff_false,Bool.and_eq_true,Bool.and_eq_false_iff,Bool.not_eq_true',decide_eq_true_eq,decide_eq_false_iff_not,true_iff,Bool.false_eq_true,false_iff] at *;omega))
   | (refine hk1 _ (decide (o.hi<=6)) ?_ ?_<;>first | (first | rfl | (simp (disch:=omega) only [go_sem, *]<;>rfl))| (simp only [dO,fL,eq_iff_iff,iff_true,iff_false,Bool.and_eq_true,Bool.and_eq_false_iff,Bool.not_eq_true',decide_eq_true_eq,decide_eq_false_iff_not,true_iff,Bool.false_eq_true,false_iff] at *;omega))
   | (refine hk2 _ ?_;simp only [dO,eq_iff_iff,iff_true,iff_false] at *;omega)
 ·(try simp (disch:=omega) only [go_sem,g1,g7,g8,g9,g10,hg0,hgb,k1,k2,k3,bQ,iP,Bf,BM,ft,gC, *]);repeat' (first | ((with_reducible first | apply aa | apply ab | apply Z)<;>intro h<;>(try simp only [spl] at h)<;>try simp (disch:=omega) only [go_sem,g1,g7,g8,g9,g10,hg0,hgb,k1,k2,k3,bQ,iP,Bf,BM,ft,gC, *])| ((with_reducible refine dv ?_;refine bB hG _ (hgc) rfl ?_)<;>try simp (disch:=omega) only [go_sem,g1,g7,g8,g9,g10,hg0,hgb,k1,k2,k3,bQ,iP,Bf,BM,ft,gC, *]))
  all_goals first
   | (refine hk1 _ (true) ?_ ?_<;>first | (first | rfl | (simp (disch:=omega) only [go_sem, *]<;>rfl))| (simp only [dO,fL,eW,eH,eQ,bX,eB,et,bU,cU,eL,dI,eJ] at *;omega))
   | (refine hk1 _ (false) ?_ ?_<;>first | (first | rfl | (simp (disch:=omega) only [go_sem, *]<;>rfl))| (simp only [dO,fL,eW,eH,eQ,bX,eB,et,bU,cU,eL,dI,eJ] at *;omega))
   | (refine hk1 _ (decide (o.most=0/\o.lo=0/\o.hi=0)) ?_ ?_<;>first | (first | rfl | (simp (disch:=omega) only [go_sem, *]<;>rfl))| (simp only [dO,fL,eW,eH,eQ,bX,eB,et,bU,cU,eL,dI,eJ] at *;omega))
   | (refine hk1 _ (decide (o.hi=0)) ?_ ?_<;>first | (first | rfl | (simp (disch:=omega) only [go_sem, *]<;>rfl))| (simp only [dO,fL,eq_iff_iff,iff_true,iff_false,Bool.and_eq_true,Bool.and_eq_false_iff,Bool.not_eq_true',decide_eq_true_eq,decide_eq_false_iff_not,true_iff,Bool.false_eq_true,false_iff] at *;omega))
   | (refine hk1 _ (decide (o.hi<=6)) ?_ ?_<;>first | (first | rfl | (simp (disch:=omega) only [go_sem, *]<;>rfl))| (simp only [dO,fL,eq_iff_iff,iff_true,iff_false,Bool.and_eq_true,Bool.and_eq_false_iff,Bool.not_eq_true',decide_eq_true_eq,decide_eq_false_iff_not,true_iff,Bool.false_eq_true,false_iff] at *;omega))
   | (refine hk2 _ ?_;simp only [dO,eq_iff_iff,iff_true,iff_false] at *;omega)
 ·(try simp (disch:=omega) only [go_sem,g1,g7,g8,g9,g10,hg0,hgb,k1,k2,k3,k4,bQ,iP,Br,Ch,ft,gC, *]);repeat' (first | ((with_reducible first | apply aa | apply ab | apply Z)<;>intro h<;>(try simp only [spl] at h)<;>try simp (disch:=omega) only [go_sem,g1,g7,g8,g9,g10,hg0,hgb,k1,k2,k3,k4,bQ,iP,Br,Ch,ft,gC, *])| ((with_reducible refine dv ?_;refine bB hG _ (hgc) rfl ?_)<;>try simp (disch:=omega) only [go_sem,g1,g7,g8,g9,g10,hg0,hgb,k1,k2,k3,k4,bQ,iP,Br,Ch,ft,gC, *]))
  all_goals first
   | (refine hk1 _ (true) ?_ ?_<;>first | (first | rfl | (simp (disch:=omega) only [go_sem, *]<;>rfl))| (simp only [dO,fL,eW,eH,eQ,bX,eB,et,bU,cU,eL,dI,eJ] at *;omega))
   | (refine hk1 _ (false) ?_ ?_<;>first | (first | rfl | (simp (disch:=omega) only [go_sem, *]<;>rfl))| (simp only [dO,fL,eW,eH,eQ,bX,eB,et,bU,cU,eL,dI,eJ] at *;omega))
   | (refine hk1 _ (decide (o.most=0/\o.lo=0/\o.hi=0)) ?_ ?_<;>first | (first | rfl | (simp (disch:=omega) only [go_sem, *]<;>rfl))| (simp only [dO,fL,eW,eH,eQ,bX,eB,et,bU,cU,eL,dI,eJ] at *;omega))
   | (refine hk1 _ (decide (o.hi=0)) ?_ ?_<;>first | (first | rfl | (simp (disch:=omega) only [go_sem, *]<;>rfl))| (simp only [dO,fL,eq_iff_iff,iff_true,iff_false,Bool.and_eq_true,Bool.and_eq_false_iff,Bool.not_eq_true',decide_eq_true_eq,decide_eq_false_iff_not,true_iff,Bool.false_eq_true,false_iff] at *;omega))
   | (refine hk1 _ (decide (o.hi<=6)) ?_ ?_<;>first | (first | rfl | (simp (disch:=omega) only [go_sem, *]<;>rfl))| (simp only [dO,fL,eq_iff_iff,iff_true,iff_false,Bool.and_eq_true,Bool.and_eq_false_iff,Bool.not_eq_true',decide_eq_true_eq,decide_eq_false_iff_not,true_iff,Bool.false_eq_true,false_iff] at *;omega))
   | (refine hk2 _ ?_;simp only [dO,eq_iff_iff,iff_true,iff_false] at *;omega)
 ·(try simp (disch:=omega) only [go_sem,g1,g7,g8,g9,g10,hg0,hgb,k1,k2,k3,k4,k5,bQ,iP,BT,BB,ft,gC, *]);repeat' (first | ((with_reducible first | apply aa | apply ab | apply Z)<;>intro h<;>(try simp only [spl] at h)<;>try simp (disch:=omega) only [go_sem,g1,g7,g8,g9,g10,hg0,hgb,k1,k2,k3,k4,k5,bQ,iP,BT,BB,ft,gC, *])| ((with_reducible refine dv ?_;refine bB hG _ (hgc) rfl ?_)<;>try simp (disch:=omega) only [go_sem,g1,g7,g8,g9,g10,hg0,hgb,k1,k2,k3,k4,k5,bQ,iP,BT,BB,ft,gC, *]))
  all_goals first
   | (refine hk1 _ (true) ?_ ?_<;>first | (first | rfl | (simp (disch:=omega) only [go_sem, *]<;>rfl))| (simp only [dO,fL,eW,eH,eQ,bX,eB,et,bU,cU,eL,dI,eJ] at *;omega))
   | (refine hk1 _ (false) ?_ ?_<;>first | (first | rfl | (simp (disch:=omega) only [go_sem, *]<;>rfl))| (simp only [dO,fL,eW,eH,eQ,bX,eB,et,bU,cU,eL,dI,eJ] at *;omega))
   | (refine hk1 _ (decide (o.most=0/\o.lo=0/\o.hi=0)) ?_ ?_<;>first | (first | rfl | (simp (disch:=omega) only [go_sem, *]<;>rfl))| (simp only [dO,fL,eW,eH,eQ,bX,eB,et,bU,cU,eL,dI,eJ] at *;omega))
   | (refine hk1 _ (decide (o.hi=0)) ?_ ?_<;>first | (first | rfl | (simp (disch:=omega) only [go_sem, *]<;>rfl))| (simp only [dO,fL,eW,eH,eQ,bX,eB,et,bU,cU,eL,dI,eJ] at *;omega))
   | (refine hk1 _ (decide (o.hi<=6)) ?_ ?_<;>first | (first | rfl | (simp (disch:=omega) only [go_sem, *]<;>rfl))| (simp only [dO,fL,eq_iff_iff,iff_true,iff_false,Bool.and_eq_true,Bool.and_eq_false_iff,Bool.not_eq_true',decide_eq_true_eq,decide_eq_false_iff_not,true_iff,Bool.false_eq_true,false_iff] at *;omega))
   | (refine hk2 _ ?_;simp only [dO,eq_iff_iff,iff_true,iff_false] at *;omega)
 ·(try simp (disch:=omega) only [go_sem,g1,g7,g8,g9,g10,hg0,hgb,k1,k2,k3,k4,k5,k6,bQ,iP,A6,B9,ft,gC, *]);repeat' (first | ((with_reducible first | apply aa | apply ab | apply Z)<;>intro h<;>(try simp only [spl] at h)<;>try simp (disch:=omega) only [go_sem,g1,g7,g8,g9,g10,hg0,hgb,k1,k2,k3,k4,k5,k6,bQ,iP,A6,B9,ft,gC, *])| ((with_reducible refine dv ?_;refine bB hG _ (hgc) rfl ?_)<;>try simp (disch:=omega) only [go_sem,g1,g7,g8,g9,g10,hg0,hgb,k1,k2,k3,k4,k5,k6,bQ,iP,A6,B9,ft,gC, *]))
  all_goals first
   | (refine hk1 _ (true) ?_ ?_<;>first | (first | rfl | (simp (disch:=omega) only [go_sem, *]<;>rfl))| (simp only [dO,fL,eW,eH,eQ,bX,eB,et,bU,cU,eL,dI,eJ] at *;omega))
   | (refine hk1 _ (false) ?_ ?_<;>first | (first | rfl | (simp (disch:=omega) only [go_sem, *]<;>rfl))| (simp only [dO,fL,eW,eH,eQ,bX,eB,et,bU,cU,eL,dI,eJ] at *;omega))
   | (refine hk1 _ (decide (o.most=0/\o.lo=0/\o.hi=0)) ?_ ?_<;>first | (first | rfl | (simp (disch:=omega) only [go_sem, *]<;>rfl))| (simp only [dO,fL,eW,eH,eQ,bX,eB,et,bU,cU,eL,dI,eJ] at *;omega))
   | (refine hk1 _ (decide (o.hi=0)) ?_ ?_<;>first | (first | rfl | (simp (disch:=omega) only [go_sem, *]<;>rfl))| (simp only [dO,fL,eW,eH,eQ,bX,eB,et,bU,cU,eL,dI,eJ] at *;omega))
   | (refine hk1 _ (decide (o.hi<=6)) ?_ ?_<;>first | (first | rfl | (simp (disch:=omega) only [go_sem, *]<;>rfl))| (simp only [dO,fL,eW,eH,eQ,bX,eB,et,bU,cU,eL,dI,eJ] at *;omega))
   | (refine hk2 _ ?_;simp only [dO,eq_iff_iff,iff_true,iff_false] at *;omega)
 ·(try simp (disch:=omega) only [go_sem,g1,g7,g8,g9,g10,hg0,hgb,k1,k2,k3,k4,k5,k6,bQ,iP,ft,gC, *]);repeat' (first | ((with_reducible first | apply aa | apply ab | apply Z)<;>intro h<;>(try simp only [spl] at h)<;>try simp (disch:=omega) only [go_sem,g1,g7,g8,g9,g10,hg0,hgb,k1,k2,k3,k4,k5,k6,bQ,iP,ft,gC, *])| ((with_reducible refine dv ?_;refine bB hG _ (hgc) rfl ?_)<;>try simp (disch:=omega) only [go_sem,g1,g7,g8,g9,g10,hg0,hgb,k1,k2,k3,k4,k5,k6,bQ,iP,ft,gC, *]))
  all_goals first
   | (refine hk1 _ (true) ?_ ?_<;>first | (first | rfl | (simp (disch:=omega) only [go_sem, *]<;>rfl))| (simp only [dO,fL,eq_iff_iff,iff_true,iff_false,Bool.and_eq_true,Bool.and_eq_false_iff,Bool.not_eq_true',decide_eq_true_eq,decide_eq_false_iff_not,true_iff,Bool.false_eq_true,false_iff] at *;omega))
   | (refine hk1 _ (false) ?_ ?_<;>first | (first | rfl | (simp (disch:=omega) only [go_sem, *]<;>rfl))| (simp only [dO,fL,eq_iff_iff,iff_true,iff_false,Bool.and_eq_true,Bool.and_eq_false_iff,Bool.not_eq_true',decide_eq_true_eq,decide_eq_false_iff_not,true_iff,Bool.false_eq_true,false_iff] at *;omega))
   | (refine hk1 _ (decide (o.most=0/\o.lo=0/\o.hi=0)) ?_ ?_<;>first | (first | rfl | (simp (disch:=omega) only [go_sem, *]<;>rfl))| (simp only [dO,fL,eq_iff_iff,iff_true,iff_false,Bool.and_eq_true,Bool.and_eq_false_iff,Bool.not_eq_true',decide_eq_true_eq,decide_eq_false_iff_not,true_iff,Bool.false_eq_true,false_iff] at *;omega))
   | (refine hk1 _ (decide (o.hi=0)) ?_ ?_<;>first | (first | rfl | (simp (disch:=omega) only [go_sem, *]<;>rfl))| (simp only [dO,fL,eq_iff_iff,iff_true,iff_false,Bool.and_eq_true,Bool.and_eq_false_iff,Bool.not_eq_true',decide_eq_true_eq,decide_eq_false_iff_not,true_iff,Bool.false_eq_true,false_iff] at *;omega))
   | (refine hk1 _ (decide (o.hi<=6)) ?_ ?_<;>first | (first | rfl | (simp (disch:=omega) only [go_sem, *]<;>rfl))| (simp only [dO,fL,eq_iff_iff,iff_true,iff_false,Bool.and_eq_true,Bool.and_eq_false_iff,Bool.not_eq_true',decide_eq_true_eq,decide_eq_false_iff_not,true_iff,Bool.false_eq_true,false_iff] at *;omega))
   | (refine hk2 _ ?_;simp only [dO,eW,eH,eQ] at *;omega)
end
def I95 (o:ai) (m:Nat) (e:En) (H:Hp):Prop:=∃n q:Nat,n<=o.kids.length/\m=o.kids.length - n/\e.dm=[]/\(∀y∈o.kids.take n,fh y=true)/\e.t 14= O n/\e.t 13= O (o.kids.length:Int)/\e.t 12=ofD o.dk/\e.t 1= .ptr 0 0/\H.get 0=some (ae 40 (bQ o))/\H.nx=q+1
def aCI (o:ai) (m:Nat) (e:En) (H:Hp):Prop:=∃n q:Nat,n<=o.names.length/\m=o.names.length - n/\e.dm=[]/\oG [] o.names=oG (o.names.take n) (o.names.drop n)/\e.t 25= O n/\e.t 24= O (o.names.length:Int)/\e.t 23=ofD o.dn/\e.t 1= .ptr 0 0/\H.get 0=some (ae 40 (bQ o))/\H.nx=q+1
theorem cZ.n1 {o:ai} (h:cZ o):one (ofD o.dn)=true:=eT h.sn
theorem cZ.k1 {o:ai} (h:cZ o):one (ofD o.dk)=true:=eT h.sk
theorem xP {o:ai} (h:oG [] o.names=false):fh o=false:=by rw [iO,wa,h];simp
theorem EF {o k:ai} (h:k∈o.kids) (hk:fh k=false):fh o=false:=by
 rw [iO,List.all_eq_false.2 ⟨k,h,by simp [hk]⟩];simp
theorem Cy {o:ai} (ho:cZ o):bc 95 [.agg (aC o)] (·= .bool (fh o)):=by
 induction ho with
 | mk kind names dn gap ms lo hi kids dk hn hnl hl hk hkl ho ih=>
  have hO:cZ (.mk kind names dn gap ms lo hi kids dk):= .mk kind names dn gap ms lo hi kids dk hn hnl hl hk hkl ho
  generalize hoe:ai.mk kind names dn gap ms lo hi kids dk=o at hO
  have e1:kids=o.kids:=by rw [←hoe];rfl
  have e2:names=o.names:=by rw [←hoe];rfl
  subst e1;subst e2
  clear hoe hn hnl hl hk hkl
  have hn:=hO.sn
  have hnl:=hO.nl
  have hl:=hO.sl
  have hk:=hO.sk
  have hkl:=hO.kl
  refine aH hG ?_
  (try simp (disch:=omega) only [go_sem,aC,g95,mC,aF hn dA,aF hk ez]);repeat' ((with_reducible first | apply aa | apply ab | apply Z)<;>intro h<;>(try simp only [spl] at h)<;>try simp (disch:=omega) only [go_sem,aC,g95,mC,aF hn dA,aF hk ez,h])
  refine aZ (I95 o) (fun m e H hi=> ?_) (m:=o.kids.length) ?_
  rotate_left
  ·refine⟨0,0,bN _,rfl,rfl,fun y hy=>by simp at hy, ?_, ?_, ?_, ?_, ?_, ?_⟩<;>(first | rfl | (simp (disch:=omega) only [go_sem,bQ]<;>rfl))
  obtain⟨n,q,hn',rfl,hdm,ha,g14,g13,g12,g1,hg0,hnx⟩:=hi
  obtain⟨t,dm⟩:=e
  dsimp only at hdm g14 g13 g12 g1
  subst hdm
  refine aV 200 ?_
  rw [UZ]
  by_cases hlt:n<o.kids.length
  ·have hm:=cO hlt
   have hih:=ih _ hm
   have h1:=(ho _ hm).n1
   have h2:=(ho _ hm).k1
   cases hf:fh o.kids[n]<;>rw [hf] at hih
   ·(try simp (disch:=omega) only [go_sem,g14,g13,g12,g1,hnx,hg0,h1,h2,bC hk ez m9 jS hlt,bv cP hlt,aC,bp,hlt,mC]);repeat' (first | ((with_reducible first | apply aa | apply ab | apply Z)<;>intro h<;>(try simp only [spl] at h)<;>try simp (disch:=omega) only [go_sem,g14,g13,g12,g1,hnx,hg0,h1,h2,bC hk ez m9 jS hlt,bv cP hlt,aC,Int.ofNat_lt,hlt,mC,h])| ((with_reducible refine dv ?_;refine bB hG _ (hih) rfl ?_)<;>try simp (disch:=omega) only [go_sem,g14,g13,g12,g1,hnx,hg0,h1,h2,bC hk ez m9 jS hlt,bv cP hlt,aC,bp,hlt,mC]))
    refine ax (.bool false) ?_
    rw [EF hm hf]
   ·(try simp (disch:=omega) only [go_sem,g14,g13,g12,g1,hnx,hg0,h1,h2,bC hk ez m9 jS hlt,bv cP hlt,aC,bp,hlt,mC]);repeat' (first | ((with_reducible first | apply aa | apply ab | apply Z)<;>intro h<;>(try simp only [spl] at h)<;>try simp (disch:=omega) only [go_sem,g14,g13,g12,g1,hnx,hg0,h1,h2,bC hk ez m9 jS hlt,bv cP hlt,aC,Int.ofNat_lt,hlt,mC,h])| ((with_reducible refine dv ?_;refine bB hG _ (hih) rfl ?_)<;>try simp (disch:=omega) only [go_sem,g14,g13,g12,g1,hnx,hg0,h1,h2,bC hk ez m9 jS hlt,bv cP hlt,aC,bp,hlt,mC]))
    refine bd (m':=o.kids.length - (n+1)) (by omega) ⟨n+1,q+1,by omega,rfl,rfl, ?_, ?_, ?_, ?_, ?_, ?_, ?_⟩
    ·rw [jd hlt]
     intro y hy
     rcases dF.1 hy with hy | hy
     ·exact ha y hy
     ·simp at hy;subst hy;exact hf
    all_goals (first | rfl | (simp (disch:=omega) only [go_sem,g14,g13,g12,g1,hg0,hnx]<;>rfl))
  have hall:o.kids.all fh=true:=by rw [cN (by omega)] at ha;exact eI.2 ha
  (try simp (disch:=omega) only [go_sem,g14,g13,g12,g1,hg0,hnx,bQ,aF hn dA,bp,hlt,Np,mC]);repeat' ((with_reducible first | apply aa | apply ab | apply Z)<;>intro h<;>(try simp only [spl] at h)<;>try simp (disch:=omega) only [go_sem,g14,g13,g12,g1,hg0,hnx,bQ,aF hn dA,Int.ofNat_lt,hlt,Np,mC,h])
  refine aZ (aCI o) (fun m e H hi=> ?_) (m:=o.names.length) ?_
  rotate_left
  ·refine⟨0,q,bN _,rfl,rfl,rfl, ?_, ?_, ?_, ?_, ?_, ?_⟩<;>(first | rfl | (simp (disch:=omega) only [go_sem,bQ,g1,hg0,hnx]<;>rfl))
  clear g14 g13 g12 g1 hg0 hnx ha hlt hn'
  obtain⟨n,q,hn',rfl,hdm,hst,g25,g24,g23,g1,hg0,hnx⟩:=hi
  obtain⟨t,dm⟩:=e
  dsimp only at hdm g25 g24 g23 g1
  subst hdm
  refine aV 200 ?_
  rw [Wi]
  by_cases hlt:n<o.names.length
  ·have hnm:=hl _ (cO hlt)
   have hc1:=Bn _ hnm
   have hc2:=wx (o.names.take n) (slT o.dn n) (hn.take ci (by omega)) (by rw [gW];omega) o.names[n]
   cases hb:iX o.names[n]<;>rw [hb] at hc1
   ·(try simp (disch:=omega) only [go_sem,g25,g24,g23,g1,hg0,hnx,bQ,bC hn dA in9 ce9 hlt,bG ci hlt (by decide:0<1),fE,bp,hlt,mC,qW,rH,rt,rZ]);repeat' (first | ((with_reducible first | apply aa | apply ab | apply Z)<;>intro h<;>(try simp only [spl] at h)<;>try simp (disch:=omega) only [go_sem,g25,g24,g23,g1,hg0,hnx,bQ,bC hn dA in9 ce9 hlt,bG ci hlt (by decide:0<1),fE,Int.ofNat_lt,hlt,mC,qW,rH,rt,rZ,h])| ((with_reducible refine dv ?_;refine bB hG _ (hc1) rfl ?_)<;>try simp (disch:=omega) only [go_sem,g25,g24,g23,g1,hg0,hnx,bQ,bC hn dA in9 ce9 hlt,bG ci hlt (by decide:0<1),fE,bp,hlt,mC,qW,rH,rt,rZ]))
    refine ax (.bool false) ?_
    rw [xP (by rw [hst,Ao hlt hb])]
   ·cases hc:(o.names.take n).any fun y=>decide (o.names[n]=y)<;>rw [hc] at hc2
    ·have hc':((o.names.take n).any fun y=>decide (y=o.names[n]))=false:=by rw [←hc];congr 1;funext y;rw [cg];simp [eq_comm]
     have hst':=hst.trans (DM hlt hb hc')
     (try simp (disch:=omega) only [go_sem,g25,g24,g23,g1,hg0,hnx,bQ,jI hn wJ ce9 (mj hlt),bC hn dA in9 ce9 hlt,bG ci hlt (by decide:0<1),fE,bp,hlt,mC,qW,rH,rt,rZ]);repeat' (first | ((with_reducible first | apply aa | apply ab | apply Z)<;>intro h<;>(try simp only [spl] at h)<;>try simp (disch:=omega) only [go_sem,g25,g24,g23,g1,hg0,hnx,bQ,jI hn wJ ce9 (Nat.le_of_lt hlt),bC hn dA in9 ce9 hlt,bG ci hlt (by decide:0<1),fE,Int.ofNat_lt,hlt,mC,qW,rH,rt,rZ,h])| ((with_reducible refine dv ?_;first | refine bB hG _ (hc1) rfl ?_ | refine bB hG _ (hc2) rfl ?_)<;>try simp (disch:=omega) only [go_sem,g25,g24,g23,g1,hg0,hnx,bQ,jI hn wJ ce9 (mj hlt),bC hn dA in9 ce9 hlt,bG ci hlt (by decide:0<1),fE,bp,hlt,mC,qW,rH,rt,rZ]))
     refine bd (m':=o.names.length - (n+1)) (by omega) ⟨n+1,q,by omega,rfl,rfl,hst', ?_, ?_, ?_, ?_, ?_, ?_⟩<;>(first | rfl | (simp (disch:=omega) only [go_sem,g25,g24,g23,g1,hg0,hnx,bQ]<;>rfl))
    ·have hc':((o.names.take n).any fun y=>decide (y=o.names[n]))=true:=by rw [←hc];congr 1;funext y;rw [cg];simp [eq_comm]
     (try simp (disch:=omega) only [go_sem,g25,g24,g23,g1,hg0,hnx,bQ,jI hn wJ ce9 (mj hlt),bC hn dA in9 ce9 hlt,bG ci hlt (by decide:0<1),fE,bp,hlt,mC,qW,rH,rt,rZ]);repeat' (first | ((with_reducible first | apply aa | apply ab | apply Z)<;>intro h<;>(try simp only [spl] at h)<;>try simp (disch:=omega) only [go_sem,g25,g24,g23,g1,hg0,hnx,bQ,jI hn wJ ce9 (Nat.le_of_lt hlt),bC hn dA in9 ce9 hlt,bG ci hlt (by decide:0<1),fE,Int.ofNat_lt,hlt,mC,qW,rH,rt,rZ,h])| ((with_reducible refine dv ?_;first | refine bB hG _ (hc1) rfl ?_ | refine bB hG _ (hc2) rfl ?_)<;>try simp (disch:=omega) only [go_sem,g25,g24,g23,g1,hg0,hnx,bQ,jI hn wJ ce9 (mj hlt),bC hn dA in9 ce9 hlt,bG ci hlt (by decide:0<1),fE,bp,hlt,mC,qW,rH,rt,rZ]))
     refine ax (.bool false) ?_
     rw [xP (by rw [hst,vm hlt hc'])]
  ·have hnm:oG [] o.names=true:=by rw [hst,iu (by omega)];rfl
   (try simp (disch:=omega) only [go_sem,g25,g24,g23,g1,hg0,hnx,bQ,aF hn dA,aF hk ez,bp,hlt,mC,OG,Jt,Dp,IB]);repeat' ((with_reducible first | apply aa | apply ab | apply Z)<;>intro h<;>(try simp only [spl] at h)<;>try simp (disch:=omega) only [go_sem,g25,g24,g23,g1,hg0,hnx,bQ,aF hn dA,aF hk ez,Int.ofNat_lt,hlt,mC,OG,Jt,Dp,IB,h])
   have hlast:fh o=decide (dO o):=by rw [iO,hall,wa,hnm];simp
   generalize hH:(Hp.setb _ _ _:Hp)=H2
   have hg2:H2.get 0=some (ae 40 (bQ o)):=by subst hH;first | rfl | (simp (disch:=omega) only [go_sem,hg0,hnx,bQ]<;>rfl)
   have hg3:H2.get (q+1)=some (ae 263 [O o.most, O o.lo, O o.hi]):=by subst hH;first | rfl | (simp (disch:=omega) only [go_sem,hg0,hnx,bQ]<;>rfl)
   refine VQ (o:=o) (b:=q+1) (eg rfl g1) (eg rfl rfl) (eg rfl rfl) (eg rfl rfl) (by first | rfl | (simp (disch:=omega) only [go_sem,hnx]<;>rfl)) hg2 hg3 (fun t r g2 hr=> ?_) (fun t hr=> ?_)
   ·simp (disch:=omega) only [go_sem,mC,g2]
    refine ax (.bool r) ?_
    rw [hlast];congr 1;rw [cg,hr];simp
   ·simp (disch:=omega) only [go_sem,UL,mC]
    refine ax (.bool false) ?_
    rw [hlast,fK hr]
theorem fS (b off:Nat) (k:AV->Bool):bw (.ptr b off) k=k (.ptr b off):=cg.mpr de
theorem V1 (o:ai):tO o=1+tOs o.kids:=by cases o;rw [tO];rfl
theorem Xu (o:ai):hO o=1+hOs o.kids:=by cases o;rw [hO];rfl
def I94 (o:ai) (b:Nat) (v depth:Int) (H0:Hp) (m:Nat) (e:En) (H:Hp):Prop:=∃n:Nat,n<=o.kids.length/\m=o.kids.length - n/\e.dm=[]/\v+1+(tOs (o.kids.take n):Int)<=40/\(∀k∈o.kids.take n,depth+1+(hO k:Int)<=11)/\
 H.get b=some (ae 3 [O (v+1+(tOs (o.kids.take n):Int))])/\H0.nx<=H.nx/\(∀c,c<H0.nx->c≠b->H.get c=H0.get c)/\
 e.t 25= O n/\e.t 24= O (o.kids.length:Int)/\e.t 23=ofD o.dk/\e.t 1= O depth/\e.t 2= .ptr b 0
def Dl (o:ai):Prop:=∀(v depth:Int) (b:Nat) (H:Hp) (K:AV->Hp->Bool),0<=v->v<=40->1<=depth->depth<=11->H.get b=some (ae 3 [O v])->b<H.nx->
 (∀(r:Bool) (v':Int) (H':Hp),H'.get b=some (ae 3 [O v'])->H.nx<=H'.nx->(∀c,c<H.nx->c≠b->H'.get c=H.get c)->(r=true->v'=v+tO o/\v'<=40/\depth+hO o<=11)->(r=false->40<v+tO o∨11<depth+hO o)->K (.bool r) H'=true)->
 ay 94 [.agg (aq (aC o)), O depth,.ptr b 0] H K=true
theorem Fi {o:ai} (ho:cZ o):Dl o:=by
 induction ho with
 | mk kind names dn gap ms lo hi kids dk hn hnl hl hk hkl ho ih=>
  have hO:cZ (.mk kind names dn gap ms lo hi kids dk):= .mk kind names dn gap ms lo hi kids dk hn hnl hl hk hkl ho
  generalize hoe:ai.mk kind names dn gap ms lo hi kids dk=o at hO
  have e1:kids=o.kids:=by rw [←hoe];rfl
  subst e1
  clear hoe hn hnl hl hk hkl
  have hk:=hO.sk
  have hkl:=hO.kl
  have n1:=hO.n1
  have k1:=hO.k1
  intro v depth b H K hv0 hv1 hd0 hd1 hb hlt0 hK
  have htp:=Bu o
  have hhp:=Re o
  have hte:=V1 o
  have hhe:=Xu o
  refine cb 200 ?_
  (try simp (disch:=omega) only [go_sem,aC,h94,r94,fS,hb,aF hk ez,bD,bZ]);repeat' ((with_reducible first | apply aa | apply ab | apply Z)<;>intro h<;>(try simp only [spl] at h)<;>try simp (disch:=omega) only [go_sem,aC,h94,r94,fS,hb,aF hk ez,bD,bZ,h])
  ·exact hK false (v+1) _ (by first | rfl | (simp (disch:=omega) only [go_sem]<;>rfl)) (by simp (disch:=omega) only [go_sem];omega) (fun c hc hcb=>by simp (disch:=omega) only [go_sem,bD]) (fun hx=>by cases hx) (fun _=>by omega)
  rotate_left
  ·exact hK false (v+1) _ (by first | rfl | (simp (disch:=omega) only [go_sem]<;>rfl)) (by simp (disch:=omega) only [go_sem];omega) (fun c hc hcb=>by simp (disch:=omega) only [go_sem,bD]) (fun hx=>by cases hx) (fun _=>by omega)
  refine aZ (I94 o b v depth H) (fun m e H1 hi=> ?_) (m:=o.kids.length) ?_
  rotate_left
  ·refine⟨0,bN _,rfl,rfl,by simp [tOs];omega,fun y hy=>by simp at hy, ?_, ?_, ?_, ?_, ?_, ?_, ?_, ?_⟩
   ·simp (disch:=omega) only [go_sem,List.take_zero,tOs];simp
   ·simp (disch:=omega) only [go_sem];omega
   ·exact fun c hc hcb=>by simp (disch:=omega) only [go_sem,bD]
   all_goals (first | rfl | (simp (disch:=omega) only [go_sem]<;>rfl))
  obtain⟨n,hn',rfl,hdm,hv2,hh,hgb,hnx,hfr,g25,g24,g23,g1,g2⟩:=hi
  obtain⟨t,dm⟩:=e
  dsimp only at hdm g25 g24 g23 g1 g2
  subst hdm
  refine aV 200 ?_
  rw [Un]
  by_cases hlt:n<o.kids.length
  ·have hm:=cO hlt
   have hih:=ih _ hm
   have h1:=(ho _ hm).n1
   have h2:=(ho _ hm).k1
   have htk:=vC hlt
   have htl:=BO o.kids (n+1)
   have hog:=Gb hm
   simp (disch:=omega) only [go_sem,g25,g24,g23,g1,g2,h1,h2,bC hk ez m9 jS hlt,bv cP hlt,aC,bp,hlt,r94]
   have hcall:=hih (v+1+(tOs (o.kids.take n):Int)) (depth+1)
   simp only [aC,pL,sd,uJ] at hcall
   refine hcall b _ _ (by omega) hv2 (by omega) (by omega) (by simp (disch:=omega) only [go_sem,hgb,bD]) (by simp (disch:=omega) only [go_sem]<;>omega) ?_
   intro r v' H' hb' hn2 hf2 hr1 hr2
   simp only [go_sem] at hn2 hf2
   cases r
   ·simp (disch:=omega) only [go_sem,r94]
    have:=hr2 rfl
    exact hK false v' _ hb' (by omega) (fun c hc hcb=>by rw [hf2 c (by omega) hcb];simp (disch:=omega) only [go_sem,bD];exact hfr c hc hcb) (fun hx=>by cases hx) (fun _=>by omega)
   ·simp (disch:=omega) only [go_sem,r94,g25]
    obtain⟨hv',hv'',hd'⟩:=hr1 rfl
    subst hv'
    refine bd (m':=o.kids.length - (n+1)) (by omega) ⟨n+1,by omega,rfl,rfl,by rw [htk];omega, ?_, ?_,by omega, ?_, ?_, ?_, ?_, ?_, ?_⟩
    ·rw [jd hlt]
     intro y hy
     rcases dF.1 hy with hy | hy
     ·exact hh y hy
     ·simp at hy;subst hy;omega
    ·rw [hb',htk];simp only [Int.natCast_add,Int.add_assoc]
    ·exact fun c hc hcb=>by rw [hf2 c (by omega) hcb];simp (disch:=omega) only [go_sem,bD];exact hfr c hc hcb
    all_goals (first | rfl | (simp (disch:=omega) only [go_sem,g25,g24,g23,g1,g2]<;>rfl))
  ·simp (disch:=omega) only [go_sem,g25,g24,g23,g1,g2,bp,hlt,Vl,r94]
   have hte2:o.kids.take n=o.kids:=cN (by omega)
   rw [hte2] at hv2 hh hgb
   have hoo:(hOs o.kids:Int)<=10 - depth:=I4 (fun k hk=>by have:=hh k hk;omega) (by omega)
   exact hK true _ _ hgb (by omega) hfr (fun _=>⟨by omega,by omega,by omega⟩) (fun hx=>by cases hx)
end Go.S5
namespace Go.Ev
noncomputable section
section
variable {P : Program} {G : bg} {H : Hp}
theorem tC {v:AV}:∀(es:List (AV×AV×Nat)) (j:Nat),(∀p∈es,p.2.1=v)->setVal v es j=es
 | [],j,_=>by cases j<;>rfl
 | (y,w,s)::es,0,h=>by
  have:w=v:=h _ cE
  subst this;rfl
 | e::es,i+1,h=>by
  show e::setVal v es i=e::es
  rw [tC es i fun p hp=>h p (co _ hp)]
theorem CL:∀(l:List (List Nat×AV)) (i:Nat),(∀p∈l,p.2= .bool true)->∀p∈sE l i,p.2.1= .bool true
 | [],i,_,p,hp=>by cases hp
 | (s,v)::l,i,h,p,hp=>by
  rcases cy.1 hp with rfl | hp
  ·exact h _ cE
  ·exact CL l (i+1) (fun q hq=>h q (co _ hq)) p hp
theorem Lu {t el:TypeId} {b:Nat} (hm:iI P t=some ⟨el,⟨false,[.s]⟩⟩) {l:List (List Nat×AV)} (hv:∀p∈l,p.2= .bool true) {s:List Nat} (h:l.any (fun p=>decide (p.1=s))=true) (k:Hp->Bool):
  tj P H b t (.str s) (.bool true) k (some (.map false (sE l 0) l.length))=k (H.setb b (some (.map false (sE l 0) l.length))):=by
 unfold tj
 rw [hm]
 dsimp only
 have hk:ox ⟨el,⟨false,[.s]⟩⟩ (sE l 0) (.str s)=findKey ⟨false,[.s]⟩ (.str s) (sE l 0) 0:=rfl
 obtain⟨n,hn⟩:=(vW s l 0 0 hv).2 h
 rw [hk,hn]
 dsimp only
 rw [tC _ _ (CL l 0 hv)]
end
end
end Go.Ev
namespace Go.S5
open Go.Ev Go.Proofs
def mS (l:List Str):List (Str×AV):=l.map fun x=>(x,.bool true)
theorem DO (l:List Str):∀p∈mS l,p.2= .bool true:=fun p hp=>by
 obtain⟨x,_,rfl⟩:=lF.1 hp;rfl
theorem Ik (l:List Str) (s:Str):(mS l).any (fun p=>decide (p.1=s))=decide (s∈l):=by
 rw [cg];simp [mS,List.any_map]
theorem FQ (l:List Str):(mS l).length=l.length:=by simp [mS]
def rJ (l:List Str) (s:Str):List Str:=if s∈l then l else l++[s]
mutual
def su:List Str->ai->List Str
 | l,.mk _ names _ _ _ _ _ kids _=>jt (names.foldl rJ l) kids
def jt:List Str->List ai->List Str
 | l,[]=>l
 | l,o::os=>jt (su l o) os
end
theorem J' (l:List Str) (o:ai):su l o=jt (o.names.foldl rJ l) o.kids:=by cases o;rw [su];rfl
theorem xB:∀(a b:List ai) (l:List Str),jt l (a++b)=jt (jt l a) b
 | [],b,l=>by simp [jt]
 | o::a,b,l=>by
  show jt l (o::(a++b))=_
  rw [jt,jt,xB a b]
theorem BL {kids:List ai} {n:Nat} (h:n<kids.length) (l:List Str):jt l (kids.take (n+1))=su (jt l (kids.take n)) kids[n]:=by
 rw [jd h,xB];simp [jt]
theorem xe {α β:Type} (f:β->α->β) {l:List α} {n:Nat} (h:n<l.length) (b:β):(l.take (n+1)).foldl f b=f ((l.take n).foldl f b) l[n]:=by
 rw [jd h,List.foldl_append];rfl
def mB (l:List Str):Blk:= .map false (sE (mS l) 0) (mS l).length
theorem Lq {H:Hp} {b:Nat} (l:List Str) (s:Str) (k:Hp->Bool):tj P H b 155 (.str s) (.bool true) k (some (mB l))=k (H.setb b (some (mB (rJ l s)))):=by
 unfold mB rJ
 by_cases h:s∈l
 ·rw [if_pos h,Lu DG (DO l) (by rw [Ik];exact fM h)]
 ·rw [if_neg h,DD DG (DO l) (by rw [Ik];exact fK h)]
  simp [mS]
theorem Uv (t:E2) (H:Hp) (k:fk->Hp->Bool) (i:Evs):ac Tryz.f169 i k .normal ⟨t,[]⟩ H=k (.ret (.tup [])) H:=by kernel_rfl
def aCS (o:ai) (b nb:Nat) (l:List Str) (H0:Hp) (m:Nat) (e:En) (H:Hp):Prop:=∃n:Nat,n<=o.names.length/\m=o.names.length - n/\e.dm=[]/\H.get b=some (mB ((o.names.take n).foldl rJ l))/\H0.nx<H.nx/\(∀c,c<H0.nx->c≠b->H.get c=H0.get c)/\
 H.get nb=some (ae 40 (bQ o))/\nb≠b/\H0.nx<=nb/\e.t 11= O n/\e.t 10= O (o.names.length:Int)/\e.t 9=ofD o.dn/\e.t 1= .map b/\e.t 2= .ptr nb 0
def Yg (o:ai) (b:Nat) (l:List Str) (H0:Hp) (m:Nat) (e:En) (H:Hp):Prop:=∃n:Nat,n<=o.kids.length/\m=o.kids.length - n/\e.dm=[]/\H.get b=some (mB (jt (o.names.foldl rJ l) (o.kids.take n)))/\H0.nx<=H.nx/\(∀c,c<H0.nx->c≠b->H.get c=H0.get c)/\
 e.t 21= O n/\e.t 20= O (o.kids.length:Int)/\e.t 19=ofD o.dk/\e.t 1= .map b
def Cj (o:ai):Prop:=∀(l:List Str) (b:Nat) (H:Hp) (K:AV->Hp->Bool),H.get b=some (mB l)->b<H.nx->
 (∀(H':Hp),H'.get b=some (mB (su l o))->H.nx<=H'.nx->(∀c,c<H.nx->c≠b->H'.get c=H.get c)->K (.tup []) H'=true)->
 ay 169 [.agg (aq (aC o)),.map b] H K=true
theorem zA {o:ai} (ho:cZ o):Cj o:=by
 induction ho with
 | mk kind names dn gap ms lo hi kids dk hn hnl hl hk hkl ho ih=>
  have hO:cZ (.mk kind names dn gap ms lo hi kids dk):= .mk kind names dn gap ms lo hi kids dk hn hnl hl hk hkl ho
  generalize hoe:ai.mk kind names dn gap ms lo hi kids dk=o at hO
  have e1:kids=o.kids:=by rw [←hoe];rfl
  subst e1
  clear hoe hn hnl hl hk hkl
  have hn:=hO.sn
  have hnl:=hO.nl
  have hl:=hO.sl
  have hk:=hO.sk
  have hkl:=hO.kl
  have n1:=hO.n1
  have k1:=hO.k1
  intro l b H K hb hlt0 hK
  refine cb 200 ?_
  (try simp (disch:=omega) only [go_sem,aC,Up,Ex,hb,aF hn dA,bD,bZ]);repeat' ((with_reducible first | apply aa | apply ab | apply Z)<;>intro h<;>(try simp only [spl] at h)<;>try simp (disch:=omega) only [go_sem,aC,Up,Ex,hb,aF hn dA,bD,bZ,h])
  refine aZ (aCS o b H.nx l H) (fun m e H1 hi=> ?_) (m:=o.names.length) ?_
  rotate_left
  ·refine⟨0,bN _,rfl,rfl,by simp (disch:=omega) only [go_sem,hb,bD];rfl,by simp (disch:=omega) only [go_sem];omega,fun c hc hcb=>by simp (disch:=omega) only [go_sem,bD],by first | rfl | (simp (disch:=omega) only [go_sem,bQ]<;>rfl),by omega,bh _, ?_, ?_, ?_, ?_, ?_⟩<;>(first | rfl | (simp (disch:=omega) only [go_sem]<;>rfl))
  obtain⟨n,hn',rfl,hdm,hgb,hnx,hfr,hnb,hne,hle,g11,g10,g9,g1,g2⟩:=hi
  obtain⟨t,dm⟩:=e
  dsimp only at hdm g11 g10 g9 g1 g2
  subst hdm
  refine aV 200 ?_
  rw [Ta]
  by_cases hlt:n<o.names.length
  ·simp (disch:=omega) only [go_sem,g11,g10,g9,g1,g2,hgb,Lq,bC hn dA in9 ce9 hlt,bG ci hlt (by decide:0<1),fE,bp,hlt,Ex]
   refine bd (m':=o.names.length - (n+1)) (by omega) ⟨n+1,by omega,rfl,rfl, ?_,by simp (disch:=omega) only [go_sem];omega,fun c hc hcb=> ?_, ?_,hne,hle, ?_, ?_, ?_, ?_, ?_⟩
   ·simp (disch:=omega) only [go_sem,bZ,xe rJ hlt]
   ·simp (disch:=omega) only [go_sem,bD];exact hfr c hc hcb
   ·simp (disch:=omega) only [go_sem,bD];exact hnb
   all_goals (first | rfl | (simp (disch:=omega) only [go_sem,g11,g10,g9,g1,g2]<;>rfl))
  rw [cN (by omega)] at hgb
  simp (disch:=omega) only [go_sem,g11,g10,g9,g1,g2,hnb,bQ,aF hk ez,bp,hlt,RS,Ex]
  refine aZ (Yg o b l H) (fun m e H2 hi=> ?_) (m:=o.kids.length) ?_
  rotate_left
  ·refine⟨0,bN _,rfl,rfl,by rw [hgb];rfl,by omega,hfr, ?_, ?_, ?_, ?_⟩<;>(first | rfl | (simp (disch:=omega) only [go_sem,g1]<;>rfl))
  clear g11 g10 g9 g1 g2 hnx hfr hnb hlt hn' hgb
  obtain⟨n,hn',rfl,hdm,hgb,hnx,hfr,g21,g20,g19,g1⟩:=hi
  obtain⟨t,dm⟩:=e
  dsimp only at hdm g21 g20 g19 g1
  subst hdm
  refine aV 200 ?_
  rw [EB]
  by_cases hlt:n<o.kids.length
  ·have hm:=cO hlt
   have h1:=(ho _ hm).n1
   have h2:=(ho _ hm).k1
   simp (disch:=omega) only [go_sem,g21,g20,g19,g1,h1,h2,bC hk ez m9 jS hlt,bv cP hlt,aC,bp,hlt,Ex]
   have hcall:=ih _ hm
   unfold Cj at hcall
   simp only [aC,pL,sd,uJ] at hcall
   refine hcall _ b _ _ (by simp (disch:=omega) only [go_sem,hgb,bD];rfl) (by simp (disch:=omega) only [go_sem]<;>omega) ?_
   intro H' hb' hn2 hf2
   simp only [go_sem] at hn2 hf2
   simp (disch:=omega) only [go_sem,Ex,g21]
   refine bd (m':=o.kids.length - (n+1)) (by omega) ⟨n+1,by omega,rfl,rfl,by rw [hb',BL hlt],by omega,fun c hc hcb=>by rw [hf2 c (by omega) hcb];simp (disch:=omega) only [go_sem,bD];exact hfr c hc hcb, ?_, ?_, ?_, ?_⟩<;>(first | rfl | (simp (disch:=omega) only [go_sem,g21,g20,g19,g1]<;>rfl))
  ·simp (disch:=omega) only [go_sem,g21,g20,g19,g1,bp,hlt,Uv]
   rw [cN (by omega)] at hgb
   exact hK _ (by rw [hgb,J']) (by omega) hfr
end Go.S5
namespace Go.Ev
noncomputable section
section
variable {P : Program} {G : bg} {H : Hp}
theorem pV {nt n:Nat} {ps:List Nat} {asg body:Code} {g:FuncId} {first cap:List AV} {t:E2} {dm:List Dm} {k:AEx->En->Hp->Bool} (he:iz P g=true)
  (h:cl P G g (first++[.yld (H.nx+1)]++cap) ((H.push (.dfr true)).push (.loop .ready none t nt ps asg body H.nx)) (fun _ H'=>kE (H.nx+1) ⟨t,.mark H.nx::dm⟩ H' k)=true):
  fG P nt ps asg body (.fn g first cap) ⟨cd P G n,ff P G⟩ none ⟨t,dm⟩ H k=true:=by
 unfold fG
 dsimp only
 rw [aI]
 unfold rL
 rw [aI,bH,he]
 dsimp only
 exact h
theorem nr {l d nt:Nat} {env:E2} {ps:List Nat} {asg body:Code} {e:En} {k:AEx->En->Hp->Bool} (hl:H.get l=some (.loop .ready none env nt ps asg body d)):
  kE l e H k=k .normal e (H.setb l (some (.loop .exhausted none env nt ps asg body d))):=by
 unfold kE
 rw [hl]
 dsimp only
 rw [cJ]
theorem pW {n l:Nat} {a5:List AV} {k:AV->Hp->Bool}:clv P G n (.yld l) a5 H k=oV ⟨cd P G n,ff P G⟩ l a5 H k (fun _ _=>false):=cg.mpr de
theorem jW {n l d nt p:Nat} {env env':E2} {asg body:Code} {v:AV} {k:AV->Hp->Bool} {kp:AV->Hp->Bool} {H1:Hp} (hl:H.get l=some (.loop .ready none env nt [p] asg body d)) (hp:p<nt) (hp2:p<256)
  (hasg:∀K,cd P G n nt asg (some l) ⟨E2.set env p v,[]⟩ H K=K .normal ⟨env',[]⟩ H1) (hl1:H1.get l=some (.loop .ready none env nt [p] asg body d))
  (hbody:∀K,(∀(e:E2) (H2:Hp),H2.get l=some (.loop .busy none env nt [p] asg body d)->k (.bool true) (H2.setb l (some (.loop .ready none env nt [p] asg body d)))=true->K .normal ⟨e,[]⟩ H2=true)->
   cd P G n nt body (some l) ⟨env',[]⟩ (H1.setb l (some (.loop .busy none env nt [p] asg body d))) K=true):
  oV ⟨cd P G n,ff P G⟩ l [v] H k kp=true:=by
 unfold oV
 rw [hl]
 dsimp only
 unfold jD
 rw [show Nat.blt p nt=true from by simpa [cT] using hp,show Nat.blt p 256=true from by simpa [cT] using hp2]
 dsimp only
 refine Eq.trans (gH env p v _ hp2) ?_
 unfold jD
 dsimp only
 rw [hasg]
 dsimp only
 rw [hl1]
 dsimp only
 rw [cJ]
 refine hbody _ fun e H2 h2 hk=> ?_
 dsimp only
 rw [h2]
 dsimp only
 rw [cJ]
 exact hk
theorem rz (n:Nat):∀l:List Nat,qx n l=decide (n∈l)
 | []=>rfl
 | m::l=>by
  show (match Nat.beq n m with | true=>true | false=>qx n l)=_
  rw [rz n l]
  by_cases h:n=m
  ·subst h;rw [bW];simp
  ·rw [show Nat.beq n m=false from by rw [←fW,i7];exact h];simp [h]
theorem zr (seen:List Nat) (s:Nat):∀(l:List (List Nat×AV)) (i:Nat),s∉seen->i<=s->s<i+l.length->(fJ (s::seen) (sE l i)).length+1=(fJ seen (sE l i)).length
 | [],i,_,h1,h2=>by simp at h2;omega
 | (k,v)::l,i,h0,h1,h2=>by
  simp only [dR] at h2
  simp only [sE,fJ,rz]
  by_cases hs:i=s
  ·subst hs
   have hno:∀(l:List (List Nat×AV)) (j:Nat),i<j->fJ (i::seen) (sE l j)=fJ seen (sE l j):=by
    intro l
    induction l with
    | nil=>intro j _;rfl
    | cons p l ih=>
     intro j hj
     obtain⟨k,v⟩:=p
     simp only [sE,fJ,rz]
     rw [ih (j+1) (by omega),show decide (j∈i::seen)=decide (j∈seen) from by rw [cg];simp;omega]
   rw [hno l (i+1) (by omega),show decide (i∈i::seen)=true from by simp,show decide (i∈seen)=false from by simp [h0]]
   rfl
  ·have ih:=zr seen s l (i+1) h0 (by omega) (by omega)
   rw [show decide (i∈s::seen)=decide (i∈seen) from by rw [cg];simp [hs]]
   cases decide (i∈seen) with
   | true=>exact ih
   | false=>simp only [dR];omega
theorem wq (seen:List Nat):∀(l:List (List Nat×AV)) (i:Nat) (y:AV×AV×Nat),y∈fJ seen (sE l i)->y.2.2∉seen/\∃j,∃h:j<l.length,y=(.str l[j].1,l[j].2,i+j)
 | [],i,y,h=>by cases h
 | (k,v)::l,i,y,h=>by
  simp only [sE,fJ,rz] at h
  by_cases hm:i∈seen
  ·rw [show decide (i∈seen)=true from by simp [hm]] at h
   obtain⟨h1,j,hj,rfl⟩:=wq seen l (i+1) y h
   exact⟨h1,j+1,by simpa using hj,by simp;omega⟩
  ·rw [show decide (i∈seen)=false from by simp [hm]] at h
   rcases cy.1 h with rfl | h
   ·exact⟨hm,0,by simp,by simp⟩
   ·obtain⟨h1,j,hj,rfl⟩:=wq seen l (i+1) y h
    exact⟨h1,j+1,by simpa using hj,by simp;omega⟩
theorem zP (n:Nat):∀(l:List (List Nat×AV)) (i:Nat),i+l.length<=n->lP n (sE l i)=true
 | [],i,_=>rfl
 | (k,v)::l,i,h=>by
  simp only [dR] at h
  simp only [sE,lP]
  rw [show Nat.blt i n=true from by simp [cT];omega]
  exact zP n l (i+1) (by omega)
theorem Dt {α:Type} {k:α->Bool}:∀{l:List α},(∀x∈l,k x=true)->Eu l k=true
 | [],_=>rfl
 | x::l,h=>by
  show (match k x with | true=>Eu l k | false=>false)=true
  rw [h x cE]
  exact Dt fun y hy=>h y (co _ hy)
theorem Fe {b m:Nat} {l:List (List Nat×AV)} {seen:List Nat} {ro:Bool} {k:AV->Hp->Bool} (hb:H.get b=some (.miter (some m) l.length seen l.length)) (hm:H.get m=some (.map ro (sE l 0) l.length))
  (h0:fJ seen (sE l 0)=[]->k (.tup [.bool false]) H=true)
  (h1:∀(j:Nat) (hj:j<l.length),j∉seen->k (.tup [.bool true,.str l[j].1,l[j].2]) (H.setb b (some (.miter (some m) l.length (j::seen) l.length)))=true):wM H (.ptr b 0) k=true:=by
 simp only [wM,hb,hm,bW,zP _ l 0 (show 0+l.length<=l.length by omega)]
 cases hl:fJ seen (sE l 0) with
 | nil=>exact h0 hl
 | cons y ys=>
  dsimp only
  rw [←hl]
  refine Dt fun y hy=> ?_
  obtain⟨hs,j,hj,rfl⟩:=wq seen l 0 y hy
  dsimp only
  rw [cJ,ca]
  rw [ca] at hs
  exact h1 j hj hs
theorem AS (s:Nat):∀(l:List (List Nat×AV)) (i j:Nat),i<=s->s<i+l.length->j0 s (sE l i) j=some (s - i+j)
 | [],i,j,h1,h2=>by simp at h2;omega
 | (k,v)::l,i,j,h1,h2=>by
  simp only [dR] at h2
  show (match Nat.beq i s with | true=>some j | false=>j0 s (sE l (i+1)) (j+1))=_
  by_cases hs:i=s
  ·subst hs;rw [bW];simp
  ·rw [show Nat.beq i s=false from by rw [←fW,i7];exact hs]
   dsimp only
   rw [AS s l (i+1) (j+1) (by omega) (by omega)]
   congr 1;omega
theorem HA:∀(l:List (List Nat×AV)) (i j:Nat) (h:j<l.length),(sE l i)[j]? =some (.str l[j].1,l[j].2,i+j)
 | (k,v)::l,i,0,h=>by simp [sE]
 | (k,v)::l,i,j+1,h=>by
  have:=HA l (i+1) j (by simpa using h)
  simp only [sE,nS,this,List.getElem_cons_succ]
  congr 3;omega
theorem BW {b m n:Nat} {l:List (List Nat×AV)} {j:Nat} {seen:List Nat} {ro:Bool} {k:AV->Bool} (hb:H.get b=some (.miter (some m) n (j::seen) l.length)) (hm:H.get m=some (.map ro (sE l 0) l.length)) (hj:j<l.length):
  sI H (.ptr b 0) k=k (.tup [.str l[j].1,l[j].2]):=by
 simp only [sI,hb,hm,bW,AS j l 0 0 (show 0<=j by omega) (show j<0+l.length by omega),kC,ko,HA l 0 j hj]
theorem BP {t m:Nat} {kt vt:TypeId} {ro:Bool} {es:List (AV×AV×Nat)} {cl:Nat} {k:AV->Hp->Bool} (hu:P.underlying t=some (.map kt vt)) (hm:H.get m=some (.map ro es cl)):
  qB P H t (.map m) k=k (.ptr H.nx 0) (H.push (.miter (some m) cl [] cl)):=by
 unfold qB
 rw [hu]
 dsimp only
 rw [hm]
 dsimp only
 rw [aI]
end
section
variable {P : Program} {G : bg} {H : Hp}
theorem JM {t m:Nat} {kt vt:TypeId} {ro:Bool} {es:List (AV×AV×Nat)} {cl:Nat} {k:AV->Hp->Bool} (hu:P.underlying t=some (.map kt vt)) (hm:H.get m=some (.map ro es cl))
  (h:k (.ptr H.nx 0) (H.push (.miter (some m) cl [] cl))=true):qB P H t (.map m) k=true:=by rw [BP hu hm];exact h
theorem AC:∀es:List (AV×AV×Nat),fJ [] es=es
 | []=>rfl
 | (y,v,s)::es=>by show (y,v,s)::fJ [] es=_;rw [AC es]
theorem w9:∀(l:List (List Nat×AV)) (i:Nat),(sE l i).length=l.length
 | [],_=>rfl
 | (s,v)::l,i=>by simp [sE,w9 l]
theorem dq (n z b:Nat):jr n z b= .sl b 0 n z (some n):=rfl
end
end
end Go.Ev
namespace Go.S5
open Go.Ev Go.Proofs
theorem Co:ApT P 37 9 1:=⟨by kernel_rfl,by kernel_rfl,by kernel_rfl,by kernel_rfl,by kernel_rfl,by kernel_rfl⟩
theorem Sk (s:Str) (k:Blk->(Nat->AV)->Bool):aO 37 1 [(0,.str s)] k=k (ae 9 [.str s]) (jr 1 1):=by kernel_rfl
theorem Nq (t:E2) (H:Hp) (k:fk->Hp->Bool) (i:Evs):ac Tryz.f226 i k .normal ⟨t,[]⟩ H=k (.ret (.tup [])) H:=by kernel_rfl
theorem WU {d:Nat} {t:E2} {H:Hp} {k:fk->Hp->Bool} {i:Evs} (hd:H.get d=some (.dfr true)):ac Tryz.f258 i k .ret ⟨t,[.mark d]⟩ H=k (.ret (t 4)) (H.setb d (some (.dfr false))):=by
 have h:ac Tryz.f258 i k .ret ⟨t,[.mark d]⟩ H=(match H.get d with | some (.dfr true)=>H.put d (some (.dfr false)) fun H=>k (.ret (t 4)) H | _=>false):=by kernel_rfl
 rw [h,hd]
 dsimp only
 rw [cJ]
theorem SR:iz P 226=true:=by kernel_rfl
theorem Pt (dm:List Dm) (ro:Option Nat) (H:Hp) (k:AEx->En->Hp->Bool):∀(t:E2),az 194 13 258 52 ro ⟨t,dm⟩ H k=k .normal ⟨(es t [(5,t 7)]),dm⟩ H:=aj fun f=>by kernel_rfl
theorem P8 (dm:List Dm) (ro:Option Nat) (H:Hp) (k:AEx->En->Hp->Bool):∀(t:E2),az 194 13 258 53 ro ⟨t,dm⟩ H k=
 (E H 37 (t 2) fun v1=>
 aO 37 1 [(0,(t 5))] fun k3 r3=>Hp.new H k3 fun b3 H3=>
 bu H3 37 37 v1 (r3 b3) fun v4 H4=>
 aA H4 37 (t 2) v4 fun H5=>
 k .normal ⟨(es t (ao 8 [v1,t 5,r3 b3,v4] [])),dm⟩ H5):=aj fun f=>by kernel_rfl
theorem l0 (s:Str):(aq (fE s)).all one=true:=rfl
def Zz (l:List Str) (n0 mb:Nat) (env:E2) (asg body:Code) (H0:Hp) (m:Nat) (e:En) (H:Hp):Prop:=∃(seen:List Nat) (xs:List Str) (v:AV),m=(fJ seen (sE (mS l) 0)).length/\e.dm=[]/\xs.length+m=l.length/\Own 1 fE 9 (n0+4) H v xs/\n0+4<=H.nx/\
 H.get n0=some (ae 37 [v])/\H.get (n0+1)=some (.dfr true)/\H.get (n0+2)=some (.loop .ready none env 13 [7] asg body (n0+1))/\H.get (n0+3)=some (.miter (some mb) (mS l).length seen (mS l).length)/\
 (∀c,c<n0->H.get c=H0.get c)/\e.t 0= .yld (n0+2)/\e.t 5= .ptr (n0+3) 0
theorem Ct (l:List Str) (hl:l.length<=1000000) (bx mb:Nat) (H:Hp) (K:AV->Hp->Bool) (hbx:H.get bx=some (ae 155 [.map mb])) (hmb:H.get mb=some (mB l)) (h1:bx<H.nx) (h2:mb<H.nx)
  (hK:∀v xs lo H',Own 1 fE 9 lo H' v xs->xs.length=l.length->H.nx<=lo->lo<=H'.nx->(∀c,c<H.nx->H'.get c=H.get c)->K v H'=true):ay 258 [.nils,.fn 226 [] [.ptr bx 0]] H K=true:=by
 refine cb 200 ?_
 rw [Z7]
 simp (disch:=omega) only [go_sem]
 refine pV SR ?_
 refine cb 200 ?_
 simp (disch:=omega) only [go_sem,gv,lA,aBQ,hbx,bD]
 refine JM Xx (ro:=false) (es:=sE (mS l) 0) (cl:=(mS l).length) (by simp (disch:=omega) only [go_sem,bD,hmb,mB]) ?_
 simp (disch:=omega) only [go_sem]
 let env:E2:=es E2.empty (ao 0 [AV.nils,AV.fn 226 [] [AV.ptr bx 0],AV.ptr H.nx 0] [(4,AV.nils),(6,AV.fn 226 [] [AV.ptr bx 0])])
 have henv2:env 2= .ptr H.nx 0:=by first | rfl | (simp (disch:=omega) only [go_sem,env]<;>rfl)
 refine aZ (Zz l H.nx mb env (fH 258 52) (fH 258 53) H) (fun m e H1 hi=> ?_) (m:=(fJ [] (sE (mS l) 0)).length) ?_
 rotate_left
 ·refine⟨[],[],.nils,rfl,rfl, ?_,.inl ⟨rfl,rfl⟩,by simp (disch:=omega) only [go_sem];omega,by simp (disch:=omega) only [go_sem,bD,bZ],by simp (disch:=omega) only [go_sem,bD,bZ],by (simp (disch:=omega) only [go_sem,bD,bZ];rfl),by simp (disch:=omega) only [go_sem,bD,bZ],fun c hc=>by simp (disch:=omega) only [go_sem,bD], ?_, ?_⟩
  ·rw [AC,w9,FQ];simp
  all_goals (first | rfl | (simp (disch:=omega) only [go_sem]<;>rfl))
 obtain⟨seen,xs,v,rfl,hdm,hlen,hown,hnx,hg0,hgd,hgl,hgi,hfr,g0,g5⟩:=hi
 obtain⟨t,dm⟩:=e
 dsimp only at hdm g0 g5
 subst hdm
 have hmb':H1.get mb=some (.map false (sE (mS l) 0) (mS l).length):=by rw [hfr mb h2,hmb];rfl
 refine aV 200 ?_
 rw [Qj]
 simp (disch:=omega) only [go_sem,g5]
 refine Fe hgi hmb' (fun hnil=> ?_) (fun j hj hjs=> ?_)
 ·simp (disch:=omega) only [go_sem,Nq]
  rw [nr hgl]
  simp (disch:=omega) only [go_sem,Tb,henv2,hg0,bD]
  rw [WU (d:=H.nx+1) (by simp (disch:=omega) only [go_sem,hgd,bD])]
  simp (disch:=omega) only [go_sem]
  rw [hnil] at hlen
  refine hK v xs (H.nx+4) _ (hown.frame (bh _) fun c hc _=>by simp (disch:=omega) only [go_sem,bD]) (by simpa using hlen) (by omega) (by simp (disch:=omega) only [go_sem];omega) (fun c hc=> ?_)
  simp (disch:=omega) only [go_sem,bD]
  exact hfr c hc
 ·have hjl:j<l.length:=by rw [FQ] at hj;exact hj
  have hll:=zr seen j (mS l) 0 hjs (by omega) (by omega)
  simp (disch:=omega) only [go_sem,g0,g5]
  rw [BW (n:=(mS l).length) (seen:=seen) (m:=mb) (ro:=false) (l:=mS l) (by simp (disch:=omega) only [go_sem,bZ]) (by simp (disch:=omega) only [go_sem,bD];exact hmb') hj]
  simp (disch:=omega) only [go_sem,g0]
  rw [pW]
  refine jW (env':=es (E2.set env 7 (.str (mS l)[j].1)) [(5,.str (mS l)[j].1)]) (asg:=fH 258 52) (body:=fH 258 53) (d:=H.nx+1) (env:=env) (by simp (disch:=omega) only [go_sem,bD];exact hgl) (by decide) (by decide) (fun K=>by rw [Pt];rw [cY _ _ _ (by decide)]) (by simp (disch:=omega) only [go_sem,bD];exact hgl) (fun K hk2=> ?_)
  rw [P8]
  have e2:(es (E2.set env 7 (.str (mS l)[j].1)) [(5,.str (mS l)[j].1)]) 2= .ptr H.nx 0:=by
   rw [hU _ _ _ (by decide) rfl];show (E2.set env 7 (.str (mS l)[j].1)) 2=_;rw [cM _ _ _ _ (by decide) (by decide) (by decide)];exact henv2
  have e5:(es (E2.set env 7 (.str (mS l)[j].1)) [(5,.str (mS l)[j].1)]) 5= .str (mS l)[j].1:=by
   rw [hU _ _ _ (by decide) rfl];rfl
  rw [e2,e5]
  simp (disch:=omega) only [go_sem,hg0,bD,Sk,dq]
  refine pN (x:=(mS l)[j].1) ci l0 Co (lo:=H.nx+4) (xs:=xs) (hown.frame (by simp (disch:=omega) only [go_sem];omega) fun c hc hc2=>by simp (disch:=omega) only [go_sem,bD]) (by simp (disch:=omega) only [go_sem];omega) (by (simp (disch:=omega) only [go_sem,bZ];rfl)) (by omega) ?_
  intro v' H' hown' hn1 hn2 hf hf2
  have hf0:=hf H.nx (by omega)
  have hf1:=hf (H.nx+1) (by omega)
  have hf3:=hf (H.nx+2) (by omega)
  have hf4:=hf (H.nx+3) (by omega)
  simp only [go_sem] at hn1 hn2
  simp (disch:=omega) only [go_sem,bD,bZ,hg0,hgd,hgi] at hf0 hf1 hf3 hf4
  simp (disch:=omega) only [go_sem,hf0,hown'.cells,hown'.one]
  refine hk2 _ _ (by simp (disch:=omega) only [go_sem,bD];exact hf3) ?_
  simp (disch:=omega) only [go_sem,Nq]
  refine bd (m':=(fJ (j::seen) (sE (mS l) 0)).length) (by omega) ⟨j::seen,xs++[(mS l)[j].1],v',rfl,rfl,by simp;omega, ?_, ?_, ?_, ?_, ?_, ?_,fun c hc=> ?_, ?_, ?_⟩
  ·exact hown'.frame (by simp (disch:=omega) only [go_sem];omega) fun c hc _=>by simp (disch:=omega) only [go_sem,bD]
  ·simp (disch:=omega) only [go_sem];omega
  ·simp (disch:=omega) only [go_sem,bD,bZ]
  ·simp (disch:=omega) only [go_sem,bD];exact hf1
  ·simp (disch:=omega) only [go_sem,bZ]
  ·simp (disch:=omega) only [go_sem,bD];exact hf4
  ·simp (disch:=omega) only [go_sem,bD]
   rw [hf c (by omega)]
   simp (disch:=omega) only [go_sem,bD]
   exact hfr c hc
  all_goals (first | rfl | (simp (disch:=omega) only [go_sem,g0,g5]<;>rfl))
theorem tv:∀a b:Str,kO a b=true↔a<b
 | [],[]=>by simp [kO]
 | a::x,[]=>by simp [kO]
 | [],b::y=>by simp [kO]
 | a::x,b::y=>by
  rw [List.cons_lt_cons_iff,←tv x y]
  show (match Nat.blt a b with | true=>true | false=>match Nat.beq a b with | true=>kO x y | false=>false)=true↔_
  by_cases h:a<b
  ·rw [show Nat.blt a b=true from by simpa [cT] using h];simp [h]
  ·rw [show Nat.blt a b=false from by rw [←fW,cT];exact h]
   by_cases e:a=b
   ·subst e;rw [bW];simp
   ·rw [show Nat.beq a b=false from by rw [←fW,i7];exact e];simp [h,e]
theorem KQ (a b:Str) (h1:¬a<b) (h2:¬b<a):a=b:=List.le_antisymm (List.not_lt.1 h2) (List.not_lt.1 h1)
def jB:List Str->Str->List Str
 | [],s=>[s]
 | x::xs,s=>if x<s then x::jB xs s else if x=s then x::xs else s::x::xs
theorem vF:∀(xs:List Str) (s y:Str),y∈jB xs s↔y∈xs∨y=s
 | [],s,y=>by simp [jB]
 | x::xs,s,y=>by
  simp only [jB]
  split
  ·simp [vF xs s y,or_assoc]
  ·split
   ·rename_i hx he
    subst he
    refine⟨.inl,fun hy=> ?_⟩
    rcases hy with hy | rfl
    ·exact hy
    ·exact cE
   ·simp only [cy]
    exact or_comm
theorem tS:∀(xs:List Str) (s:Str),xs.Pairwise (·<·)->(jB xs s).Pairwise (·<·)
 | [],s,_=>by simp [jB]
 | x::xs,s,h=>by
  obtain⟨h1,h2⟩:=nI.1 h
  simp only [jB]
  split
  ·rename_i hx
   refine nI.2 ⟨fun y hy=> ?_,tS xs s h2⟩
   rcases (vF xs s y).1 hy with hy | rfl
   ·exact h1 y hy
   ·exact hx
  ·split
   ·exact h
   ·rename_i hx he
    have hsx:s<x:=by
     by_cases hc:s<x
     ·exact hc
     ·exact absurd (KQ x s hx hc) he
    refine nI.2 ⟨fun y hy=> ?_,h⟩
    rcases cy.1 hy with rfl | hy
    ·exact hsx
    ·exact List.lt_trans hsx (h1 y hy)
theorem zB:∀(xs:List Str) (s:Str),xs.Pairwise (·<·)->(jB xs s).length=if s∈xs then xs.length else xs.length+1
 | [],s,_=>by simp [jB]
 | x::xs,s,h=>by
  obtain⟨h1,h2⟩:=nI.1 h
  simp only [jB]
  split
  ·rename_i hx
   have hne:s≠x:=fun e=>by subst e;exact List.lt_irrefl _ hx
   rw [dR,zB xs s h2]
   simp only [cy,hne,false_or,dR]
   split<;>omega
  ·split
   ·rename_i hx he;subst he;simp
   ·rename_i hx he
    have hn:s∉xs:=fun hm=>hx (h1 s hm)
    have hne:s≠x:=fun e=>he e.symm
    simp [hn,hne]
theorem KE {xs:List Str} {s:Str} {n:Nat} (hn:n<=xs.length) (hlt:∀y∈xs.take n,y<s) (hge:∀h:n<xs.length,¬xs[n]<s):
  jB xs s=(if ∃h:n<xs.length,xs[n]=s then xs else xs.take n++[s]++xs.drop n):=by
 induction xs generalizing n with
 | nil=>simp at hn;subst hn;simp [jB]
 | cons x xs ih=>
  cases n with
  | zero=>
   have h0:=hge (by simp)
   simp only [List.getElem_cons_zero] at h0
   simp only [jB]
   rw [if_neg h0]
   by_cases he:x=s
   ·rw [if_pos he,if_pos ⟨by simp,by simpa using he⟩]
   ·rw [if_neg he,if_neg (fun⟨_,h⟩=>he (by simpa using h))];simp
  | succ n=>
   have hx:x<s:=hlt x (by simp)
   have ih':=ih (n:=n) (by simpa using hn) (fun y hy=>hlt y (by simp [hy])) (fun h=>by have:=hge (by simpa using h);simpa using this)
   simp only [jB]
   rw [if_pos hx,ih']
   by_cases he:∃h:n<xs.length,xs[n]=s
   ·rw [if_pos he,if_pos]
    obtain⟨h,e⟩:=he
    exact⟨by simpa using h,by simpa using e⟩
   ·rw [if_neg he,if_neg]
    ·simp
    ·rintro⟨h,e⟩
     exact he ⟨by simpa using h,by simpa using e⟩
structure ke (l r:List Str):Prop where
 len:l.length=r.length
 mem:∀y,y∈l↔y∈r
 srt:r.Pairwise (·<·)
theorem ke.ins {l r:List Str} (h:ke l r) (s:Str):ke (rJ l s) (jB r s):=by
 refine⟨?_,fun y=> ?_,tS _ _ h.srt⟩
 ·rw [zB _ _ h.srt,rJ]
  by_cases hm:s∈l
  ·rw [if_pos hm,if_pos ((h.mem s).1 hm),h.len]
  ·rw [if_neg hm,if_neg (fun e=>hm ((h.mem s).2 e)),gZ,h.len];rfl
 ·rw [vF,←h.mem y,rJ]
  split
  ·rename_i hm
   constructor
   ·exact .inl
   ·rintro (h | rfl)
    ·exact h
    ·exact hm
  ·simp
mutual
def lH:List Str->ai->List Str
 | l,.mk _ names _ _ _ _ _ kids _=>iQ (names.foldl jB l) kids
def iQ:List Str->List ai->List Str
 | l,[]=>l
 | l,o::os=>iQ (lH l o) os
end
theorem KR (l:List Str) (o:ai):lH l o=iQ (o.names.foldl jB l) o.kids:=by cases o;rw [lH];rfl
theorem wK:∀(a b:List ai) (l:List Str),iQ l (a++b)=iQ (iQ l a) b
 | [],b,l=>by simp [iQ]
 | o::a,b,l=>by
  show iQ l (o::(a++b))=_
  rw [iQ,iQ,wK a b]
theorem Cx {kids:List ai} {n:Nat} (h:n<kids.length) (l:List Str):iQ l (kids.take (n+1))=lH (iQ l (kids.take n)) kids[n]:=by
 rw [jd h,wK];simp [iQ]
theorem ke.fold {names:List Str}:∀{l r:List Str},ke l r->ke (names.foldl rJ l) (names.foldl jB r):=by
 induction names with
 | nil=>intro l r h;exact h
 | cons s names ih=>intro l r h;exact ih (h.ins s)
mutual
theorem oR:∀(o:ai) {l r:List Str},ke l r->ke (su l o) (lH r o)
 | .mk _ names _ _ _ _ _ kids _,l,r,h=>by rw [su,lH];exact oA kids h.fold
theorem oA:∀(os:List ai) {l r:List Str},ke l r->ke (jt l os) (iQ r os)
 | [],l,r,h=>by rw [jt,iQ];exact h
 | o::os,l,r,h=>by rw [jt,iQ];exact oA os (oR o h)
end
theorem D7 (o:ai):(su [] o).length=(lH [] o).length:=(oR o ⟨rfl,fun _=>de,.nil⟩).len
end Go.S5
namespace Go.Ev
noncomputable section
section
variable {P : Program} {G : bg} {H : Hp} {k : AV -> Bool} {α : Type} {sz : Nat} {enc : α -> List D} {xs : List α} {d : D}
@[go_sem ↓] theorem Yn (t:TypeId) (nc:Bool) (a b:List Nat):fP P .lss t nc (.str a) (.str b) k=k (.bool (kO a b)):=by
 simp [fP,tg,cW]
def slD (d:D) (n:Nat):D:=match d with
 | .sl sz cs len=>.sl sz ((cs.drop (n * sz)).take ((len - n) * sz)) (len - n)
 | d=>d
theorem xQ (hs:∀x,(enc x).length=sz):∀(xs:List α) (n:Nat),n<=xs.length->(cC enc xs).drop (n * sz)=cC enc (xs.drop n)
 | xs,0,_=>by simp
 | [],n+1,h=>by simp at h
 | x::xs,n+1,h=>by
  have ih:=xQ hs xs n (by simpa using h)
  show (enc x++cC enc xs).drop ((n+1) * sz)=cC enc (xs.drop n)
  rw [←ih,fV,List.drop_append,iu (by rw [hs x];omega),hs x,gv]
  congr 1;omega
theorem Sl.drop (h:Sl sz enc xs d) (hs:∀x,(enc x).length=sz) {n:Nat} (hn:n<=xs.length):Sl sz enc (xs.drop n) (slD d n):=by
 rcases h with⟨rfl,rfl⟩| rfl
 ·exact .inl ⟨rfl,by simp⟩
 ·refine .inr ?_
  simp only [slD]
  rw [xQ hs xs n hn,mR,cN]
  rw [fB hs,mR];exact bh _
theorem Az (h:Sl sz enc xs d) {t e:TypeId} (he:bS P t=some e) (hc:P.cellsOf e=sz) {n:Nat} (hn:n<=xs.length) {i:IntKind}:
  cK P H t (ofD d) (some (.int i (n:Int))) none none k=k (ofD (slD d n)):=by
 rcases h with⟨rfl,rfl⟩| rfl
 ·simp at hn
  subst hn
  unfold cK
  simp only [ofD,he]
  rfl
 ·unfold cK
  simp only [ofD,he,gz,mP]
  rw [hc,bW,show Nat.ble n xs.length=true from by simpa using hn,show Nat.ble xs.length xs.length=true from by simp]
  simp only [bA,slD,ofD]
end
end
end Go.Ev
namespace Go.S5
open Go.Ev Go.Proofs
theorem Ob (k:Blk->(Nat->AV)->Bool):aO 37 0 [] k=k (ae 9 []) (jr 0 1):=by kernel_rfl
def aBL (xs:List Str) (d:D) (s:Str) (m:Nat) (e:En) (H:Hp):Prop:=∃n:Nat,n<=xs.length/\m=xs.length - n/\e.dm=[]/\(∀y∈xs.take n,y<s)/\e.t 5= O n/\e.t 0=ofD d/\e.t 1= .str s
theorem AQ (xs:List Str) (d:D) (s:Str) (hd:Sl 1 fE xs d) (hl:xs.length<=100000):bc 178 [d,.str s] (Sl 1 fE (jB xs s)):=by
 refine aH hG ?_
 (try simp (disch:=omega) only [go_sem,U1,uf]);repeat' ((with_reducible first | apply aa | apply ab | apply Z)<;>intro h<;>(try simp only [spl] at h)<;>try simp (disch:=omega) only [go_sem,U1,uf,h])
 refine aZ (aBL xs d s) (fun m e H hi=> ?_) (m:=xs.length) ?_
 rotate_left
 ·refine⟨0,bN _,rfl,rfl,fun y hy=>by simp at hy, ?_, ?_, ?_⟩<;>(first | rfl | (simp (disch:=omega) only [go_sem]<;>rfl))
 obtain⟨n,hn,rfl,hdm,ha,g5,g0,g1⟩:=hi
 obtain⟨t,dm⟩:=e
 dsimp only at hdm g5 g0 g1
 subst hdm
 refine aV 200 ?_
 rw [OY]
 have hgo:∀(b:Bool),(∀h:n<xs.length,¬xs[n]<s)->(t':E2)->t' 5= O n->t' 0=ofD d->t' 1= .str s->az 197 48 178 15 none ⟨t',[]⟩ H (fun x e H=>ac Tryz.f178 ⟨gK 200,ff P G⟩ (mG (Sl 1 fE (jB xs s))) x e H)=true:=by
  intro b hge t' f5 f0 f1
  rw [PZ]
  have hins:=KE hn ha hge
  by_cases hlt:n<xs.length
  ·by_cases he:xs[n]=s
   ·have he':(xs[n]=s)=True:=du he
    (try simp (disch:=omega) only [go_sem,f5,f0,f1,he',aF hd dA,bC hd dA in9 ce9 hlt,bG ci hlt (by decide:0<1),fE,bp,hlt,uf]);repeat' ((with_reducible first | apply aa | apply ab | apply Z)<;>intro h<;>(try simp only [spl] at h)<;>try simp (disch:=omega) only [go_sem,f5,f0,f1,he',aF hd dA,bC hd dA in9 ce9 hlt,bG ci hlt (by decide:0<1),fE,Int.ofNat_lt,hlt,uf,h])
    rw [if_pos ⟨hlt,he⟩] at hins
    exact ax d (by rw [hins];exact hd)
   have he':(xs[n]=s)=False:=cm he
   have hne:¬(∃h:n<xs.length,xs[n]=s):=fun⟨_,h⟩=>he h
   rw [if_neg hne] at hins
   simp (disch:=omega) only [go_sem,f5,f0,f1,he',aF hd dA,bC hd dA in9 ce9 hlt,bG ci hlt (by decide:0<1),fE,bp,hlt,Ob,dq,jI hd wJ ce9 hn]
   refine rI (lo:=H.nx) (xs:=([]:List Str)) ci l0 Co (.inr ⟨H.nx,some 0,rfl,.inr ⟨rfl,rfl⟩,bh _,by simp (disch:=omega) only [go_sem];omega,by simp (disch:=omega) only [go_sem];rfl⟩) (by simp (disch:=omega) only [go_sem];omega) (hd.take ci hn) (by simp;omega) fun v1 H1 gr1=> ?_
   have hx1:=gr1.nx1
   simp only [go_sem] at hx1
   simp (disch:=omega) only [go_sem,f5,f0,f1,Sk,dq]
   refine pN (x:=s) (lo:=H.nx) ci l0 Co (gr1.own.frame (by simp (disch:=omega) only [go_sem];omega) fun c hc hc2=>by simp (disch:=omega) only [go_sem,bD]) (by simp (disch:=omega) only [go_sem];omega) (by (simp (disch:=omega) only [go_sem,bZ];rfl)) (by simp;omega) fun v2 H2 ho2 hn2 hn3 hf hf2=> ?_
   simp only [go_sem] at hn2
   simp (disch:=omega) only [go_sem,f5,f0,f1,Az hd wJ ce9 hn]
   refine rI (lo:=H.nx) ci l0 Co ho2 (by omega) (hd.drop ci hn) (by simp;omega) fun v3 H3 gr3=> ?_
   simp (disch:=omega) only [go_sem,uf]
   refine gr3.own.ret ci fun r hr=> ?_
   rw [hins]
   simpa using hr
  ·have hne:¬(∃h:n<xs.length,xs[n]=s):=fun⟨h,_⟩=>hlt h
   rw [if_neg hne] at hins
   simp (disch:=omega) only [go_sem,f5,f0,f1,aF hd dA,bp,hlt,Ob,dq,jI hd wJ ce9 hn]
   refine rI (lo:=H.nx) (xs:=([]:List Str)) ci l0 Co (.inr ⟨H.nx,some 0,rfl,.inr ⟨rfl,rfl⟩,bh _,by simp (disch:=omega) only [go_sem];omega,by simp (disch:=omega) only [go_sem];rfl⟩) (by simp (disch:=omega) only [go_sem];omega) (hd.take ci hn) (by simp;omega) fun v1 H1 gr1=> ?_
   have hx1:=gr1.nx1
   simp only [go_sem] at hx1
   simp (disch:=omega) only [go_sem,f5,f0,f1,Sk,dq]
   refine pN (x:=s) (lo:=H.nx) ci l0 Co (gr1.own.frame (by simp (disch:=omega) only [go_sem];omega) fun c hc hc2=>by simp (disch:=omega) only [go_sem,bD]) (by simp (disch:=omega) only [go_sem];omega) (by (simp (disch:=omega) only [go_sem,bZ];rfl)) (by simp;omega) fun v2 H2 ho2 hn2 hn3 hf hf2=> ?_
   simp only [go_sem] at hn2
   simp (disch:=omega) only [go_sem,f5,f0,f1,Az hd wJ ce9 hn]
   refine rI (lo:=H.nx) ci l0 Co ho2 (by omega) (hd.drop ci hn) (by simp;omega) fun v3 H3 gr3=> ?_
   simp (disch:=omega) only [go_sem,uf]
   refine gr3.own.ret ci fun r hr=> ?_
   rw [hins]
   simpa using hr
 by_cases hlt:n<xs.length
 ·cases hc:kO xs[n] s
  ·(try simp (disch:=omega) only [go_sem,g5,g0,g1,hc,aF hd dA,bC hd dA in9 ce9 hlt,bG ci hlt (by decide:0<1),fE,bp,hlt,uf]);repeat' ((with_reducible first | apply aa | apply ab | apply Z)<;>intro h<;>(try simp only [spl] at h)<;>try simp (disch:=omega) only [go_sem,g5,g0,g1,hc,aF hd dA,bC hd dA in9 ce9 hlt,bG ci hlt (by decide:0<1),fE,Int.ofNat_lt,hlt,uf,h])
   refine hgo true (fun h hx=> ?_) _ ?_ ?_ ?_
   ·rw [(tv _ _).2 hx] at hc;cases hc
   all_goals (first | rfl | (simp (disch:=omega) only [go_sem,g5,g0,g1]<;>rfl))
  ·(try simp (disch:=omega) only [go_sem,g5,g0,g1,hc,aF hd dA,bC hd dA in9 ce9 hlt,bG ci hlt (by decide:0<1),fE,bp,hlt,uf]);repeat' ((with_reducible first | apply aa | apply ab | apply Z)<;>intro h<;>(try simp only [spl] at h)<;>try simp (disch:=omega) only [go_sem,g5,g0,g1,hc,aF hd dA,bC hd dA in9 ce9 hlt,bG ci hlt (by decide:0<1),fE,Int.ofNat_lt,hlt,uf,h])
   refine bd (m':=xs.length - (n+1)) (by omega) ⟨n+1,by omega,rfl,rfl, ?_, ?_, ?_, ?_⟩
   ·rw [jd hlt]
    intro y hy
    rcases dF.1 hy with hy | hy
    ·exact ha y hy
    ·simp at hy;subst hy;exact (tv _ _).1 hc
   all_goals (first | rfl | (simp (disch:=omega) only [go_sem,g5,g0,g1]<;>rfl))
 ·(try simp (disch:=omega) only [go_sem,g5,g0,g1,aF hd dA,bp,hlt,uf]);repeat' ((with_reducible first | apply aa | apply ab | apply Z)<;>intro h<;>(try simp only [spl] at h)<;>try simp (disch:=omega) only [go_sem,g5,g0,g1,aF hd dA,Int.ofNat_lt,hlt,uf,h])
  refine hgo true (fun h=>absurd h hlt) _ ?_ ?_ ?_<;>(first | rfl | (simp (disch:=omega) only [go_sem,g5,g0,g1]<;>rfl))
mutual
def nO:ai->Nat
 | .mk _ names _ _ _ _ _ kids _=>names.length+nOs kids
def nOs:List ai->Nat
 | []=>0
 | o::l=>nO o+nOs l
end
theorem Xd (o:ai):nO o=o.names.length+nOs o.kids:=by cases o;rw [nO];rfl
theorem yH:∀(a b:List ai),nOs (a++b)=nOs a+nOs b
 | [],b=>by simp [nOs]
 | o::a,b=>by
  show nOs (o::(a++b))=_
  rw [nOs,nOs,yH a b];omega
theorem FT {l:List ai} {n:Nat} (h:n<l.length):nOs (l.take n)+nO l[n]<=nOs l:=by
 have h1:=yH (l.take (n+1)) (l.drop (n+1))
 rw [pS,jd h,yH] at h1
 simp only [nOs,ko] at h1
 omega
theorem DE:∀(xs:List Str) (s:Str),(jB xs s).length<=xs.length+1
 | [],s=>by simp [jB]
 | x::xs,s=>by
  have:=DE xs s
  simp only [jB]
  split
  ·simp;omega
  ·split<;>simp
theorem vD (names:List Str):∀xs:List Str,(names.foldl jB xs).length<=xs.length+names.length:=by
 induction names with
 | nil=>intro xs;simp
 | cons s names ih=>
  intro xs
  have h1:=ih (jB xs s)
  have h2:=DE xs s
  simp only [List.foldl_cons,dR]
  omega
mutual
theorem DR:∀(o:ai) (xs:List Str),(lH xs o).length<=xs.length+nO o
 | .mk _ names _ _ _ _ _ kids _,xs=>by
  rw [lH,nO]
  have h1:=vN kids (names.foldl jB xs)
  have h2:=vD names xs
  omega
theorem vN:∀(os:List ai) (xs:List Str),(iQ xs os).length<=xs.length+nOs os
 | [],xs=>by rw [iQ,nOs];omega
 | o::os,xs=>by
  rw [iQ,nOs]
  have h1:=vN os (lH xs o)
  have h2:=DR o xs
  omega
end
def aDR (o:ai) (xs:List Str) (m:Nat) (e:En) (H:Hp):Prop:=∃(n:Nat) (d:D),n<=o.names.length/\m=o.names.length - n/\e.dm=[]/\Sl 1 fE ((o.names.take n).foldl jB xs) d/\e.t 5= O n/\e.t 0=ofD d/\e.t 3= .ptr 0 0/\H.get 0=some (ae 40 (bQ o))
def WB (o:ai) (xs:List Str) (m:Nat) (e:En) (H:Hp):Prop:=∃(n:Nat) (d:D),n<=o.kids.length/\m=o.kids.length - n/\e.dm=[]/\Sl 1 fE (iQ (o.names.foldl jB xs) (o.kids.take n)) d/\e.t 6= O n/\e.t 0=ofD d/\e.t 3= .ptr 0 0/\H.get 0=some (ae 40 (bQ o))
theorem CA {o:ai} (ho:cZ o):∀(xs:List Str) (d:D),Sl 1 fE xs d->xs.length+nO o<=100000->bc 108 [d,.agg (aC o)] (Sl 1 fE (lH xs o)):=by
 induction ho with
 | mk kind names dn gap ms lo hi kids dk hn hnl hl hk hkl ho ih=>
  have hO:cZ (.mk kind names dn gap ms lo hi kids dk):= .mk kind names dn gap ms lo hi kids dk hn hnl hl hk hkl ho
  generalize hoe:ai.mk kind names dn gap ms lo hi kids dk=o at hO
  have e1:kids=o.kids:=by rw [←hoe];rfl
  subst e1
  clear hoe hn hnl hl hk hkl
  have hn:=hO.sn
  have hnl:=hO.nl
  have hl:=hO.sl
  have hk:=hO.sk
  have hkl:=hO.kl
  intro xs d hd hlen
  rw [Xd] at hlen
  refine aH hG ?_
  (try simp (disch:=omega) only [go_sem,aC,Uz,wE]);repeat' ((with_reducible first | apply aa | apply ab | apply Z)<;>intro h<;>(try simp only [spl] at h)<;>try simp (disch:=omega) only [go_sem,aC,Uz,wE,h])
  refine aZ (aDR o xs) (fun m e H hi=> ?_) (m:=o.names.length) ?_
  rotate_left
  ·refine⟨0,d,bN _,rfl,rfl,hd, ?_, ?_, ?_, ?_⟩<;>(first | rfl | (simp (disch:=omega) only [go_sem,bQ]<;>rfl))
  obtain⟨n,d1,hn',rfl,hdm,hd1,g5,g0,g3,hg0⟩:=hi
  obtain⟨t,dm⟩:=e
  dsimp only at hdm g5 g0 g3
  subst hdm
  refine aV 200 ?_
  rw [Pk]
  by_cases hlt:n<o.names.length
  ·have hfl:=vD (o.names.take n) xs
   rw [gW] at hfl
   (try simp (disch:=omega) only [go_sem,g5,g0,g3,hg0,bQ,aF hn dA,bC hn dA in9 ce9 hlt,bG ci hlt (by decide:0<1),fE,bp,hlt,wE]);repeat' ((with_reducible first | apply aa | apply ab | apply Z)<;>intro h<;>(try simp only [spl] at h)<;>try simp (disch:=omega) only [go_sem,g5,g0,g3,hg0,bQ,aF hn dA,bC hn dA in9 ce9 hlt,bG ci hlt (by decide:0<1),fE,Int.ofNat_lt,hlt,wE,h])
   refine ei hG [d1,.str o.names[n]] (AQ _ d1 o.names[n] hd1 (by omega)) rfl fun d2 hd2=> ?_
   simp (disch:=omega) only [go_sem,g5,g0,g3]
   refine bd (m':=o.names.length - (n+1)) (by omega) ⟨n+1,d2,by omega,rfl,rfl,by rw [xe jB hlt];exact hd2, ?_, ?_, ?_, ?_⟩<;>(first | rfl | (simp (disch:=omega) only [go_sem,g5,g0,g3,hg0]<;>rfl))
  rw [cN (by omega)] at hd1
  (try simp (disch:=omega) only [go_sem,g5,g0,g3,hg0,bQ,aF hn dA,bp,hlt,Gk,wE]);repeat' ((with_reducible first | apply aa | apply ab | apply Z)<;>intro h<;>(try simp only [spl] at h)<;>try simp (disch:=omega) only [go_sem,g5,g0,g3,hg0,bQ,aF hn dA,Int.ofNat_lt,hlt,Gk,wE,h])
  refine aZ (WB o xs) (fun m e H hi=> ?_) (m:=o.kids.length) ?_
  rotate_left
  ·refine⟨0,d1,bN _,rfl,rfl,by simpa [iQ] using hd1, ?_, ?_, ?_, ?_⟩<;>(first | rfl | (simp (disch:=omega) only [go_sem,g5,g0,g3,hg0,bQ]<;>rfl))
  clear g5 g0 g3 hg0 hlt hn' hd1
  obtain⟨n,d1,hn',rfl,hdm,hd1,g6,g0,g3,hg0⟩:=hi
  obtain⟨t,dm⟩:=e
  dsimp only at hdm g6 g0 g3
  subst hdm
  refine aV 200 ?_
  rw [Su]
  by_cases hlt:n<o.kids.length
  ·have hm:=cO hlt
   have h1:=vN (o.kids.take n) (o.names.foldl jB xs)
   have h2:=vD o.names xs
   have h3:=FT hlt
   (try simp (disch:=omega) only [go_sem,g6,g0,g3,hg0,bQ,aF hk ez,bC hk ez m9 jS hlt,bv cP hlt,aC,bp,hlt,wE]);repeat' ((with_reducible first | apply aa | apply ab | apply Z)<;>intro h<;>(try simp only [spl] at h)<;>try simp (disch:=omega) only [go_sem,g6,g0,g3,hg0,bQ,aF hk ez,bC hk ez m9 jS hlt,bv cP hlt,aC,Int.ofNat_lt,hlt,wE,h])
   refine ei hG [d1,.agg (aC o.kids[n])] (ih _ hm _ d1 hd1 (by omega)) rfl fun d2 hd2=> ?_
   simp (disch:=omega) only [go_sem,g6,g0,g3]
   refine bd (m':=o.kids.length - (n+1)) (by omega) ⟨n+1,d2,by omega,rfl,rfl,by rw [Cx hlt];exact hd2, ?_, ?_, ?_, ?_⟩<;>(first | rfl | (simp (disch:=omega) only [go_sem,g6,g0,g3,hg0]<;>rfl))
  ·rw [cN (by omega)] at hd1
   (try simp (disch:=omega) only [go_sem,g6,g0,g3,hg0,bQ,aF hk ez,bp,hlt,FR,wE]);repeat' ((with_reducible first | apply aa | apply ab | apply Z)<;>intro h<;>(try simp only [spl] at h)<;>try simp (disch:=omega) only [go_sem,g6,g0,g3,hg0,bQ,aF hk ez,Int.ofNat_lt,hlt,FR,wE,h])
   exact ax d1 (by rw [KR];exact hd1)
end Go.S5
namespace Go.Ev
open Go.RowKit Go.Proofs
noncomputable section
section
variable {P : Program} {G : bg} {H : Hp}
theorem CO {μ:Mu}:∀(xs:List (List Nat)) (vs:List Value),VRs μ (xs.map AV.str) vs->∃ss:List (List UInt8),vs=ss.map encStr/\ss.map (·.map UInt8.toNat)=xs
 | [],_,h=>by cases h;exact⟨[],rfl,rfl⟩
 | x::xs,_,h=>by
  cases h with
  | cons _ v _ vs h hs=>
   obtain⟨ss,h1,h2⟩:=CO xs vs hs
   cases h with
   | str s _ h=>exact⟨s.data.toList::ss,by rw [h1];rfl,by rw [kG,h2,h]⟩
theorem JS {μ:Mu} (ss:List (List UInt8)):∀(i:Nat) (v:AV),(ss.map (fun l=>AV.str (l.map UInt8.toNat)))[i]? =some v->∃x:Value,(ss.map encStr)[i]? =some x/\VR μ v x:=by
 intro i v h
 rw [gO,lw] at h
 obtain⟨l,hl,rfl⟩:=h
 exact⟨encStr l,by rw [gO,hl];rfl,.str _ _ rfl⟩
def eS (s:List Nat):List D:=[.str s]
theorem sM (xs:List (List Nat)):aq (cC eS xs)=xs.map AV.str:=by
 induction xs with
 | nil=>rfl
 | cons x xs ih=>show aq (eS x++cC eS xs)=_;rw [fx,ih];rfl
theorem Ky {f:FuncId} (hG:mX G) {b:Nat} {el:Option TypeId} {xs:List (List Nat)} {K:AV->Hp->Bool}
  (hsort:∀(blk off cap:Nat) (ss:List (List UInt8)) (w:World),Go.Sort.Holds encStr w blk off ss.toArray->blk<w.heap.size->ss.length<4611686018427387904->
   Calls P f #[.slice (some ⟨blk,off,none⟩) ss.length cap] w fun e w'=>e= .returned (.tuple #[])/\∃(n:Nat) (os:Array Obj) (S:List (List UInt8)),S.length=ss.length/\w'=Go.Sort.grow (Go.Sort.putRow encStr (Go.Sort.ahead w n) blk off S.toArray) os)
  (hb:H.get b=some (.cells el false (aq (cC eS xs)))) (hne:xs≠[]) (hlen:xs.length<=1000000)
  (hk:∀ys:List (List Nat),ys.length=xs.length->K (.tup []) (H.setb b (some (.cells el false (aq (cC eS ys)))))=true):cl P G f [.sl b 0 xs.length 1 none] H K=true:=by
 refine sA fun μ w vs hh hvs=> ?_
 rw [sM] at hb
 obtain⟨vs⟩:=vs
 cases hvs with
 | cons _ v _ vs' hv hs=>
 cases hs
 cases hv with
 | sl _ _ _ _ _ p cap a hp hl ht hc hn ha=>
 have hpos:0<xs.length:=pD.2 hne
 have hcap:0<cap:=by omega
 obtain rfl:=ha hcap
 rw [ko]
 obtain⟨arr,el',fz,g1,g2,g3,g4,g5⟩:=hh.at hb hp
 obtain⟨rfl,g4'⟩:=g4 rfl
 obtain⟨ws,k1,k2,k3⟩:=hJ (n:=(xs.map AV.str).length) g5 (bh _)
 rw [lE] at k2
 obtain⟨ss,rfl,hss⟩:=CO xs ws k2
 have hsl:ss.length=xs.length:=by rw [←hss,lJ]
 have hholds:Go.Sort.Holds encStr w p.blk p.base ss.toArray:=fun j hj=>by
  have hj':j<ss.length:=by simpa using hj
  have h1:=k3 j (encStr ss[j]) (by rw [gO,dW hj'];rfl)
  refine⟨?_, ?_⟩
  ·unfold World.cell?
   rw [g1]
   show arr[p.base+j]? =_
   rw [h1]
   simp [hj']
  ·unfold World.frozen?
   rw [g1]
   simp
 have hcall:=hsort p.blk p.base cap ss w hholds (hh.lt hb hp) (by omega)
 rw [hsl] at hcall
 refine CallsIn.mono (callsIn_wide.2 hcall) fun en w' ⟨he,n,os,S,hS,hw⟩=> ?_
 subst he
 let ys:List (List Nat):=S.map (·.map UInt8.toNat)
 let arr':Array Value:=Go.Sort.putCells encStr p.base S.toArray arr
 have hsz:arr'.size=arr.size:=by simp [arr',Go.Sort.putCells]
 have hat:∀i,i<S.length->arr'[p.base+i]? =(S.map encStr)[i]? :=fun i hi=>by
  simp only [arr',Go.Sort.putCells,Array.getElem?_mapIdx]
  have hb2:p.base+i<arr.size:=by simp only [lJ] at g3;omega
  rw [oe hb2]
  simp only [nC,List.size_toArray]
  rw [if_pos (by omega),gO,dW hi]
  simp [hi]
 have hys:ys.length=xs.length:=by simp only [ys,lJ];omega
 have hbr:BR μ p (.cells el false (aq (cC eS ys))) (some (.cells arr' el' (0,0))):=by
  refine⟨arr',el',(0,0),rfl,by rw [hsz];exact g2,by rw [sM,lJ,hys];simpa using g3,fun _=>⟨rfl,fun e he=> ?_⟩,fun i c hc=> ?_⟩
  ·obtain⟨h1,h2,h3⟩:=g4' e he
   exact⟨h1,h2,by rw [hsz];exact h3⟩
  ·rw [sM,show ys.map AV.str=S.map (fun l=>AV.str (l.map UInt8.toNat)) from by simp [ys]] at hc
   obtain⟨x,hx,hv⟩:=JS (μ:=μ) S i c hc
   have hi:i<S.length:=by have:=(jb.1 hc).1;simpa using this
   exact⟨x,by rw [hat i hi];exact hx,hv⟩
 have hput:=hh.put hb rfl hp aW hbr
 have hlt:=hh.lt hb hp
 have hw1:∀j,j<w.heap.size->w'.heap[j]? =(w.putObj p.blk (.cells arr' el' (0,0))).heap[j]? :=fun j hj=>by
  subst hw
  show ((w.heap.modify p.blk _)++os)[j]? =_
  rw [qY (by simpa using hj),Array.getElem?_modify]
  by_cases hjb:p.blk=j
  ·subst hjb
   rw [World.putObj_heap_same hlt,if_pos rfl,g1]
   rfl
  ·rw [World.putObj_heap_other (fun e=>hjb e.symm),if_neg hjb]
 have hsz1:(w.putObj p.blk (.cells arr' el' (0,0))).heap.size=w.heap.size:=by simp [World.putObj]
 have hsz2:w.heap.size<=w'.heap.size:=by subst hw;show _<=((w.heap.modify p.blk _)++os).size;simp
 refine⟨.ret (.tup []),μ,H.setb b (some (.cells el false (aq (cC eS ys)))),hput.world (fun c y q hc hq=>hw1 _ (by have:=hput.lt hc hq;omega)) (fun g cs hg=>hw1 _ (by have:=hput.globlt hg;omega)) (fun j o hj=>hw1 _ (by have:=hput.frolt hj;omega)), ?_,.ret _ _ (.tup _ _ .nil), ?_⟩
 ·refine (gS hh hb rfl hp aW _).trans ⟨Mu.le_refl _,fun _ _=>rfl,fun _ _ h=>h,bh _,by omega,fun j hj _=>hw1 j (by omega),fun c y q hc hq=>.inr ⟨c,y,q,hc,hq,rfl,id⟩, ?_, ?_,fun j o hj=>.inl hj⟩
  ·subst hw;rfl
  ·subst hw;rfl
 ·exact hk ys hys
end
end
end Go.Ev
namespace Go.S5
open Go.Ev Go.Proofs
theorem LI (blk off cap:Nat) (ss:List (List UInt8)) (w:World) (hH:Go.Sort.Holds encStr w blk off ss.toArray) (hb:blk<w.heap.size) (hs:ss.length<4611686018427387904):
   Calls P 225 #[.slice (some ⟨blk,off,none⟩) ss.length cap] w fun e w'=>e= .returned (.tuple #[])/\∃(n:Nat) (os:Array Obj) (S:List (List UInt8)),S.length=ss.length/\w'=Go.Sort.grow (Go.Sort.putRow encStr (Go.Sort.ahead w n) blk off S.toArray) os:=by
 refine (Tryz.slices_Sort_string blk off cap ss w hH hb hs).mono ?_
 rintro e w' ⟨h1,n,os,h2⟩
 exact⟨h1,n,os,_,List.length_mergeSort _,h2⟩
theorem O4:mB []= .map false [] 0:=rfl
theorem E9 {o:ai} (ho:cZ o) (hne:su [] o≠[]) (hlen:(su [] o).length<=100000):bc 96 [.agg (aC o)] (fun r=>∃l:List Str,Sl 1 fE l r/\l.length=(su [] o).length):=by
 have n1:=ho.n1
 have k1:=ho.k1
 refine aH hG ?_
 (try simp (disch:=omega) only [go_sem,aC,h96]);repeat' ((with_reducible first | apply aa | apply ab | apply Z)<;>intro h<;>(try simp only [spl] at h)<;>try simp (disch:=omega) only [go_sem,aC,h96,h])
 have hg:=zA ho
 unfold Cj at hg
 simp only [aC,pL,sd,uJ] at hg
 refine hg [] 1 _ _ (by simp (disch:=omega) only [go_sem,O4]) (by first | omega | (simp (disch:=omega) only [go_sem]<;>omega)) ?_
 intro H1 hb1 hn1 hf1
 simp only [go_sem] at hn1
 simp (disch:=omega) only [go_sem]
 refine cb 200 ?_
 (try simp (disch:=omega) only [go_sem,UI]);repeat' ((with_reducible first | apply aa | apply ab | apply Z)<;>intro h<;>(try simp only [spl] at h)<;>try simp (disch:=omega) only [go_sem,UI,h])
 refine cb 200 ?_
 (try simp (disch:=omega) only [go_sem,WI]);repeat' ((with_reducible first | apply aa | apply ab | apply Z)<;>intro h<;>(try simp only [spl] at h)<;>try simp (disch:=omega) only [go_sem,WI,h])
 refine cb 200 ?_
 (try simp (disch:=omega) only [go_sem,Yp]);repeat' ((with_reducible first | apply aa | apply ab | apply Z)<;>intro h<;>(try simp only [spl] at h)<;>try simp (disch:=omega) only [go_sem,Yp,h])
 refine Ct (su [] o) (by omega) H1.nx 1 _ _ (by simp (disch:=omega) only [go_sem]) (by simp (disch:=omega) only [go_sem,bD];exact hb1) (by first | omega | (simp (disch:=omega) only [go_sem]<;>omega)) (by first | omega | (simp (disch:=omega) only [go_sem]<;>omega)) ?_
 intro v xs lo H2 hown hxs hlo1 hlo2 hfr
 simp (disch:=omega) only [go_sem]
 have hx0:0<xs.length:=by rw [hxs];exact pD.2 hne
 obtain⟨b,rfl,hb2,hb3,hgb⟩:=hown.at hx0
 refine Ky hG LI hgb (pD.1 hx0) (by omega) fun ys hys=> ?_
 simp (disch:=omega) only [go_sem]
 have hown2:Own 1 fE 9 lo (H2.setb b (some (ae 9 (aq (cC eS ys))))) (.sl b 0 xs.length 1 none) ys:= .inr ⟨b,none,by rw [hys],.inl rfl,hb2,by simp (disch:=omega) only [go_sem];exact hb3,by simp (disch:=omega) only [go_sem];rfl⟩
 exact hown2.ret ci fun r hr=>⟨ys,hr,by omega⟩
def fu (o:ai):Int:=if 40<tO o∨10<hO o then 2 else if fh o then (if 8<(lH [] o).length∨30<qJ o then 2 else 0) else 7
theorem J9 {l:List Str} {s:Str}:rJ l s≠[]:=by
 unfold rJ;split
 ·rename_i h;intro e;rw [e] at h;cases h
 ·simp
theorem Av:∀(names l:List Str),l≠[]∨names≠[]->names.foldl rJ l≠[]
 | [],l,h=>by rcases h with h | h;exact h;exact absurd rfl h
 | s::names,l,_=>Av names _ (.inl J9)
mutual
theorem GE:∀(o:ai) (l:List Str),fh o=true∨l≠[]->su l o≠[]
 | .mk kind names dn gap most lo hi kids dk,l,h=>by
  rw [su]
  by_cases hl:l≠[]∨names≠[]
  ·exact yA kids _ (.inl (Av names l hl))
  ·have hl1:l=[]:=by
    by_cases h:l=[]
    ·exact h
    ·exact absurd (.inl h) hl
   have hn:names=[]:=by
    by_cases h:names=[]
    ·exact h
    ·exact absurd (.inr h) hl
   have hf:fh (.mk kind names dn gap most lo hi kids dk)=true:=by
    rcases h with h | h
    ·exact h
    ·exact absurd hl1 h
   rw [iO,wa,bX,bX,bU] at hf
   obtain⟨⟨hk,_⟩,hk2⟩:=hf
   subst hn
   simp only [dO,ai.kids,ai.names,jG] at hk hk2
   cases kids with
   | nil=>simp at hk
   | cons k ks=>exact yA (k::ks) _ (.inr ⟨by simp,fun x hx=>by exact eI.1 hk2 x hx⟩)
theorem yA:∀(os:List ai) (l:List Str),l≠[]∨(os≠[]/\∀o∈os,fh o=true)->jt l os≠[]
 | [],l,h=>by rw [jt];rcases h with h | h;exact h;exact absurd rfl h.1
 | o::os,l,h=>by
  rw [jt]
  refine yA os _ (.inl (GE o l ?_))
  rcases h with h | h
  ·exact .inr h
  ·exact .inl (h.2 o cE)
end
mutual
theorem GB:∀(o:ai),fh o=true->nO o<=4 * tO o
 | .mk kind names dn gap most lo hi kids dk,h=>by
  rw [iO,bX] at h
  have h1:=(jJ h.1).1.2.1
  have h2:=HG kids (fun x hx=>eI.1 h.2 x hx)
  simp only [ai.names] at h1
  rw [nO,tO]
  omega
theorem HG:∀(os:List ai),(∀o∈os,fh o=true)->nOs os<=4 * tOs os
 | [],_=>by rw [nOs,tOs];omega
 | o::os,h=>by
  have h1:=GB o (h o cE)
  have h2:=HG os fun x hx=>h x (co _ hx)
  rw [nOs,tOs];omega
end
theorem xM {o:ai} (ho:cZ o):bc 40 [.agg (aC o)] (·= .int .i64 (fu o)):=by
 have n1:=ho.n1
 have k1:=ho.k1
 refine aH hG ?_
 (try simp (disch:=omega) only [go_sem,aC,h40,n1,k1]);repeat' ((with_reducible first | apply aa | apply ab | apply Z)<;>intro h<;>(try simp only [spl] at h)<;>try simp (disch:=omega) only [go_sem,aC,h40,n1,k1,h])
 have hs:=Fi ho
 unfold Dl at hs
 simp only [aC,pL,sd,uJ] at hs
 refine hs 0 1 1 _ _ (by omega) (by omega) (by omega) (by omega) (by simp (disch:=omega) only [go_sem]) (by first | omega | (simp (disch:=omega) only [go_sem]<;>omega)) ?_
 intro r v' H1 hb hn hf hr1 hr2
 have hf0:=hf 0 (by first | omega | (simp (disch:=omega) only [go_sem]<;>omega)) (by omega)
 simp (disch:=omega) only [go_sem,bD,bZ] at hf0 hn
 cases r
 ·have:=hr2 rfl
  simp (disch:=omega) only [go_sem]
  refine ax (aS 2) ?_
  rw [fu,if_pos (by omega)]
 have hsm:=hr1 rfl
 have hsm':¬(40<tO o∨10<S5.hO o):=by omega
 have hfc:=Cy ho
 cases hfo:fh o<;>rw [hfo] at hfc
 ·(try simp (disch:=omega) only [go_sem,hf0,aC]);repeat' (first | ((with_reducible first | apply aa | apply ab | apply Z)<;>intro h<;>(try simp only [spl] at h)<;>try simp (disch:=omega) only [go_sem,hf0,aC,h])| ((with_reducible refine dv ?_;refine bB hG _ (hfc) rfl ?_)<;>try simp (disch:=omega) only [go_sem,hf0,aC]))
  refine ax (aS 7) ?_
  rw [fu,if_neg hsm',hfo];rfl
 have hne:=GE o [] (.inl hfo)
 have hle:=GB o hfo
 have hrl:=DR o []
 rw [jG] at hrl
 have hgl:=D7 o
 have hsp:=Ce ho
 have hE:fu o=if 8<(lH [] o).length∨30<qJ o then 2 else 0:=by rw [fu,if_neg hsm',hfo];rfl
 simp (disch:=omega) only [go_sem,hf0]
 refine bB hG [.agg (aC o)] hfc rfl ?_
 simp (disch:=omega) only [go_sem,hf0]
 refine ei hG [.agg (aC o)] (E9 ho hne (by omega)) rfl fun d ⟨l,hd,hl⟩=> ?_
 by_cases h8:8<(lH [] o).length
 ·(try simp (disch:=omega) only [go_sem,hf0,aF hd dA,show ((8:Int)<(l.length:Int))=True from du (by omega)]);repeat' ((with_reducible first | apply aa | apply ab | apply Z)<;>intro h<;>(try simp only [spl] at h)<;>try simp (disch:=omega) only [go_sem,hf0,aF hd dA,show ((8:Int)<(l.length:Int))=True from eq_true (by omega),h])
  refine ax (aS 2) ?_
  rw [hE,if_pos (.inl h8)]
 ·by_cases h30:30<qJ o
  ·(try simp (disch:=omega) only [go_sem,hf0,aF hd dA,aC,show ((8:Int)<(l.length:Int))=False from cm (by omega),du h30]);repeat' (first | ((with_reducible first | apply aa | apply ab | apply Z)<;>intro h<;>(try simp only [spl] at h)<;>try simp (disch:=omega) only [go_sem,hf0,aF hd dA,aC,show ((8:Int)<(l.length:Int))=False from eq_false (by omega),eq_true h30,h])| ((with_reducible refine dv ?_;refine bB hG _ (hsp) rfl ?_)<;>try simp (disch:=omega) only [go_sem,hf0,aF hd dA,aC,show ((8:Int)<(l.length:Int))=False from cm (by omega),du h30]))
   refine ax (aS 2) ?_
   rw [hE,if_pos (.inr h30)]
  ·(try simp (disch:=omega) only [go_sem,hf0,aF hd dA,aC,show ((8:Int)<(l.length:Int))=False from cm (by omega),cm h30]);repeat' (first | ((with_reducible first | apply aa | apply ab | apply Z)<;>intro h<;>(try simp only [spl] at h)<;>try simp (disch:=omega) only [go_sem,hf0,aF hd dA,aC,show ((8:Int)<(l.length:Int))=False from eq_false (by omega),eq_false h30,h])| ((with_reducible refine dv ?_;refine bB hG _ (hsp) rfl ?_)<;>try simp (disch:=omega) only [go_sem,hf0,aF hd dA,aC,show ((8:Int)<(l.length:Int))=False from cm (by omega),cm h30]))
   refine ax (aS 0) ?_
   rw [hE,if_neg (by omega)]
theorem ES {o:ai} (ho:cZ o):bc 48 [.agg (aC o)] (·= .int .i64 (fu o)):=by
 have n1:=ho.n1
 have k1:=ho.k1
 have h1:=AJ ho 41 (by omega) (by omega)
 have h2:=EM ho 10 (by omega) (by omega)
 have hfc:=AY ho
 have hsp:=zI ho
 refine aH hG ?_
 by_cases ht:40<tO o
 ·(try simp (disch:=omega) only [go_sem,aC,h48,n1,k1,show ((40:Int)<min (tO o:Int) 41)=True from du (by omega)]);repeat' (first | ((with_reducible first | apply aa | apply ab | apply Z)<;>intro h<;>(try simp only [spl] at h)<;>try simp (disch:=omega) only [go_sem,aC,h48,n1,k1,show ((40:Int)<min (tO o:Int) 41)=True from eq_true (by omega),h])| ((with_reducible refine dv ?_;refine bB hG _ (h1) rfl ?_)<;>try simp (disch:=omega) only [go_sem,aC,h48,n1,k1,show ((40:Int)<min (tO o:Int) 41)=True from du (by omega)]))
  refine ax (aS 2) ?_
  rw [fu,if_pos (.inl ht)]
 have ht':((40:Int)<min (tO o:Int) 41)=False:=cm (by omega)
 by_cases hh:S5.hO o<=10
 rotate_left
 ·(try simp (disch:=omega) only [go_sem,aC,h48,n1,k1,ht',show ((S5.hO o:Int)<=10)=False from cm (by omega)]);repeat' (first | ((with_reducible first | apply aa | apply ab | apply Z)<;>intro h<;>(try simp only [spl] at h)<;>try simp (disch:=omega) only [go_sem,aC,h48,n1,k1,ht',show ((S5.hO o:Int)<=10)=False from eq_false (by omega),h])| ((with_reducible refine dv ?_;first | refine bB hG _ (h1) rfl ?_ | refine bB hG _ (h2) rfl ?_)<;>try simp (disch:=omega) only [go_sem,aC,h48,n1,k1,ht',show ((S5.hO o:Int)<=10)=False from cm (by omega)]))
  refine ax (aS 2) ?_
  rw [fu,if_pos (by omega)]
 have hh':((S5.hO o:Int)<=10)=True:=du (by omega)
 have hsm':¬(40<tO o∨10<S5.hO o):=by omega
 cases hfo:fh o<;>rw [hfo] at hfc
 ·(try simp (disch:=omega) only [go_sem,aC,h48,n1,k1,ht',hh']);repeat' (first | ((with_reducible first | apply aa | apply ab | apply Z)<;>intro h<;>(try simp only [spl] at h)<;>try simp (disch:=omega) only [go_sem,aC,h48,n1,k1,ht',hh',h])| ((with_reducible refine dv ?_;first | refine bB hG _ (h1) rfl ?_ | refine bB hG _ (h2) rfl ?_ | refine bB hG _ (hfc) rfl ?_)<;>try simp (disch:=omega) only [go_sem,aC,h48,n1,k1,ht',hh']))
  refine ax (aS 7) ?_
  rw [fu,if_neg hsm',hfo];rfl
 have hle:=GB o hfo
 have hE:fu o=if 8<(lH [] o).length∨30<qJ o then 2 else 0:=by rw [fu,if_neg hsm',hfo];rfl
 (try simp (disch:=omega) only [go_sem,aC,h48,n1,k1,ht',hh']);repeat' (first | ((with_reducible first | apply aa | apply ab | apply Z)<;>intro h<;>(try simp only [spl] at h)<;>try simp (disch:=omega) only [go_sem,aC,h48,n1,k1,ht',hh',h])| ((with_reducible refine dv ?_;first | refine bB hG _ (h1) rfl ?_ | refine bB hG _ (h2) rfl ?_ | refine bB hG _ (hfc) rfl ?_)<;>try simp (disch:=omega) only [go_sem,aC,h48,n1,k1,ht',hh']))
 refine ei hG [.nils,.agg (aC o)] (CA ho [] .nils (.inl ⟨rfl,rfl⟩) (by simp;omega)) rfl fun d hd=> ?_
 by_cases h8:8<(lH [] o).length
 ·(try simp (disch:=omega) only [go_sem,aF hd dA,show ((8:Int)<((lH [] o).length:Int))=True from du (by omega)]);repeat' ((with_reducible first | apply aa | apply ab | apply Z)<;>intro h<;>(try simp only [spl] at h)<;>try simp (disch:=omega) only [go_sem,aF hd dA,show ((8:Int)<((lH [] o).length:Int))=True from eq_true (by omega),h])
  refine ax (aS 2) ?_
  rw [hE,if_pos (.inl h8)]
 ·by_cases h30:30<qJ o
  ·(try simp (disch:=omega) only [go_sem,aF hd dA,aC,show ((8:Int)<((lH [] o).length:Int))=False from cm (by omega),du h30]);repeat' (first | ((with_reducible first | apply aa | apply ab | apply Z)<;>intro h<;>(try simp only [spl] at h)<;>try simp (disch:=omega) only [go_sem,aF hd dA,aC,show ((8:Int)<((lH [] o).length:Int))=False from eq_false (by omega),eq_true h30,h])| ((with_reducible refine dv ?_;refine bB hG _ (hsp) rfl ?_)<;>try simp (disch:=omega) only [go_sem,aF hd dA,aC,show ((8:Int)<((lH [] o).length:Int))=False from cm (by omega),du h30]))
   refine ax (aS 2) ?_
   rw [hE,if_pos (.inr h30)]
  ·(try simp (disch:=omega) only [go_sem,aF hd dA,aC,show ((8:Int)<((lH [] o).length:Int))=False from cm (by omega),cm h30]);repeat' (first | ((with_reducible first | apply aa | apply ab | apply Z)<;>intro h<;>(try simp only [spl] at h)<;>try simp (disch:=omega) only [go_sem,aF hd dA,aC,show ((8:Int)<((lH [] o).length:Int))=False from eq_false (by omega),eq_false h30,h])| ((with_reducible refine dv ?_;refine bB hG _ (hsp) rfl ?_)<;>try simp (disch:=omega) only [go_sem,aF hd dA,aC,show ((8:Int)<((lH [] o).length:Int))=False from cm (by omega),cm h30]))
   refine ax (aS 0) ?_
   rw [hE,if_neg (by omega)]
@[go_sem] theorem Pv:aN 59=some false:=by kernel_rfl
@[go_sem] theorem aAR:P.cellsOf 59=1:=by kernel_rfl
@[go_sem] theorem aBC:aN 64=some false:=by kernel_rfl
@[go_sem] theorem aDG:P.underlying 64=some (.slice 150):=by kernel_rfl
@[go_sem] theorem ye:aN 66=some true:=by kernel_rfl
@[go_sem] theorem yC:P.cellsOf 66=2:=by kernel_rfl
@[go_sem] theorem Oc:aN 122=some false:=by kernel_rfl
@[go_sem] theorem mg:aN 123=some false:=by kernel_rfl
@[go_sem] theorem VI:P.cellsOf 123=1:=by kernel_rfl
@[go_sem] theorem tB:aN 127=some false:=by kernel_rfl
@[go_sem] theorem XU:P.cellsOf 127=1:=by kernel_rfl
@[go_sem] theorem CW:P.underlying 127=some (.slice 222):=by kernel_rfl
@[go_sem] theorem N3:aN 128=some false:=by kernel_rfl
@[go_sem] theorem lR:aN 129=some false:=by kernel_rfl
@[go_sem] theorem zp:P.cellsOf 129=1:=by kernel_rfl
@[go_sem] theorem xc:P.underlying 129=some (.slice 133):=by kernel_rfl
@[go_sem] theorem xd:aN 133=some true:=by kernel_rfl
@[go_sem] theorem rB:P.cellsOf 133=3:=by kernel_rfl
@[go_sem] theorem GD:(P.info? 133).isSome=true:=by kernel_rfl
@[go_sem] theorem WM:aN 143=some false:=by kernel_rfl
@[go_sem] theorem Hq:aN 181=some false:=by kernel_rfl
@[go_sem] theorem OD:P.underlying 181=some (.slice 51):=by kernel_rfl
@[go_sem] theorem Vo:P.underlying 183=some (.slice 188):=by kernel_rfl
@[go_sem] theorem Us:aN 211=some false:=by kernel_rfl
@[go_sem] theorem W7:P.underlying 211=some (.slice 181):=by kernel_rfl
@[go_sem] theorem Oy:aN 212=some false:=by kernel_rfl
@[go_sem] theorem Uq:P.cellsOf 212=1:=by kernel_rfl
@[go_sem] theorem Wl:aN 218=some false:=by kernel_rfl
@[go_sem] theorem Uf:P.underlying 218=some (.slice 245):=by kernel_rfl
@[go_sem] theorem Mf:aN 222=some true:=by kernel_rfl
@[go_sem] theorem Md:P.cellsOf 222=2:=by kernel_rfl
@[go_sem] theorem UE:aN 232=some false:=by kernel_rfl
@[go_sem] theorem X7:P.underlying 232=some (.slice 238):=by kernel_rfl
@[go_sem] theorem Wh:P.underlying 281=some (.slice 283):=by kernel_rfl
@[go_sem] theorem Wx:aN 285=some false:=by kernel_rfl
@[go_sem] theorem Ab:aN 290=some false:=by kernel_rfl
@[go_sem] theorem No:P.underlying 290=some (.slice 392):=by kernel_rfl
@[go_sem] theorem Ol:aN 292=some true:=by kernel_rfl
@[go_sem] theorem Mo:P.cellsOf 292=1:=by kernel_rfl
@[go_sem] theorem Yk:P.underlying 296=some (.slice 129):=by kernel_rfl
@[go_sem] theorem CU:aN 344=some false:=by kernel_rfl
@[go_sem] theorem Iu:P.cellsOf 344=1:=by kernel_rfl
@[go_sem] theorem Oo:(P.info? 344).isSome=true:=by kernel_rfl
@[go_sem] theorem M3:aN 346=some true:=by kernel_rfl
@[go_sem] theorem M4:P.cellsOf 346=8:=by kernel_rfl
@[go_sem] theorem Na:P.underlying 346=some (.array 8 344):=by kernel_rfl
@[go_sem] theorem Oi:aN 350=some false:=by kernel_rfl
@[go_sem] theorem OO:P.underlying 350=some (.slice 382):=by kernel_rfl
@[go_sem] theorem Nf:aN 382=some false:=by kernel_rfl
@[go_sem] theorem Ma:P.cellsOf 382=1:=by kernel_rfl
@[go_sem] theorem Xe:(P.info? 382).isSome=true:=by kernel_rfl
@[go_sem] theorem Wd:P.cellsOf 392=9:=by kernel_rfl
@[go_sem] theorem W0:(P.info? 392).isSome=true:=by kernel_rfl
@[go_sem] theorem aCK:P.underlying 59=some (.slice 64)/\bS P 59=some 64/\P.bytesOf 64=24/\P.cellsOf 64=1/\bS P 64=some 150/\P.bytesOf 150=16/\aN 86=some false/\P.cellsOf 86=1/\P.underlying 86=some (.slice 250)/\bS P 86=some 250/\P.bytesOf 250=24/\aN 119=some false/\P.cellsOf 119=1/\P.cellsOf 122=1/\P.underlying 123=some (.pointer 131)/\bS P 127=some 222/\P.bytesOf 222=16/\P.cellsOf 128=1/\P.underlying 128=some (.map 222 3)/\bS P 129=some 133/\P.bytesOf 133=24/\aN 131=some true/\P.cellsOf 131=3/\P.cellsOf 143=1/\aN 144=some false/\P.cellsOf 144=1/\P.underlying 144=some (.pointer 234)/\aN 150=some true/\P.cellsOf 150=2/\P.cellsOf 181=1/\bS P 181=some 51/\P.bytesOf 51=24/\aN 183=some false/\P.cellsOf 183=1/\bS P 183=some 188/\P.bytesOf 188=24/\aN 188=some true/\P.cellsOf 188=1/\P.cellsOf 211=1/\bS P 211=some 181/\P.bytesOf 181=24/\aN 217=some false/\P.cellsOf 217=1/\P.cellsOf 218=1/\bS P 218=some 245/\P.bytesOf 245=16/\aN 220=some true/\P.cellsOf 220=3/\aN 226=some false/\P.cellsOf 226=1/\aN 231=some false/\P.cellsOf 231=1/\P.underlying 231=some (.map 510 51)/\P.cellsOf 232=1/\bS P 232=some 238/\P.bytesOf 238=24/\aN 234=some true/\P.cellsOf 234=35/\aN 238=some true/\P.cellsOf 238=3/\aN 240=some true/\P.cellsOf 240=1/\aN 241=some true/\P.cellsOf 241=1/\aN 242=some true/\P.cellsOf 242=1/\aN 245=some false/\P.cellsOf 245=1/\aN 250=some true/\P.cellsOf 250=3/\aN 281=some false/\P.cellsOf 281=1/\bS P 281=some 283/\P.bytesOf 283=24/\aN 283=some true/\P.cellsOf 283=2/\aN 284=some false/\P.cellsOf 284=1/\P.underlying 284=some (.pointer 289)/\P.cellsOf 285=1/\P.underlying 285=some (.pointer 295)/\aN 287=some false/\P.cellsOf 287=1/\P.underlying 287=some (.map 299 296)/\aN 289=some true/\P.cellsOf 289=3/\P.cellsOf 290=1/\bS P 290=some 392/\P.bytesOf 392=120/\aN 293=some false/\P.cellsOf 293=1/\P.underlying 293=some (.map 299 4)/\aN 295=some true/\P.cellsOf 295=3/\aN 296=some false/\P.cellsOf 296=1/\bS P 296=some 129/\P.bytesOf 129=24/\aN 299=some true/\P.cellsOf 299=4/\aN 318=some false/\P.cellsOf 318=1/\P.underlying 318=some (.map 3 3)/\aN 319=some false/\P.cellsOf 319=1/\aN 321=some false/\P.cellsOf 321=1/\aN 343=some false/\P.cellsOf 343=1/\P.underlying 343=some (.pointer 352)/\P.underlying 344=some (.int .u64)/\P.cellsOf 350=1/\bS P 350=some 382/\P.bytesOf 382=24/\aN 352=some true/\P.cellsOf 352=3/\P.underlying 382=some (.slice 384)/\bS P 382=some 384/\P.bytesOf 384=24/\aN 384=some true/\P.cellsOf 384=2/\aN 392=some true/\aN 434=some false/\P.cellsOf 434=1/\P.underlying 434=some (.pointer 292)/\aN 464=some false/\P.cellsOf 464=1/\aN 466=some true/\P.cellsOf 466=64/\P.underlying 466=some (.array 64 5)/\aN 510=some true/\P.cellsOf 510=2:=by and_intros<;>kernel_rfl
end Go.S5
namespace Go.Ev
noncomputable section
section
variable {P : Program} {G : bg} {H : Hp} {α : Type} {sz : Nat} {enc : α -> List D} {xs : List α}
theorem ql (hs:∀x,(enc x).length=sz) {H':Hp} {b j m:Nat} {c1:Option Nat} {el:TypeId} (hb:H'.get b=some (ae el (aq (cC enc xs)))) (hj:j+m<=xs.length) (kk:Nat->List AV->Bool):
  dX H' sz (.sl b (j * sz) m sz c1) kk=kk ((xs.drop j).take m).length (aq (cC enc ((xs.drop j).take m))):=zX hs hb hj
theorem Tt {t e el:TypeId} {lo:Nat} {v:AV} (hs:∀x,(enc x).length=sz) (h:Own sz enc el lo H v xs) (he:bS P t=some e) (hc:P.cellsOf e=sz) {n:Nat} (hn:n<=xs.length) (i:IntKind):
  ∃x,(∀k,cK P H t v none (some (.int i (n:Int))) none k=k x)/\∀H',(∀b z m q,v= .sl b z m sz q->H'.get b=H.get b)->∀kk,dX H' sz x kk=kk (xs.take n).length (aq (cC enc (xs.take n))):=by
 rcases h with⟨rfl,rfl⟩| ⟨b,c,rfl,hcc,h2,h3,h5⟩
 ·simp at hn
  subst hn
  refine⟨.nils,fun k=> ?_,fun H' _ kk=>rfl⟩
  unfold cK
  simp only [he]
  rfl
 ·rcases hcc with rfl | ⟨rfl,rfl⟩
  ·refine⟨.sl b (0 * sz) n sz none,fun k=> ?_,fun H' hb kk=> ?_⟩
   ·unfold cK
    simp only [he,gz,mP]
    rw [hc,bW,show oy H sz b 0 xs.length none n=true from by unfold oy;rw [show Nat.ble n xs.length=true from by simpa using hn]]
    simp only [Nat.ble,bA,kF,ko,kC]
   ·have:=ql (j:=0) (m:=n) (c1:=none) hs (H':=H') (by rw [hb b 0 _ none rfl];exact h5) (by omega) kk
    simpa using this
  ·simp at hn
   subst hn
   refine⟨.sl b 0 0 sz (some 0),fun k=> ?_,fun H' hb kk=> ?_⟩
   ·unfold cK
    simp only [he,gz,mP,jG]
    rw [hc,bW]
    rfl
   ·have:=ql (j:=0) (m:=0) (c1:=some 0) hs (H':=H') (by rw [hb b 0 _ (some 0) rfl];exact h5) (by omega) kk
    simpa using this
end
section
variable {P : Program} {G : bg} {H : Hp}
def qq (P:Program) (G:bg) (nt:Nat) (b:Code) (ro:Option Nat) (k:AEx->En->Hp->Bool):Nat->En->Hp->Bool
 | 0,_,_=>false
 | n+1,e,H=>oE P G nt b ro e H (fun x e' H'=>aY x (fun _=>qq P G nt b ro k n e' H') (fun x=>k x e' H'))
theorem lV {nt:Nat} {b:Code} {ro:Option Nat} {k:AEx->En->Hp->Bool} (n:Nat) {e:En} {H:Hp} (h:qq P G nt b ro k n e H=true):oE P G nt (.loop b) ro e H k=true:=by
 refine aZ (fun m e H=>qq P G nt b ro k m e H=true) (fun m e H hi=> ?_) (m:=n) h
 cases m with
 | zero=>cases hi
 | succ m=>
  refine xK (fun x e' H' hx=> ?_) (show oE P G nt b ro e H (fun x e' H'=>aY x (fun _=>qq P G nt b ro k m e' H') (fun x=>k x e' H'))=true from hi)
  cases x with
  | normal=>exact bd (Inv:=fun m e H=>qq P G nt b ro k m e H=true) (m':=m) (nM m) (show qq P G nt b ro k m e' H'=true from hx)
  | exit i=>exact hx
  | ret=>exact hx
  | pan v c=>exact hx
theorem er {nt:Nat} {b:Code} {ro:Option Nat} {k:AEx->En->Hp->Bool} {n:Nat} {e:En} {H:Hp} (h:cd P G 200 nt b ro e H (fun x e' H'=>aY x (fun _=>qq P G nt b ro k n e' H') (fun x=>k x e' H'))=true):qq P G nt b ro k (n+1) e H=true:=aV 200 h
@[congr] theorem Lt {nt:Nat} {b:Code} {ro:Option Nat} {k:AEx->En->Hp->Bool} {n:Nat} {e e':En} {H H':Hp} {pM:Prop} (he:e=e') (hH:H=H') (hM:Mk=pM):qq P G nt b ro k n e H=qq P G nt b ro k n e' H':=by rw [he,hH]
theorem vU {t e:TypeId} {sz b1:Nat} {c1:Option Nat} {el1:Option TypeId} {ro1:Bool} {cs:List AV} {k:AV->Hp->Bool} (ht:ApT P t e sz) (hb:H.get b1=some (.cells el1 ro1 cs)) (hl:cs.length=sz) (hone:cs.all one=true)
  (h:k (.sl H.nx 0 1 sz none) (H.push (ae e cs))=true):fj P H t t .nils (.sl b1 0 1 sz c1) k=true:=by
 unfold fj
 rw [ht.h1]
 dsimp only
 rw [ht.h2,ht.h3,ht.h4,ht.h5]
 dsimp only
 rw [ht.h6]
 unfold dX
 dsimp only
 rw [bW,hb]
 dsimp only
 rw [Nat.one_mul,fi,dP _ _ (by omega),cN (by omega)]
 dsimp only
 rw [bH,hone]
 dsimp only
 rw [aI]
 exact h
end
section
variable {P : Program} {G : bg}
end
inductive ep where
 | no | mach | ea | fa | edge (i:Nat)| free (i:Nat)
def upd (ρ:Nat->ep) (b:Nat) (r:ep):Nat->ep:=fun c=>if c=b then r else ρ c
theorem qS (ρ:Nat->ep) (b:Nat) (r:ep):upd ρ b r b=r:=if_pos rfl
theorem dQ {ρ:Nat->ep} {b c:Nat} {r:ep} (h:c≠b):upd ρ b r c=ρ c:=if_neg h
section
variable {P : Program} {G : bg} {H : Hp} {sz : Nat} {el t e tx : TypeId} {r : ep} {ρ : Nat -> ep} {v x : AV} {cs new : List AV}
def Arr (el:TypeId) (sz:Nat) (r:ep) (ρ:Nat->ep) (H:Hp) (v:AV) (cs:List AV):Prop:=
 (v= .nils/\cs=[])∨∃b n,v= .sl b 0 n sz none/\cs.length=n * sz/\ρ b=r/\b<H.nx/\H.get b=some (ae el cs)
theorem Arr.frame {ρ':Nat->ep} {H':Hp} (h:Arr el sz r ρ H v cs) (hn:H.nx<=H'.nx) (hf:∀b,b<H.nx->ρ b=r->ρ' b=r/\H'.get b=H.get b):Arr el sz r ρ' H' v cs:=by
 rcases h with h | ⟨b,n,h1,h2,h3,h4,h5⟩
 ·exact .inl h
 ·obtain⟨h6,h7⟩:=hf b h4 h3
  exact .inr ⟨b,n,h1,h2,h6,by omega,by rw [h7];exact h5⟩
theorem Arr.one (h:Arr el sz r ρ H v cs):one v=true:=by rcases h with⟨rfl,_⟩| ⟨b,n,rfl,_⟩<;>rfl
theorem Arr.cells (h:Arr el sz r ρ H v cs):AV.cells v=[v]:=by rcases h with⟨rfl,_⟩| ⟨b,n,rfl,_⟩<;>rfl
theorem Arr.same (h:Arr el sz r ρ H v cs) (n:Nat):av (n+1) v v=true:=by
 rcases h with⟨rfl,_⟩| ⟨b,n,rfl,_⟩
 ·rfl
 ·exact Cr _ _ _ _ _ _
theorem Arr.app {tx:TypeId} {m:Nat} {k:AV->Hp->Bool} (ht:ApT P t e sz) (htx:qy P tx=false) (hsz:0<sz) (ha:Arr e sz r ρ H v cs) (hcells:∀kk:Nat->List AV->Bool,dX H sz x kk=kk (m+1) new)
  (hall:new.all Go.Ev.one=true) (hnew:new.length=(m+1) * sz) (hlen:cs.length+new.length<=1048576)
  (hk:∀v' H',Arr e sz r (upd ρ H.nx r) H' v' (cs++new)->H'.nx=H.nx+1->(∀b,b≠H.nx->ρ b≠r->H'.get b=H.get b)->k v' H'=true):fj P H t tx v x k=true:=by
 have hmm:m+1<=(m+1) * sz:=Nat.le_mul_of_pos_right _ hsz
 unfold fj
 rw [ht.h1]
 dsimp only
 rw [htx,ht.h3,ht.h4,ht.h5]
 dsimp only
 rw [ht.h6,hcells,hall]
 dsimp only
 rcases ha with⟨rfl,rfl⟩| ⟨b,n,rfl,h2,h3,h4,h5⟩
 ·dsimp only
  rw [show Nat.ble (m+1) 1048576=true from by simp at hlen⊢;omega]
  dsimp only
  rw [aI]
  refine hk _ _ (.inr ⟨H.nx,m+1,rfl,hnew,qS _ _ _, ?_, ?_⟩) ?_ ?_
  ·rw [am];omega
  ·rw [af,if_pos rfl,gv]
  ·rw [am]
  ·intro c hc _;rw [af,if_neg hc]
 ·have hnn:n<=n * sz:=Nat.le_mul_of_pos_right _ hsz
  dsimp only
  rw [bW,show Nat.ble (n+(m+1)) 1048576=true from by simp only [ml];omega,h5]
  dsimp only
  rw [fi,dP _ _ (by omega),cN (by omega)]
  dsimp only [lZ]
  have hgt:n * sz<(n+(m+1)) * sz:=Nat.mul_lt_mul_of_pos_right (by omega) hsz
  rw [show Nat.ble (0+(n+(m+1)) * sz) cs.length=false from by
   rw [h2,ca]
   cases hb:Nat.ble ((n+(m+1)) * sz) (n * sz) with
   | false=>rfl
   | true=>have:=dK hb;omega]
  dsimp only
  rw [bH,cJ,aI,bA]
  have hel:oC 0 none (some e) e=some e:=by simp [oC,bW]
  rw [hel]
  refine hk _ _ (.inr ⟨H.nx,n+(m+1), ?_, ?_,qS _ _ _, ?_, ?_⟩) ?_ ?_
  ·rw [au]
  ·rw [gZ,h2,hnew,jF n (m+1) sz]
  ·rw [am,au];omega
  ·rw [af,au,if_pos rfl]
  ·rw [am,au]
  ·intro c hc hr
   have hcb:c≠b:=fun hh=>hr (by rw [hh];exact h3)
   rw [af,au,if_neg hc,V,if_neg hcb]
theorem CF:∀(cs:List AV) (n:Nat) (v:AV),n<cs.length->fg cs n [v]=some (cs.set n v)
 | [],n,v,h=>by simp at h
 | c::cs,0,v,h=>by rw [yL];show (vX cs []).map (v::·)=_;rw [GV];rfl
 | c::cs,n+1,v,h=>by rw [CY,CF cs n v (by simpa using h)];rfl
theorem cf {b n:Nat} {el:Option TypeId} {ro:Bool} {k:AV->Bool} (hb:H.get b=some (.cells el ro cs)) (hi:kU P t=some false) (hn:cs[n]? =some v):mw P G H t (.ptr b n) k=k v:=by
 rw [iE,hb,fy,hi,pU,hn,qt]
theorem ex {b n:Nat} {el:Option TypeId} {k:Hp->Bool} (hb:H.get b=some (.cells el false cs)) (hi:kU P t=some false) (hc:P.cellsOf t=1) (hv:AV.cells v=[v]) (ho:one v=true) (hn:n<cs.length):
  lU P H t (.ptr b n) v k=k (H.setb b (some (.cells el false (cs.set n v)))):=by
 rw [jv,hb,hi,gr,hv,hc,CF cs n v hn,show (Nat.beq [v].length 1&&[v].all Go.Ev.one)=true from by simp [ho],qE]
theorem Arr.idx (h:Arr el 1 r ρ H v cs) (hu:P.underlying t=some (.slice e)) (hi:(P.info? e).isSome=true) (hc:P.cellsOf e=1) {n:Nat} (hn:n<cs.length):
  ∃b,ρ b=r/\b<H.nx/\H.get b=some (ae el cs)/\v= .sl b 0 cs.length 1 none/\∀(i:IntKind) (k:AV->Bool),gu P t v (.int i (n:Int)) k=k (.ptr b n):=by
 rcases h with⟨_,rfl⟩| ⟨b,m,rfl,h2,h3,h4,h5⟩
 ·simp at hn
 ·rw [dZ] at h2
  refine⟨b,h3,h4,h5,by rw [h2],fun i k=> ?_⟩
  rw [gX hu hi hc (by omega),dZ,ca]
theorem Arr.len (h:Arr el sz r ρ H v cs) (hsz:sz=1) (hu:P.underlying t=some (.slice e)) (H':Hp) (k:AV->Bool):kJ P t v H' k=k (O (cs.length:Int)):=by
 unfold kJ
 rw [hu]
 subst hsz
 rcases h with⟨rfl,rfl⟩| ⟨b,n,rfl,h2,_⟩
 ·rfl
 ·rw [dZ] at h2
  rw [h2]
  rfl
theorem EN {b:Nat} {c:Option Nat} {el:Option TypeId} {ro:Bool} (hb:H.get b=some (.cells el ro cs)) (hl:cs.length=sz) (kk:Nat->List AV->Bool):dX H sz (.sl b 0 1 sz c) kk=kk 1 cs:=by
 unfold dX
 dsimp only
 rw [bW,hb]
 dsimp only
 rw [fi,Nat.one_mul,dP _ _ (by omega),cN (by omega)]
 exact bH _ _
end
def inN (n:Nat) (v:AV):Prop:=∃j:Nat,j<n/\v= O (j:Int)
structure MC (ρ:Nat->ep) (H:Hp) (ne nf N c:Nat) (ev fv:AV) (es fs:List AV):Prop where
 he:Arr 382 1 .ea ρ H ev es
 hf:Arr 51 1 .fa ρ H fv fs
 el:es.length=ne
 fl:fs.length=nf
 eo:∀(i:Nat) (x:AV),es[i]? =some x->∃cs,Arr 384 2 (.edge i) ρ H x cs/\cs.length<=2 * c
 fo:∀(i:Nat) (x:AV),fs[i]? =some x->∃cs,Arr 3 1 (.free i) ρ H x cs/\cs.length<=c/\∀v∈cs,inN N v
 fresh:∀b,H.nx<=b->ρ b= .no
def Fr (ρ:Nat->ep) (H:Hp) (ρ':Nat->ep) (H':Hp):Prop:=H.nx<=H'.nx/\∀b,b<H.nx->ρ b= .no->ρ' b= .no/\H'.get b=H.get b
theorem jY (ρ:Nat->ep) (H:Hp):Fr ρ H ρ H:=⟨bh _,fun b _ h=>⟨h,rfl⟩⟩
theorem Fr.trans {ρ ρ' ρ'':Nat->ep} {H H' H'':Hp} (h:Fr ρ H ρ' H') (h':Fr ρ' H' ρ'' H''):Fr ρ H ρ'' H'':=
 ⟨fC h.1 h'.1,fun b hb hr=>let ⟨h1,h2⟩:=h.2 b hb hr;let ⟨h3,h4⟩:=h'.2 b (gY hb h.1) h1;⟨h3,h4.trans h2⟩⟩
section
variable {ρ ρ' : Nat -> ep} {H H' H1 : Hp} {ne nf N c : Nat} {ev fv v' x : AV} {es fs cs : List AV} {i j : Nat}
theorem MC.frame (h:MC ρ H ne nf N c ev fv es fs) (hn:H.nx<=H'.nx) (hf:∀b,b<H.nx->ρ b≠ .no->ρ b≠ .mach->ρ' b=ρ b/\H'.get b=H.get b) (hr:∀b,H'.nx<=b->ρ' b= .no):MC ρ' H' ne nf N c ev fv es fs:=by
 have hA:∀{el sz r v cs},r≠ep.no->r≠ .mach->Arr el sz r ρ H v cs->Arr el sz r ρ' H' v cs:=fun h1 h2 ha=>ha.frame hn fun b hb hr=>by
  obtain⟨h3,h4⟩:=hf b hb (by rw [hr];exact h1) (by rw [hr];exact h2)
  exact⟨h3.trans hr,h4⟩
 refine⟨hA (by nofun) (by nofun) h.he,hA (by nofun) (by nofun) h.hf,h.el,h.fl,fun i x hx=> ?_,fun i x hx=> ?_,hr⟩
 ·obtain⟨cs,h1,h2⟩:=h.eo i x hx
  exact⟨cs,hA (by nofun) (by nofun) h1,h2⟩
 ·obtain⟨cs,h1,h2⟩:=h.fo i x hx
  exact⟨cs,hA (by nofun) (by nofun) h1,h2⟩
theorem MC.mono {N' c':Nat} (h:MC ρ H ne nf N c ev fv es fs) (hN:N<=N') (hc:c<=c'):MC ρ H ne nf N' c' ev fv es fs:=
 ⟨h.he,h.hf,h.el,h.fl,fun i x hx=>let ⟨cs,h1,h2⟩:=h.eo i x hx;⟨cs,h1,by omega⟩,fun i x hx=>let ⟨cs,h1,h2,h3⟩:=h.fo i x hx;⟨cs,h1,by omega,fun v hv=>let ⟨j,h4,h5⟩:=h3 v hv;⟨j,by omega,h5⟩⟩,h.fresh⟩
theorem MC.growE (h:MC ρ H ne nf N c ev fv es fs) (ha:Arr 382 1 .ea (upd ρ H.nx .ea) H' v' (es++[.nils])) (hn:H'.nx=H.nx+1) (hf:∀b,b≠H.nx->ρ b≠ .ea->H'.get b=H.get b):
  MC (upd ρ H.nx .ea) H' (ne+1) nf N c v' fv (es++[.nils]) fs:=by
 have hA:∀{el sz r v cs},r≠ep.ea->Arr el sz r ρ H v cs->Arr el sz r (upd ρ H.nx .ea) H' v cs:=fun h1 ha=>ha.frame (by omega) fun b hb hr=>⟨by rw [dQ (by omega)];exact hr,hf b (by omega) (by rw [hr];exact h1)⟩
 refine⟨ha,hA (by nofun) h.hf,by simp [h.el],h.fl,fun i x hx=> ?_,fun i x hx=> ?_,fun b hb=>by rw [dQ (by omega)];exact h.fresh b (by omega)⟩
 ·rw [List.getElem?_append] at hx
  split at hx
  ·obtain⟨cs,h1,h2⟩:=h.eo i x hx
   exact⟨cs,hA (by nofun) h1,h2⟩
  ·rw [List.getElem?_singleton] at hx
   split at hx
   ·cases hx;exact⟨[],.inl ⟨rfl,rfl⟩,by simp⟩
   ·cases hx
 ·obtain⟨cs,h1,h2⟩:=h.fo i x hx
  exact⟨cs,hA (by nofun) h1,h2⟩
theorem MC.growF (h:MC ρ H ne nf N c ev fv es fs) (ha:Arr 51 1 .fa (upd ρ H.nx .fa) H' v' (fs++[.nils])) (hn:H'.nx=H.nx+1) (hf:∀b,b≠H.nx->ρ b≠ .fa->H'.get b=H.get b):
  MC (upd ρ H.nx .fa) H' ne (nf+1) N c ev v' es (fs++[.nils]):=by
 have hA:∀{el sz r v cs},r≠ep.fa->Arr el sz r ρ H v cs->Arr el sz r (upd ρ H.nx .fa) H' v cs:=fun h1 ha=>ha.frame (by omega) fun b hb hr=>⟨by rw [dQ (by omega)];exact hr,hf b (by omega) (by rw [hr];exact h1)⟩
 refine⟨hA (by nofun) h.he,ha,h.el,by simp [h.fl],fun i x hx=> ?_,fun i x hx=> ?_,fun b hb=>by rw [dQ (by omega)];exact h.fresh b (by omega)⟩
 ·obtain⟨cs,h1,h2⟩:=h.eo i x hx
  exact⟨cs,hA (by nofun) h1,h2⟩
 ·rw [List.getElem?_append] at hx
  split at hx
  ·obtain⟨cs,h1,h2⟩:=h.fo i x hx
   exact⟨cs,hA (by nofun) h1,h2⟩
  ·rw [List.getElem?_singleton] at hx
   split at hx
   ·cases hx;exact⟨[],.inl ⟨rfl,rfl⟩,by simp,by simp⟩
   ·cases hx
theorem BH (h:MC ρ H ne nf N c ev fv es fs) {fb:Nat} (hfb:ρ fb= .fa) (hfl:fb<H.nx) (hfv:fv= .sl fb 0 fs.length 1 none) (hi:i<fs.length) (ha:Arr 3 1 (.free i) (upd ρ H.nx (.free i)) H1 v' cs) (hc:cs.length<=c+1) (hN:∀v∈cs,inN N v)
  (hn:H1.nx=H.nx+1) (hf:∀b,b≠H.nx->ρ b≠ .free i->H1.get b=H.get b):MC (upd ρ H.nx (.free i)) (H1.setb fb (some (ae 51 (fs.set i v')))) ne nf N (c+1) ev fv es (fs.set i v'):=by
 have hnx:(H1.setb fb (some (ae 51 (fs.set i v')))).nx=H.nx+1:=hn
 have hA:∀{el sz r v cs},r≠ep.free i->r≠ .fa->Arr el sz r ρ H v cs->Arr el sz r (upd ρ H.nx (.free i)) (H1.setb fb (some (ae 51 (fs.set i v')))) v cs:=fun h1 h2 ha=>
  ha.frame (by omega) fun b hb hr=>⟨by rw [dQ (by omega)];exact hr,by rw [V,if_neg (fun hh=>h2 (by rw [←hr,hh];exact hfb)),hf b (by omega) (by rw [hr];exact h1)]⟩
 have hset:(fs.set i v').length=fs.length:=kw
 refine⟨hA (by nofun) (by nofun) h.he,.inr ⟨fb,fs.length,hfv,by omega,by rw [dQ (by omega)];exact hfb,by omega,by rw [V,if_pos rfl]⟩,h.el,by rw [hset];exact h.fl,fun j x hx=> ?_,fun j x hx=> ?_,fun b hb=>by rw [dQ (by omega)];exact h.fresh b (by omega)⟩
 ·obtain⟨cs,h1,h2⟩:=h.eo j x hx
  exact⟨cs,hA (by nofun) (by nofun) h1,by omega⟩
 ·rw [List.getElem?_set] at hx
  split at hx
  ·rename_i hij
   subst hij
   cases hx
   refine⟨cs,ha.frame (by omega) fun b hb hr=>⟨hr, ?_⟩,hc,hN⟩
   rw [V,if_neg]
   rintro rfl
   rw [dQ (by omega),hfb] at hr
   cases hr
  ·rename_i hij
   obtain⟨cs,h1,h2,h3⟩:=h.fo j x hx
   exact⟨cs,hA (by rintro⟨⟩;exact hij rfl) (by nofun) h1,by omega,h3⟩
theorem B8 (h:MC ρ H ne nf N c ev fv es fs) {eb:Nat} (heb:ρ eb= .ea) (hel:eb<H.nx) (hev:ev= .sl eb 0 es.length 1 none) (hi:i<es.length) (ha:Arr 384 2 (.edge i) (upd ρ H.nx (.edge i)) H1 v' cs) (hc:cs.length<=2 * (c+1))
  (hn:H1.nx=H.nx+1) (hf:∀b,b≠H.nx->ρ b≠ .edge i->H1.get b=H.get b):MC (upd ρ H.nx (.edge i)) (H1.setb eb (some (ae 382 (es.set i v')))) ne nf N (c+1) ev fv (es.set i v') fs:=by
 have hnx:(H1.setb eb (some (ae 382 (es.set i v')))).nx=H.nx+1:=hn
 have hA:∀{el sz r v cs},r≠ep.edge i->r≠ .ea->Arr el sz r ρ H v cs->Arr el sz r (upd ρ H.nx (.edge i)) (H1.setb eb (some (ae 382 (es.set i v')))) v cs:=fun h1 h2 ha=>
  ha.frame (by omega) fun b hb hr=>⟨by rw [dQ (by omega)];exact hr,by rw [V,if_neg (fun hh=>h2 (by rw [←hr,hh];exact heb)),hf b (by omega) (by rw [hr];exact h1)]⟩
 have hset:(es.set i v').length=es.length:=kw
 refine⟨.inr ⟨eb,es.length,hev,by omega,by rw [dQ (by omega)];exact heb,by omega,by rw [V,if_pos rfl]⟩,hA (by nofun) (by nofun) h.hf,by rw [hset];exact h.el,h.fl,fun j x hx=> ?_,fun j x hx=> ?_,fun b hb=>by rw [dQ (by omega)];exact h.fresh b (by omega)⟩
 ·rw [List.getElem?_set] at hx
  split at hx
  ·rename_i hij
   subst hij
   cases hx
   refine⟨cs,ha.frame (by omega) fun b hb hr=>⟨hr, ?_⟩,by omega⟩
   rw [V,if_neg]
   rintro rfl
   rw [dQ (by omega),heb] at hr
   cases hr
  ·rename_i hij
   obtain⟨cs,h1,h2⟩:=h.eo j x hx
   exact⟨cs,hA (by rintro⟨⟩;exact hij rfl) (by nofun) h1,by omega⟩
 ·obtain⟨cs,h1,h2,h3⟩:=h.fo j x hx
  exact⟨cs,hA (by nofun) (by nofun) h1,by omega,h3⟩
def iM (ρ:Nat->ep) (H:Hp) (bm n c:Nat):Prop:=∃ev fv la es fs,H.get bm=some (ae 352 [ev,fv, O la])/\ρ bm= .mach/\bm<H.nx/\MC ρ H n n n c ev fv es fs
theorem iM.push {bm n:Nat} (h:iM ρ H bm n c) (b:Blk):iM ρ (H.push b) bm n c/\Fr ρ H ρ (H.push b):=by
 obtain⟨ev,fv,la,es,fs,h1,h2,h3,h4⟩:=h
 refine⟨⟨ev,fv,la,es,fs,by rw [af,if_neg (by omega)];exact h1,h2,by rw [am];omega,h4.frame (by rw [am];omega) (fun b hb _ _=>⟨rfl,by rw [af,if_neg (by omega)]⟩) fun b hb=>h4.fresh b (by rw [am] at hb;omega)⟩,by rw [am];omega,fun b hb hr=>⟨hr,by rw [af,if_neg (by omega)]⟩⟩
theorem iM.mono {bm n c':Nat} (h:iM ρ H bm n c) (hc:c<=c'):iM ρ H bm n c':=by
 obtain⟨ev,fv,la,es,fs,h1,h2,h3,h4⟩:=h
 exact⟨ev,fv,la,es,fs,h1,h2,h3,h4.mono (bh _) hc⟩
theorem MC.push {ρ:Nat->ep} {H:Hp} {ne nf N c:Nat} {ev fv:AV} {es fs:List AV} (h:MC ρ H ne nf N c ev fv es fs) (b:Blk):MC ρ (H.push b) ne nf N c ev fv es fs:=
 h.frame (by rw [am];omega) (fun c hc _ _=>⟨rfl,by rw [af,if_neg (by omega)]⟩) fun c hc=>h.fresh c (by rw [am] at hc;omega)
theorem MC.setm {ρ:Nat->ep} {H:Hp} {ne nf N c:Nat} {ev fv:AV} {es fs:List AV} (h:MC ρ H ne nf N c ev fv es fs) {b:Nat} (hb:ρ b= .mach) (x:Option Blk):MC ρ (H.setb b x) ne nf N c ev fv es fs:=
 h.frame (by rw [au];omega) (fun c hc h1 h2=>⟨rfl,by rw [V,if_neg (by rintro rfl;exact h2 hb)]⟩) fun c hc=>h.fresh c (by rw [au] at hc;omega)
theorem jo {sz:Nat} {c:Option Nat} {el:Option TypeId} {ro:Bool} {H:Hp} {cs:List AV} (hl:cs.length=sz) (kk:Nat->List AV->Bool):dX (H.push (.cells el ro cs)) sz (.sl H.nx 0 1 sz c) kk=kk 1 cs:=
 EN (by rw [af,if_pos rfl]) hl kk
end
end
end Go.Ev
