/- A part of the proof of RoundAlone. -/
import Derived.Test.YtnljpmbidnnlkaaGreatDoorRAo
import Derived.Test.YtnljpmbidnnlkaaGreatDoorRAl
import Derived.Sort.Grow
import Derived.Test.YtnljpmbidnnlkaaGreatDoorRAj
set_option maxRecDepth 1000000
set_option linter.unusedVariables false
set_option linter.unusedSimpArgs false
set_option maxHeartbeats 8000000
namespace Go.S5
open Go.Ev Go.Proofs
structure Sm4 (t t':E2):Prop where
 s7:t' 7=t 7
 s8:t' 8=t 8
 s13:t' 13=t 13
 s14:t' 14=t 14
 s113:t' 113=t 113
 s114:t' 114=t 114
 s115:t' 115=t 115
theorem Ze {H:Hp} {n bl bb bx:Nat} {s:LB} {l:BF.Lk} {t:E2} {k:AEx->En->Hp->Bool} (h:Lg H n bl bb s) (hu:l.u<n) (hv:l.v<n) (hx:H.get bx=some (ae 133 (aq (eLk l)))) (t7:t 7=slv bl n) (t14:t 14= .ptr bx 0)
  (hb:∀i,i<n-> -4000000000000000000<=s.d i/\s.d i<=2000000000000000000) (hw: -2000000000000000000<=l.w/\l.w<=2000000000000000000)
  (hk:∀t',t' 141= .bool (decide (isR s l))->Sm4 t t'->k .normal ⟨t',[]⟩ H=true):az 194 154 67 64818 none ⟨t,[]⟩ H k=true:=by
 have e0:(aq (eLk l))=[O (l.u:Int), O (l.v:Int), O l.w]:=rfl
 rw [e0] at hx
 have hiu:=fun k=>idv (b:=bl) hu k
 have hiv:=fun k=>idv (b:=bl) hv k
 have hbu:=hb _ hu
 rw [O2,t7,t14]
 have hadd:(-9223372036854775808<=s.d l.u+l.w/\s.d l.u+l.w<=9223372036854775807):=by omega
 have hxx:∀(i:Nat) (k:AV->Bool),i<n->E H 3 (.ptr bl i) k=k (O (s.d i)):=fun i k hi=>cf h.gl ag3 (o2 s.d hi)
 have hx0:∀k:AV->Bool,E H 3 (.ptr bx (0+0)) k=k (O (l.u:Int)):=fun k=>cf hx ag3 rfl
 have hx1:∀k:AV->Bool,E H 3 (.ptr bx (0+1)) k=k (O (l.v:Int)):=fun k=>cf hx ag3 rfl
 have hx2:∀k:AV->Bool,E H 3 (.ptr bx (0+2)) k=k (O l.w):=fun k=>cf hx ag3 rfl
 rw [bL,hx0,hiu,hxx _ _ hu,cB]
 by_cases hf:s.d l.u<1125899906842624
 ·have e1:decide (s.d l.u<1125899906842624)=true:=by simp [hf]
  rw [e1]
  simp only [CP,qQ,zy]
  rw [bL,hx0,hiu,hxx _ _ hu,bL,hx2,kn _ _ _ _ hadd,bL,hx1,hiv,hxx _ _ hv,cB,HC,cQ]
  refine hk _ ?_ ?_
  ·simp (disch:=omega) only [go_sem]
   congr 1
   rw [cg,bU,bU]
   exact⟨fun h=>⟨hf,h⟩,fun h=>h.2⟩
  ·constructor<;>(simp (disch:=omega) only [go_sem])
 ·have e1:decide (s.d l.u<1125899906842624)=false:=by simp [hf]
  rw [e1]
  simp only [CP,qQ,zn]
  rw [Gl,cQ]
  refine hk _ ?_ ?_
  ·simp (disch:=omega) only [go_sem]
   congr 1
   symm
   rw [cU]
   exact fun h=>hf h.1
  ·constructor<;>(simp (disch:=omega) only [go_sem])
theorem f67 {H:Hp} {n bl bb q T:Nat} {s:LB} {ls:List BF.Lk} {dl:D} {t:E2} {k:AEx->En->Hp->Bool} (h:Lg H n bl bb s) (hd:Sl 3 eLk ls dl) (hq:q<ls.length) (hl:ls.length<=1000) (hu:∀l∈ls,l.u<n/\l.v<n/\ -MM<=l.w/\l.w<=MM) (hB:Bd n T s) (hT:T<=400)
  (t7:t 7=slv bl n) (t8:t 8=slv bb n) (t113:t 113=ofD dl) (t114:t 114= O (ls.length:Int)) (t115:t 115= O (q:Int))
  (hyes:isR s ls[q]->∀t' H',Lg H' n bl bb ⟨s.d,BF.upd s.b ls[q].v (q:Int)⟩->H.nx<=H'.nx->(∀c,c<H.nx->c≠bl->c≠bb->H'.get c=H.get c)->t' 4=slv bl n->t' 5=slv bb n->t' 6= O (ls[q].v:Int)->k .ret ⟨t',[]⟩ H'=true)
  (hno:¬isR s ls[q]->∀t' H',Lg H' n bl bb s->H.nx<=H'.nx->(∀c,c<H.nx->H'.get c=H.get c)->t' 7=slv bl n->t' 8=slv bb n->t' 113=ofD dl->t' 114= O (ls.length:Int)->t' 115= O ((q+1:Nat):Int)->k .normal ⟨t',[]⟩ H'=true):
  az 200 154 67 506 none ⟨t,[]⟩ H k=true:=by
 have hlt:((q:Int)<(ls.length:Int))=True:=by simp;omega
 obtain⟨hu1,hv1,hw1⟩:=hu ls[q] (cO hq)
 have hw2: -2000000000000000000<=ls[q].w/\ls[q].w<=2000000000000000000:=by
  have:MM=9007199254740992:=rfl
  omega
 obtain⟨p,hpx,hpl⟩:=Ng hd hq
 rw [Nc,t115,t114,cB]
 simp only [hlt,dL,dH]
 rw [SO]
 have E113:∀x,(es t [(116,x)]) 113=ofD dl:=fun x=>by simp (disch:=omega) only [go_sem,t113]
 have E115:∀x,(es t [(116,x)]) 115= O (q:Int):=fun x=>by simp (disch:=omega) only [go_sem,t115]
 rw [E113,E115,hpx,hpl,aI,zu (el:=some 133) (by rw [af,if_pos rfl])]
 generalize hH1:Hp.setb (H.push (ae 133 [O 0, O 0, O 0])) H.nx (some (ae 133 (aq (eLk ls[q]))))=H1
 have hx1:H1.nx=H.nx+1:=by rw [←hH1];rfl
 have hf1:∀c,c<H.nx->H1.get c=H.get c:=fun c hc=>by rw [←hH1,V,if_neg (by omega),af,if_neg (by omega)]
 have hL1:=h.keep (H':=H1) (by omega) hf1
 have hg1:H1.get H.nx=some (ae 133 (aq (eLk ls[q]))):=by rw [←hH1,V,if_pos rfl]
 refine Ze hL1 hu1 hv1 hg1 (by simp (disch:=omega) only [go_sem,t7]) (by simp (disch:=omega) only [go_sem]) (hB.ok hT) hw2 fun t1 a141 hs1=> ?_
 have b7:t1 7=slv bl n:=by rw [hs1.s7];simp (disch:=omega) only [go_sem,t7]
 have b8:t1 8=slv bb n:=by rw [hs1.s8];simp (disch:=omega) only [go_sem,t8]
 have b13:t1 13= O (q:Int):=by rw [hs1.s13];simp (disch:=omega) only [go_sem]
 have b14:t1 14= .ptr H.nx 0:=by rw [hs1.s14];simp (disch:=omega) only [go_sem]
 rw [eU,Ps,a141]
 by_cases hr:isR s ls[q]
 ·rw [fM hr,dH,b7,b8,b13,b14]
  have hg0:H1.get H.nx=some (ae 133 [O (ls[q].u:Int), O (ls[q].v:Int), O ls[q].w]):=hg1
  have hne:H.nx≠bb:=by have:=h.lb;omega
  rw [bL,cf (v:= O (ls[q].v:Int)) hg0 ag3 rfl,idv hv1,ex hL1.gb ag3 ce3 rfl rfl (by rw [jO];exact hv1),pf _ _ hv1,bL,cf (v:= O (ls[q].v:Int)) (by rw [V,if_neg hne];exact hg0) ag3 rfl]
  simp (disch:=omega) only [go_sem]
  refine hyes hr _ _ ⟨?_, ?_,h.ne, ?_, ?_⟩ ?_ (fun c hc c1 c2=> ?_) ?_ ?_ ?_
  ·rw [V,if_neg h.ne];exact hL1.gl
  ·rw [V,if_pos rfl]
  ·rw [au];exact hL1.ll
  ·rw [au];exact hL1.lb
  ·rw [au];omega
  ·rw [V,if_neg c2,hf1 c hc]
  ·simp (disch:=omega) only [go_sem]
  ·simp (disch:=omega) only [go_sem]
  ·simp (disch:=omega) only [go_sem]
 ·rw [fK hr,eV]
  have b115:t1 115= O (q:Int):=by rw [hs1.s115];simp (disch:=omega) only [go_sem,t115]
  have b113:t1 113=ofD dl:=by rw [hs1.s113];simp (disch:=omega) only [go_sem,t113]
  have b114:t1 114= O (ls.length:Int):=by rw [hs1.s114];simp (disch:=omega) only [go_sem,t114]
  simp (disch:=omega) only [go_sem,QB,b115]
  refine hno hr _ H1 hL1 (by omega) hf1 ?_ ?_ ?_ ?_ ?_
  ·simp (disch:=omega) only [go_sem,b7]
  ·simp (disch:=omega) only [go_sem,b8]
  ·simp (disch:=omega) only [go_sem,b113]
  ·simp (disch:=omega) only [go_sem,b114]
  ·simp (disch:=omega) only [go_sem];rfl
theorem zc3:EA P 3=[O 0]:=by kernel_rfl
theorem by3:P.bytesOf 3=8:=by kernel_rfl
theorem rg:∀n,fd [AV.int .i64 0] n=kP n fun _=>0
 | 0=>rfl
 | n+1=>by
  show [AV.int .i64 0]++fd [AV.int .i64 0] n=_
  rw [rg n]
  simp [kP,List.map_const',List.replicate_succ]
theorem mk3 {n:Nat} (hn:n<=1000) (k:Blk->(Nat->AV)->Bool):gw 3 (P.cellsOf 3) (P.bytesOf 3) (EA P 3) (O (n:Int)) (O (n:Int)) k=k (ae 3 (kP n fun _=>0)) (jr n 1):=by
 unfold gw
 show (match some n,some n with | some l,some c=>_ | _,_=>false)=_
 dsimp only
 rw [zc3,by3,ce3,bW,show Nat.ble (8 * n) 1048576=true from by simp only [ml];omega,show Nat.ble n 1048576=true from by simp only [ml];omega,show Nat.beq [AV.int .i64 0].length 1=true from rfl]
 dsimp only
 rw [bH,rg]
def iS (fr:Int) (i:Nat):LB:=⟨fun j=>if j<i/\0<=fr/\(j:Int)≠fr then far else 0,fun j=>if j<i then -1 else 0⟩
theorem JH (fr:Int):iS fr 0=⟨fun _=>0,fun _=>0⟩:=by unfold iS;simp
theorem aED (fr:Int) (i:Nat):BF.upd (iS fr i).b i (-1)=(iS fr (i+1)).b:=by
 funext j
 unfold BF.upd iS
 dsimp only
 by_cases h:j=i
 ·subst h;simp
 ·rw [if_neg h]
  by_cases h2:j<i
  ·rw [if_pos h2,if_pos (by omega)]
  ·rw [if_neg h2,if_neg (by omega)]
theorem Vj (fr:Int) (i:Nat) (h:0<=fr/\(i:Int)≠fr):BF.upd (iS fr i).d i far=(iS fr (i+1)).d:=by
 funext j
 unfold BF.upd iS
 dsimp only
 by_cases hj:j=i
 ·subst hj;rw [if_pos rfl,if_pos ⟨by omega,h⟩]
 ·rw [if_neg hj]
  by_cases h2:j<i
  ·have:j<i+1:=by omega
   simp [h2,this]
  ·have:¬j<i+1:=by omega
   simp [h2,this]
theorem Ml (fr:Int) (i:Nat) (h:¬(0<=fr/\(i:Int)≠fr)):(iS fr i).d=(iS fr (i+1)).d:=by
 funext j
 unfold iS
 dsimp only
 by_cases hj:j=i
 ·subst hj;rw [if_neg (by omega),if_neg (fun x=>h x.2)]
 ·by_cases h2:j<i
  ·have:j<i+1:=by omega
   simp [h2,this]
  ·have:¬j<i+1:=by omega
   simp [h2,this]
theorem i67 {H:Hp} {n bl bb i:Nat} {fr:Int} {t:E2} {k:AEx->En->Hp->Bool} (h:Lg H n bl bb (iS fr i)) (hi:i<n) (hn:n<=1000) (t1:t 1= O fr) (t7:t 7=slv bl n) (t8:t 8=slv bb n) (t28:t 28= O (n:Int)) (t29:t 29= O (i:Int))
  (hk:∀t' H',Lg H' n bl bb (iS fr (i+1))->H'.nx=H.nx->(∀c,c≠bl->c≠bb->H'.get c=H.get c)->t' 0=t 0->t' 1= O fr->t' 7=slv bl n->t' 8=slv bb n->t' 28= O (n:Int)->t' 29= O ((i+1:Nat):Int)->k .normal ⟨t',[]⟩ H'=true):
  az 200 154 67 122 none ⟨t,[]⟩ H k=true:=by
 have hlt:((i:Int)<(n:Int))=True:=by simp;omega
 rw [Nr,t29,t28,cB]
 simp only [hlt,dL,dH]
 rw [Uu]
 have E8:∀x,(es t [(30,x)]) 8=slv bb n:=fun x=>by simp (disch:=omega) only [go_sem,t8]
 have E29:∀x,(es t [(30,x)]) 29= O (i:Int):=fun x=>by simp (disch:=omega) only [go_sem,t29]
 rw [E8,E29,idv hi,ex h.gb ag3 ce3 rfl rfl (by rw [jO];exact hi),pf _ _ hi,aED]
 generalize hH1:H.setb bb (some (ae 3 (kP n (iS fr (i+1)).b)))=H1
 have gl1:H1.get bl=some (ae 3 (kP n (iS fr i).d)):=by rw [←hH1,V,if_neg h.ne];exact h.gl
 have gb1:H1.get bb=some (ae 3 (kP n (iS fr (i+1)).b)):=by rw [←hH1,V,if_pos rfl]
 have hx1:H1.nx=H.nx:=by rw [←hH1];rfl
 have hf1:∀c,c≠bb->H1.get c=H.get c:=fun c hc=>by rw [←hH1,V,if_neg hc]
 rw [S6]
 by_cases h0:0<=fr
 ·by_cases hne:(i:Int)=fr
  ·have e2:decide ((i:Int)=fr)=true:=by simp [hne]
   simp (disch:=omega) only [go_sem,t1,h0,e2,BV,GX,t29]
   refine hk _ H1 ⟨by rw [gl1,Ml fr i (fun x=>x.2 hne)],gb1,h.ne,by rw [hx1];exact h.ll,by rw [hx1];exact h.lb⟩ hx1 (fun c c1 c2=>hf1 c c2) ?_ ?_ ?_ ?_ ?_ ?_
   ·simp (disch:=omega) only [go_sem]
   ·simp (disch:=omega) only [go_sem,t1]
   ·simp (disch:=omega) only [go_sem,t7]
   ·simp (disch:=omega) only [go_sem,t8]
   ·simp (disch:=omega) only [go_sem,t28]
   ·simp (disch:=omega) only [go_sem];rfl
  ·have e2:decide ((i:Int)=fr)=false:=by simp [hne]
   simp (disch:=omega) only [go_sem,t1,h0,e2,BV,t29,t7]
   rw [idv hi,ex gl1 ag3 ce3 rfl rfl (by rw [jO];exact hi)]
   rw [show (AV.int .i64 1125899906842624)= O far from rfl,pf _ _ hi,Vj fr i ⟨h0,hne⟩]
   simp (disch:=omega) only [go_sem,GX,t29]
   refine hk _ _ ⟨by rw [V,if_pos rfl],by rw [V,if_neg (Ne.symm h.ne)];exact gb1,h.ne,by rw [au,hx1];exact h.ll,by rw [au,hx1];exact h.lb⟩ (by rw [au];exact hx1) (fun c c1 c2=>by rw [V,if_neg c1];exact hf1 c c2) ?_ ?_ ?_ ?_ ?_ ?_
   ·simp (disch:=omega) only [go_sem]
   ·simp (disch:=omega) only [go_sem,t1]
   ·simp (disch:=omega) only [go_sem,t7]
   ·simp (disch:=omega) only [go_sem,t8]
   ·simp (disch:=omega) only [go_sem,t28]
   ·simp (disch:=omega) only [go_sem];rfl
 ·simp (disch:=omega) only [go_sem,t1,h0,BV,GX,t29]
  refine hk _ H1 ⟨by rw [gl1,Ml fr i (fun x=>h0 x.1)],gb1,h.ne,by rw [hx1];exact h.ll,by rw [hx1];exact h.lb⟩ hx1 (fun c c1 c2=>hf1 c c2) ?_ ?_ ?_ ?_ ?_ ?_
  ·simp (disch:=omega) only [go_sem]
  ·simp (disch:=omega) only [go_sem,t1]
  ·simp (disch:=omega) only [go_sem,t7]
  ·simp (disch:=omega) only [go_sem,t8]
  ·simp (disch:=omega) only [go_sem,t28]
  ·simp (disch:=omega) only [go_sem];rfl
def Af (n:Nat) (d:Nat->Int):List D:=(List.range n).map fun i=> aS (d i)
theorem sm {α:Type} (f:α->D):∀l:List α,aq (l.map f)=l.map fun x=>ofD (f x)
 | []=>rfl
 | x::l=>by show ofD (f x)::aq (l.map f)=_;rw [sm f l];rfl
theorem BS (n:Nat) (d:Nat->Int):aq (Af n d)=kP n d:=by unfold Af kP;rw [sm];rfl
def isl (n:Nat) (d:Nat->Int):D:= .sl 1 (Af n d) n
theorem FI {H:Hp} {b n:Nat} {d:Nat->Int} (h:H.get b=some (ae 3 (kP n d))):Rd H (slv b n) (isl n d) [b]:=by
 refine .sl b 0 n 1 (some n) _ _ _ (kP n d) (Af n d) [] h ?_ ?_
 ·rw [fi,dZ,dP _ _ (by rw [jO];exact bh _),cN (by rw [jO];exact bh _)]
 ·rw [←BS];exact Rds.fro _
def LH (ls:List BF.Lk) (s:LB) (n:Nat) (s':LB) (bad:Int):Prop:=
 ((∀k (hk:k<ls.length),¬isR (rdS ls s n) ls[k])/\bad= -1/\s'=rdS ls s n)∨(∃k,∃hk:k<ls.length,isR (rdS ls s n) ls[k]/\bad=(ls[k].v:Int)/\s'=⟨(rdS ls s n).d,BF.upd (rdS ls s n).b ls[k].v (k:Int)⟩)
theorem GM {H:Hp} {n bl bb:Nat} {s':LB} {bad:Int} {Q:D->Prop} (h:Lg H n bl bb s') (hQ:Q (.tup [isl n s'.d,isl n s'.b, aS bad])):mG Q (.ret (.tup [slv bl n,slv bb n, O bad])) H=true:=
 iy hQ (.tup _ _ _ (.cons _ _ _ _ _ _ (FI h.gl) (.cons _ _ _ _ _ _ (FI h.gb) (.cons _ _ _ _ _ _ (.fro (aS bad)) .nil))))
theorem U8 (fr:Int) (n m:Nat):Bd m 0 (iS fr n):=fun i _=>by
 have h0:far=1125899906842624:=rfl
 unfold iS
 dsimp only
 split<;>simp<;>omega
theorem FO {n:Nat} {s:LB} {ls:List BF.Lk} (h:Bd n 0 s) (hu:∀l∈ls,l.u<n/\l.v<n/\ -MM<=l.w/\l.w<=MM):∀r,Bd n (r * ls.length) (rdS ls s r)
 | 0=>by rw [kF];exact h
 | r+1=>by rw [fV];exact (FO h hu r).pst hu _ (bh _)
theorem Pw (b n:Nat) (H:Hp) (k:AV->Bool):ak 51 (slv b n) H k=k (O (n:Int)):=by
 unfold kJ slv
 rw [kQ];rfl
def L1 (n bl bb:Nat) (fr:Int) (cs:List D) (m:Nat) (e:En) (H:Hp):Prop:=∃i,m=n - i/\i<=n/\e.dm=[]/\Lg H n bl bb (iS fr i)/\e.t 0= .dat (.ptr cs 0)/\e.t 1= O fr/\e.t 7=slv bl n/\e.t 8=slv bb n/\e.t 28= O (n:Int)/\e.t 29= O (i:Int)
def L2 (n bl bb:Nat) (ls:List BF.Lk) (s:LB) (cs:List D) (m:Nat) (e:En) (H:Hp):Prop:=∃r,m=n - r/\r<=n/\e.dm=[]/\Lg H n bl bb (rdS ls s r)/\e.t 0= .dat (.ptr cs 0)/\e.t 7=slv bl n/\e.t 8=slv bb n/\e.t 50= O (n:Int)/\e.t 51= O (r:Int)
def L3 (n bl bb:Nat) (ls:List BF.Lk) (s:LB) (dl:D) (m:Nat) (e:En) (H:Hp):Prop:=∃q,m=ls.length - q/\q<=ls.length/\e.dm=[]/\Lg H n bl bb s/\(∀k (hk:k<ls.length),k<q->¬isR s ls[k])/\e.t 7=slv bl n/\e.t 8=slv bb n/\e.t 113=ofD dl/\e.t 114= O (ls.length:Int)/\e.t 115= O (q:Int)
theorem AB {α:Type} {sz n:Nat} {enc:α->List D} {xs:List α} {ls:List BF.Lk} {dn di dl:D} {fr:Int} (hdn:Sl sz enc xs dn) (hxs:xs.length=n) (hd:Sl 3 eLk ls dl) (hn:n<=1000) (hll:(n+1) * ls.length<=400) (hl1:ls.length<=400) (hu:∀l∈ls,l.u<n/\l.v<n/\ -MM<=l.w/\l.w<=MM):
  bc 67 [.ptr [dn,di,dl] 0, aS fr] (fun d=>∃s' bad,d= .tup [isl n s'.d,isl n s'.b, aS bad]/\LH ls (iS fr n) n s' bad):=by
 subst hxs
 generalize hnn:xs.length=n at *
 refine aH hG ?_
 rw [show aq [D.ptr [dn,di,dl] 0, aS fr]=[.dat (.ptr [dn,di,dl] 0), O fr] from rfl,h67]
 have hlen:∀(H:Hp) (k:AV->Bool),ak 127 (ofD dn) H k=k (O (n:Int)):=fun H k=>by rw [aF hdn CW,hnn]
 rw [kY,jZ,ldD (x:=ofD dn) tB rfl,hlen,mk3 hn]
 simp only [aI,dq]
 rw [kY,jZ,ldD (x:=ofD dn) tB rfl,hlen,mk3 hn]
 simp only [aI,dq]
 generalize hH1:(Hp.empty.push (Blk.cells (some 3) false (kP n fun _=>0))).push (Blk.cells (some 3) false (kP n fun _=>0))=H1
 have hL0:Lg H1 n 0 1 (iS fr 0):=by
  rw [JH,←hH1]
  exact⟨by simp (disch:=omega) only [go_sem,bZ,bD],by simp (disch:=omega) only [go_sem,bZ,bD],by omega,by show 0<0+1+1;omega,by show 1<0+1+1;omega⟩
 rw [show AV.sl Hp.empty.nx 0 n 1 (some n)=slv 0 n from rfl,show AV.sl (Hp.empty.push (Blk.cells (some 3) false (kP n fun _=>0))).nx 0 n 1 (some n)=slv 1 n from rfl,Pw]
 refine aZ (L1 n 0 1 fr [dn,di,dl]) (fun m e H2 hi=> ?_) (m:=n) ⟨0,rfl,bN _,rfl,hL0, ?_, ?_, ?_, ?_, ?_, ?_⟩
 rotate_left
 ·simp (disch:=omega) only [go_sem]
 ·simp (disch:=omega) only [go_sem]
 ·simp (disch:=omega) only [go_sem]
 ·simp (disch:=omega) only [go_sem]
 ·simp (disch:=omega) only [go_sem]
 ·simp (disch:=omega) only [go_sem];rfl
 obtain⟨i,rfl,hin,hdm,hL,t0,t1,t7,t8,t28,t29⟩:=hi
 obtain⟨t,dm⟩:=e
 dsimp only at hdm t0 t1 t7 t8 t28 t29
 subst hdm
 refine aV 200 ?_
 by_cases hi:i<n
 ·refine i67 hL hi hn t1 t7 t8 t28 t29 fun t' H' hL' hx' hf' a0 a1 a7 a8 a28 a29=> ?_
  simp (disch:=omega) only [go_sem]
  exact bd (m':=n - (i+1)) (by omega) ⟨i+1,rfl,by omega,rfl,hL',a0.trans t0,a1,a7,a8,a28,a29⟩
 have hie:i=n:=by omega
 subst hie
 rw [Nr,t29,t28,cB]
 have hlt:((i:Int)<(i:Int))=False:=by simp
 simp only [hlt,i9,eV,qN,pj,eU]
 rw [VH,show ∀x,(es t [(30,x)]) 0= .dat (.ptr [dn,di,dl] 0) from fun x=>by simp (disch:=omega) only [go_sem,t0],kY,jZ,ldD (x:=ofD dn) tB rfl,hlen]
 refine aZ (L2 i 0 1 ls (iS fr i) [dn,di,dl]) (fun m e H3 hi=> ?_) (m:=i) ⟨0,rfl,bN _,rfl,hL, ?_, ?_, ?_, ?_, ?_⟩
 rotate_left
 ·simp (disch:=omega) only [go_sem,t0]
 ·simp (disch:=omega) only [go_sem,t7]
 ·simp (disch:=omega) only [go_sem,t8]
 ·simp (disch:=omega) only [go_sem]
 ·simp (disch:=omega) only [go_sem];rfl
 obtain⟨r,rfl,hrn,hdm,hL3,u0,u7,u8,u50,u51⟩:=hi
 obtain⟨t2,dm⟩:=e
 dsimp only at hdm u0 u7 u8 u50 u51
 subst hdm
 have hBd:=FO (ls:=ls) (U8 fr i i) hu r
 have hrl:r * ls.length<=i * ls.length:=lu _ hrn
 have hsl:(i+1) * ls.length=i * ls.length+ls.length:=fV _ _
 refine aV 200 ?_
 by_cases hr:r<i
 ·refine Jp hL3 hd (by omega) hu hBd (by omega) hr hn u0 u7 u8 u50 u51 (fun hc t' H' hL' _ _ a4 a5 a6=> ?_) (fun hc t' H' hL' _ _ a0 a1 a7 a8 a50 a51=> ?_)
  ·obtain⟨hs1,hs2⟩:=xO (bh _) hc
   have hst:=wW (ls:=ls) (s:=iS fr i) (r:=r) (fun k hk=>hs2 k hk hk) (i - r)
   rw [show r+(i - r)=i by omega] at hst
   rw [hs1] at hL'
   simp (disch:=omega) only [go_sem]
   rw [r67,a4,a5,a6]
   exact GM hL' ⟨rdS ls (iS fr i) r, -1,rfl,.inl ⟨fun k hk=>by rw [hst];exact hs2 k hk hk,rfl,hst.symm⟩⟩
  ·simp (disch:=omega) only [go_sem]
   exact bd (m':=i - (r+1)) (by omega) ⟨r+1,rfl,by omega,rfl,hL',a0.trans u0,a7,a8,a50,a51⟩
 have hre:r=i:=by omega
 subst hre
 rw [M1,u51,u50,cB]
 simp only [hlt,i9,eV,qN,pj,eU]
 rw [VB,show ∀x,(es t2 [(52,x)]) 0= .dat (.ptr [dn,di,dl] 0) from fun x=>by simp (disch:=omega) only [go_sem,u0],kY,jZ,ldD (x:=ofD dl) lR rfl,aF hd xc]
 refine aZ (L3 r 0 1 ls (rdS ls (iS fr r) r) dl) (fun m e H4 hi=> ?_) (m:=ls.length) ⟨0,rfl,bN _,rfl,hL3,fun k hk h=>by omega, ?_, ?_, ?_, ?_, ?_⟩
 rotate_left
 ·simp (disch:=omega) only [go_sem,u7]
 ·simp (disch:=omega) only [go_sem,u8]
 ·simp (disch:=omega) only [go_sem]
 ·simp (disch:=omega) only [go_sem]
 ·simp (disch:=omega) only [go_sem];rfl
 obtain⟨q,rfl,hql,hdm,hL4,hno,w7,w8,w113,w114,w115⟩:=hi
 obtain⟨t3,dm⟩:=e
 dsimp only at hdm w7 w8 w113 w114 w115
 subst hdm
 refine aV 200 ?_
 by_cases hq:q<ls.length
 ·refine f67 hL4 hd hq (by omega) hu hBd (by omega) w7 w8 w113 w114 w115 (fun hR t' H' hL' _ _ a4 a5 a6=> ?_) (fun hR t' H' hL' _ _ a7 a8 a113 a114 a115=> ?_)
  ·simp (disch:=omega) only [go_sem]
   rw [r67,a4,a5,a6]
   exact GM hL' ⟨_,_,rfl,.inr ⟨q,hq,hR,rfl,rfl⟩⟩
  ·simp (disch:=omega) only [go_sem]
   refine bd (m':=ls.length - (q+1)) (by omega) ⟨q+1,rfl,by omega,rfl,hL',fun k hk hkq=> ?_,a7,a8,a113,a114,a115⟩
   by_cases hkk:k=q
   ·subst hkk;exact hR
   ·exact hno k hk (by omega)
 ·rw [Nc,w115,w114,cB]
  have hlt2:((q:Int)<(ls.length:Int))=False:=by simp;omega
  simp (disch:=omega) only [go_sem,hlt2,Rm,w7,w8]
  simp (disch:=omega) only [go_sem,r67,w7,w8]
  exact GM hL4 ⟨rdS ls (iS fr r) r, -1,rfl,.inl ⟨fun k hk=>hno k hk (by omega),rfl,rfl⟩⟩
def byI:Option Nat->Int
 | none=> -1
 | some k=>k
def Cor (n:Nat) (s:LB) (b:BF.St):Prop:=∀i,i<n->s.d i=b.d i/\s.d i<=0/\s.b i=byI (b.by_ i)
theorem Cor.isR {n:Nat} {s:LB} {b:BF.St} {l:BF.Lk} (h:Cor n s b) (hu:l.u<n) (hv:l.v<n):isR s l↔b.d l.u+l.w<b.d l.v:=by
 obtain⟨h1,h2,_⟩:=h _ hu
 obtain⟨h3,_,_⟩:=h _ hv
 have h0:far=1125899906842624:=rfl
 unfold S5.isR
 rw [h1,h3]
 rw [h1] at h2
 constructor
 ·exact fun h=>h.2
 ·exact fun h=>⟨by omega,h⟩
theorem Cor.rlx {n k:Nat} {s:LB} {b:BF.St} {l:BF.Lk} (h:Cor n s b) (hu:l.u<n) (hv:l.v<n):Cor n (rlx s k l) (BF.relax b k l):=by
 have hi:=h.isR hu hv
 obtain⟨h1,h2,_⟩:=h _ hu
 obtain⟨h3,h4,_⟩:=h _ hv
 unfold BF.relax
 by_cases hr:S5.isR s l
 ·rw [yK hr,if_pos (hi.1 hr)]
  have hlt:=hi.1 hr
  intro i hin
  show BF.upd s.d l.v (s.d l.u+l.w) i=BF.upd b.d l.v (b.d l.u+l.w) i/\BF.upd s.d l.v (s.d l.u+l.w) i<=0/\BF.upd s.b l.v (k:Int) i=byI (BF.upd b.by_ l.v (some k) i)
  unfold BF.upd
  obtain⟨g1,g2,g3⟩:=h i hin
  split
  ·refine⟨by rw [h1],by omega,rfl⟩
  ·exact⟨g1,g2,g3⟩
 ·rw [vg hr,if_neg fun h=>hr (hi.2 h)];exact h
theorem An:∀(a:List BF.Lk) (l:BF.Lk) (s:BF.St) (k:Nat),BF.pass s k (a++[l])=BF.relax (BF.pass s k a) (k+a.length) l
 | [],l,s,k=>rfl
 | x::a,l,s,k=>by
  show BF.pass (BF.relax s k x) (k+1) (a++[l])=BF.relax (BF.pass (BF.relax s k x) (k+1) a) (k+(x::a).length) l
  rw [An a l,dR,show k+1+a.length=k+(a.length+1) by omega]
theorem vQ {n:Nat} {s:LB} {b:BF.St} {ls:List BF.Lk} (h:Cor n s b) (hu:∀l∈ls,l.u<n/\l.v<n):∀q,q<=ls.length->Cor n (pst ls s q).1 (BF.pass b 0 (ls.take q))
 | 0,_=>h
 | q+1,hq=>by
  have ih:=vQ h hu q (by omega)
  obtain⟨a,c⟩:=hu ls[q] (cO _)
  rw [nw (by omega),jd (by omega),An,gW,lI (by omega),ca]
  exact ih.rlx a c
theorem uM {n:Nat} {ls:List BF.Lk} (hu:∀l∈ls,l.u<n/\l.v<n):∀r,Cor n (rdS ls (iS (-1) n) r) (BF.rounds ls r)
 | 0=>fun i hi=>by
  show (iS (-1) n).d i=0/\(iS (-1) n).d i<=0/\(iS (-1) n).b i= -1
  unfold iS
  simp [hi]
 | r+1=>by
  have:=vQ (uM hu r) hu ls.length (bh _)
  rw [lE] at this
  exact this
def iL (ls:List BF.Lk) (n:Nat):Prop:=∃k,∃hk:k<ls.length,isR (rdS ls (iS (-1) n) n) ls[k]
theorem LH.bad {ls:List BF.Lk} {n:Nat} {s':LB} {bad:Int} (h:LH ls (iS (-1) n) n s' bad):bad<0↔¬iL ls n:=by
 rcases h with⟨h1,h2,_⟩| ⟨k,hk,h1,h2,_⟩
 ·constructor
  ·rintro _ ⟨k,hk,h⟩;exact h1 k hk h
  ·intro _;omega
 ·constructor
  ·intro h;omega
  ·intro h;exact absurd ⟨k,hk,h1⟩ h
open Classical in
structure Sys (n:Nat) (ls:List BF.Lk) (dn di dl:D):Prop where
 nd:∃(α:Type) (sz:Nat) (enc:α->List D) (xs:List α),Sl sz enc xs dn/\xs.length=n
 lk:Sl 3 eLk ls dl
 n1:n<=1000
 n2:(n+1) * ls.length<=400
 n3:ls.length<=400
 ok:∀l∈ls,l.u<n/\l.v<n/\ -MM<=l.w/\l.w<=MM
 ne:∀l∈ls,l.u≠l.v
theorem Sys.lengths {n:Nat} {ls:List BF.Lk} {dn di dl:D} (h:Sys n ls dn di dl) (fr:Int):bc 67 [.ptr [dn,di,dl] 0, aS fr] (fun d=>∃s' bad,d= .tup [isl n s'.d,isl n s'.b, aS bad]/\LH ls (iS fr n) n s' bad):=by
 obtain⟨α,sz,enc,xs,h1,h2⟩:=h.nd
 exact AB h1 h2 h.lk h.n1 h.n2 h.n3 h.ok
open Classical in
theorem uu {n:Nat} {ls:List BF.Lk} {dn di dl:D} (h:Sys n ls dn di dl):bc 237 [.ptr [dn,di,dl] 0] (·= .bool (decide (¬iL ls n))):=by
 refine aH hG ?_
 rw [show aq [D.ptr [dn,di,dl] 0]=[.dat (.ptr [dn,di,dl] 0)] from rfl,aFJ]
 refine ei hG _ (h.lengths (-1)) rfl ?_
 rintro d ⟨s',bad,rfl,hr⟩
 simp (disch:=omega) only [go_sem,aq]
 refine ax (.bool _) ?_
 have:=hr.bad
 by_cases hb:bad<0
 ·rw [fM hb,fM (this.1 hb)]
 ·rw [fK hb,fK (fun h=>hb (this.2 h))]
def eI1 (x:Int):List D:=[aS x]
theorem CN (x:Int):(eI1 x).length=1:=rfl
theorem rP:∀xs:List Int,cC eI1 xs=xs.map fun x=>D.int .i64 x
 | []=>rfl
 | x::xs=>by show D.int .i64 x::cC eI1 xs=_;rw [rP xs];rfl
theorem Rz (n:Nat) (d:Nat->Int):Sl 1 eI1 ((List.range n).map d) (isl n d):=by
 refine .inr ?_
 unfold isl Af
 rw [rP,List.map_map,lJ,List.length_range]
 rfl
theorem Gu {n u u':Nat} {ls:List BF.Lk} {dl:D} {bi:Nat->Int} {b':Nat->Option Nat} (hd:Sl 3 eLk ls dl) (hb:∀i,i<n->bi i=byI (b' i)) (hu:u<n) (hs:BF.stp ls b' u=some u'):
  ∃(p q q2:AV) (j:Nat),(∀k:AV->Bool,ah 51 (ofD (isl n bi)) (O (u:Int)) k=k p)/\(∀(H:Hp) (k:AV->Bool),E H 3 p k=k (O (j:Int)))/\(∀k:AV->Bool,ah 129 (ofD dl) (O (j:Int)) k=k q)/\
   (∀k:AV->Bool,U q 0 k=k q2)/\(∀(H:Hp) (k:AV->Bool),E H 3 q2 k=k (O (u':Int))):=by
 unfold BF.stp at hs
 cases hbu:b' u with
 | none=>rw [hbu] at hs;cases hs
 | some j=>
  rw [hbu,uA,lw] at hs
  obtain⟨m,hm,rfl⟩:=hs
  obtain⟨hj,hmj⟩:=jb.1 hm
  have hlen:((List.range n).map bi).length=n:=by simp
  have hbu2:bi u=(j:Int):=by rw [hb u hu,hbu];rfl
  refine⟨_,_,_,j,fun k=>bC (Rz n bi) kQ in3 ce3 (by rw [hlen];exact hu),fun H k=> ?_,fun k=>bC hd xc GD rB hj,fun k=>jZ _ _ _,fun H k=> ?_⟩
  ·refine ldD ag3 ?_
   rw [bG CN (by rw [hlen];exact hu) (by decide)]
   simp [eI1,aq,ofD,hbu2]
  ·refine ldD ag3 ?_
   rw [ko,bG yy hj (by decide),hmj]
   rfl
def zo (L:List AV):Prop:=∀x∈L,∃y,x= O y
theorem zo.set {L:List AV} (h:zo L) (i:Nat) (y:Int):zo (L.set i (O y)):=fun x hx=>by
 rcases List.mem_or_eq_of_mem_set hx with hx | rfl
 ·exact h x hx
 ·exact⟨y,rfl⟩
theorem n68 (t:E2) (H:Hp) (k:fk->Hp->Bool) (i:Evs):ac Tryz.f68 i k .normal ⟨t,[]⟩ H=k (.ret (.tup [])) H:=by kernel_rfl
def I68 (b n:Nat) (v:AV) (el:Option TypeId) (m:Nat) (e:En) (H:Hp):Prop:=∃(L:List AV) (i:Nat) (j:Int),m=(j+1).toNat/\ -1<=j/\j<n/\i<=n/\e.dm=[]/\H.get b=some (.cells el false L)/\zo L/\L.length=n/\e.t 0=v/\e.t 2= O (i:Int)/\e.t 3= O j
theorem EU {H:Hp} {b n:Nat} {el:Option TypeId} {c:Option Nat} {L:List AV} {K:AV->Hp->Bool} (hb:H.get b=some (.cells el false L)) (hL:zo L) (hn:L.length=n) (h1:n<=1000)
  (hK:∀L' H',H'.get b=some (.cells el false L')->zo L'->L'.length=n->K (.tup []) H'=true):ay 68 [.sl b 0 n 1 c] H K=true:=by
 have hlen:∀(H:Hp) (k:AV->Bool),ak 51 (.sl b 0 n 1 c) H k=k (O (n:Int)):=fun H k=>by unfold kJ;rw [kQ];rfl
 refine cb 200 ?_
 rw [h68,hlen,jH _ _ _ _ (by omega)]
 refine aZ (I68 b n (.sl b 0 n 1 c) el) (fun m e H1 hi=> ?_) (m:=n) ⟨L,0,(n:Int) - 1,by omega,by omega,by omega,bN _,rfl,hb,hL,hn, ?_, ?_, ?_⟩
 rotate_left
 ·simp (disch:=omega) only [go_sem]
 ·simp (disch:=omega) only [go_sem];rfl
 ·simp (disch:=omega) only [go_sem]
 obtain⟨L1,i,j,rfl,hj1,hj2,hin,hdm,hb1,hL1,hn1,t0,t2,t3⟩:=hi
 obtain⟨t,dm⟩:=e
 dsimp only at hdm t0 t2 t3
 subst hdm
 refine aV 200 ?_
 rw [Wq,t2,t3,t0,cB]
 by_cases hij:(i:Int)<j
 ·obtain⟨j,rfl⟩:∃j':Nat,j=(j':Int):=⟨j.toNat,by omega⟩
  have hjn:j<n:=by omega
  have hin2:i<n:=by omega
  obtain⟨y,hy⟩:=hL1 L1[j] (cO (by omega))
  obtain⟨x,hx⟩:=hL1 L1[i] (cO (by omega))
  have gj:L1[j]? =some (O y):=by rw [dW (by omega),hy]
  have gi:L1[i]? =some (O x):=by rw [dW (by omega),hx]
  have idx:∀(q:Nat) (k:AV->Bool),q<n->ah 51 (.sl b 0 n 1 c) (O (q:Int)) k=k (.ptr b q):=fun q k hq=>by rw [gX kQ in3 ce3 hq,ca,dZ]
  rw [fM hij,dH,idx _ _ hjn,cf hb1 ag3 gj,idx _ _ hin2,cf hb1 ag3 gi,idx _ _ hin2,bq,ex hb1 ag3 ce3 rfl rfl (by omega)]
  simp only [bI (show Nat.testBit 8179 11=true from rfl),bI (show Nat.testBit 8179 7=true from rfl),bP]
  rw [idx _ _ hjn,bq,ex (cs:=L1.set i (O y)) (by rw [V,if_pos rfl]) ag3 ce3 rfl rfl (by rw [kw];omega)]
  simp only [bI (show Nat.testBit 32767 11=true from rfl),bI (show Nat.testBit 32767 7=true from rfl),bP,cQ]
  simp (disch:=omega) only [go_sem]
  refine bd (m':=((j:Int) - 1+1).toNat) (by omega) ⟨(L1.set i (O y)).set j (O x),i+1,(j:Int) - 1,rfl,by omega,by omega,by omega,rfl,by rw [V,if_pos rfl],(hL1.set i y).set j x,by rw [kw,kw];exact hn1, ?_, ?_, ?_⟩
  ·simp (disch:=omega) only [go_sem,t0]
  ·simp (disch:=omega) only [go_sem];rfl
  ·simp (disch:=omega) only [go_sem]
 ·rw [fK hij,eV]
  simp (disch:=omega) only [go_sem,n68]
  exact hK L1 H1 hb1 hL1 hn1
section
variable {n : Nat} {ls : List BF.Lk} {dn di dl : D} {bi : Nat -> Int} {b' : Nat -> Option Nat}
theorem a21 {H:Hp} {u u' i:Nat} {t:E2} {k:AEx->En->Hp->Bool} (hd:Sl 3 eLk ls dl) (hb:∀i,i<n->bi i=byI (b' i)) (hu:u<n) (hs:BF.stp ls b' u=some u') (hi:i<n) (hn:n<=1000)
  (t6:t 6= .dat (.ptr [dn,di,dl] 0)) (t8:t 8=ofD (isl n bi)) (t9:t 9= O (u:Int)) (t31:t 31= O (n:Int)) (t32:t 32= O (i:Int))
  (hk:∀t',t' 6= .dat (.ptr [dn,di,dl] 0)->t' 8=ofD (isl n bi)->t' 9= O (u':Int)->t' 31= O (n:Int)->t' 32= O ((i+1:Nat):Int)->k .normal ⟨t',[]⟩ H=true):
  az 200 71 21 890 none ⟨t,[]⟩ H k=true:=by
 obtain⟨p,q,q2,j,h1,h2,h3,h4,h5⟩:=Gu hd hb hu hs
 have hlt:((i:Int)<(n:Int))=True:=by simp;omega
 rw [NX,t32,t31,t6,t8,t9,cB]
 simp only [hlt,dL,dH]
 rw [kY,jZ,ldD (x:=ofD dl) lR rfl,h1,h2,h3,h4,h5]
 simp (disch:=omega) only [go_sem]
 refine hk _ ?_ ?_ ?_ ?_ ?_
 ·simp (disch:=omega) only [go_sem,t6]
 ·simp (disch:=omega) only [go_sem,t8]
 ·simp (disch:=omega) only [go_sem]
 ·simp (disch:=omega) only [go_sem,t31]
 ·simp (disch:=omega) only [go_sem];rfl
theorem c21 {H:Hp} {u u' c lo:Nat} {v:AV} {xs:List Int} {t:E2} {k:AEx->En->Hp->Bool} (hd:Sl 3 eLk ls dl) (hb:∀i,i<n->bi i=byI (b' i)) (hu:u<n) (hs:BF.stp ls b' u=some u') (hv:Own 1 eI1 3 lo H v xs) (hlo:lo<=H.nx) (hxl:xs.length<=1000)
  (t6:t 6= .dat (.ptr [dn,di,dl] 0)) (t8:t 8=ofD (isl n bi)) (t9:t 9= O (c:Int)) (t10:t 10=v) (t11:t 11= O (u:Int))
  (hex:u'=c->∀t' H' v' ys,Own 1 eI1 3 lo H' v' ys->lo<=H'.nx->ys.length=xs.length+1->t' 10=v'->k (.exit 2) ⟨t',[]⟩ H'=true)
  (hgo:u'≠c->∀t' H' v' ys,Own 1 eI1 3 lo H' v' ys->lo<=H'.nx->ys.length=xs.length+1->t' 6= .dat (.ptr [dn,di,dl] 0)->t' 8=ofD (isl n bi)->t' 9= O (c:Int)->t' 10=v'->t' 11= O (u':Int)->k .normal ⟨t',[]⟩ H'=true):
  az 200 71 21 7164 none ⟨t,[]⟩ H k=true:=by
 obtain⟨p,q,q2,j,h1,h2,h3,h4,h5⟩:=Gu hd hb hu hs
 rw [We,t6,t8,t9,t10,t11,h1,h2,rQ]
 simp only [aI,dq]
 refine pN (x:=(j:Int)) CN (fun _=>rfl) fZ (lo:=lo) (xs:=xs) (hv.frame (by rw [am];omega) fun c hc hc2=>by rw [af,if_neg (by omega)]) (by rw [am];omega) (el1:=some 3) (ro1:=false) (by rw [af,if_pos rfl];rfl) (by omega) ?_
 intro v' H' hown hn1 hn2 hf hf2
 rw [am] at hn1 hn2
 rw [kY,jZ,ldD (x:=ofD dl) lR rfl,h1,h2,h3,h4,h5,ij]
 by_cases huc:u'=c
 ·rw [show decide ((u':Int)=(c:Int))=true from by simp [huc],dH]
  refine hex huc _ H' v' _ hown (by omega) (by simp) ?_
  simp (disch:=omega) only [go_sem]
 ·rw [show decide ((u':Int)=(c:Int))=false from by rw [cU];omega,eV]
  refine hgo huc _ H' v' _ hown (by omega) (by simp) ?_ ?_ ?_ ?_ ?_
  ·simp (disch:=omega) only [go_sem,t6]
  ·simp (disch:=omega) only [go_sem,t8]
  ·simp (disch:=omega) only [go_sem,t9]
  ·simp (disch:=omega) only [go_sem]
  ·simp (disch:=omega) only [go_sem]
end
theorem FU {ls:List BF.Lk} {b:Nat->Option Nat} {n v:Nat} (hu:∀l∈ls,l.u<n) (hv:v<n):∀t u,BF.it ls b v t=some u->u<n
 | 0,u,h=>by cases h;exact hv
 | t+1,u,h=>by
  change (BF.it ls b v t).bind (BF.stp ls b)=some u at h
  rw [uC] at h
  obtain⟨x,_,h⟩:=h
  unfold BF.stp at h
  rw [uC] at h
  obtain⟨j,_,h⟩:=h
  rw [lw] at h
  obtain⟨m,hm,rfl⟩:=h
  exact hu m (ku hm)
theorem Ia {ls:List BF.Lk} {b:Nat->Option Nat} {v:Nat}:∀{m s u:Nat},BF.it ls b v (s+m)=some u->∃x,BF.it ls b v s=some x
 | 0,s,u,h=>⟨u,h⟩
 | m+1,s,u,h=>by
  change (BF.it ls b v (s+m)).bind (BF.stp ls b)=some u at h
  rw [uC] at h
  obtain⟨x,h,_⟩:=h
  exact Ia h
theorem I0 {ls:List BF.Lk} {b:Nat->Option Nat} {v t u u':Nat} (h:BF.it ls b v t=some u) (h':BF.it ls b v (t+1)=some u'):BF.stp ls b u=some u':=by
 change (BF.it ls b v t).bind (BF.stp ls b)=some u' at h'
 rw [h,uA] at h';exact h'
def Q21 (d:D):Prop:=∃x,d= .tup [x,.bool true, aS 0]
def J21 (n v:Nat) (ls:List BF.Lk) (dn di dl:D) (bi:Nat->Int) (b':Nat->Option Nat) (m:Nat) (e:En) (H:Hp):Prop:=∃i u,m=n - i/\i<=n/\e.dm=[]/\BF.it ls b' v i=some u/\e.t 6= .dat (.ptr [dn,di,dl] 0)/\e.t 8=ofD (isl n bi)/\e.t 9= O (u:Int)/\e.t 31= O (n:Int)/\e.t 32= O (i:Int)
def K21 (n c p lo:Nat) (ls:List BF.Lk) (dn di dl:D) (bi:Nat->Int) (b':Nat->Option Nat) (m:Nat) (e:En) (H:Hp):Prop:=∃s u v xs,m=p - s/\s<p/\e.dm=[]/\BF.it ls b' c s=some u/\Own 1 eI1 3 lo H v xs/\lo<=H.nx/\xs.length=s/\e.t 6= .dat (.ptr [dn,di,dl] 0)/\e.t 8=ofD (isl n bi)/\e.t 9= O (c:Int)/\e.t 10=v/\e.t 11= O (u:Int)
theorem Ek:∀xs:List Int,zo (aq (cC eI1 xs)):=fun xs=>by
 rw [rP,sm]
 intro x hx
 rw [lF] at hx
 obtain⟨y,_,rfl⟩:=hx
 exact⟨y,rfl⟩
theorem DI:∀{L:List AV},zo L->∃ds,aq ds=L
 | [],_=>⟨[],rfl⟩
 | x::L,h=>by
  obtain⟨y,hy⟩:=h x cE
  obtain⟨ds,hds⟩:=DI (L:=L) fun z hz=>h z (co _ hz)
  exact⟨aS y::ds,by show ofD (aS y)::aq ds=_;rw [hds,hy];rfl⟩
theorem Pf {n v c p:Nat} {ls:List BF.Lk} {dn di dl:D} {bi:Nat->Int} {b':Nat->Option Nat} {H:Hp} {e:En} (hd:Sl 3 eLk ls dl) (hn:n<=1000) (hu:∀l∈ls,l.u<n) (hv:v<n) (hb:∀i,i<n->bi i=byI (b' i))
  (hit:∀t,t<=n->∃u,BF.it ls b' v t=some u) (hc:BF.it ls b' v n=some c) (hp1:1<=p) (hp2:p<=n) (hcp:BF.it ls b' c p=some c)
  (he:e.dm=[]) (t6:e.t 6= .dat (.ptr [dn,di,dl] 0)) (t8:e.t 8=ofD (isl n bi)) (t9:e.t 9= O (v:Int)) (t31:e.t 31= O (n:Int)) (t32:e.t 32= O (0:Nat)):
  (kS 71 (.loop (fH 21 890)) none e H fun x e38 H38=>bz 0 x (fun _=>(fun (x:AEx) (e:En) (H:Hp)=>aY x (fun _=>az 193 71 21 223 none e H fun x e H=>ac Tryz.f21 ⟨gK 200,ff P G⟩ (mG Q21) x e H) (fun x=>ac Tryz.f21 ⟨gK 200,ff P G⟩ (mG Q21) x e H)) .normal e38 H38) (fun x=>(fun (x:AEx) (e:En) (H:Hp)=>aY x (fun _=>az 193 71 21 223 none e H fun x e H=>ac Tryz.f21 ⟨gK 200,ff P G⟩ (mG Q21) x e H) (fun x=>ac Tryz.f21 ⟨gK 200,ff P G⟩ (mG Q21) x e H)) x e38 H38))=true:=by
 have hcn:=FU hu hv n c hc
 refine aZ (J21 n v ls dn di dl bi b') (fun m e H1 hi=> ?_) (m:=n) ⟨0,v,rfl,bN _,he,rfl,t6,t8,t9,t31,t32⟩
 obtain⟨i,u,rfl,hin,hdm,hi,a6,a8,a9,a31,a32⟩:=hi
 obtain⟨t,dm⟩:=e
 dsimp only at hdm a6 a8 a9 a31 a32
 subst hdm
 refine aV 200 ?_
 by_cases hlt:i<n
 ·obtain⟨u',hu'⟩:=hit (i+1) (by omega)
  refine a21 hd hb (FU hu hv i u hi) (I0 hi hu') hlt hn a6 a8 a9 a31 a32 fun t' b6 b8 b9 b31 b32=> ?_
  simp (disch:=omega) only [go_sem]
  exact bd (m':=n - (i+1)) (by omega) ⟨i+1,u',rfl,by omega,rfl,hu',b6,b8,b9,b31,b32⟩
 have hie:i=n:=by omega
 subst hie
 rw [hc] at hi
 cases hi
 rw [NX,a32,a31,cB]
 have hlf:((i:Int)<(i:Int))=False:=by simp
 simp (disch:=omega) only [go_sem,hlf,Wt]
 refine aZ (K21 i c p H1.nx ls dn di dl bi b') (fun m e H2 hi=> ?_) (m:=p) ⟨0,c,.nils,[],rfl,by omega,rfl,rfl,.inl ⟨rfl,rfl⟩,bh _,rfl, ?_, ?_, ?_, ?_, ?_⟩
 rotate_left
 ·simp (disch:=omega) only [go_sem,a6]
 ·simp (disch:=omega) only [go_sem,a8]
 ·simp (disch:=omega) only [go_sem,a9]
 ·simp (disch:=omega) only [go_sem]
 ·simp (disch:=omega) only [go_sem,a9]
 obtain⟨s,u,w,xs,rfl,hsp,hdm,hi2,hown,hlo,hxl,b6,b8,b9,b10,b11⟩:=hi
 obtain⟨t2,dm⟩:=e
 dsimp only at hdm b6 b8 b9 b10 b11
 subst hdm
 obtain⟨u',hu'⟩:=Ia (s:=s+1) (m:=p - (s+1)) (u:=c) (ls:=ls) (b:=b') (v:=c) (by rw [show s+1+(p - (s+1))=p by omega];exact hcp)
 refine aV 200 ?_
 refine c21 hd hb (FU hu hcn s u hi2) (I0 hi2 hu') hown hlo (by omega) b6 b8 b9 b10 b11 (fun he t' H' v' ys ho hl hyl c10=> ?_) (fun hne t' H' v' ys ho hl hyl c6 c8 c9 c10 c11=> ?_)
 ·simp (disch:=omega) only [go_sem,XG,c10]
  rcases ho with⟨rfl,rfl⟩| ⟨b,cp,rfl,_,_,_,hbg⟩
  ·simp at hyl
  ·refine EU hbg (Ek ys) (by rw [rP,sm,lJ]) (by omega) fun L' H3 hb3 hL3 hn3=> ?_
   simp (disch:=omega) only [go_sem]
   rw [r21]
   simp (disch:=omega) only [go_sem,c10]
   obtain⟨ds,hds⟩:=DI hL3
   refine iy ⟨.sl 1 ds ys.length,rfl⟩ (.tup _ _ _ (.cons _ _ [b] _ _ _ (.sl b 0 ys.length 1 cp _ _ _ L' ds [] hb3 ?_ ?_) (.cons _ _ _ _ _ _ (.fro (.bool true)) (.cons _ _ _ _ _ _ (.fro (aS 0)) .nil))))
   ·rw [fi,dZ,dP _ _ (by omega),cN (by omega)]
   ·rw [←hds];exact Rds.fro _
 ·have hsp2:s+1<p:=by
   by_cases hh:s+1=p
   ·rw [hh,hcp] at hu';cases hu';exact absurd rfl hne
   ·omega
  simp (disch:=omega) only [go_sem]
  exact bd (m':=p - (s+1)) (by omega) ⟨s+1,u',v',ys,rfl,hsp2,rfl,hu',ho,hl,by omega,c6,c8,c9,c10,c11⟩
theorem iR {H:Hp} {b:Nat} {t:TypeId} {el:Option TypeId} {ro:Bool} {cs:List AV} {k:AV->Bool} (ht:aN t=some true) (hl:cs.length=P.cellsOf t) (hb:H.get b=some (.cells el ro cs)):E H t (.ptr b 0) k=k (.agg cs):=by
 rw [iE,hb,fy,ht,jc,fi,dP _ _ (by omega),cN (by omega),fX]
open Classical in
theorem EL {n:Nat} {ls:List BF.Lk} {cs:List D} (hcs:cs.length=P.cellsOf 74) (hck:bc 32 [.agg cs] (·= .int .i64 0)) (hbd:bc 66 [.agg cs,.nils] (fun d=>∃dn di dl,d= .ptr [dn,di,dl] 0/\Sys n ls dn di dl)):
  bc 21 [.agg cs] (fun d=>∃x,d= .tup [x,.bool (decide (iL ls n)), aS 0]):=by
 refine aH hG ?_
 have hl:(aq cs).length=P.cellsOf 74:=by rw [cL];exact hcs
 rw [show aq [D.agg cs]=[.agg (aq cs)] from rfl,h21]
 simp only [aI,bJ]
 rw [iR se hl (by rw [af,if_pos rfl])]
 refine bB hG _ hck rfl ?_
 have hne0:decide ((0:Int)=0)=true:=by simp
 rw [show ofD (D.int .i64 0)= O 0 from rfl,mT,hne0,show (!true)=false from rfl,eV]
 rw [iR se hl (by rw [af,if_pos rfl])]
 refine ei hG _ hbd rfl ?_
 rintro d ⟨dn,di,dl,rfl,hS⟩
 refine ei hG _ (hS.lengths (-1)) rfl ?_
 rintro d ⟨s',bad,rfl,hr⟩
 have hbad:=hr.bad
 by_cases hb:bad<0
 ·simp (disch:=omega) only [go_sem,aq,hb,r21]
  refine ax (.tup [.nils,.bool false, aS 0]) ⟨.nils, ?_⟩
  rw [fK (hbad.1 hb)]
 ·have hv:iL ls n:=by
   apply Classical.byContradiction
   intro h;exact hb (hbad.2 h)
  have hq:(fun d=>∃x,d=D.tup [x,.bool (decide (iL ls n)), aS 0])=Q21:=by
   funext d;unfold Q21;rw [fM hv]
  rw [hq]
  rcases hr with⟨h1,_,_⟩| ⟨k,hk,hR,rfl,rfl⟩
  ·obtain⟨k,hk,hR⟩:=hv;exact absurd hR (h1 k hk)
  have hcor:=uM (n:=n) (ls:=ls) (fun l hl=>⟨(hS.ok l hl).1,(hS.ok l hl).2.1⟩) n
  obtain⟨hu1,hv1,_⟩:=hS.ok ls[k] (cO hk)
  have hlt:=(hcor.isR hu1 hv1).1 hR
  have hn':∀l∈ls,l.u≠l.v∨0<=l.w:=fun l hl=>.inl (hS.ne l hl)
  have hl':ls[k]? =some ls[k]:=dW hk
  obtain⟨c,p,hc,hp1,hp2,hcp⟩:=BF.on_cycle hn' hl' hlt (fun m hm=>(hS.ok m hm).1) hv1
  obtain⟨α,sz,enc,xs,hxd,hxl⟩:=hS.nd
  simp (disch:=omega) only [go_sem,aq,hb]
  rw [show ofD (D.ptr [dn,di,dl] 0)= .dat (.ptr [dn,di,dl] 0) from rfl,kY,jZ,ldD (x:=ofD dn) tB rfl,aF hxd CW,hxl]
  refine Pf (dn:=dn) (di:=di) (bi:=BF.upd (rdS ls (iS (-1) n) n).b ls[k].v (k:Int)) (b':=BF.upd (BF.rounds ls n).by_ ls[k].v (some k)) (v:=ls[k].v) (c:=c) (p:=p) hS.lk hS.n1 (fun m hm=>(hS.ok m hm).1) hv1 (fun i hi=> ?_) (fun t ht=>BF.it_some hn' hl' hlt (by omega)) hc hp1 hp2 hcp rfl ?_ ?_ ?_ ?_ ?_
  ·unfold BF.upd
   split
   ·rfl
   ·exact (hcor i hi).2.2
  ·simp (disch:=omega) only [go_sem]
  ·simp (disch:=omega) only [go_sem]
  ·simp (disch:=omega) only [go_sem]
  ·simp (disch:=omega) only [go_sem]
  ·simp (disch:=omega) only [go_sem];rfl
theorem tb (H:Hp) (k:AV->Bool):ak 64 .nils H k=k (O 0):=aF (xs:=([]:List Str)) (enc:=fE) (sz:=1) (d:= .nils) (.inl ⟨rfl,rfl⟩) aDG
theorem wl (cs:List D):bc 112 [.agg cs,.nils] (·= .nils):=by
 refine aH hG ?_
 rw [show aq [D.agg cs,.nils]=[.agg (aq cs),.nils] from rfl,Zm]
 simp only [aI,bJ]
 rw [tb]
 refine lV 1 (er ?_)
 rw [Rk]
 have hlt0:((0:Int)<0)=False:=by simp
 simp (disch:=omega) only [go_sem,hlt0,To,aFD]
 exact ax .nils rfl
def Qs (n:Nat) (ls:List BF.Lk) (d:D):Prop:=(iL ls n/\d= .tup [.nilp, aS 9])∨(¬iL ls n/\∃dn di dl,d= .tup [.ptr [dn,di,dl] 0, aS 0]/\Sys n ls dn di dl)
open Classical in
theorem AZ {n:Nat} {ls:List BF.Lk} {cs:List D} (hcs:cs.length=P.cellsOf 74) (hck:bc 32 [.agg cs] (·= .int .i64 0)) (hbd:bc 66 [.agg cs,.nils] (fun d=>∃dn di dl,d= .ptr [dn,di,dl] 0/\Sys n ls dn di dl)):
  bc 186 [.agg cs,.nils] (Qs n ls):=by
 refine aH hG ?_
 have hl:(aq cs).length=P.cellsOf 74:=by rw [cL];exact hcs
 rw [show aq [D.agg cs,.nils]=[.agg (aq cs),.nils] from rfl,Y7]
 simp only [aI,bJ]
 rw [iR se hl (by rw [af,if_pos rfl])]
 refine bB hG _ hck rfl ?_
 have hne0:decide ((0:Int)=0)=true:=by simp
 rw [show ofD (D.int .i64 0)= O 0 from rfl,mT,hne0,show (!true)=false from rfl,eV]
 rw [iR se hl (by rw [af,if_pos rfl])]
 refine ei hG _ hbd rfl ?_
 rintro d ⟨dn,di,dl,rfl,hS⟩
 refine bB hG _ (uu hS) rfl ?_
 by_cases hv:iL ls n
 ·have e:decide (¬iL ls n)=false:=by simp [hv]
  rw [e,show ofD (D.bool false)= .bool false from rfl,Ib,show (!false)=true from rfl,dH]
  exact ax (.tup [.nilp, aS 9]) (.inl ⟨hv,rfl⟩)
 ·have e:decide (¬iL ls n)=true:=by simp [hv]
  rw [e,show ofD (D.bool true)= .bool true from rfl,Ib,show (!true)=false from rfl,eV]
  exact ax (.tup [.ptr [dn,di,dl] 0, aS 0]) (.inr ⟨hv,dn,di,dl,rfl,hS⟩)
theorem Ph (H:Hp) (k:AV->Bool):ak 71 .nils H k=k (O 0):=aF (xs:=([]:List Str)) (enc:=fE) (sz:=1) (d:= .nils) (.inl ⟨rfl,rfl⟩) zt
open Classical in
theorem Cg {n:Nat} {ls:List BF.Lk} {cs:List D} (hcs:cs.length=P.cellsOf 74) (h12:(aq cs)[12]? =some .nils) (hsv:bc 186 [.agg cs,.nils] (Qs n ls)):
  bc 113 [.agg cs] (·= .tup [.nils,.int .i64 (if iL ls n then 9 else 0)]):=by
 refine aH hG ?_
 have hl:(aq cs).length=P.cellsOf 74:=by rw [cL];exact hcs
 rw [show aq [D.agg cs]=[.agg (aq cs)] from rfl,aEQ]
 simp only [aI,bJ]
 rw [iR se hl (by rw [af,if_pos rfl])]
 refine ei hG _ hsv rfl ?_
 rintro d (⟨hv,rfl⟩| ⟨hv,dn,di,dl,rfl,hS⟩)
 ·have hne:((9:Int)=0)=False:=by simp
  simp (disch:=omega) only [go_sem,aq,hne,Ym]
  refine ax (.tup [.nils, aS 9]) ?_
  rw [if_pos hv]
 ·have hlt0:((0:Int)<0)=False:=by simp
  simp (disch:=omega) only [go_sem,aq]
  rw [h12,qt,Ph]
  refine lV 1 (er ?_)
  rw [Sw]
  simp (disch:=omega) only [go_sem,hlt0,S1,Ym]
  refine ax (.tup [.nils, aS 0]) ?_
  rw [if_neg hv]
def eR (n:Nat) (d:Nat->Int):List D:=[isl n d]
theorem Qt (n:Nat) (d:Nat->Int) (k:Blk->(Nat->AV)->Bool):aO 181 1 [(0,ofD (isl n d))] k=k (ae 51 [ofD (isl n d)]) (jr 1 1):=by kernel_rfl
def aEM (n lo:Nat) (dn di dl:D) (m:Nat) (e:En) (H:Hp):Prop:=∃i v xs,m=n - i/\i<=n/\e.dm=[]/\Own 1 (eR n) 51 lo H v xs/\lo<=H.nx/\xs.length=i/\e.t 4= .dat (.ptr [dn,di,dl] 0)/\e.t 6=v/\e.t 23= O (n:Int)/\e.t 24= O (i:Int)
theorem BN {n:Nat} {ls:List BF.Lk} {cs:List D} (hcs:cs.length=P.cellsOf 74) (hsv:bc 186 [.agg cs,.nils] (Qs n ls)):
  bc 148 [.agg cs] (fun d=>∃x e,d= .tup [x, aS e]):=by
 refine aH hG ?_
 have hl:(aq cs).length=P.cellsOf 74:=by rw [cL];exact hcs
 rw [show aq [D.agg cs]=[.agg (aq cs)] from rfl,aAU]
 simp only [aI,bJ]
 rw [iR se hl (by rw [af,if_pos rfl])]
 refine ei hG _ hsv rfl ?_
 rintro d (⟨hv,rfl⟩| ⟨hv,dn,di,dl,rfl,hS⟩)
 ·have hne:((9:Int)=0)=False:=by simp
  simp (disch:=omega) only [go_sem,aq,hne,XX]
  exact ax (.tup [.nils, aS 9]) ⟨_,_,rfl⟩
 ·obtain⟨α,sz,enc,xs,hxd,hxl⟩:=hS.nd
  have hn:=hS.n1
  simp (disch:=omega) only [go_sem,aq]
  rw [kY,jZ,ldD (x:=ofD dn) tB rfl,aF hxd CW,hxl]
  refine aZ (aEM n 1 dn di dl) (fun m e H1 hi=> ?_) (m:=n) ⟨0,.nils,[],rfl,bN _,rfl,.inl ⟨rfl,rfl⟩,bh _,rfl, ?_, ?_, ?_, ?_⟩
  rotate_left
  ·simp (disch:=omega) only [go_sem]
  ·simp (disch:=omega) only [go_sem]
  ·simp (disch:=omega) only [go_sem]
  ·simp (disch:=omega) only [go_sem];rfl
  obtain⟨i,v,ys,rfl,hin,hdm,hown,hlo,hyl,t4,t6,t23,t24⟩:=hi
  obtain⟨t,dm⟩:=e
  dsimp only at hdm t4 t6 t23 t24
  subst hdm
  refine aV 200 ?_
  rw [RO,t24,t23,t4,t6,cB]
  by_cases hi:i<n
  ·have hlt:((i:Int)<(n:Int))=True:=by simp [hi]
   simp only [hlt,dL,dH]
   refine ei hG _ (hS.lengths (i:Int)) rfl ?_
   rintro d ⟨s',bad,rfl,_⟩
   simp (disch:=omega) only [go_sem,aq]
   rw [Qt]
   simp only [aI,dq]
   refine pN (x:=s'.d) (enc:=eR n) (fun _=>rfl) (fun _=>rfl) Ie (lo:=1) (xs:=ys) (hown.frame (by rw [am];omega) fun c hc hc2=>by rw [af,if_neg (by omega)]) (by rw [am];omega) (el1:=some 51) (ro1:=false) (by rw [af,if_pos rfl];rfl) (by omega) ?_
   intro v' H' ho' hn1 hn2 _ _
   rw [am] at hn1
   simp (disch:=omega) only [go_sem]
   refine bd (m':=n - (i+1)) (by omega) ⟨i+1,v',ys++[s'.d],rfl,by omega,rfl,ho',by omega,by simp [hyl], ?_, ?_, ?_, ?_⟩
   ·simp (disch:=omega) only [go_sem,t4]
   ·simp (disch:=omega) only [go_sem]
   ·simp (disch:=omega) only [go_sem,t23]
   ·simp (disch:=omega) only [go_sem];rfl
  ·have hlt:((i:Int)<(n:Int))=False:=by simp;omega
   simp (disch:=omega) only [go_sem,hlt,Pi,t6]
   simp (disch:=omega) only [go_sem,XX,t6]
   obtain⟨d,I,h1,h2⟩:=Own.rd (sz:=1) (enc:=eR n) (fun _=>rfl) hown
   exact iy ⟨d,0,rfl⟩ (.tup _ _ _ (.cons _ _ _ _ _ _ h1 (.cons _ _ _ _ _ _ (.fro (aS 0)) .nil)))
def cS (xs:List Int):Nat->List Int
 | 0=>[]
 | i+1=>if i≠0/\xs.getD i 0=xs.getD (i - 1) 0 then cS xs i else cS xs i++[xs.getD i 0]
def srt (xs:List Int):List Int:=xs.mergeSort fun x y=>decide (x<=y)
def rD (s:bo):List Int:=[s.zero.lo,s.zero.hi+1,s.end_.lo,s.end_.hi+1]
def plc (s:bo):List Int:=cS (srt (rD s)) 4
theorem A0 (xs:List Int):(srt xs).Perm xs:=List.mergeSort_perm _ _
theorem Sx (xs:List Int):(srt xs).Pairwise (·<=·):=by
 have:=List.pairwise_mergeSort (le:=fun (x y:Int)=>decide (x<=y)) (by simp;omega) (by simp;omega) xs
 simpa [srt] using this
theorem CM (xs:List Int):(srt xs).length=xs.length:=(A0 xs).length_eq
theorem cS4 {ys:List Int} (hl:ys.length=4) (hp:ys.Pairwise (·<=·)):(cS ys 4).Pairwise (·<·)/\(∀x,x∈cS ys 4↔x∈ys)/\1<=(cS ys 4).length/\(cS ys 4).length<=4:=by
 match ys,hl with
 | [a,b,c,d],_=>
  simp only [nI,cy,List.not_mem_nil,or_false,forall_eq_or_imp,forall_eq] at hp
  have ec:cS [a,b,c,d] 4=(if d=c then (if c=b then (if b=a then [a] else [a,b]) else (if b=a then [a,c] else [a,b,c])) else (if c=b then (if b=a then [a,d] else [a,b,d]) else (if b=a then [a,c,d] else [a,b,c,d]))):=by
   by_cases h1:b=a
   all_goals by_cases h2:c=b
   all_goals by_cases h3:d=c
   all_goals (try subst h3)
   all_goals (try subst h2)
   all_goals (try subst h1)
   all_goals simp [cS, *]
  rw [ec]
  refine⟨?_,fun x=> ?_, ?_, ?_⟩
  all_goals (split<;>split<;>split)
  all_goals (try simp)
  all_goals omega
theorem m8 (s:bo):(plc s).Pairwise (·<·)/\(∀x,x∈plc s↔x=s.zero.lo∨x=s.zero.hi+1∨x=s.end_.lo∨x=s.end_.hi+1)/\1<=(plc s).length/\(plc s).length<=4:=by
 obtain⟨h1,h2,h3,h4⟩:=cS4 (ys:=srt (rD s)) (by rw [CM];rfl) (Sx _)
 refine⟨h1,fun x=> ?_,h3,h4⟩
 show x∈cS _ 4↔_
 rw [h2,(A0 _).mem_iff]
 simp [rD]
def kN (s:bo):List (Int×Int):=[(0,0),(1,0),(2,0)]++(plc s).map fun x=>(4,x)
def pA (s:bo) (x:Int):Nat:=3+(plc s).idxOf x
def smT (f:Stop->Int) (x y:Int) (l:List Stop):Nat->Int
 | 0=>0
 | i+1=>match l[i]? with
  | some p=>if x<=p.at_/\p.at_<y then smT f x y l i+f p else smT f x y l i
  | none=>smT f x y l i
def sHi (p:Stop):Int:=p.secs.hi
def sLo (p:Stop):Int:=p.secs.lo
def tK (s:bo) (x y:Int):Int:=Int.tdiv ((y - x) * 1000000+s.rate.lo - 1) s.rate.lo+smT sHi x y s.stops s.stops.length
def pE (s:bo) (x y:Int):Int:=Int.tdiv ((y - x) * 1000000) s.rate.hi+smT sLo x y s.stops s.stops.length
def prw (s:bo) (i:Nat) (x:Int):Nat->List Int->List BF.Lk
 | _,[]=>[]
 | j,y::ys=>⟨3+i,3+j,tK s x y⟩::⟨3+j,3+i, -pE s x y⟩::prw s i x (j+1) ys
def prs (s:bo):Nat->List Int->List BF.Lk
 | _,[]=>[]
 | i,x::xs=>prw s i x (i+1) xs++prs s (i+1) xs
def l9 (s:bo):List BF.Lk:=[⟨0,1,s.in_.hi⟩,⟨1,0, -s.in_.lo⟩,⟨0,2,s.out.hi⟩,⟨2,0, -s.out.lo⟩,⟨2,1,0⟩,⟨1,pA s s.zero.lo,0⟩,⟨pA s (s.zero.hi+1),1,0⟩,⟨2,pA s s.end_.lo,0⟩,⟨pA s (s.end_.hi+1),2,0⟩]
def bls (s:bo):List BF.Lk:=l9 s++prs s 0 (plc s)
def bn (s:bo):Nat:=3+(plc s).length
structure SOK (s:bo):Prop where
 i:0<=s.in_.lo/\s.in_.lo<=s.in_.hi/\s.in_.hi<=1073741823
 o:0<=s.out.lo/\s.out.lo<=s.out.hi/\s.out.hi<=1073741823
 z:0<=s.zero.lo/\s.zero.lo<=s.zero.hi/\s.zero.hi<=43199
 e:s.zero.lo<=s.end_.lo/\s.end_.lo<=s.end_.hi/\s.end_.hi<=43199
 r:900000<=s.rate.lo/\s.rate.lo<=s.rate.hi/\s.rate.hi<=1100000
 n:s.stops.length<=4
 st:∀p∈s.stops,0<=p.secs.lo/\p.secs.lo<=p.secs.hi/\p.secs.hi<=36000
theorem vw {hi:Int}:∀{l:List Stop} {b:Int},gd hi b l=true->∀p∈l,0<=p.secs.lo/\p.secs.lo<=p.secs.hi/\p.secs.hi<=36000
 | [],_,_,p,hp=>by cases hp
 | x::l,b,h,p,hp=>by
  rw [gd] at h
  split at h
  ·cases h
  ·split at h
   ·cases h
   ·split at h
    ·rename_i hw
     rcases cy.1 hp with rfl | hp
     ·simpa [eF] using hw
     ·exact vw h p hp
    ·cases h
theorem wu {s:bo} (h:fQ s=0):SOK s:=by
 simp only [fQ] at h
 split at h
 ·cases h
 ·split at h
  ·rename_i h1 h2
   simp only [si,eF,bX,bU] at h2
   obtain⟨⟨⟨⟨⟨⟨⟨a1,a2⟩,a3⟩,a4⟩,a5⟩,a6⟩,a7⟩,a8⟩:=h2
   exact⟨a2,a3,a4,⟨by omega,by omega,by omega⟩,a7,by omega,vw a8⟩
  ·cases h
theorem uI {s:bo} (h:SOK s) {x:Int} (hx:x∈plc s):0<=x/\x<=43200:=by
 have:=((m8 s).2.1 x).1 hx
 obtain⟨_,_,h1,h2,_⟩:=h
 omega
theorem uB {f:Stop->Int} {x y:Int} {l:List Stop} (hf:∀p∈l,0<=f p/\f p<=36000):∀i:Nat,0<=smT f x y l i/\smT f x y l i<=36000 * (i:Int)
 | 0=>by simp [smT]
 | i+1=>by
  have ih:=uB (x:=x) (y:=y) hf i
  rw [smT]
  cases hl:l[i]? with
  | none=>dsimp only;omega
  | some p=>
   have:=hf p (ku hl)
   dsimp only
   split<;>omega
theorem Aq {s:bo} (h:SOK s) {x y:Int} (hx:x∈plc s) (hy:y∈plc s) (hxy:x<y):(0<=(y - x) * 1000000/\(y - x) * 1000000<=43200000000)/\(0<=tK s x y/\tK s x y<=50000000000)/\(0<=pE s x y/\pE s x y<=50000000000)/\
  (0<=Int.tdiv ((y - x) * 1000000+s.rate.lo - 1) s.rate.lo/\Int.tdiv ((y - x) * 1000000+s.rate.lo - 1) s.rate.lo<=44000000000)/\(0<=Int.tdiv ((y - x) * 1000000) s.rate.hi/\Int.tdiv ((y - x) * 1000000) s.rate.hi<=44000000000):=by
 have a:=uI h hx
 have b:=uI h hy
 obtain⟨_,_,_,_,hr,hn,hs⟩:=h
 have c1:=uB (f:=sHi) (x:=x) (y:=y) (l:=s.stops) (fun p hp=>by have:=hs p hp;simp only [sHi];omega) s.stops.length
 have c2:=uB (f:=sLo) (x:=x) (y:=y) (l:=s.stops) (fun p hp=>by have:=hs p hp;simp only [sLo];omega) s.stops.length
 have hd:0<=(y - x) * 1000000/\(y - x) * 1000000<=43200000000:=by omega
 have q:∀n d:Int,0<=n->n<=44000000000->1<=d->0<=Int.tdiv n d/\Int.tdiv n d<=44000000000:=fun n d h1 h2 h3=>by
  rw [Int.tdiv_eq_ediv_of_nonneg h1]
  exact⟨Int.ediv_nonneg h1 (by omega),Int.le_trans (Int.ediv_le_self d h1) h2⟩
 have q1:=q ((y - x) * 1000000+s.rate.lo - 1) s.rate.lo (by omega) (by omega) (by omega)
 have q2:=q ((y - x) * 1000000) s.rate.hi (by omega) (by omega) (by omega)
 refine⟨hd, ?_, ?_,q1,q2⟩
 ·simp only [tK];omega
 ·simp only [pE];omega
theorem Gw {s:bo} {x:Int} (hx:x∈plc s):(plc s).idxOf x<(plc s).length:=List.idxOf_lt_length_iff.2 hx
theorem CT {s:bo} {x:Int} (hx:x∈plc s):3<=pA s x/\pA s x<bn s:=by
 have:=Gw hx
 simp only [pA,bn];omega
def Rv (n:Nat) (l:BF.Lk):Prop:=l.u<n/\l.v<n/\ -MM<=l.w/\l.w<=MM/\l.u≠l.v
theorem Gh {s:bo} (h:SOK s) {i:Nat} {x:Int} (hx:x∈plc s):∀(ys:List Int) (j:Nat),i<j->j+ys.length<=(plc s).length->(∀y∈ys,y∈plc s/\x<y)->(prw s i x j ys).length=2 * ys.length/\∀l∈prw s i x j ys,Rv (bn s) l
 | [],j,_,_,_=>⟨rfl,fun l hl=>by cases hl⟩
 | y::ys,j,hj,hn,hy=>by
  obtain⟨h1,h2⟩:=Gh (i:=i) h hx ys (j+1) (by omega) (by simp at hn;omega) fun z hz=>hy z (co _ hz)
  obtain⟨g1,g2⟩:=hy y cE
  obtain⟨_,m1,m2,_⟩:=Aq h hx g1 g2
  refine⟨by simp only [prw,dR,h1];omega,fun l hl=> ?_⟩
  simp only [dR] at hn
  rcases cy.1 hl with rfl | hl
  ·exact⟨by simp only [bn];omega,by simp only [bn];omega,by simp only [MM];omega,by simp only [MM];omega,by dsimp only;omega⟩
  rcases cy.1 hl with rfl | hl
  ·exact⟨by simp only [bn];omega,by simp only [bn];omega,by simp only [MM];omega,by simp only [MM];omega,by dsimp only;omega⟩
  ·exact h2 l hl
theorem IM {s:bo} (h:SOK s):∀(xs:List Int) (i:Nat),i+xs.length<=(plc s).length->(∀y∈xs,y∈plc s)->xs.Pairwise (·<·)->(prs s i xs).length=xs.length * (xs.length - 1)/\∀l∈prs s i xs,Rv (bn s) l
 | [],i,_,_,_=>⟨rfl,fun l hl=>by cases hl⟩
 | x::xs,i,hn,hm,hp=>by
  rw [nI] at hp
  simp only [dR] at hn
  obtain⟨h1,h2⟩:=IM h xs (i+1) (by omega) (fun y hy=>hm y (co _ hy)) hp.2
  obtain⟨h3,h4⟩:=Gh h (i:=i) (hm x cE) xs (i+1) (by omega) (by omega) fun y hy=>⟨hm y (co _ hy),hp.1 y hy⟩
  refine⟨?_,fun l hl=> ?_⟩
  ·rw [prs,gZ,h1,h3,dR,Nat.add_sub_cancel]
   cases xs with
   | nil=>rfl
   | cons y ys=>simp only [dR,Nat.add_sub_cancel,jF,Nat.mul_add];omega
  ·rcases dF.1 hl with hl | hl
   ·exact h4 l hl
   ·exact h2 l hl
theorem HK {s:bo} (h:SOK s):(bls s).length<=21/\bn s<=7/\∀l∈bls s,Rv (bn s) l:=by
 obtain⟨p1,p2,p3,p4⟩:=m8 s
 obtain⟨h1,h2⟩:=IM h (plc s) 0 (by omega) (fun _ h=>h) p1
 have ha:=CT ((p2 s.zero.lo).2 (by simp))
 have hb:=CT ((p2 (s.zero.hi+1)).2 (by simp))
 have hc:=CT ((p2 s.end_.lo).2 (by simp))
 have hd:=CT ((p2 (s.end_.hi+1)).2 (by simp))
 refine⟨?_,by simp only [bn];omega,fun l hl=> ?_⟩
 ·have:(plc s).length * ((plc s).length - 1)<=4 * 3:=mY p4 (by omega)
  simp only [bls,l9,gZ,dR,jG,h1];omega
 ·rcases dF.1 hl with hl | hl
  ·obtain⟨i1,o1,_⟩:=h
   simp only [l9,cy,List.not_mem_nil,or_false] at hl
   rcases hl with rfl | rfl | rfl | rfl | rfl | rfl | rfl | rfl | rfl<;>refine⟨?_, ?_, ?_, ?_, ?_⟩<;>simp only [MM] at * <;>omega
  ·exact h2 l hl
theorem QD (s:bo):(kN s).length=bn s:=by simp [kN,bn];omega
theorem UF (s:bo):(kN s).Nodup:=by
 have h1:(plc s).Nodup:=((m8 s).1).imp fun h=>by omega
 rw [kN,nW]
 refine⟨by decide, ?_, ?_⟩
 ·rw [List.Nodup,List.pairwise_map]
  exact h1.imp fun h hh=>h (Prod.mk.inj hh).2
 ·intro a ha b hb
  simp at ha hb
  obtain⟨x,_,rfl⟩:=hb
  rcases ha with rfl | rfl | rfl<;>simp
theorem OM {s:bo} {x:Int} (hx:x∈plc s):(kN s)[pA s x]? =some (4,x):=by
 rw [kN,pA,kj (by simp)]
 simp only [dR,jG,Nat.add_sub_cancel_left,gO]
 have:=Gw hx
 simp [dW this]
theorem Ns {s:bo} {j:Nat} {x:Int} (hx:(plc s)[j]? =some x):(kN s)[3+j]? =some (4,x):=by
 rw [kN,kj (by simp)]
 simp only [dR,jG,Nat.add_sub_cancel_left,gO]
 simp [hx]
def kA (p:Int×Int):AV:= .agg [O p.1, O p.2]
def nE:List (Int×Int)->Nat->List (AV×AV×Nat)
 | [],_=>[]
 | p::l,i=>(kA p, O (i:Int),i)::nE l (i+1)
theorem Dk (p:Int×Int):∀(l:List (Int×Int)) (i:Nat),nE (l++[p]) i=nE l i++[(kA p, O ((i+l.length:Nat):Int),i+l.length)]
 | [],i=>rfl
 | q::l,i=>by
  show (_::nE (l++[p]) (i+1))=_::(nE l (i+1)++_)
  rw [Dk p l (i+1),dR,show i+1+l.length=i+(l.length+1) from by omega]
def fl2:Fl:=⟨true,[.i,.i]⟩
theorem Nj:iI P 128=some ⟨3,fl2⟩:=by kernel_rfl
theorem F8 (p q:Int×Int):CB fl2 (kA p) (kA q)=some (decide (p=q)):=by
 show (match some (ieq p.1 q.1),(match some (ieq p.2 q.2),some true with | some p,some q=>some (p&&q)| _,_=>none) with | some p,some q=>some (p&&q)| _,_=>none)=_
 simp only [o5]
 congr 1
 rw [cg]
 simp [Prod.ext_iff]
theorem Dz (p:Int×Int):∀(l:List (Int×Int)) (j i:Nat),p∉l->findKey fl2 (kA p) (nE l j) i=some none
 | [],_,_,_=>rfl
 | q::l,j,i,h=>by
  simp only [nE,findKey,F8]
  rw [fK (show ¬p=q from fun e=>h (by rw [e];exact cE))]
  exact Dz p l (j+1) (i+1) fun hh=>h (co _ hh)
theorem DK (p:Int×Int):∀(l:List (Int×Int)) (j i m:Nat),l.Nodup->l[m]? =some p->findKey fl2 (kA p) (nE l j) i=some (some (i+m, O ((j+m:Nat):Int)))
 | [],_,_,_,_,h=>by simp at h
 | q::l,j,i,m,hn,h=>by
  simp only [nE,findKey,F8]
  cases m with
  | zero=>
   rw [rV] at h
   cases h
   rw [fM rfl]
   rfl
  | succ m=>
   rw [nS] at h
   rw [jL] at hn
   rw [fK (show ¬p=q from fun e=>hn.1 (by rw [←e];exact ku h))]
   show findKey fl2 (kA p) (nE l (j+1)) (i+1)=_
   rw [DK p l (j+1) (i+1) m hn.2 h,show i+1+m=i+(m+1) from by omega,show j+1+m=j+(m+1) from by omega]
theorem Vx {ns:List (Int×Int)} {p:Int×Int} {i:Nat} {ro:Bool} {cl:Nat} {k:AV->Bool} (hn:ns.Nodup) (hi:ns[i]? =some p):qo P 128 (kA p) false k (some (.map ro (nE ns 0) cl))=k (O (i:Int)):=by
 unfold qo
 rw [Nj]
 show iG P (nE ns 0) ⟨3,fl2⟩ (kA p) false k=_
 unfold iG
 rw [show ox ⟨3,fl2⟩ (nE ns 0) (kA p)=findKey fl2 (kA p) (nE ns 0) 0 from rfl,DK p ns 0 0 i hn hi,ca]
theorem aCW {H:Hp} {b:Nat} {ns:List (Int×Int)} {p:Int×Int} {k:Hp->Bool} (hp:p∉ns):tj P H b 128 (kA p) (O (ns.length:Int)) k (some (.map false (nE ns 0) ns.length))=k (H.setb b (some (.map false (nE (ns++[p]) 0) (ns++[p]).length))):=by
 unfold tj
 rw [Nj]
 dsimp only
 rw [show ox ⟨3,fl2⟩ (nE ns 0) (kA p)=findKey fl2 (kA p) (nE ns 0) 0 from rfl,Dz p ns 0 0 hp,Dk,ca,gZ,List.length_singleton]
theorem Mb (a b:Int) (k:AV->Bool):aU 222 [(0, O a),(1, O b)] k=k (.agg [O a, O b]):=by kernel_rfl
theorem at188 {H:Hp} {g m i:Nat} {vn vl:AV} {el:Option TypeId} {ro ro2:Bool} {clk:Nat} {ns:List (Int×Int)} {kd n:Int} {K:AV->Hp->Bool} (hg:H.get g=some (.cells el ro2 [vn,.map m,vl])) (hm:H.get m=some (.map ro (nE ns 0) clk)) (hnd:ns.Nodup) (hi:ns[i]? =some (kd,n))
  (hK:K (O (i:Int)) H=true):ay 188 [.ptr g 0, O kd, O n] H K=true:=by
 refine cb 200 ?_
 rw [aEN,fS,bL,cf (v:= .map m) hg N3 rfl,Mb,DU,hm,show AV.agg [O kd, O n]=kA (kd,n) from rfl,Vx hnd hi]
 exact hK
theorem Lo (p:Stop):bc 210 [.agg (dx p)] (·= .int .i64 (sHi p)):=by
 refine aH hG ?_
 (try simp (disch:=omega) only [go_sem,dx,Ud]);repeat' ((with_reducible first | apply aa | apply ab | apply Z)<;>intro h<;>(try simp only [spl] at h)<;>try simp (disch:=omega) only [go_sem,dx,Ud,h])
 exact ax (aS p.secs.hi) rfl
theorem LS (p:Stop):bc 211 [.agg (dx p)] (·= .int .i64 (sLo p)):=by
 refine aH hG ?_
 (try simp (disch:=omega) only [go_sem,dx,WX]);repeat' ((with_reducible first | apply aa | apply ab | apply Z)<;>intro h<;>(try simp only [spl] at h)<;>try simp (disch:=omega) only [go_sem,dx,WX,h])
 exact ax (aS p.secs.lo) rfl
theorem Mr (t:TypeId) (nc:Bool) {a b:Int} {k:AV->Bool} (hb:1<=b) (ha:0<=a) (h:a<=9223372036854775807):aw .quo t nc (O a) (O b) k=k (O (Int.tdiv a b)):=by
 have h1:0<=Int.tdiv a b/\Int.tdiv a b<=a:=by
  rw [Int.tdiv_eq_ediv_of_nonneg ha]
  exact⟨Int.ediv_nonneg ha (by omega),Int.ediv_le_self b ha⟩
 have hz:ieq b 0=false:=by rw [o5];exact fK (by omega)
 simp only [fP,ia,jN,bW,hz,cA]
 rw [om (by omega)]
theorem E5 {a b:Int} (ha:0<=a/\a<=1000000000000) (hb:1<=b/\b<=1000000000000):bc 208 [aS a, aS b] (·= .int .i64 (Int.tdiv (a+b - 1) b)):=by
 refine aH hG ?_
 rw [show aq [D.int .i64 a,D.int .i64 b]=[O a, O b] from rfl,aET,kn _ _ _ _ (by omega),jH _ _ _ _ (by omega),Mr _ _ (by omega) (by omega) (by omega)]
 exact ax (aS _) rfl
def dV (H H':Hp):Prop:=H.nx<=H'.nx/\∀c,c<H.nx->H'.get c=H.get c
def At (H:Hp) (b:Nat) (x:Blk):Prop:=b<H.nx/\H.get b=some x
theorem gq (H:Hp):dV H H:=⟨bh _,fun _ _=>rfl⟩
theorem dV.trans {H1 H2 H3:Hp} (h:dV H1 H2) (h':dV H2 H3):dV H1 H3:=⟨fC h.1 h'.1,fun c hc=>by rw [h'.2 c (gY hc h.1),h.2 c hc]⟩
theorem dV.push (H:Hp) (x:Blk):dV H (H.push x):=⟨by rw [am];omega,fun c hc=>by rw [af,if_neg (by omega)]⟩
theorem dV.setb {H0 H:Hp} {b:Nat} {x:Option Blk} (h:dV H0 H) (hb:H0.nx<=b):dV H0 (H.setb b x):=⟨by rw [au];exact h.1,fun c hc=>by rw [V,if_neg (by omega)];exact h.2 c hc⟩
theorem At.stay {H H':Hp} {b:Nat} {x:Blk} (h:At H b x) (s:dV H H'):At H' b x:=⟨gY h.1 s.1,by rw [s.2 b h.1];exact h.2⟩
theorem At.push (H:Hp) (x:Blk):At (H.push x) H.nx x:=⟨by rw [am];omega,by rw [af,if_pos rfl]⟩
theorem At.p {H:Hp} {b:Nat} {x y:Blk} (h:At H b x):At (H.push y) b x:=h.stay (dV.push H y)
theorem Tz {H H':Hp} {y:Blk} (h:dV H H'):dV H (H'.push y):=h.trans (dV.push H' y)
theorem RY {H:Hp} {p:Stop} {bx by_:Nat} {x y:Int} {e1 e2:Option TypeId} {r1 r2:Bool} {K:AV->Hp->Bool} (hx:At H bx (.cells e1 r1 [O x])) (hy:At H by_ (.cells e2 r2 [O y]))
  (hK:∀H',dV H H'->K (.bool (decide (x<=p.at_/\p.at_<y))) H'=true):ay 207 [.agg (aq (dx p)),.ptr bx 0,.ptr by_ 0] H K=true:=by
 obtain⟨at_,⟨lo,hi⟩⟩:=p
 refine cb 200 ?_
 rw [Zf]
 simp (disch:=omega) only [go_sem,dx,aq,ofD]
 rw [S9]
 have hx1:=(hx.p (y:=Blk.cells (some 201) false [O at_, O lo, O hi])).2
 have hy1:=(hy.p (y:=Blk.cells (some 201) false [O at_, O lo, O hi])).2
 have hp1:=(At.push H (Blk.cells (some 201) false [O at_, O lo, O hi])).2
 generalize hH1:H.push (Blk.cells (some 201) false [O at_, O lo, O hi])=H1 at *
 have hs:dV H H1:=by rw [←hH1];exact dV.push _ _
 by_cases h1:x<=at_
 ·simp (disch:=omega) only [go_sem,h1,hx1,hp1,hy1,Iy,Ye]
  have e:decide (at_<y)=decide (x<=at_/\at_<y):=by simp [h1]
  rw [e]
  exact hK H1 hs
 ·simp (disch:=omega) only [go_sem,h1,hx1,hp1,hy1,Iy,Ye]
  have e:false=decide (x<=at_/\at_<y):=by simp [h1]
  rw [e]
  exact hK H1 hs
theorem mA (H:Hp) (x y:Blk):At ((H.push x).setb H.nx (some y)) H.nx y:=⟨by rw [au,am];omega,by rw [V,if_pos rfl]⟩
theorem ii (H:Hp) (x y:Blk):dV H ((H.push x).setb H.nx (some y)):=(dV.push H x).setb (bh _)
theorem Yh {H:Hp} {b:Nat} {el:Option TypeId} {l:Stop} {k:Hp->Bool} (hb:H.get b=some (.cells el false [O 0, O 0, O 0])):aA H 201 (.ptr b 0) (.agg (aq (dx l))) k=k (H.setb b (some (.cells el false (aq (dx l))))):=by
 rw [jv,hb,Hn,gr,kZ,bJ];rfl
theorem Xm {ls:List Stop} {dl:D} {k:Nat} (hd:Sl 3 dx ls dl) (hk:k<ls.length):∃p,(∀K:AV->Bool,ah 29 (ofD dl) (O (k:Int)) K=K p)/\∀(H:Hp) (K:AV->Bool),E H 201 p K=K (.agg (aq (dx ls[k]))):=
 ⟨_,fun K=>bC hd jX py kZ hk,fun H K=>by rw [nk,Hn,jc,kZ,bv eY hk,fX]⟩
theorem aEB {t:E2} {H:Hp} {F:FuncId} {f:Stop->Int} {l:List Stop} {dl:D} {bx by_ i:Nat} {x y:Int} {e1 e2:Option TypeId} {r1 r2:Bool} {k:AEx->En->Hp->Bool} (e1F:kf P F=false) (e2F:iz P F=true) (hF:∀p,bc F [.agg (dx p)] (·= .int .i64 (f p))) (hd:Sl 3 dx l dl) (hl:l.length<=4) (hf:∀p∈l,0<=f p/\f p<=36000)
  (hx:At H bx (.cells e1 r1 [O x])) (hy:At H by_ (.cells e2 r2 [O y])) (hi:i<l.length) (t1:t 1= .fn 207 [] [.ptr bx 0,.ptr by_ 0]) (t2:t 2= .fn F [] []) (t7:t 7= O (smT f x y l i)) (t10:t 10=ofD dl) (t11:t 11= O (l.length:Int)) (t12:t 12= O (i:Int))
  (hk:∀t' H',dV H H'->t' 1=t 1->t' 2=t 2->t' 7= O (smT f x y l (i+1))->t' 10=t 10->t' 11=t 11->t' 12= O ((i+1:Nat):Int)->k .normal ⟨t',[]⟩ H'=true):az 200 26 209 58 none ⟨t,[]⟩ H k=true:=by
 have hlt:((i:Int)<(l.length:Int))=True:=by simp;omega
 obtain⟨p,hpx,hpl⟩:=Xm hd hi
 rw [Ic,t12,t11,t10,t1,t2,t7,cB]
 simp only [hlt,dL,dH]
 rw [hpx,hpl,aI,Yh (el:=some 201) (by rw [af,if_pos rfl])]
 have hA:=mA H (ae 201 [O 0, O 0, O 0]) (ae 201 (aq (dx l[i])))
 have hS:=ii H (ae 201 [O 0, O 0, O 0]) (ae 201 (aq (dx l[i])))
 generalize Hp.setb (H.push (ae 201 [O 0, O 0, O 0])) H.nx (some (ae 201 (aq (dx l[i]))))=H1 at hA hS
 have hla:∀(H2:Hp),dV H1 H2->∀k:AV->Bool,E H2 201 (.ptr H.nx 0) k=k (.agg (aq (dx l[i]))):=fun H2 h2 k=>iR Hn (by rw [kZ];rfl) (hA.stay h2).2
 rw [hla H1 (gq _)]
 simp (disch:=omega) only [go_sem]
 refine RY (hx.stay hS) (hy.stay hS) fun H2 h2=> ?_
 have hs2:=uB (x:=x) (y:=y) hf i
 have hfi:=hf l[i] (cO hi)
 have hsm:smT f x y l (i+1)=if x<=l[i].at_/\l[i].at_<y then smT f x y l i+f l[i] else smT f x y l i:=by rw [smT,dW hi]
 by_cases hc:x<=l[i].at_/\l[i].at_<y
 ·rw [if_pos hc] at hsm
  rw [fM hc,dH,hla H2 h2]
  rw [o4 e1F e2F]
  refine bB hG _ (hF l[i]) rfl ?_
  simp (disch:=omega) only [go_sem]
  rw [Gd]
  simp (disch:=omega) only [go_sem,t12]
  refine hk _ H2 (hS.trans h2) ?_ ?_ ?_ ?_ ?_ ?_
  ·simp (disch:=omega) only [go_sem]
  ·simp (disch:=omega) only [go_sem]
  ·simp (disch:=omega) only [go_sem,hsm]
  ·simp (disch:=omega) only [go_sem]
  ·simp (disch:=omega) only [go_sem]
  ·simp (disch:=omega) only [go_sem];rfl
 ·rw [if_neg hc] at hsm
  rw [fK hc]
  simp (disch:=omega) only [go_sem]
  rw [Gd]
  simp (disch:=omega) only [go_sem,t12]
  refine hk _ H2 (hS.trans h2) ?_ ?_ ?_ ?_ ?_ ?_
  ·simp (disch:=omega) only [go_sem]
  ·simp (disch:=omega) only [go_sem]
  ·simp (disch:=omega) only [go_sem,hsm,t7]
  ·simp (disch:=omega) only [go_sem]
  ·simp (disch:=omega) only [go_sem]
  ·simp (disch:=omega) only [go_sem];rfl
def aEA (t0:E2) (f:Stop->Int) (x y:Int) (l:List Stop) (H0:Hp) (m:Nat) (e:En) (H:Hp):Prop:=∃i,m=l.length - i/\i<=l.length/\e.dm=[]/\dV H0 H/\e.t 1=t0 1/\e.t 2=t0 2/\e.t 7= O (smT f x y l i)/\e.t 10=t0 10/\e.t 11=t0 11/\e.t 12= O (i:Int)
theorem Hr {H:Hp} {F:FuncId} {f:Stop->Int} {l:List Stop} {dl:D} {bx by_:Nat} {x y:Int} {e1 e2:Option TypeId} {r1 r2:Bool} {K:AV->Hp->Bool} (e1F:kf P F=false) (e2F:iz P F=true) (hF:∀p,bc F [.agg (dx p)] (·= .int .i64 (f p))) (hd:Sl 3 dx l dl) (hl:l.length<=4) (hf:∀p∈l,0<=f p/\f p<=36000)
  (hx:At H bx (.cells e1 r1 [O x])) (hy:At H by_ (.cells e2 r2 [O y])) (hK:∀H',dV H H'->K (O (smT f x y l l.length)) H'=true):ay 209 [ofD dl,.fn 207 [] [.ptr bx 0,.ptr by_ 0],.fn F [] []] H K=true:=by
 refine cb 200 ?_
 rw [ZY,aF hd jX]
 generalize ht0:es E2.empty (ao 0 [ofD dl,AV.fn 207 [] [AV.ptr bx 0,AV.ptr by_ 0],AV.fn F [] []] (ao 10 [ofD dl,AV.int .i64 (l.length:Int),AV.int .i64 0] [(6,AV.int .i64 0),(7,AV.int .i64 0)]))=t0
 have a1:t0 1= .fn 207 [] [.ptr bx 0,.ptr by_ 0]:=by rw [←ht0];simp (disch:=omega) only [go_sem]
 have a2:t0 2= .fn F [] []:=by rw [←ht0];simp (disch:=omega) only [go_sem]
 have a7:t0 7= O 0:=by rw [←ht0];simp (disch:=omega) only [go_sem]
 have a10:t0 10=ofD dl:=by rw [←ht0];simp (disch:=omega) only [go_sem]
 have a11:t0 11= O (l.length:Int):=by rw [←ht0];simp (disch:=omega) only [go_sem]
 have a12:t0 12= O 0:=by rw [←ht0];simp (disch:=omega) only [go_sem]
 refine aZ (aEA t0 f x y l H) (fun m e H1 hi=> ?_) (m:=l.length) ⟨0,rfl,bN _,rfl,gq _,rfl,rfl,a7,rfl,rfl,a12⟩
 obtain⟨i,rfl,hi,hdm,hs,b1,b2,b7,b10,b11,b12⟩:=hi
 obtain⟨t,dm⟩:=e
 dsimp only at hdm b1 b2 b7 b10 b11 b12
 subst hdm
 refine aV 200 ?_
 by_cases hil:i<l.length
 ·refine aEB e1F e2F hF hd hl hf (hx.stay hs) (hy.stay hs) hil (b1.trans a1) (b2.trans a2) b7 (b10.trans a10) (b11.trans a11) b12 fun t' H' hs' c1 c2 c7 c10 c11 c12=> ?_
  simp (disch:=omega) only [go_sem]
  exact bd (m':=l.length - (i+1)) (by omega) ⟨i+1,rfl,by omega,rfl,hs.trans hs',c1.trans b1,c2.trans b2,c7,c10.trans b10,c11.trans b11,c12⟩
 ·have hie:i=l.length:=by omega
  subst hie
  rw [Ic,b12,b11,a11,cB]
  have hlt:((l.length:Int)<(l.length:Int))=False:=by simp
  simp (disch:=omega) only [go_sem,hlt,Tj,aBK,b7]
  exact hK H1 hs
def eN (p:Int×Int):List D:=[aS p.1, aS p.2]
theorem Ge (p:Int×Int):(eN p).length=2:=rfl
theorem Pq (p:Int×Int):(aq (eN p)).all one=true:=rfl
theorem apN:ApT P 127 222 2:=⟨by kernel_rfl,by kernel_rfl,by kernel_rfl,by kernel_rfl,by kernel_rfl,by kernel_rfl⟩
theorem X0 (a b:Int) (k:Blk->(Nat->AV)->Bool):aO 127 1 [(0,.agg [O a, O b])] k=k (ae 222 [O a, O b]) (jr 1 2):=by kernel_rfl
structure SB (lo:Nat) (H:Hp) (ns:List (Int×Int)):Prop where
 m:H.get lo=some (.map false (nE ns 0) ns.length)
 g:∃vn,H.get (lo+1)=some (ae 131 [vn,.map lo,.nils])/\Own 2 eN 222 (lo+3) H vn ns
 c:H.get (lo+2)=some (ae 123 [.ptr (lo+1) 0])
 nx:lo+3<=H.nx
theorem yx {lo:Nat} {H:Hp} {ns:List (Int×Int)} {p:Int×Int} {K:AV->Hp->Bool} (h:SB lo H ns) (hp:p∉ns) (hn:ns.length<=100) (hK:∀H',SB lo H' (ns++[p])->H.nx<=H'.nx->(∀c,c<lo->H'.get c=H.get c)->K (.tup []) H'=true):ay 142 [kA p,.ptr (lo+2) 0] H K=true:=by
 obtain⟨hm,⟨vn,hg,ho⟩,hc,hx⟩:=h
 refine cb 200 ?_
 have hb:=X0 p.1 p.2
 rw [show kA p= .agg (aq (eN p)) from rfl,aFI]
 simp only [aI,bJ]
 have hA:=At.push H (ae 222 (aq (eN p)))
 have hS:=dV.push H (ae 222 (aq (eN p)))
 generalize H.push (ae 222 (aq (eN p)))=H1 at hA hS
 have hc1:H1.get (lo+2)=_:=(hS.2 _ (by omega)).trans hc
 have hg1:H1.get (lo+1)=_:=(hS.2 _ (by omega)).trans hg
 have hm1:H1.get lo=_:=(hS.2 _ (by omega)).trans hm
 have hx1:=hS.1
 have ho1:=ho.frame hS.1 fun c _ h=>hS.2 c h
 rw [cf (v:= .ptr (lo+1) 0) hc1 mg rfl,fS,bL,cf (v:= .map lo) hg1 N3 rfl,iR Mf (by rw [Md];rfl) hA.2,cf (v:= .ptr (lo+1) 0) hc1 mg rfl,fS,bL,cf (v:=vn) hg1 tB rfl,ho1.len CW,bq,yM,hm1,
  show AV.agg (aq (eN p))=kA p from rfl,aCW hp]
 have hA2:(H1.setb lo (some (.map false (nE (ns++[p]) 0) (ns++[p]).length))).get H.nx=some (ae 222 (aq (eN p))):=by rw [V,if_neg (by omega)];exact hA.2
 have hm2:(H1.setb lo (some (.map false (nE (ns++[p]) 0) (ns++[p]).length))).get lo=some (.map false (nE (ns++[p]) 0) (ns++[p]).length):=by rw [V,if_pos rfl]
 have hc2:(H1.setb lo (some (.map false (nE (ns++[p]) 0) (ns++[p]).length))).get (lo+2)=some (ae 123 [.ptr (lo+1) 0]):=by rw [V,if_neg (by omega)];exact hc1
 have hg2:(H1.setb lo (some (.map false (nE (ns++[p]) 0) (ns++[p]).length))).get (lo+1)=some (ae 131 [vn,.map lo,.nils]):=by rw [V,if_neg (by omega)];exact hg1
 have hf2:∀c,c<lo->(H1.setb lo (some (.map false (nE (ns++[p]) 0) (ns++[p]).length))).get c=H.get c:=fun c hc=>by rw [V,if_neg (by omega)];exact hS.2 c (by omega)
 have ho2:=ho1.frame (H':=H1.setb lo (some (.map false (nE (ns++[p]) 0) (ns++[p]).length))) (by rw [au];exact bh _) fun c h _=>by rw [V,if_neg (by omega)]
 have hx2:(H1.setb lo (some (.map false (nE (ns++[p]) 0) (ns++[p]).length))).nx=H1.nx:=au _ _ _
 generalize H1.setb lo (some (.map false (nE (ns++[p]) 0) (ns++[p]).length))=H2 at hA2 hm2 hc2 hg2 hf2 ho2 hx2
 simp (disch:=exact bk rfl) only [bI,ct,bP,dE]
 rw [cQ,cf (v:= .ptr (lo+1) 0) hc2 mg rfl,cf (v:= .ptr (lo+1) 0) hc2 mg rfl,fS,bL,cf (v:=vn) hg2 tB rfl,iR Mf (by rw [Md];rfl) hA2,show AV.agg (aq (eN p))= .agg [O p.1, O p.2] from rfl,hb,dM,im (by decide),bq]
 rw [show (Hp.setb ⟨H2.t,H2.nx+1⟩ H2.nx (some (ae 222 [O p.1, O p.2])))=H2.push (ae 222 (aq (eN p))) from rfl]
 have hA3:=At.push H2 (ae 222 (aq (eN p)))
 have hS3:=dV.push H2 (ae 222 (aq (eN p)))
 generalize H2.push (ae 222 (aq (eN p)))=H3 at hA3 hS3
 have ho3:=ho2.frame hS3.1 fun c _ h=>hS3.2 c h
 have hx3:=hS3.1
 rw [dq]
 refine pN (b1:=H2.nx) (c1:=some 1) Ge Pq apN ho3 (by omega) hA3.2 (by omega) fun v' H4 ho4 hx4 hx4' hk4 _=> ?_
 have hg4:H4.get (lo+1)=_:=(hk4 _ (by omega)).trans ((hS3.2 _ (by omega)).trans hg2)
 have hm4:H4.get lo=_:=(hk4 _ (by omega)).trans ((hS3.2 _ (by omega)).trans hm2)
 have hc4:H4.get (lo+2)=_:=(hk4 _ (by omega)).trans ((hS3.2 _ (by omega)).trans hc2)
 rw [cf (v:= .ptr (lo+1) 0) hc4 mg rfl,m7,dE]
 dsimp only
 rw [fS,bL,bq,ex hg4 tB XU ho4.cells ho4.one (by simp),cQ]
 refine hK _ ⟨?_,⟨v', ?_, ?_⟩, ?_, ?_⟩ ?_ fun c hc=> ?_
 ·rw [V,if_neg (by omega)];exact hm4
 ·rw [V,if_pos rfl];rfl
 ·exact ho4.frame (by rw [au];exact bh _) fun c h _=>by rw [V,if_neg (by omega)]
 ·rw [V,if_neg (by omega)];exact hc4
 ·rw [au];omega
 ·rw [au];omega
 ·rw [V,if_neg (by omega),hk4 c (by omega),hS3.2 c (by omega),hf2 c hc]
end Go.S5
namespace Go.Ev
open Go.RowKit Go.Proofs
noncomputable section
section
variable {P : Program} {G : bg} {H : Hp}
abbrev wH:Int->Value:=Value.int .i64
theorem DL {μ:Mu}:∀(xs:List Int) (vs:List Value),VRs μ (xs.map (AV.int .i64)) vs->vs=xs.map wH
 | [],_,h=>by cases h;rfl
 | x::xs,_,h=>by
  cases h with
  | cons _ v _ vs h hs=>
   rw [DL xs vs hs]
   cases h
   rfl
def eZ (n:Int):List D:=[aS n]
theorem pR (xs:List Int):aq (cC eZ xs)=xs.map (AV.int .i64):=by
 induction xs with
 | nil=>rfl
 | cons x xs ih=>show aq (eZ x++cC eZ xs)=_;rw [fx,ih];rfl
theorem HX {f:FuncId} {c:Option Nat} (hG:mX G) {b:Nat} {el:Option TypeId} {xs:List Int} {K:AV->Hp->Bool}
  (hsort:∀(blk off cap:Nat) (ss:List Int) (w:World),Go.Sort.Holds wH w blk off ss.toArray->blk<w.heap.size->ss.length<4611686018427387904->
   Calls P f #[.slice (some ⟨blk,off,none⟩) ss.length cap] w fun e w'=>e= .returned (.tuple #[])/\∃(n:Nat) (os:Array Obj),w'=Go.Sort.grow (Go.Sort.putRow wH (Go.Sort.ahead w n) blk off (ss.mergeSort fun x y=>decide (x<=y)).toArray) os)
  (hb:H.get b=some (.cells el false (aq (cC eZ xs)))) (hne:xs≠[]) (hlen:xs.length<=1000000)
  (hk:K (.tup []) (H.setb b (some (.cells el false (aq (cC eZ (xs.mergeSort fun x y=>decide (x<=y)))))))=true):cl P G f [.sl b 0 xs.length 1 c] H K=true:=by
 refine sA fun μ w vs hh hvs=> ?_
 rw [pR] at hb
 obtain⟨vs⟩:=vs
 cases hvs with
 | cons _ v _ vs' hv hs=>
 cases hs
 cases hv with
 | sl _ _ _ _ _ p cap a hp hl ht hc hn ha=>
 have hpos:0<xs.length:=pD.2 hne
 have hcap:0<cap:=by omega
 obtain rfl:=ha hcap
 rw [ko]
 obtain⟨arr,el',fz,g1,g2,g3,g4,g5⟩:=hh.at hb hp
 obtain⟨rfl,g4'⟩:=g4 rfl
 obtain⟨ws,k1,k2,k3⟩:=hJ (n:=(xs.map (AV.int .i64)).length) g5 (bh _)
 rw [lE] at k2
 obtain rfl:=DL xs ws k2
 have hholds:Go.Sort.Holds wH w p.blk p.base xs.toArray:=fun j hj=>by
  have hj':j<xs.length:=by simpa using hj
  have h1:=k3 j (wH xs[j]) (by rw [gO,dW hj'];rfl)
  refine⟨?_, ?_⟩
  ·unfold World.cell?
   rw [g1]
   show arr[p.base+j]? =_
   rw [h1]
   simp [hj']
  ·unfold World.frozen?
   rw [g1]
   simp
 have hcall:=hsort p.blk p.base cap xs w hholds (hh.lt hb hp) (by omega)
 refine CallsIn.mono (callsIn_wide.2 hcall) fun en w' ⟨he,n,os,hw⟩=> ?_
 subst he
 generalize hS:(xs.mergeSort fun x y=>decide (x<=y))=S at hw hk
 have hSl:S.length=xs.length:=by rw [←hS];exact (List.mergeSort_perm _ _).length_eq
 let arr':Array Value:=Go.Sort.putCells wH p.base S.toArray arr
 have hsz:arr'.size=arr.size:=by simp [arr',Go.Sort.putCells]
 have hat:∀i,i<S.length->arr'[p.base+i]? =(S.map wH)[i]? :=fun i hi=>by
  simp only [arr',Go.Sort.putCells,Array.getElem?_mapIdx]
  have hb2:p.base+i<arr.size:=by simp only [lJ] at g3;omega
  rw [oe hb2]
  simp only [nC,List.size_toArray]
  rw [if_pos (by omega),gO,dW hi]
  simp [hi]
 have hbr:BR μ p (.cells el false (aq (cC eZ S))) (some (.cells arr' el' (0,0))):=by
  refine⟨arr',el',(0,0),rfl,by rw [hsz];exact g2,by rw [pR,lJ,hSl];simpa using g3,fun _=>⟨rfl,fun e he=> ?_⟩,fun i c hc=> ?_⟩
  ·obtain⟨h1,h2,h3⟩:=g4' e he
   exact⟨h1,h2,by rw [hsz];exact h3⟩
  ·rw [pR] at hc
   have hi:i<S.length:=by have:=(jb.1 hc).1;simpa using this
   rw [gO,lw] at hc
   obtain⟨z,hz,rfl⟩:=hc
   exact⟨wH z,by rw [hat i hi,gO,hz];rfl,.int _ _⟩
 have hput:=hh.put hb rfl hp aW hbr
 have hlt:=hh.lt hb hp
 have hw1:∀j,j<w.heap.size->w'.heap[j]? =(w.putObj p.blk (.cells arr' el' (0,0))).heap[j]? :=fun j hj=>by
  subst hw
  show ((w.heap.modify p.blk _)++os)[j]? =_
  rw [qY (by simpa using hj),Array.getElem?_modify]
  by_cases hjb:p.blk=j
  ·subst hjb
   rw [World.putObj_heap_same hlt,if_pos rfl,g1]
   rfl
  ·rw [World.putObj_heap_other (fun e=>hjb e.symm),if_neg hjb]
 have hsz1:(w.putObj p.blk (.cells arr' el' (0,0))).heap.size=w.heap.size:=by simp [World.putObj]
 have hsz2:w.heap.size<=w'.heap.size:=by subst hw;show _<=((w.heap.modify p.blk _)++os).size;simp
 refine⟨.ret (.tup []),μ,H.setb b (some (.cells el false (aq (cC eZ S)))),hput.world (fun c y q hc hq=>hw1 _ (by have:=hput.lt hc hq;omega)) (fun g cs hg=>hw1 _ (by have:=hput.globlt hg;omega)) (fun j o hj=>hw1 _ (by have:=hput.frolt hj;omega)), ?_,.ret _ _ (.tup _ _ .nil), ?_⟩
 ·refine (gS hh hb rfl hp aW _).trans ⟨Mu.le_refl _,fun _ _=>rfl,fun _ _ h=>h,bh _,by omega,fun j hj _=>hw1 j (by omega),fun c y q hc hq=>.inr ⟨c,y,q,hc,hq,rfl,id⟩, ?_, ?_,fun j o hj=>.inl hj⟩
  ·subst hw;rfl
  ·subst hw;rfl
 ·exact hk
end
end
end Go.Ev
namespace Go.S5
open Go.Ev Go.Proofs
def mI (xs:List Int):List AV:=xs.map (AV.int .i64)
theorem y0 (xs:List Int):(mI xs).length=xs.length:=lJ _
theorem GQ {xs:List Int} {i:Nat} (h:i<xs.length):(mI xs)[i]? =some (O (xs.getD i 0)):=by simp [mI,h]
theorem Rx {xs:List Int} {i:Nat} {x:Int}:(mI xs).set i (O x)=mI (xs.set i x):=by simp [mI,List.map_set]
theorem Xl {H:Hp} {b n k:Nat} {c:Option Nat} {ik:IntKind} (hc:c=none∨c=some n) (hk:k<n):∃c',∀K:AV->Bool,cK P H 51 (.sl b 0 n 1 c) (some (.int ik (k:Int))) none none K=K (.sl b k (n - k) 1 c'):=by
 unfold cK
 simp only [IR,gz,mP]
 rw [ce3,bW,show oy H 1 b 0 n c n=true from by unfold oy;rw [show Nat.ble n n=true from by simp],show Nat.ble k n=true from by simp;omega]
 rcases hc with rfl | rfl
 ·exact⟨none,fun K=>by simp only [bA,ca,dZ]⟩
 ·refine⟨some (n - k),fun K=> ?_⟩
  dsimp only
  rw [show Nat.beq n k=false from by cases h:Nat.beq n k with | false=>rfl | true=>have:=cw h;omega]
  simp only [bA,ca,dZ]
theorem ZB {H:Hp} {b n k:Nat} {c:Option Nat} {ik:IntKind} (hc:c=none∨c=some n) (hn:0<n) (hk:k<=n):∃c',∀K:AV->Bool,cK P H 51 (.sl b 0 n 1 c) none (some (.int ik (k:Int))) none K=K (.sl b 0 k 1 c'):=by
 unfold cK
 simp only [IR,gz,mP]
 rw [ce3,bW,show oy H 1 b 0 n c k=true from by unfold oy;rw [show Nat.ble k n=true from by simpa using hk]]
 rcases hc with rfl | rfl
 ·exact⟨none,fun K=>by simp only [Nat.ble,bA,kF,ko,kC]⟩
 ·refine⟨some n,fun K=> ?_⟩
  rw [show Nat.ble 0 k=true from by simp]
  dsimp only
  rw [show Nat.beq n 0=false from by cases n with | zero=>omega | succ n=>rfl]
  simp only [bA,kF,ko,kC]
theorem ET {xs:List Int} {k:Nat} {x:Int} (h:k<xs.length):(xs.set k x).take (k+1)=xs.take k++[x]:=by
 rw [List.take_add_one,List.take_set_of_le (bh _)]
 simp [h]
structure In2 (xs:List Int) (b:Nat) (el:Option TypeId) (H0 H:Hp) (i k:Nat) (ys:List Int):Prop where
 hb:H.get b=some (.cells el false (mI ys))
 len:ys.length=xs.length
 eq:∀j,i<=j+1->ys.getD j 0=xs.getD j 0
 tk:ys.take k=cS xs i
 kl:k<i
 i1:i<=xs.length
 nx:H.nx=H0.nx
 fr:∀c,c≠b->H.get c=H0.get c
theorem QK {t:E2} {H H0:Hp} {xs ys:List Int} {b i k k0:Nat} {el:Option TypeId} {c c4:Option Nat} {kk:AEx->En->Hp->Bool} (h:In2 xs b el H0 H i k ys) (hi:i<xs.length) (hk0:1<=k0) (hki:k0<i) (hn:xs.length<=1000)
  (t0:t 0= .sl b 0 xs.length 1 c) (t3:t 3= O (k:Int)) (t4:t 4= .sl b k0 (xs.length - k0) 1 c4) (t5:t 5= O ((i - k0:Nat):Int))
  (hk:∀t' H' k' ys',In2 xs b el H0 H' (i+1) k' ys'->t' 0=t 0->t' 3= O (k':Int)->t' 4=t 4->t' 5= O ((i+1 - k0:Nat):Int)->kk .normal ⟨t',[]⟩ H'=true):
  az 200 61 204 59690 none ⟨t,[]⟩ H kk=true:=by
 obtain⟨hb,hl,he,htk,hkl,hi1,hnx,hfr⟩:=h
 have hlt:(((i - k0:Nat):Int)<((xs.length - k0:Nat):Int))=True:=by simp;omega
 have hlen:∀k:AV->Bool,ak 51 (.sl b k0 (xs.length - k0) 1 c4) H k=k (O ((xs.length - k0:Nat):Int)):=fun k=>by unfold kJ;rw [kQ];rfl
 have hidx:∀(j:Nat) (k:AV->Bool),j<xs.length - k0->ah 51 (.sl b k0 (xs.length - k0) 1 c4) (O (j:Int)) k=k (.ptr b (k0+j)):=fun j k hj=>by rw [gX kQ in3 ce3 hj,dZ]
 have hld:∀(j:Nat) (k:AV->Bool),j<xs.length->E H 3 (.ptr b j) k=k (O (ys.getD j 0)):=fun j k hj=>cf hb ag3 (GQ (by omega))
 have hsub:((i - k0:Nat):Int) - 1=((i - k0 - 1:Nat):Int):=by omega
 have hst:cS xs (i+1)=if xs.getD i 0=xs.getD (i - 1) 0 then cS xs i else cS xs i++[xs.getD i 0]:=by
  rw [cS]
  by_cases hc:xs.getD i 0=xs.getD (i - 1) 0
  ·rw [if_pos ⟨by omega,hc⟩,if_pos hc]
  ·rw [if_neg (fun h=>hc h.2),if_neg hc]
 rw [Hj,t4,t5,hlen,cB]
 simp only [hlt,dL,dH]
 rw [hidx _ _ (by omega),show k0+(i - k0)=i from by omega,hld i _ hi,jH _ _ _ _ (by omega),hsub,hidx _ _ (by omega),show k0+(i - k0 - 1)=i - 1 from by omega,hld (i - 1) _ (by omega),he i (by omega),he (i - 1) (by omega),mT]
 have hadd:((i - k0:Nat):Int)+1=((i+1 - k0:Nat):Int):=by omega
 by_cases hc:xs.getD i 0=xs.getD (i - 1) 0
 ·rw [if_pos hc] at hst
  rw [show (!decide (xs.getD i 0=xs.getD (i - 1) 0))=false from by rw [fM hc];rfl]
  simp (disch:=omega) only [go_sem,IZ,t5]
  rw [hadd]
  refine hk _ H k ys ⟨hb,hl,fun j hj=>he j (by omega),by rw [hst];exact htk,by omega,by omega,hnx,hfr⟩ ?_ ?_ ?_ ?_
  ·simp (disch:=omega) only [go_sem]
  ·simp (disch:=omega) only [go_sem,t3]
  ·simp (disch:=omega) only [go_sem]
  ·simp (disch:=omega) only [go_sem]
 ·rw [if_neg hc] at hst
  rw [show (!decide (xs.getD i 0=xs.getD (i - 1) 0))=true from by rw [fK hc];rfl]
  rw [dH,hidx _ _ (by omega),show k0+(i - k0)=i from by omega,hld i _ hi,he i (by omega),t0,t3,gX kQ in3 ce3 (by omega),ca,dZ,ex hb ag3 ce3 rfl rfl (by rw [y0];omega),Rx]
  simp (disch:=omega) only [go_sem,IZ,t5]
  rw [hadd]
  refine hk _ _ (k+1) (ys.set k (xs.getD i 0)) ⟨by rw [V,if_pos rfl],by rw [kw];exact hl,fun j hj=> ?_,by rw [hst,ET (by omega),htk],by omega,by omega,by rw [au];exact hnx,fun c hcb=>by rw [V,if_neg hcb];exact hfr c hcb⟩ ?_ ?_ ?_ ?_
  ·rw [←he j (by omega)]
   simp only [List.getD_eq_getElem?_getD]
   rw [List.getElem?_set_ne (by omega)]
  ·simp (disch:=omega) only [go_sem]
  ·simp (disch:=omega) only [go_sem];rfl
  ·simp (disch:=omega) only [go_sem]
  ·simp (disch:=omega) only [go_sem]
theorem wQ (vs:List AV):∀a b:List AV,fg (a++b) a.length vs=(fg b 0 vs).map (a++·)
 | [],b=>by cases h:fg b 0 vs<;>simp [h]
 | x::a,b=>by
  show fg (x::(a++b)) (a.length+1) vs=_
  rw [CY,wQ vs a b]
  cases fg b 0 vs<;>rfl
theorem wj:∀(b vs:List AV),vs.length=b.length->vX b vs=some vs
 | [],[],_=>rfl
 | x::b,v::vs,h=>by rw [DX,wj b vs (by simpa using h)];rfl
theorem sV:∀n:Nat,(fd (EA P 3) n).length=n
 | 0=>rfl
 | n+1=>by
  have h:EA P 3=[O 0]:=by kernel_rfl
  rw [fd,gZ,sV n,h]
  simp;omega
theorem aEE:pm P 3=true:=by kernel_rfl
theorem Vm:(EA P 3).all one=true:=by kernel_rfl
theorem WT {H:Hp} {b k:Nat} {el:Option TypeId} {c:Option Nat} {cs:List AV} {K:AV->Hp->Bool} (hb:H.get b=some (.cells el false cs)) (hk:k<cs.length) (hK:∀zs:List AV,zs.take k=cs.take k->zs.length=cs.length->K (.tup []) (H.setb b (some (.cells el false zs)))=true):
  te P H 51 (.sl b k (cs.length - k) 1 c) K=true:=by
 obtain⟨m,hm⟩:∃m,cs.length - k=m+1:=⟨cs.length - k - 1,by omega⟩
 rw [hm]
 unfold te
 rw [IR]
 dsimp only
 rw [ce3,bW,aEE,Vm,hb]
 dsimp only
 have h1:fg cs k (fd (EA P 3) (m+1))=some (cs.take k++fd (EA P 3) (m+1)):=by
  have h2:=wQ (fd (EA P 3) (m+1)) (cs.take k) (cs.drop k)
  rw [pS,gW,lI (by omega),yL,wj _ _ (by rw [sV,mR];omega)] at h2
  exact h2
 rw [h1]
 dsimp only
 rw [bH,cJ]
 refine hK _ ?_ ?_
 ·rw [List.take_append_of_le_length (by rw [gW];omega),List.take_take,Nat.min_self]
 ·rw [gZ,gW,sV];omega
def I2 (xs:List Int) (b:Nat) (el:Option TypeId) (H0:Hp) (k0:Nat) (t0:E2) (m:Nat) (e:En) (H:Hp):Prop:=∃i k ys,m=xs.length - i/\e.dm=[]/\k0<i/\In2 xs b el H0 H i k ys/\e.t 0=t0 0/\e.t 4=t0 4/\e.t 3= O (k:Int)/\e.t 5= O ((i - k0:Nat):Int)
theorem Pc {t:E2} {H:Hp} {xs:List Int} {b k0:Nat} {el:Option TypeId} {c c4:Option Nat} {kk:AEx->En->Hp->Bool} (hb:H.get b=some (.cells el false (mI xs))) (hk0:1<=k0) (hk1:k0<xs.length) (hn:xs.length<=1000) (hc:cS xs k0=xs.take k0) (hd:xs.getD k0 0=xs.getD (k0 - 1) 0)
  (t0:t 0= .sl b 0 xs.length 1 c) (t3:t 3= O (k0:Int)) (t4:t 4= .sl b k0 (xs.length - k0) 1 c4) (t5:t 5= O 1)
  (hk:∀t' H' k ys,In2 xs b el H H' xs.length k ys->t' 0=t 0->t' 3= O (k:Int)->kk (.exit 2) ⟨t',[]⟩ H'=true):kS 61 (.loop (fH 204 59690)) none ⟨t,[]⟩ H kk=true:=by
 refine aZ (I2 xs b el H k0 t) (fun m e H1 hi=> ?_) (m:=xs.length - (k0+1)) ⟨k0+1,k0,xs,rfl,rfl,by omega,⟨hb,rfl,fun _ _=>rfl, ?_,by omega,by omega,rfl,fun _ _=>rfl⟩,rfl,rfl,t3, ?_⟩
 ·obtain⟨i,k,ys,rfl,hdm,hki,hin,a0,a4,a3,a5⟩:=hi
  obtain⟨t1,dm⟩:=e
  dsimp only at hdm a0 a4 a3 a5
  subst hdm
  refine aV 200 ?_
  by_cases hil:i<xs.length
  ·refine QK hin hil hk0 hki hn (a0.trans t0) a3 (a4.trans t4) a5 fun t' H' k' ys' hin' b0 b3 b4 b5=> ?_
   simp (disch:=omega) only [go_sem]
   exact bd (m':=xs.length - (i+1)) (by omega) ⟨i+1,k',ys',rfl,rfl,by omega,hin',b0.trans a0,b4.trans a4,b3,b5⟩
  ·have hie:i=xs.length:=by have:=hin.i1;omega
   subst hie
   have hlen:∀k:AV->Bool,ak 51 (.sl b k0 (xs.length - k0) 1 c4) H1 k=k (O ((xs.length - k0:Nat):Int)):=fun k=>by unfold kJ;rw [kQ];rfl
   rw [Hj,a4,t4,a5,hlen,cB]
   have hlt:(((xs.length - k0:Nat):Int)<((xs.length - k0:Nat):Int))=False:=by simp
   simp (disch:=omega) only [go_sem,hlt]
   refine hk _ H1 k ys hin ?_ ?_
   ·simp (disch:=omega) only [go_sem,a0]
   ·simp (disch:=omega) only [go_sem,a3]
 ·rw [cS,if_pos ⟨by omega,hd⟩];exact hc.symm
 ·rw [t5,show k0+1 - k0=1 from by omega];rfl
def I1 (xs:List Int) (t0:E2) (H0:Hp) (m:Nat) (e:En) (H:Hp):Prop:=∃k:Nat,m=xs.length - k/\1<=k/\k<=xs.length/\e.dm=[]/\H=H0/\cS xs k=xs.take k/\e.t 0=t0 0/\e.t 3= O (k:Int)
theorem B1 {H:Hp} {xs:List Int} {b:Nat} {el:Option TypeId} {c:Option Nat} {K:AV->Hp->Bool} (hb:H.get b=some (.cells el false (mI xs))) (hn:2<=xs.length) (hn2:xs.length<=1000) (hc:c=none∨c=some xs.length)
  (hK:∀H' c' zs,H'.get b=some (.cells el false zs)->zs.take (cS xs xs.length).length=mI (cS xs xs.length)->zs.length=xs.length->H'.nx=H.nx->(∀d,d≠b->H'.get d=H.get d)->K (.sl b 0 (cS xs xs.length).length 1 c') H'=true):ay 204 [.sl b 0 xs.length 1 c] H K=true:=by
 refine cb 200 ?_
 have hlen:∀(H:Hp) (k:AV->Bool),ak 51 (.sl b 0 xs.length 1 c) H k=k (O (xs.length:Int)):=fun H k=>by unfold kJ;rw [kQ];rfl
 have h2:((xs.length:Int)<2)=False:=by simp;omega
 rw [Z3,hlen,cB]
 simp only [h2,i9,eV]
 generalize ht0:es E2.empty (ao 6 [AV.sl b 0 xs.length 1 c,AV.int .i64 (xs.length:Int),AV.bool false] [(0,AV.sl b 0 xs.length 1 c),(2,AV.nils),(3,AV.int .i64 1)])=t0
 have a0:t0 0= .sl b 0 xs.length 1 c:=by rw [←ht0];simp (disch:=omega) only [go_sem]
 have a3:t0 3= O 1:=by rw [←ht0];simp (disch:=omega) only [go_sem]
 refine aZ (I1 xs t0 H) (fun m e H1 hi=> ?_) (m:=xs.length - 1) ⟨1,rfl,bh _,by omega,rfl,rfl, ?_,rfl,a3⟩
 rotate_left
 ·match xs,hn with
  | x::y::l,_=>simp [cS]
 obtain⟨k,rfl,hk1,hk2,hdm,rfl,hck,b0,b3⟩:=hi
 obtain⟨t,dm⟩:=e
 dsimp only at hdm b0 b3
 subst hdm
 have e0:=b0.trans a0
 refine aV 200 ?_
 by_cases hkl:k<xs.length
 ·have hlt:((k:Int)<(xs.length:Int))=True:=by simp;omega
  have hld:∀(j:Nat) (k:AV->Bool),j<xs.length->E H1 3 (.ptr b j) k=k (O (xs.getD j 0)):=fun j k hj=>cf hb ag3 (GQ (by omega))
  have hidx:∀(j:Nat) (k:AV->Bool),j<xs.length->ah 51 (.sl b 0 xs.length 1 c) (O (j:Int)) k=k (.ptr b j):=fun j k hj=>by rw [gX kQ in3 ce3 hj,dZ,ca]
  rw [IF,e0,b3,hlen,cB]
  simp only [hlt,dL,dH]
  rw [hidx k _ hkl,hld k _ hkl,jH _ _ _ _ (by omega),show ((k:Int) - 1)=((k - 1:Nat):Int) from by omega,hidx (k - 1) _ (by omega),hld (k - 1) _ (by omega),ij]
  by_cases hd:xs.getD k 0=xs.getD (k - 1) 0
  ·obtain⟨c4,hc4⟩:=Xl (H:=H1) (b:=b) (ik:= .i64) hc hkl
   rw [fM hd,dH,hc4]
   refine Pc hb hk1 hkl hn2 hck hd (c:=c) (c4:=c4) (by simp (disch:=omega) only [go_sem,e0]) (by simp (disch:=omega) only [go_sem,b3]) (by simp (disch:=omega) only [go_sem]) (by simp (disch:=omega) only [go_sem]) fun t' H' k' ys hin d0 d3=> ?_
   have f0:t' 0= .sl b 0 xs.length 1 c:=by rw [d0];simp (disch:=omega) only [go_sem,e0]
   have hkk:k'=(cS xs xs.length).length:=by
    rw [←hin.tk,gW,hin.len,lI (mj hin.kl)]
   obtain⟨c5,hc5⟩:=Xl (H:=H') (b:=b) (ik:= .i64) hc hin.kl
   simp (disch:=omega) only [go_sem]
   rw [Pp,f0,d3,hc5]
   have hml:(mI ys).length=xs.length:=by rw [y0,hin.len]
   rw [←hml]
   refine WT hin.hb (by rw [hml];exact hin.kl) fun zs hz1 hz2=> ?_
   rw [hml]
   obtain⟨c6,hc6⟩:=ZB (H:=H'.setb b (some (.cells el false zs))) (b:=b) (ik:= .i64) hc (by omega) (mj hin.kl)
   rw [hc6]
   simp (disch:=omega) only [go_sem,X1]
   rw [hkk] at hz1⊢
   refine hK _ c6 zs (by rw [V,if_pos rfl]) ?_ (by rw [hz2,hml]) (by rw [au,hin.nx]) fun d hd=>by rw [V,if_neg hd];exact hin.fr d hd
   rw [hz1,←hkk,mI,mI,←List.map_take,hin.tk]
  ·rw [fK hd]
   simp (disch:=omega) only [go_sem,Tn,b3]
   refine bd (m':=xs.length - (k+1)) (by omega) ⟨k+1,rfl,by omega,by omega,rfl,rfl, ?_, ?_, ?_⟩
   ·rw [cS,if_neg (fun h=>hd h.2),hck,List.take_add_one]
    simp [hkl]
   ·simp (disch:=omega) only [go_sem,b0]
   ·simp (disch:=omega) only [go_sem];rfl
 ·have hke:k=xs.length:=by omega
  subst hke
  rw [IF,e0,b3,hlen,cB]
  have hlt:((xs.length:Int)<(xs.length:Int))=False:=by simp
  simp (disch:=omega) only [go_sem,hlt,P2,X1,e0]
  have hh:=hK H1 c (mI xs) hb (by rw [hck,lE,←y0 xs,lE]) (y0 xs) rfl fun _ _=>rfl
  rw [hck,lE] at hh
  exact hh
theorem Ki (blk off cap:Nat) (ss:List Int) (w:World) (hH:Go.Sort.Holds wH w blk off ss.toArray) (hb:blk<w.heap.size) (hs:ss.length<4611686018427387904):
   Calls P 203 #[.slice (some ⟨blk,off,none⟩) ss.length cap] w fun e w'=>e= .returned (.tuple #[])/\∃(n:Nat) (os:Array Obj),w'=Go.Sort.grow (Go.Sort.putRow wH (Go.Sort.ahead w n) blk off (ss.mergeSort fun x y=>decide (x<=y)).toArray) os:=Tryz.slices_Sort_int blk off cap ss w hH hb hs
theorem OE (a b c d:Int) (k:Blk->(Nat->AV)->Bool):aO 51 4 [(0, O a),(1, O b),(2, O c),(3, O d)] k=k (ae 3 [O a, O b, O c, O d]) (jr 4 1):=by kernel_rfl
theorem GS {H:Hp} {b:Nat} {c:Option Nat} (k:AV->Hp->Bool):bu H 51 51 (.sl b 0 4 1 c) .nils k=k (.sl b 0 4 1 c) H:=by
 unfold fj
 rw [fZ.h1]
 dsimp only
 rw [fZ.h2,fZ.h3,fZ.h4,fZ.h5]
 dsimp only
 rw [fZ.h6]
 rfl
theorem yJ:∀xs:List Int,aq (cC iw xs)=mI xs
 | []=>rfl
 | x::xs=>by show aq (iw x++cC iw xs)=_;rw [fx,yJ xs];rfl
theorem GU:∀xs:List Int,aq (cC eZ xs)=mI xs:=pR
theorem A3 (s:bo) (hs:Sl 3 dx s.stops s.ds) (h:SOK s):bc 143 [.agg (ek s),.nils] (fun d=>Sl 1 iw (plc s) d):=by
 have hz:=h.z
 have he:=h.e
 have ho:=eT hs
 refine aH hG ?_
 (try simp (disch:=omega) only [go_sem,ek,cD,TQ,lA,gv,OE,GS,dq,gM,ey zt,ho]);repeat' ((with_reducible first | apply aa | apply ab | apply Z)<;>intro h<;>(try simp only [spl] at h)<;>try simp (disch:=omega) only [go_sem,ek,cD,TQ,List.cons_append,List.nil_append,OE,GS,dq,gM,ey zt,ho,h])
 refine dB (aV 200 ?_)
 rw [Rw]
 simp (disch:=omega) only [go_sem,lD]
 rw [P']
 simp (disch:=omega) only [go_sem]
 generalize hH:Hp.push _ (Blk.cells (some 3) false [AV.int .i64 s.zero.lo,AV.int .i64 (s.zero.hi+1),AV.int .i64 s.end_.lo,AV.int .i64 (s.end_.hi+1)])=H1
 have hg:H1.get 2=some (ae 3 (aq (cC eZ (rD s)))):=by rw [←hH,af];rfl
 have hl4:(srt (rD s)).length=4:=by rw [CM];rfl
 refine HX (xs:=rD s) hG Ki hg (by simp [rD]) (by simp [rD]) ?_
 rw [show ((rD s).mergeSort fun x y=>decide (x<=y))=srt (rD s) from rfl,GU]
 simp (disch:=omega) only [go_sem]
 have h2:(H1.setb 2 (some (ae 3 (mI (srt (rD s)))))).get 2=some (ae 3 (mI (srt (rD s)))):=by rw [V,if_pos rfl]
 generalize H1.setb 2 (some (ae 3 (mI (srt (rD s)))))=H2 at h2
 have hpl:cS (srt (rD s)) 4=plc s:=rfl
 have hcp:∀K:AV->Hp->Bool,(∀H' c' zs,H'.get 2=some (ae 3 zs)->zs.take (plc s).length=mI (plc s)->zs.length=4->K (.sl 2 0 (plc s).length 1 c') H'=true)->ay 204 [.sl 2 0 4 1 (some 4)] H2 K=true:=fun K hK=>by
  have hh:=B1 (K:=K) (c:=some 4) h2 (by omega) (by omega) (.inr (by rw [hl4]))
  rw [hl4,hpl] at hh
  exact hh fun H' c' zs a b c _ _=>hK H' c' zs a b c
 refine hcp _ fun H' c' zs hb hz1 hz2=> ?_
 simp (disch:=omega) only [go_sem,ZJ]
 refine iy (d:= .sl 1 (cC iw (plc s)) (plc s).length) (I:=[2]) (.inr rfl) (.sl 2 0 (plc s).length 1 c' (some 3) false zs (aq (cC iw (plc s))) (cC iw (plc s)) [] hb ?_ (.fro _))
 have hpl4:=(m8 s).2.2.2
 rw [fi,dZ,dP _ _ (by omega),hz1,yJ]
theorem apL:ApT P 129 133 3:=⟨by kernel_rfl,by kernel_rfl,by kernel_rfl,by kernel_rfl,by kernel_rfl,by kernel_rfl⟩
theorem apS:ApT P 76 28 2:=⟨by kernel_rfl,by kernel_rfl,by kernel_rfl,by kernel_rfl,by kernel_rfl,by kernel_rfl⟩
theorem JW (l:BF.Lk):(aq (eLk l)).all one=true:=rfl
theorem DH (a b c:Int) (k:AV->Bool):aU 133 [(0, O a),(1, O b),(2, O c)] k=k (.agg [O a, O b, O c]):=by kernel_rfl
theorem BD (a b:Int) (k:AV->Bool):aU 133 [(0, O a),(1, O b)] k=k (.agg [O a, O b, O 0]):=by kernel_rfl
theorem Bv (a b c:Int) (k:Blk->(Nat->AV)->Bool):aO 129 1 [(0,.agg [O a, O b, O c])] k=k (ae 133 [O a, O b, O c]) (jr 1 3):=by kernel_rfl
theorem F1 (a b c d e f:Int) (k:Blk->(Nat->AV)->Bool):aO 129 2 [(0,.agg [O a, O b, O c]),(1,.agg [O d, O e, O f])] k=k (ae 133 [O a, O b, O c, O d, O e, O f]) (jr 2 3):=by kernel_rfl
theorem UP (a b:Int) (k:Blk->(Nat->AV)->Bool):aO 76 1 [(0,.agg [O a, O b])] k=k (ae 28 [O a, O b]) (jr 1 2):=by kernel_rfl
def LA (bl:Nat) (v:AV) (ls:List BF.Lk) (H:Hp):Prop:=(v= .nils/\ls=[])∨(v= .sl bl 0 ls.length 3 none/\bl<H.nx/\H.get bl=some (ae 133 (aq (cC eLk ls))))
theorem LA.frame {bl:Nat} {v:AV} {ls:List BF.Lk} {H H':Hp} (h:LA bl v ls H) (hn:H.nx<=H'.nx) (hf:bl<H.nx->H'.get bl=H.get bl):LA bl v ls H':=by
 rcases h with h | ⟨h1,h2,h3⟩
 ·exact .inl h
 ·exact .inr ⟨h1,by omega,by rw [hf h2];exact h3⟩
theorem LA.stay {bl:Nat} {v:AV} {ls:List BF.Lk} {H H':Hp} (h:LA bl v ls H) (hs:dV H H'):LA bl v ls H':=h.frame hs.1 fun hb=>hs.2 bl hb
theorem LA.one {bl:Nat} {v:AV} {ls:List BF.Lk} {H:Hp} (h:LA bl v ls H):Ev.one v=true:=by rcases h with⟨rfl,_⟩| ⟨rfl,_⟩<;>rfl
theorem LA.cells {bl:Nat} {v:AV} {ls:List BF.Lk} {H:Hp} (h:LA bl v ls H):AV.cells v=[v]:=by rcases h with⟨rfl,_⟩| ⟨rfl,_⟩<;>rfl
theorem LA.same {bl:Nat} {v:AV} {ls:List BF.Lk} {H:Hp} (h:LA bl v ls H) (n:Nat):av (n+1) v v=true:=by
 rcases h with⟨rfl,_⟩| ⟨rfl,_⟩
 ·rfl
 ·exact Cr _ _ _ _ _ _
theorem uW (ls:List BF.Lk):(aq (cC eLk ls)).length=ls.length * 3:=by rw [cL,fB (sz:=3) fun _=>rfl]
theorem JJ {H:Hp} {bl:Nat} {v x:AV} {ls xs:List BF.Lk} {k:AV->Hp->Bool} (h:LA bl v ls H) (hx:∀kk:Nat->List AV->Bool,dX H 3 x kk=kk xs.length (aq (cC eLk xs))) (hne:xs≠[]) (hlen:ls.length+xs.length<=1000)
  (hk:∀v' H',LA H.nx v' (ls++xs) H'->H'.nx=H.nx+1->(∀c,c<H.nx->c≠bl->H'.get c=H.get c)->k v' H'=true):bu H 129 129 v x k=true:=by
 obtain⟨m,hm⟩:∃m,xs.length=m+1:=⟨xs.length - 1,by have:=pD.2 hne;omega⟩
 have hall:(aq (cC eLk xs)).all Go.Ev.one=true:=nQ JW _
 unfold fj
 rw [apL.h1]
 dsimp only
 rw [apL.h2,apL.h3,apL.h4,apL.h5]
 dsimp only
 rw [apL.h6,hx,hall,hm]
 dsimp only
 rcases h with⟨rfl,rfl⟩| ⟨rfl,h2,h3⟩
 ·dsimp only
  rw [show Nat.ble (m+1) 1048576=true from by simp;omega]
  dsimp only
  rw [aI]
  refine hk _ _ (.inr ⟨?_,by rw [am];omega, ?_⟩) (am _ _) fun c hc _=> ?_
  ·rw [gv,hm]
  ·rw [af,if_pos rfl,gv]
  ·rw [af,if_neg (by omega)]
 ·dsimp only
  have hl:=uW ls
  rw [bW,show Nat.ble (ls.length+(m+1)) 1048576=true from by simp only [ml];omega,h3]
  dsimp only
  rw [fi,dP _ _ (by omega),cN (by omega)]
  dsimp only [lZ]
  rw [show Nat.ble (0+(ls.length+(m+1)) * 3) (aq (cC eLk ls)).length=false from by
   rw [hl]
   cases hb:Nat.ble (0+(ls.length+(m+1)) * 3) (ls.length * 3) with
   | false=>rfl
   | true=>have:=dK hb;omega]
  dsimp only
  rw [bH,cJ,aI,bA]
  have hel:oC 0 none (some 133) 133=some 133:=by simp [oC,bW]
  rw [hel]
  refine hk _ _ (.inr ⟨?_,by rw [am,au];omega, ?_⟩) (by rw [am,au]) fun c hc hcb=> ?_
  ·rw [au,gZ,hm]
  ·rw [af,au,if_pos rfl,ri,fx]
  ·rw [af,au,if_neg (by omega),V,if_neg hcb]
theorem WH {H:Hp} {b:Nat} {x y:AV} {a:Int} {k:AV->Hp->Bool} (hb:H.get b=some (ae 3 [O a])) {c:Int} (hx:∀kk:Nat->List AV->Bool,dX H 1 x kk=kk 1 [O c])
  (hk:k (.sl H.nx 0 2 1 none) (H.push (ae 3 [O a, O c]))=true):bu H 51 51 (.sl b 0 1 1 (some 1)) x k=true:=by
 unfold fj
 rw [fZ.h1]
 dsimp only
 rw [fZ.h2,fZ.h3,fZ.h4,fZ.h5]
 dsimp only
 rw [fZ.h6,hx]
 dsimp only
 rw [show ([AV.int .i64 c]).all one=true from rfl]
 dsimp only
 rw [bW,show Nat.ble (1+(0+1)) 1048576=true from rfl,hb]
 dsimp only
 rw [fi,show ew (1 * 1) [AV.int .i64 a]=some [AV.int .i64 a] from rfl]
 dsimp only
 rw [show lZ (some 1) (1+(0+1))=true from rfl]
 dsimp only
 rw [bH,aI,bA]
 exact hk
theorem TZ {H:Hp} {b:Nat} {x y:AV} {a a':Int} {k:AV->Hp->Bool} (hb:H.get b=some (ae 28 [O a, O a'])) {c c':Int} (hx:∀kk:Nat->List AV->Bool,dX H 2 x kk=kk 1 [O c, O c'])
  (hk:k (.sl H.nx 0 2 2 none) (H.push (ae 28 [O a, O a', O c, O c']))=true):bu H 76 76 (.sl b 0 1 2 (some 1)) x k=true:=by
 unfold fj
 rw [apS.h1]
 dsimp only
 rw [apS.h2,apS.h3,apS.h4,apS.h5]
 dsimp only
 rw [apS.h6,hx]
 dsimp only
 rw [show ([AV.int .i64 c,AV.int .i64 c']).all one=true from rfl]
 dsimp only
 rw [bW,show Nat.ble (1+(0+1)) 1048576=true from rfl,hb]
 dsimp only
 rw [fi,show ew (1 * 2) [AV.int .i64 a,AV.int .i64 a']=some [AV.int .i64 a,AV.int .i64 a'] from rfl]
 dsimp only
 rw [show lZ (some 1) (1+(0+1))=true from rfl]
 dsimp only
 rw [bH,aI,bA]
 exact hk
theorem jl {H:Hp} {b n sz:Nat} {c:Option Nat} {el:Option TypeId} {ro:Bool} {cs:List AV} (hb:H.get b=some (.cells el ro cs)) (hl:cs.length=n * sz) (kk:Nat->List AV->Bool):dX H sz (.sl b 0 n sz c) kk=kk n cs:=by
 unfold dX
 dsimp only
 rw [bW,hb]
 dsimp only
 rw [fi,dP _ _ (by omega),cN (by omega)]
 exact bH _ _
theorem Hb {H:Hp} {b8 bl nd:Nat} {v:AV} {sp:gB} {ls:List BF.Lk} {K:AV->Hp->Bool} (h8:At H b8 (ae 129 [v])) (hl:LA bl v ls H) (hne:b8≠bl) (hsp: -9223372036854775807<=sp.lo/\sp.lo<=9223372036854775807) (hlen:ls.length<=900)
  (hK:∀v' bl' H',H.nx<=bl'->At H' b8 (ae 129 [v'])->LA bl' v' (ls++[⟨0,nd,sp.hi⟩,⟨nd,0, -sp.lo⟩]) H'->H.nx<=H'.nx->(∀c,c<H.nx->c≠b8->c≠bl->H'.get c=H.get c)->K (.tup []) H'=true):
  ay 206 [O (nd:Int),.agg (aq (eA sp)),.ptr b8 0] H K=true:=by
 refine cb 200 ?_
 rw [Zk]
 simp only [aI,bJ]
 have hA:=At.push H (ae 28 (aq (eA sp)))
 have hS:=dV.push H (ae 28 (aq (eA sp)))
 generalize H.push (ae 28 (aq (eA sp)))=H1 at hA hS
 have h81:=h8.stay hS
 have hl1:=hl.stay hS
 rw [cf (v:=v) h81.2 lR rfl,bL,cf (v:= O sp.hi) hA.2 ag3 rfl,show (AV.int .i64 0)= O ((0:Nat):Int) from rfl,DH,bL,cf (v:= O sp.lo) hA.2 ag3 rfl,Qn _ (by omega),DH,F1,dq,Int.zero_sub]
 have hA2:=At.push H1 (ae 133 (aq (cC eLk [⟨0,nd,sp.hi⟩,⟨nd,0, -sp.lo⟩])))
 have hS2:=dV.push H1 (ae 133 (aq (cC eLk [⟨0,nd,sp.hi⟩,⟨nd,0, -sp.lo⟩])))
 rw [show H1.push (ae 133 [O ((0:Nat):Int), O (nd:Int), O sp.hi, O (nd:Int), O ((0:Nat):Int), O (-sp.lo)])=H1.push (ae 133 (aq (cC eLk [⟨0,nd,sp.hi⟩,⟨nd,0, -sp.lo⟩]))) from rfl]
 generalize H1.push (ae 133 (aq (cC eLk [⟨0,nd,sp.hi⟩,⟨nd,0, -sp.lo⟩])))=H2 at hA2 hS2
 refine JJ (hl1.stay hS2) (xs:=[⟨0,nd,sp.hi⟩,⟨nd,0, -sp.lo⟩]) (jl hA2.2 rfl) (by simp) (by simp;omega) fun v' H3 hl3 hx3 hf3=> ?_
 have hSS:=hS.trans hS2
 have h83:At H3 b8 (ae 129 [v]):=⟨by have:=h8.1;have:=hSS.1;omega,by rw [hf3 b8 (by have:=h8.1;have:=hSS.1;omega) hne];exact (h8.stay hSS).2⟩
 rw [ex h83.2 lR zp hl3.cells hl3.one (by simp)]
 have hb8:=h8.1
 have hx2:=hSS.1
 refine hK v' H2.nx _ hx2 ⟨by rw [au];exact h83.1,by rw [V,if_pos rfl];rfl⟩ (hl3.frame (by rw [au];exact bh _) fun _=>by rw [V,if_neg (by omega)]) (by rw [au];omega) fun c hc h1 h2=> ?_
 rw [V,if_neg h1,hf3 c (by omega) h2,hSS.2 c hc]
structure CX (s:bo) (lo rc gc pc:Nat) (dps:D) (H:Hp):Prop where
 r:At H rc (ae 74 (aq (ek s)))
 gc:At H gc (ae 123 [.ptr (lo+1) 0])
 pc:At H pc (ae 51 [ofD dps])
 g:∃vn vl,At H (lo+1) (ae 131 [vn,.map lo,vl])
 m:At H lo (.map false (nE (kN s) 0) (kN s).length)
theorem CX.stay {s:bo} {lo rc gc pc:Nat} {dps:D} {H H':Hp} (h:CX s lo rc gc pc dps H) (hs:dV H H'):CX s lo rc gc pc dps H':=
 ⟨h.r.stay hs,h.gc.stay hs,h.pc.stay hs,let ⟨a,b,h⟩:=h.g;⟨a,b,h.stay hs⟩,h.m.stay hs⟩
theorem CX.at188 {s:bo} {lo rc gc pc i:Nat} {dps:D} {H:Hp} {kd n:Int} {K:AV->Hp->Bool} (h:CX s lo rc gc pc dps H) (hi:(kN s)[i]? =some (kd,n)) (hK:K (O (i:Int)) H=true):ay 188 [.ptr (lo+1) 0, O kd, O n] H K=true:=by
 obtain⟨a,b,hg⟩:=h.g
 exact Go.S5.at188 hg.2 h.m.2 (UF s) hi hK
theorem CX.ld {s:bo} {lo rc gc pc:Nat} {dps:D} {H:Hp} {k:AV->Bool} (h:CX s lo rc gc pc dps H):E H 123 (.ptr gc 0) k=k (.ptr (lo+1) 0):=cf h.gc.2 mg rfl
theorem aCX {s:bo} {H:Hp} {b:Nat} {el:Option TypeId} {ro:Bool} {k:AV->Bool} (hb:H.get b=some (.cells el ro (aq (ek s)))):E H 31 (.ptr b 0) k=k (.agg (aq (cD s))):=by
 rw [iE,hb,fy,QG,jc,Gv,show ew 12 ((aq (ek s)).drop 0)=some (aq (cD s)) from rfl,fX]
theorem ym (k:IntKind) (n:Int):Ev.one (.int k n)=true:=rfl
theorem aCR {s:bo} {H:Hp} {b:Nat} {el:Option TypeId} {k:Hp->Bool} (ho:Ev.one (ofD s.ds)=true) (hb:H.get b=some (.cells el false [O 0, O 0, O 0, O 0, O 0, O 0, O 0, O 0, O 0, O 0, O 0,.nils])):
  aA H 31 (.ptr b 0) (.agg (aq (cD s))) k=k (H.setb b (some (.cells el false (aq (cD s))))):=by
 rw [jv,hb,QG,gr,Gv,bJ,show fg [AV.int .i64 0, O 0, O 0, O 0, O 0, O 0, O 0, O 0, O 0, O 0, O 0,.nils] 0 (aq (cD s))=some (aq (cD s)) from rfl,
  show (Nat.beq (aq (cD s)).length 12&&(aq (cD s)).all Go.Ev.one)=true from by simp [cD,aq,ofD,ho,ym],qE]
theorem IE {s:bo} {sp:gB} {H:Hp} {b j:Nat} {el:Option TypeId} {ro:Bool} {k:AV->Bool} (hb:H.get b=some (.cells el ro (aq (cD s)))) (hj:ew 2 ((aq (cD s)).drop j)=some (aq (eA sp))):E H 28 (.ptr b j) k=k (.agg (aq (eA sp))):=by
 rw [iE,hb,fy,Y3,jc,um,hj,fX]
theorem ZD (s:bo):(kN s)[1]? =some (1,0):=rfl
theorem aDS (s:bo):(kN s)[2]? =some (2,0):=rfl
theorem NY (n:Nat) (b:Nat) (xs:List AV) (H:Hp) (k:AV->Hp->Bool):eC n (.fn 206 [] [.ptr b 0]) xs H k=ay 206 (xs++[.ptr b 0]) H k:=by
 rw [o4 (by kernel_rfl) (by kernel_rfl)];rfl
theorem rk {b k:Bool} (h:b=true) (hk:k=true):(Bool.casesOn (motive:=fun _=>Bool) b false k:Bool)=true:=by rw [h];exact hk
structure SA (s:bo) (y:AV) (rc gc pc b5 b8 bl br bs:Nat) (v:AV) (ls:List BF.Lk) (sr sp:List AV) (cr cp:Option Nat) (H0 H:Hp) (t:E2):Prop where
 st:dV H0 H
 t0:t 0=y
 t1:t 1= .ptr rc 0
 t2:t 2= .ptr gc 0
 t3:t 3= .ptr pc 0
 t5:t 5= .ptr b5 0
 t8:t 8= .ptr b8 0
 t7:t 7= O 2
 t11:t 11= .sl br 0 sr.length 1 cr
 t12:t 12= .sl bs 0 sr.length 2 cp
 h5:At H b5 (ae 31 (aq (cD s)))
 h8:At H b8 (ae 129 [v])
 hl:LA bl v ls H
 hr:At H br (ae 3 sr)
 hs:At H bs (ae 28 sp)
 d:H0.nx<=b5/\H0.nx<=b8/\H0.nx<=bl/\H0.nx<=br/\H0.nx<=bs/\b8≠bl/\b5≠b8/\b5≠bl/\br≠b8/\br≠bl/\bs≠b8/\bs≠bl
noncomputable def Qa (K:AV->Hp->Bool):AEx->En->Hp->Bool:=fun x e H=>ac Tryz.f205 {code:=gK 200,call:=ff P G} (fun en H=>fk.casesOn (motive:=fun _=>Bool) en (fun v=>K v H) fun _=>false) x e H
theorem O5 {s:bo} {lo rc gc pc:Nat} {dps:D} {H:Hp} {y:AV} {K:AV->Hp->Bool} (hs:Sl 3 dx s.stops s.ds) (ho:SOK s) (hx:CX s lo rc gc pc dps H)
  (hk:∀t H' b5 b8 bl br bs v,SA s y rc gc pc b5 b8 bl br bs v [⟨0,1,s.in_.hi⟩,⟨1,0, -s.in_.lo⟩,⟨0,2,s.out.hi⟩,⟨2,0, -s.out.lo⟩] [O 1] (aq (eA s.zero)) (some 1) (some 1) H H' t->az 190 232 205 2047 none ⟨t,[]⟩ H' (Qa K)=true):
  ay 205 [y,.ptr rc 0,.ptr gc 0,.ptr pc 0] H K=true:=by
 have hone:=eT hs
 have hio:=ho.i
 have hoo:=ho.o
 refine cb 200 ?_
 rw [aBG,bL,aCX hx.r.2,aI,aCR hone (el:=some 31) (by rw [af,if_pos rfl])]
 have hA:=mA H (ae 31 [O 0, O 0, O 0, O 0, O 0, O 0, O 0, O 0, O 0, O 0, O 0,.nils]) (ae 31 (aq (cD s)))
 have hS:=ii H (ae 31 [O 0, O 0, O 0, O 0, O 0, O 0, O 0, O 0, O 0, O 0, O 0,.nils]) (ae 31 (aq (cD s)))
 generalize Hp.setb (H.push (ae 31 [O 0, O 0, O 0, O 0, O 0, O 0, O 0, O 0, O 0, O 0, O 0,.nils])) H.nx (some (ae 31 (aq (cD s))))=H1 at hA hS
 have hx1:=hx.stay hS
 have hld:=fun k=>hx1.ld (k:=k)
 rw [hx1.ld,hx1.ld,bq]
 refine hx1.at188 (ZD s) ?_
 with_reducible refine rk (by simp (disch:=exact bk rfl) only [bI,ct,bP,dE,hld,m7]) ?_
 rw [bq]
 refine hx1.at188 (aDS s) ?_
 with_reducible refine rk (by simp (disch:=exact bk rfl) only [bI,ct,bP,dE,hld,m7]) ?_
 rw [cQ,aI]
 have h8:=At.push H1 (ae 129 [.nils])
 have hS2:=hS.trans (dV.push H1 (ae 129 [.nils]))
 have h5:=hA.p (y:= ae 129 [.nils])
 have hn1:=hA.1
 have hn0:=hS.1
 generalize hb8:H1.nx=b8 at h8
 generalize H1.push (ae 129 [.nils])=H2 at h8 hS2 h5
 rw [bL,IE h5.2 (sp:=s.in_) rfl,NY]
 have hn2:=h8.1
 refine Hb (nd:=1) h8 (.inl ⟨rfl,rfl⟩) (bl:=H2.nx) (by omega) (by omega) (by simp) fun v3 bl3 H3 hb3 h83 hl3 hn3 hf3=> ?_
 have h53:At H3 H.nx (ae 31 (aq (cD s))):=⟨by have:=h5.1;omega,(hf3 _ h5.1 (by omega) (by have:=h5.1;omega)).trans h5.2⟩
 have hS3:dV H H3:=⟨by have:=hS2.1;omega,fun c hc=>(hf3 c (by have:=hS2.1;omega) (by omega) (by have:=hS2.1;omega)).trans (hS2.2 c hc)⟩
 rw [bL,IE h53.2 (sp:=s.out) rfl,NY]
 refine Hb (nd:=2) h83 hl3 (by omega) (by omega) (by simp) fun v4 bl4 H4 hb4 h84 hl4 hn4 hf4=> ?_
 have h54:At H4 H.nx (ae 31 (aq (cD s))):=⟨by have:=h53.1;omega,(hf4 _ h53.1 (by omega) (by have:=h5.1;omega)).trans h53.2⟩
 have hS4:dV H H4:=⟨by have:=hS3.1;omega,fun c hc=>(hf4 c (by have:=hS3.1;omega) (by omega) (by have:=hS2.1;omega)).trans (hS3.2 c hc)⟩
 have e1:((1:Nat):Int)=1:=rfl
 have e2:((2:Nat):Int)=2:=rfl
 rw [e1,e2,aI,rQ,aI,bL,IE ((h54.p).p).2 (sp:=s.zero) rfl,show (AV.agg (aq (eA s.zero)))= .agg [O s.zero.lo, O s.zero.hi] from rfl,UP,aI]
 have hM:=dV.push H4 (.map false [] 0)
 generalize H4.push (.map false [] 0)=H5 at hM
 have hR:=At.push H5 (ae 3 [O 1])
 have hM2:=hM.trans (dV.push H5 (ae 3 [O 1]))
 have hbr:=hM.1
 generalize hH6:H5.push (ae 3 [O 1])=H6 at hR hM2
 have hbs:=hM2.1
 have hbs2:H5.nx<H6.nx:=hR.1
 have hP:=At.push H6 (ae 28 [O s.zero.lo, O s.zero.hi])
 have hM3:=hM2.trans (dV.push H6 (ae 28 [O s.zero.lo, O s.zero.hi]))
 have hR2:=hR.p (y:= ae 28 [O s.zero.lo, O s.zero.hi])
 generalize H6.push (ae 28 [O s.zero.lo, O s.zero.hi])=H7 at hP hM3 hR2
 have hS7:=hS4.trans hM3
 have hx7:=hx.stay hS7
 rw [bL,cf (v:= .nils) hx7.r.2 XY rfl,ey zt]
 refine dB (aV 200 ?_)
 rw [Pz]
 simp (disch:=omega) only [go_sem,lD,dq]
 have hbl4:H4.nx<=H4.nx:=bh _
 refine hk _ H7 H.nx b8 bl4 H5.nx H6.nx v4 ⟨hS7, ?_, ?_, ?_, ?_, ?_, ?_, ?_, ?_, ?_,h54.stay hM3,h84.stay hM3,hl4.stay hM3,hR2,hP, ?_⟩
 ·simp (disch:=omega) only [go_sem]
 ·simp (disch:=omega) only [go_sem]
 ·simp (disch:=omega) only [go_sem]
 ·simp (disch:=omega) only [go_sem]
 ·simp (disch:=omega) only [go_sem]
 ·simp (disch:=omega) only [go_sem]
 ·simp (disch:=omega) only [go_sem]
 ·simp (disch:=omega) only [go_sem]
 ·simp (disch:=omega) only [go_sem]
 ·have a1:=h84.1
  have a2:bl4<H4.nx:=by
   rcases hl4 with⟨_,h⟩| ⟨_,h,_⟩
   ·simp at h
   ·exact h
  refine⟨by omega,by omega,by omega,by omega,by omega,by omega,by omega,by omega,by omega,by omega,by omega,by omega⟩
theorem kH {H:Hp} {n:Nat} (hn:H.nx<=n):dV H ⟨H.t,n⟩:=⟨hn,fun _ _=>rfl⟩
theorem At.set {H:Hp} {b:Nat} {x:Blk} (hb:b<H.nx):At (H.setb b (some x)) b x:=⟨by rw [au];exact hb,by rw [V,if_pos rfl]⟩
theorem HP (sp:gB):(av 1000 (.agg [O sp.lo, O sp.hi]) (.agg (aq (eA sp)))&&true)=true:=by
 rw [nq,show aq (eA sp)=[O sp.lo, O sp.hi] from rfl]
 simp (disch:=omega) only [go_sem]
theorem Qz {s:bo} {lo rc gc pc b5 b8 bl br bs:Nat} {dps:D} {H0 H:Hp} {y v:AV} {ls:List BF.Lk} {t:E2} {k:AEx->En->Hp->Bool} (hx:CX s lo rc gc pc dps H0) (hne:ls≠[]) (h:SA s y rc gc pc b5 b8 bl br bs v ls [O 1] (aq (eA s.zero)) (some 1) (some 1) H0 H t)
  (hk:∀t' H' br' bs',SA s y rc gc pc b5 b8 bl br' bs' v ls [O 1, O 2] (aq (eA s.zero)++aq (eA s.end_)) none none H0 H' t'->az 188 232 205 8191 none ⟨t',[]⟩ H' k=true):
  az 190 232 205 2047 none ⟨t,[]⟩ H k=true:=by
 obtain⟨hst,t0,t1,t2,t3,t5,t8,t7,t11,t12,h5,h8,hl,hr,hs,d1,d2,d3,d4,d5,d6,d7,d8,d9,d10,d11,d12⟩:=h
 rw [Pn,t7,t5,t11,t12,t1,rQ,dM,bL]
 have hR1:dV H ⟨H.t,H.nx+1⟩:=kH (by omega)
 rw [IE (h5.stay hR1).2 (sp:=s.end_) rfl,show (AV.agg (aq (eA s.end_)))= .agg [O s.end_.lo, O s.end_.hi] from rfl,UP,dM]
 have hR2:dV H ⟨H.t,H.nx+2⟩:=kH (by omega)
 rw [zN (by decide),im (by decide),bq,dq]
 dsimp only
 have e1:=(hR2.setb (b:=H.nx) (x:=some (ae 3 [O 2])) (bh _))
 have e2:At (Hp.setb ⟨H.t,H.nx+2⟩ H.nx (some (ae 3 [O 2]))) H.nx (ae 3 [O 2]):=At.set (by show H.nx<H.nx+2;omega)
 have e3:(Hp.setb ⟨H.t,H.nx+2⟩ H.nx (some (ae 3 [O 2]))).nx=H.nx+2:=rfl
 rw [show H.nx+1+1=H.nx+2 from rfl]
 generalize Hp.setb ⟨H.t,H.nx+2⟩ H.nx (some (ae 3 [O 2]))=H1 at e1 e2 e3
 refine WH (y:= .nils) (hr.stay e1).2 (jl e2.2 rfl) ?_
 have f1:=e1.trans (dV.push H1 (ae 3 [O 1, O 2]))
 have f2:=At.push H1 (ae 3 [O 1, O 2])
 have f3:(H1.push (ae 3 [O 1, O 2])).nx=H.nx+3:=by rw [am,e3]
 rw [e3] at f2⊢
 generalize H1.push (ae 3 [O 1, O 2])=H2 at f1 f2 f3
 have hle:=fun (H':Hp) (hh:dV H H') (k:AV->Bool)=>IE (k:=k) (j:=0+7) (h5.stay hh).2 (sp:=s.end_) rfl
 with_reducible refine rk (by simp (disch:=exact bk rfl) only [bI,ct,bP,dE,hle H2 f1];exact HP s.end_) ?_
 rw [im (by decide),bq,dq]
 have g1:=f1.setb (b:=H.nx+1) (x:=some (ae 28 [O s.end_.lo, O s.end_.hi])) (by omega)
 have g2:At (H2.setb (H.nx+1) (some (ae 28 [O s.end_.lo, O s.end_.hi]))) (H.nx+1) _:=At.set (by omega)
 have g3:At (H2.setb (H.nx+1) (some (ae 28 [O s.end_.lo, O s.end_.hi]))) (H.nx+2) (ae 3 [O 1, O 2]):=⟨by rw [au];omega,by rw [V,if_neg (by omega)];exact f2.2⟩
 have g4:(H2.setb (H.nx+1) (some (ae 28 [O s.end_.lo, O s.end_.hi]))).nx=H.nx+3:=by rw [au];exact f3
 generalize H2.setb (H.nx+1) (some (ae 28 [O s.end_.lo, O s.end_.hi]))=H3 at g1 g2 g3 g4
 refine TZ (y:= .nils) (a:=s.zero.lo) (a':=s.zero.hi) (hs.stay g1).2 (jl g2.2 rfl) ?_
 have i1:=g1.trans (dV.push H3 (ae 28 [O s.zero.lo, O s.zero.hi, O s.end_.lo, O s.end_.hi]))
 have i2:=At.push H3 (ae 28 [O s.zero.lo, O s.zero.hi, O s.end_.lo, O s.end_.hi])
 have i3:=g3.p (y:= ae 28 [O s.zero.lo, O s.zero.hi, O s.end_.lo, O s.end_.hi])
 rw [g4] at i2⊢
 generalize H3.push (ae 28 [O s.zero.lo, O s.zero.hi, O s.end_.lo, O s.end_.hi])=H4 at i1 i2 i3
 have hS4:=hst.trans i1
 have hx4:=hx.stay hS4
 with_reducible refine rk (by simp (disch:=exact bk rfl) only [bI,ct,bP,dE]) ?_
 rw [cQ,bL,cf (v:= .nils) hx4.r.2 aDI rfl,ey Ff]
 refine dB (aV 200 ?_)
 rw [QR]
 simp (disch:=omega) only [go_sem,lD]
 have hn:=hst.1
 have h5n:=h5.1
 have h8n:=h8.1
 refine hk _ H4 (H.nx+2) (H.nx+3) ⟨hS4, ?_, ?_, ?_, ?_, ?_, ?_, ?_, ?_, ?_,h5.stay i1,h8.stay i1,hl.stay i1,i3,i2, ?_⟩
 ·simp (disch:=omega) only [go_sem,t0]
 ·simp (disch:=omega) only [go_sem,t1]
 ·simp (disch:=omega) only [go_sem,t2]
 ·simp (disch:=omega) only [go_sem,t3]
 ·simp (disch:=omega) only [go_sem,t5]
 ·simp (disch:=omega) only [go_sem,t8]
 ·simp (disch:=omega) only [go_sem,t7]
 ·simp (disch:=omega) only [go_sem]
 ·simp (disch:=omega) only [go_sem]
 ·have a2:bl<H.nx:=by
   rcases hl with⟨_,h⟩| ⟨_,h,_⟩
   ·exact absurd h hne
   ·exact h
  refine⟨by omega,by omega,by omega,by omega,by omega,by omega,by omega,by omega,by omega,by omega,by omega,by omega⟩
theorem SA.bl {s:bo} {y:AV} {rc gc pc b5 b8 bl br bs:Nat} {v:AV} {ls:List BF.Lk} {sr sp:List AV} {cr cp:Option Nat} {H0 H:Hp} {t:E2} (h:SA s y rc gc pc b5 b8 bl br bs v ls sr sp cr cp H0 H t) (hne:ls≠[]):bl<H.nx:=by
 rcases h.hl with⟨_,h⟩| ⟨_,h,_⟩
 ·exact absurd h hne
 ·exact h
theorem ldI {H:Hp} {b n:Nat} {el:Option TypeId} {ro:Bool} {cs:List AV} {x:Int} {k:AV->Bool} (hb:H.get b=some (.cells el ro cs)) (hx:cs[n]? =some (O x)):E H 3 (.ptr b n) k=k (O x):=cf hb ag3 hx
theorem C0 {b n:Nat} {c:Option Nat} {H:Hp} {k:AV->Bool}:ak 51 (.sl b 0 n 1 c) H k=k (O (n:Int)):=by unfold kJ;rw [kQ];rfl
theorem N2 {s:bo} {y:AV} {rc gc pc b5 b8 bl br bs:Nat} {v x:AV} {ls xs:List BF.Lk} {sr sp:List AV} {cr cp:Option Nat} {H0 H H1:Hp} {t:E2} {k:AV->Hp->Bool} (h:SA s y rc gc pc b5 b8 bl br bs v ls sr sp cr cp H0 H t) (hne:ls≠[]) (hs1:dV H H1) (hx:∀kk:Nat->List AV->Bool,dX H1 3 x kk=kk xs.length (aq (cC eLk xs))) (hxn:xs≠[]) (hlen:ls.length+xs.length<=1000)
  (hk:∀v' H2,Ev.one v'=true->AV.cells v'=[v']->H2.get b8=some (ae 129 [v])->(∀t' H',H'=H2.setb b8 (some (ae 129 [v']))->t' 0=t 0->t' 1=t 1->t' 2=t 2->t' 3=t 3->t' 5=t 5->t' 8=t 8->t' 7=t 7->t' 11=t 11->t' 12=t 12->SA s y rc gc pc b5 b8 H1.nx br bs v' (ls++xs) sr sp cr cp H0 H' t')->k v' H2=true):
  bu H1 129 129 v x k=true:=by
 have hbl:=h.bl hne
 obtain⟨hst,t0,t1,t2,t3,t5,t8,t7,t11,t12,h5,h8,hl,hr,hs,d1,d2,d3,d4,d5,d6,d7,d8,d9,d10,d11,d12⟩:=h
 refine JJ (hl.stay hs1) hx hxn hlen fun v' H2 hl2 hx2 hf2=> ?_
 have hn:=hs1.1
 have hn0:=hst.1
 have p:∀{b:Nat} {z:Blk},At H b z->b≠bl->b≠b8->At (H2.setb b8 (some (ae 129 [v']))) b z:=fun {b z} ha h1 h2=>⟨by rw [au];have:=ha.1;omega,by rw [V,if_neg h2,hf2 b (by have:=ha.1;omega) h1];exact (ha.stay hs1).2⟩
 have a5:=h5.1
 have a8:=h8.1
 have ar:=hr.1
 have as_:=hs.1
 refine hk v' H2 hl2.one hl2.cells ((hf2 b8 (by omega) d6).trans (h8.stay hs1).2) fun t' H' hH u0 u1 u2 u3 u5 u8 u7 u11 u12=> ?_
 subst hH
 refine⟨⟨by rw [au];omega,fun c hc=> ?_⟩,u0.trans t0,u1.trans t1,u2.trans t2,u3.trans t3,u5.trans t5,u8.trans t8,u7.trans t7,u11.trans t11,u12.trans t12,p h5 d8 d7,⟨by rw [au];omega,by rw [V,if_pos rfl]⟩,hl2.frame (by rw [au];exact bh _) fun _=>by rw [V,if_neg (by omega)],p hr d10 d9,p hs d12 d11,by omega,by omega,by omega,by omega,by omega,by omega,by omega,by omega,by omega,by omega,by omega,by omega⟩
 rw [V,if_neg (by omega),hf2 c (by omega) (by omega),hs1.2 c (by omega),hst.2 c hc]
theorem SV {s:bo} {rc gc pc b5 b8 bl br bs:Nat} {H0 H:Hp} {y v:AV} {ls:List BF.Lk} {sp:List AV} {t:E2} {k:AEx->En->Hp->Bool} (hne:ls≠[]) (hlen:ls.length<=900) (h:SA s y rc gc pc b5 b8 bl br bs v ls [O 1, O 2] sp none none H0 H t)
  (hk:∀t' H' bl' v',SA s y rc gc pc b5 b8 bl' br bs v' (ls++[⟨2,1,0⟩]) [O 1, O 2] sp none none H0 H' t'->az 187 232 205 16383 none ⟨t',[]⟩ H' k=true):
  az 188 232 205 8191 none ⟨t,[]⟩ H k=true:=by
 have h':=h
 obtain⟨hst,t0,t1,t2,t3,t5,t8,t7,t11,t12,h5,h8,hl,hr,hs,_⟩:=h'
 rw [QW]
 refine lV 2 (er ?_)
 have u8:(es t [(18,AV.int .i64 1)]) 8= .ptr b8 0:=by simp (disch:=omega) only [go_sem,t8]
 have u11:(es t [(18,AV.int .i64 1)]) 11= .sl br 0 2 1 none:=by simp (disch:=omega) only [go_sem,t11,dR,jG]
 have u18:(es t [(18,AV.int .i64 1)]) 18= O ((1:Nat):Int):=by simp (disch:=omega) only [go_sem];rfl
 rw [HD,u8,u11,u18,C0,cB,show decide (((1:Nat):Int)<((2:Nat):Int))=true from rfl,dH,cf (v:=v) h8.2 lR rfl,gX kQ in3 ce3 (by omega),ldI (x:=2) hr.2 rfl,jH _ _ _ _ (by omega),show ((1:Nat):Int) - 1=((0:Nat):Int) from rfl,gX kQ in3 ce3 (by omega),ldI (x:=1) hr.2 rfl,BD,Bv,dM,im (by decide),bq,dq]
 have e1:=((kH (H:=H) (n:=H.nx+1) (by omega)).setb (b:=H.nx) (x:=some (ae 133 [O 2, O 1, O 0])) (bh _))
 have e2:At (Hp.setb ⟨H.t,H.nx+1⟩ H.nx (some (ae 133 [O 2, O 1, O 0]))) H.nx _:=At.set (by show H.nx<H.nx+1;omega)
 generalize Hp.setb ⟨H.t,H.nx+1⟩ H.nx (some (ae 133 [O 2, O 1, O 0]))=H1 at e1 e2
 refine N2 (xs:=[⟨2,1,0⟩]) h hne e1 (jl e2.2 rfl) (by simp) (by simp;omega) fun v' H2 ho hc hg hSA=> ?_
 with_reducible refine rk (by simp (disch:=exact bk rfl) only [bI,ct,bP,dE]) ?_
 rw [bq,ex hg lR zp hc ho (by simp)]
 with_reducible refine rk (by simp (disch:=exact bk rfl) only [bI,ct,bP,dE]) ?_
 rw [cQ,kn _ _ _ _ (by omega)]
 rw [show ([v]:List AV).set 0 v'=[v'] from rfl]
 rw [eU]
 refine er ?_
 rw [HD]
 have hlt:(((1:Nat):Int)+1<((2:Nat):Int))=False:=by simp
 simp (disch:=omega) only [go_sem,t11,C0,hlt,dR,jG]
 refine hk _ _ H1.nx v' (hSA _ _ rfl ?_ ?_ ?_ ?_ ?_ ?_ ?_ ?_ ?_)
 all_goals simp (disch:=omega) only [go_sem]
theorem DA {s:bo} {lo rc gc pc b5 b8 bl br bs i nd:Nat} {dps:D} {H0 H:Hp} {y v:AV} {ls:List BF.Lk} {sp:gB} {sps:List AV} {t:E2} {k:AEx->En->Hp->Bool} (hx:CX s lo rc gc pc dps H0) (hne:ls≠[]) (hlen:ls.length<=900) (h:SA s y rc gc pc b5 b8 bl br bs v ls [O 1, O 2] sps none none H0 H t)
  (hi:i<2) (hr1:([O 1, O 2]:List AV)[i]? =some (O (nd:Int))) (hp1:sps[i * 2]? =some (O sp.lo)) (hp2:sps[i * 2+1]? =some (O sp.hi)) (hb: -4000000000000000000<=sp.hi/\sp.hi<=4000000000000000000) (hm1:sp.lo∈plc s) (hm2:sp.hi+1∈plc s)
  (t125:t 125= .sl br 0 2 1 none) (t126:t 126= O 2) (t127:t 127= O (i:Int))
  (hk:∀t' H' bl' v',SA s y rc gc pc b5 b8 bl' br bs v' (ls++[⟨nd,pA s sp.lo,0⟩,⟨pA s (sp.hi+1),nd,0⟩]) [O 1, O 2] sps none none H0 H' t'->t' 125= .sl br 0 2 1 none->t' 126= O 2->t' 127= O ((i+1:Nat):Int)->k .normal ⟨t',[]⟩ H'=true):
  az 200 232 205 131066 none ⟨t,[]⟩ H k=true:=by
 have h':=h
 obtain⟨hst,t0,t1,t2,t3,t5,t8,t7,t11,t12,h5,h8,hl,hr,hs,_⟩:=h'
 have hx1:=hx.stay hst
 have t12':t 12= .sl bs 0 2 2 none:=t12
 have hlt:((i:Int)<2)=True:=by simp;omega
 have z0:∀j,j+0=j:=fun j=>rfl
 rw [IY,t127,t126,t125,t8,t2,t12',cB]
 simp only [hlt,dL,dH]
 have L1:∀(k:AV->Bool),E H 3 (.ptr bs (0+i * 2+0)) k=k (O sp.lo):=fun k=>ldI hs.2 (by rw [ca];exact hp1)
 have L2:∀(k:AV->Bool),E H 3 (.ptr bs (0+i * 2+1)) k=k (O sp.hi):=fun k=>ldI hs.2 (by rw [ca];exact hp2)
 have L3:∀(k:AV->Bool),E H 129 (.ptr b8 0) k=k v:=fun k=>cf (v:=v) h8.2 lR rfl
 have L4:∀(k:AV->Bool),E H 123 (.ptr gc 0) k=k (.ptr (lo+1) 0):=fun k=>hx1.ld
 have A1:=hl.same 999
 rw [gX kQ in3 ce3 hi,ldI (x:=(nd:Int)) hr.2 (by rw [ca,dZ];exact hr1),L3,L4,gX oF D9 um hi,bL,L1,L4,gX oF D9 um hi,bL,L2,kn _ _ _ _ (by omega),bq]
 refine hx1.at188 (OM hm1) ?_
 with_reducible refine rk (by simp (disch:=exact bk rfl) only [bI,ct,bP,dE,L1,L2,L3,L4,A1,m7,lv]) ?_
 rw [BD,bq]
 refine hx1.at188 (OM hm2) ?_
 with_reducible refine rk (by simp (disch:=exact bk rfl) only [bI,ct,bP,dE,L1,L2,L3,L4,A1,m7,lv]) ?_
 rw [BD,F1,dM,im (by decide),bq,dq]
 have e1:=((kH (H:=H) (n:=H.nx+1) (by omega)).setb (b:=H.nx) (x:=some (ae 133 (aq (cC eLk [⟨nd,pA s sp.lo,0⟩,⟨pA s (sp.hi+1),nd,0⟩])))) (bh _))
 have e2:At (Hp.setb ⟨H.t,H.nx+1⟩ H.nx (some (ae 133 (aq (cC eLk [⟨nd,pA s sp.lo,0⟩,⟨pA s (sp.hi+1),nd,0⟩]))))) H.nx _:=At.set (by show H.nx<H.nx+1;omega)
 rw [show (Hp.setb ⟨H.t,H.nx+1⟩ H.nx (some (ae 133 [O (nd:Int), O (pA s sp.lo:Int), O 0, O (pA s (sp.hi+1):Int), O (nd:Int), O 0])))=Hp.setb ⟨H.t,H.nx+1⟩ H.nx (some (ae 133 (aq (cC eLk [⟨nd,pA s sp.lo,0⟩,⟨pA s (sp.hi+1),nd,0⟩])))) from rfl]
 generalize Hp.setb ⟨H.t,H.nx+1⟩ H.nx (some (ae 133 (aq (cC eLk [⟨nd,pA s sp.lo,0⟩,⟨pA s (sp.hi+1),nd,0⟩]))))=H1 at e1 e2
 refine N2 (xs:=[⟨nd,pA s sp.lo,0⟩,⟨pA s (sp.hi+1),nd,0⟩]) h hne e1 (jl e2.2 rfl) (by simp) (by simp;omega) fun v' H2 ho hc hg hSA=> ?_
 with_reducible refine rk (by simp (disch:=exact bk rfl) only [bI,ct,bP,dE]) ?_
 rw [bq,ex hg lR zp hc ho (by simp)]
 with_reducible refine rk (by simp (disch:=exact bk rfl) only [bI,ct,bP,dE]) ?_
 rw [cQ,kn _ _ _ _ (by omega)]
 rw [show ([v]:List AV).set 0 v'=[v'] from rfl]
 refine hk _ _ H1.nx v' (hSA _ _ rfl ?_ ?_ ?_ ?_ ?_ ?_ ?_ ?_ ?_) ?_ ?_ ?_
 all_goals simp (disch:=omega) only [go_sem,t125,t126]
 rfl
theorem Tc {s:bo} {lo rc gc pc b5 b8 bl br bs:Nat} {dps:D} {H0 H:Hp} {y v:AV} {ls:List BF.Lk} {t:E2} {k:AEx->En->Hp->Bool} (ho:SOK s) (hx:CX s lo rc gc pc dps H0) (hne:ls≠[]) (hlen:ls.length<=800) (h:SA s y rc gc pc b5 b8 bl br bs v ls [O 1, O 2] (aq (eA s.zero)++aq (eA s.end_)) none none H0 H t)
  (hk:∀t' H' bl' v',SA s y rc gc pc b5 b8 bl' br bs v' (ls++[⟨1,pA s s.zero.lo,0⟩,⟨pA s (s.zero.hi+1),1,0⟩,⟨2,pA s s.end_.lo,0⟩,⟨pA s (s.end_.hi+1),2,0⟩]) [O 1, O 2] (aq (eA s.zero)++aq (eA s.end_)) none none H0 H' t'->az 186 232 205 32767 none ⟨t',[]⟩ H' k=true):
  az 187 232 205 16383 none ⟨t,[]⟩ H k=true:=by
 have hm:=(m8 s).2.1
 have hz:=ho.z
 have he:=ho.e
 have h':=h
 obtain⟨hst,t0,t1,t2,t3,t5,t8,t7,t11,t12,h5,h8,hl,hr,hs,hd⟩:=h'
 have t11':t 11= .sl br 0 2 1 none:=t11
 rw [Jl,t11',C0]
 have hB:SA s y rc gc pc b5 b8 bl br bs v ls [O 1, O 2] (aq (eA s.zero)++aq (eA s.end_)) none none H0 H (es t (ao 125 [AV.sl br 0 2 1 none,AV.int .i64 ((2:Nat):Int),AV.int .i64 0] [])):=by
  refine⟨hst, ?_, ?_, ?_, ?_, ?_, ?_, ?_, ?_, ?_,h5,h8,hl,hr,hs,hd⟩
  all_goals simp (disch:=omega) only [go_sem,t0,t1,t2,t3,t5,t8,t7,t11,t12]
 have u125:(es t (ao 125 [AV.sl br 0 2 1 none,AV.int .i64 ((2:Nat):Int),AV.int .i64 0] [])) 125= .sl br 0 2 1 none:=by simp (disch:=omega) only [go_sem]
 have u126:(es t (ao 125 [AV.sl br 0 2 1 none,AV.int .i64 ((2:Nat):Int),AV.int .i64 0] [])) 126= O 2:=by simp (disch:=omega) only [go_sem];rfl
 have u127:(es t (ao 125 [AV.sl br 0 2 1 none,AV.int .i64 ((2:Nat):Int),AV.int .i64 0] [])) 127= O ((0:Nat):Int):=by simp (disch:=omega) only [go_sem];rfl
 generalize es t (ao 125 [AV.sl br 0 2 1 none,AV.int .i64 ((2:Nat):Int),AV.int .i64 0] [])=t4 at hB u125 u126 u127
 refine lV 3 (er ?_)
 refine DA (i:=0) (nd:=1) (sp:=s.zero) hx hne (by omega) hB (by omega) rfl rfl rfl (by omega) ((hm _).2 (by simp)) ((hm _).2 (by simp)) u125 u126 u127 fun t5 H5 bl5 v5 h5 w125 w126 w127=> ?_
 rw [eU]
 refine er ?_
 refine DA (i:=1) (nd:=2) (sp:=s.end_) hx (by simp) (by simp;omega) h5 (by omega) rfl rfl rfl (by omega) ((hm _).2 (by simp)) ((hm _).2 (by simp)) w125 w126 w127 fun t6 H6 bl6 v6 h6 x125 x126 x127=> ?_
 rw [eU]
 refine er ?_
 rw [IY,x126,x127,cB]
 have hlt:(((1+1:Nat):Int)<2)=False:=by simp
 have h6':=h6
 obtain⟨hst,t0,t1,t2,t3,t5,t8,t7,t11,t12,h5,h8,hl,hr,hs,hd⟩:=h6'
 simp (disch:=omega) only [go_sem,hlt]
 refine hk _ H6 bl6 v6 ?_
 rw [ki] at h6
 refine⟨hst, ?_, ?_, ?_, ?_, ?_, ?_, ?_, ?_, ?_,h5,h8,h6.hl,hr,hs,hd⟩
 all_goals simp (disch:=omega) only [go_sem,t0,t1,t2,t3,t5,t8,t7,t11,t12]
structure YR (lo L1:Nat) (y:AV) (Y:Nat->List BF.Lk->Hp->Prop):Prop where
 st:∀bK ls H H',Y bK ls H->dV H H'->Y bK ls H'
 yl:∀n,n=193∨n=188->∀bK ls x H (K:AV->Hp->Bool),Y bK ls H->ls.length<=100->(∀bK' H',H.nx<=bK'->Y bK' (ls++[x]) H'->H.nx<=H'.nx->(∀c,c<H.nx->c≠lo+1->c≠L1->c≠bK->H'.get c=H.get c)->K (.bool true) H'=true)->eC n y [.agg (aq (eLk x))] H K=true
 cx:∀bK ls H,Y bK ls H->∃vn vl,At H (lo+1) (ae 131 [vn,.map lo,vl])
 bK:∀bK ls H,Y bK ls H->L1<=bK
 lt:∀bK ls H,Y bK ls H->bK<H.nx
def YF (lo L1 bK:Nat) (H H':Hp):Prop:=H.nx<=H'.nx/\∀c,c<H.nx->c≠lo+1->c≠L1->c≠bK->H'.get c=H.get c
theorem At.yf {lo L1 bK b:Nat} {H H':Hp} {x:Blk} (h:At H b x) (hf:YF lo L1 bK H H') (h1:b≠lo+1) (h2:b≠L1) (h3:b≠bK):At H' b x:=⟨gY h.1 hf.1,(hf.2 b h.1 h1 h2 h3).trans h.2⟩
theorem CX.yf {s:bo} {lo L1 bK bK' rc gc pc:Nat} {dps:D} {H H':Hp} {y:AV} {Y:Nat->List BF.Lk->Hp->Prop} {ls ls':List BF.Lk} (hy:YR lo L1 y Y) (h:CX s lo rc gc pc dps H) (hb:Y bK ls H) (hf:YF lo L1 bK H H') (hY:Y bK' ls' H') (hL:rc<L1/\gc<L1/\pc<L1/\lo<L1/\rc≠lo+1/\gc≠lo+1/\pc≠lo+1):CX s lo rc gc pc dps H':=by
 have:=hy.bK _ _ _ hb
 exact⟨h.r.yf hf (by omega) (by omega) (by omega),h.gc.yf hf (by omega) (by omega) (by omega),h.pc.yf hf (by omega) (by omega) (by omega),hy.cx _ _ _ hY,h.m.yf hf (by omega) (by omega) (by omega)⟩
theorem aEC {H:Hp} {b i:Nat} {ls:List BF.Lk} {el:Option TypeId} {ro:Bool} {k:AV->Bool} (hb:H.get b=some (.cells el ro (aq (cC eLk ls)))) (hi:i<ls.length):E H 133 (.ptr b (0+i * 3)) k=k (.agg (aq (eLk ls[i]))):=by
 rw [iE,hb,fy,xd,jc,rB,ca,bv yy hi,fX]
structure SB5 (s:bo) (y:AV) (rc gc pc b5:Nat) (H:Hp) (t:E2):Prop where
 t0:t 0=y
 t1:t 1= .ptr rc 0
 t2:t 2= .ptr gc 0
 t3:t 3= .ptr pc 0
 t5:t 5= .ptr b5 0
 h5:At H b5 (ae 31 (aq (cD s)))
theorem Qw {s:bo} {lo L1 rc gc pc b5 bl bK i:Nat} {dps:D} {H:Hp} {y:AV} {Y:Nat->List BF.Lk->Hp->Prop} {ls done:List BF.Lk} {t:E2} {k:AEx->En->Hp->Bool} (hy:YR lo L1 y Y) (hL:rc<L1/\gc<L1/\pc<L1/\lo<L1/\rc≠lo+1/\gc≠lo+1/\pc≠lo+1) (hb:L1<b5/\L1<bl/\lo+1<L1) (hx:CX s lo rc gc pc dps H) (h:SB5 s y rc gc pc b5 H t) (hY:Y bK done H) (hlen:done.length<=100) (hl:At H bl (ae 133 (aq (cC eLk ls)))) (hk5:b5≠bK) (hkl:bl≠bK) (hi:i<ls.length) (hl2:ls.length<=1000)
  (t155:t 155= .sl bl 0 ls.length 3 none) (t156:t 156= O (ls.length:Int)) (t157:t 157= O (i:Int))
  (hk:∀t' H' bK',CX s lo rc gc pc dps H'->SB5 s y rc gc pc b5 H' t'->Y bK' (done++[ls[i]]) H'->At H' bl (ae 133 (aq (cC eLk ls)))->b5≠bK'->bl≠bK'->t' 155= .sl bl 0 ls.length 3 none->t' 156= O (ls.length:Int)->t' 157= O ((i+1:Nat):Int)->k .normal ⟨t',[]⟩ H'=true):
  az 200 232 205 262138 none ⟨t,[]⟩ H k=true:=by
 obtain⟨t0,t1,t2,t3,t5,h5⟩:=h
 have hlt:((i:Int)<(ls.length:Int))=True:=by simp;omega
 rw [FB,t155,t156,t157,t0,cB]
 simp only [hlt,dL,dH]
 rw [gX xc GD rB hi,aEC hl.2 hi,aI,zu (el:=some 133) (by rw [af,if_pos rfl])]
 have hA:=mA H (ae 133 [O 0, O 0, O 0]) (ae 133 (aq (eLk ls[i])))
 have hS:=ii H (ae 133 [O 0, O 0, O 0]) (ae 133 (aq (eLk ls[i])))
 generalize Hp.setb (H.push (ae 133 [O 0, O 0, O 0])) H.nx (some (ae 133 (aq (eLk ls[i]))))=H1 at hA hS
 rw [iR xd (by rw [rB];rfl) hA.2]
 have hY1:=hy.st _ _ _ _ hY hS
 refine hy.yl 193 (.inl rfl) _ _ _ _ _ hY1 hlen fun bK' H' hbk hY' hn hf=> ?_
 have hf':YF lo L1 bK H1 H':=⟨hn,hf⟩
 have hx':=(hx.stay hS).yf hy hY1 hf' hY' hL
 have h5':=(h5.stay hS).yf hf' (by omega) (by omega) hk5
 have hl':=(hl.stay hS).yf hf' (by omega) (by omega) hkl
 have a1:=(h5.stay hS).1
 have a2:=(hl.stay hS).1
 simp (disch:=omega) only [go_sem,t157]
 refine hk _ H' bK' hx' ⟨?_, ?_, ?_, ?_, ?_,h5'⟩ hY' hl' (by omega) (by omega) ?_ ?_ ?_
 all_goals simp (disch:=omega) only [go_sem,t0,t1,t2,t3,t5,t155,t156]
 rfl
theorem ldZ {xs:List Int} {d:D} {k:Nat} (hd:Sl 1 iw xs d) (hk:k<xs.length):∃p,(∀K:AV->Bool,ah 51 (ofD d) (O (k:Int)) K=K p)/\∀(H:Hp) (K:AV->Bool),E H 3 p K=K (O xs[k]):=
 ⟨_,fun K=>bC hd kQ in3 ce3 hk,fun H K=>by rw [nk,ag3,pU,yJ,dZ,GQ hk,qt,show xs.getD k 0=xs[k] from by simp [hk]]⟩
theorem FL {s:bo} {lo L1 rc gc pc b5 b24 bK j u v:Nat} {x:Int} {zs:List Int} {dps dz:D} {H:Hp} {y:AV} {Y:Nat->List BF.Lk->Hp->Prop} {done:List BF.Lk} {t:E2} {k:AEx->En->Hp->Bool} (hy:YR lo L1 y Y) (hL:rc<L1/\gc<L1/\pc<L1/\lo<L1/\rc≠lo+1/\gc≠lo+1/\pc≠lo+1) (hb:L1<b5/\L1<b24/\lo+1<L1) (ho:SOK s) (hst:Sl 3 dx s.stops s.ds)
  (hx:CX s lo rc gc pc dps H) (h:SB5 s y rc gc pc b5 H t) (hY:Y bK done H) (hlen:done.length<=90) (h24:At H b24 (ae 3 [O x])) (hk5:b5≠bK) (hk24:b24≠bK) (hz:Sl 1 iw zs dz) (hj:j<zs.length) (hxm:x∈plc s) (hym:zs[j]∈plc s) (hxy:x<zs[j]) (hu:(kN s)[u]? =some (4,x)) (hv:(kN s)[v]? =some (4,zs[j]))
  (t24:t 24= .ptr b24 0) (t176:t 176=ofD dz) (t178:t 178= O (j:Int))
  (hk:∀t' H' bK',CX s lo rc gc pc dps H'->SB5 s y rc gc pc b5 H' t'->Y bK' (done++[⟨u,v,tK s x zs[j]⟩,⟨v,u, -pE s x zs[j]⟩]) H'->At H' b24 (ae 3 [O x])->b5≠bK'->b24≠bK'->t' 24= .ptr b24 0->t' 176=ofD dz->t' 177=t 177->t' 178= O (j:Int)->t' 166=t 166->t' 167=t 167->t' 168=t 168->k .normal ⟨t',[]⟩ H'=true):
  az 197 232 205 1073735270 none ⟨t,[]⟩ H k=true:=by
 obtain⟨t0,t1,t2,t3,t5,h5⟩:=h
 obtain⟨q,hq1,hq2⟩:=ldZ hz hj
 obtain⟨m1,m2,m3,m4,m5⟩:=Aq ho hxm hym hxy
 have hn:=ho.n
 have hst2:=ho.st
 have hr:=ho.r
 have hrg:=uI ho hxm
 have hrg2:=uI ho hym
 have hone:=eT hst
 rw [JK,t176,t178,hq1,hq2,aI,ex (H:=H.push (ae 3 [O 0])) (b:=H.nx) (by rw [af,if_pos rfl]) ag3 ce3 rfl rfl (by simp)]
 have hA:=mA H (ae 3 [O 0]) (ae 3 [O zs[j]])
 have hS:=ii H (ae 3 [O 0]) (ae 3 [O zs[j]])
 rw [show ([AV.int .i64 0]:List AV).set 0 (O zs[j])=[O zs[j]] from rfl]
 generalize Hp.setb (H.push (ae 3 [O 0])) H.nx (some (ae 3 [O zs[j]]))=H1 at hA hS
 have P24:=h24.stay hS
 have P5:=h5.stay hS
 have Ly:∀(H':Hp) (k:AV->Bool),dV H1 H'->E H' 3 (.ptr H.nx 0) k=k (O zs[j]):=fun H' k hh=>ldI (hA.stay hh).2 rfl
 have Lx:∀(H':Hp) (k:AV->Bool),dV H1 H'->E H' 3 (.ptr b24 0) k=k (O x):=fun H' k hh=>ldI (P24.stay hh).2 rfl
 have Lr:∀(H':Hp) (k:AV->Bool),dV H1 H'->E H' 3 (.ptr b5 (0+9+0)) k=k (O s.rate.lo):=fun H' k hh=>ldI (P5.stay hh).2 rfl
 have Lr2:∀(H':Hp) (k:AV->Bool),dV H1 H'->E H' 3 (.ptr b5 (0+9+1)) k=k (O s.rate.hi):=fun H' k hh=>ldI (P5.stay hh).2 rfl
 have Ls:∀(H':Hp) (k:AV->Bool),dV H1 H'->E H' 29 (.ptr b5 (0+11)) k=k (ofD s.ds):=fun H' k hh=>cf (v:=ofD s.ds) (P5.stay hh).2 O7 rfl
 have A1:=eG hst 999
 rw [t24,t5,t2,Ly _ _ (gq _),Lx _ _ (gq _),jH _ _ _ _ (by omega),J1 _ _ _ _ (by omega),bL,bL,Lr _ _ (gq _),bL,Ls _ _ (gq _),bq]
 refine bB hG _ (E5 (a:=(zs[j] - x) * 1000000) (b:=s.rate.lo) (by omega) (by omega)) rfl ?_
 with_reducible refine rk (by simp (disch:=exact bk rfl) only [bI,ct,bP,dE,Lr H1 _ (gq _),Ls H1 _ (gq _),A1,lv]) ?_
 rw [bq]
 refine Hr (f:=sHi) (x:=x) (y:=zs[j]) (by kernel_rfl) (by kernel_rfl) Lo hst hn (fun p hp=>by have:=hst2 p hp;simp only [sHi];omega) P24 hA fun H2 h2=> ?_
 with_reducible refine rk (by simp (disch:=exact bk rfl) only [bI,ct,bP,dE,Lr H2 _ h2,Ls H2 _ h2,A1,lv]) ?_
 have hml:Int.tdiv ((zs[j] - x) * 1000000+s.rate.lo - 1) s.rate.lo+smT sHi x zs[j] s.stops s.stops.length=tK s x zs[j]:=rfl
 have eD:∀n:Int,ofD (aS n)= O n:=fun _=>rfl
 rw [eD,kn _ _ _ _ (by rw [hml];omega),hml,cQ,bL,bL,Lr2 _ _ h2,Mr _ _ (by omega) (by omega) (by omega),bL,Ls _ _ h2,bq]
 refine Hr (f:=sLo) (x:=x) (y:=zs[j]) (by kernel_rfl) (by kernel_rfl) LS hst hn (fun p hp=>by have:=hst2 p hp;simp only [sLo];omega) (P24.stay h2) (hA.stay h2) fun H3 h3=> ?_
 have h23:=h2.trans h3
 with_reducible refine rk (by simp (disch:=exact bk rfl) only [bI,ct,bP,dE,Lr2 H3 _ h23,Ls H3 _ h23,A1,lv]) ?_
 have hll:Int.tdiv ((zs[j] - x) * 1000000) s.rate.hi+smT sLo x zs[j] s.stops s.stops.length=pE s x zs[j]:=rfl
 have hx3:=hx.stay (hS.trans h23)
 have Lg:∀(k:AV->Bool),E H3 123 (.ptr gc 0) k=k (.ptr (lo+1) 0):=fun k=>hx3.ld
 rw [kn _ _ _ _ (by rw [hll];omega),hll,cQ,Lg,Lx _ _ h23,Lg,Ly _ _ h23,bq]
 refine hx3.at188 hu ?_
 with_reducible refine rk (by simp (disch:=exact bk rfl) only [bI,ct,bP,dE,Lx H3 _ h23,Ly H3 _ h23,Lg,lv,m7]) ?_
 rw [bq]
 refine hx3.at188 hv ?_
 with_reducible refine rk (by simp (disch:=exact bk rfl) only [bI,ct,bP,dE]) ?_
 rw [cQ]
 dsimp only
 generalize hE:es t _=tE
 have u0:tE 0=y:=by rw [←hE];simp (disch:=omega) only [go_sem,t0]
 have u1:tE 1= .ptr rc 0:=by rw [←hE];simp (disch:=omega) only [go_sem,t1]
 have u2:tE 2= .ptr gc 0:=by rw [←hE];simp (disch:=omega) only [go_sem,t2]
 have u3:tE 3= .ptr pc 0:=by rw [←hE];simp (disch:=omega) only [go_sem,t3]
 have u5:tE 5= .ptr b5 0:=by rw [←hE];simp (disch:=omega) only [go_sem,t5]
 have u24:tE 24= .ptr b24 0:=by rw [←hE];simp (disch:=omega) only [go_sem,t24]
 have u29:tE 29= O (tK s x zs[j]):=by rw [←hE];simp (disch:=omega) only [go_sem]
 have u30:tE 30= O (pE s x zs[j]):=by rw [←hE];simp (disch:=omega) only [go_sem]
 have u31:tE 31= O (u:Int):=by rw [←hE];simp (disch:=omega) only [go_sem]
 have u32:tE 32= O (v:Int):=by rw [←hE];simp (disch:=omega) only [go_sem]
 have u166:tE 166=t 166:=by rw [←hE];simp (disch:=omega) only [go_sem]
 have u167:tE 167=t 167:=by rw [←hE];simp (disch:=omega) only [go_sem]
 have u168:tE 168=t 168:=by rw [←hE];simp (disch:=omega) only [go_sem]
 have u176:tE 176=ofD dz:=by rw [←hE];simp (disch:=omega) only [go_sem,t176]
 have u177:tE 177=t 177:=by rw [←hE];simp (disch:=omega) only [go_sem]
 have u178:tE 178= O (j:Int):=by rw [←hE];simp (disch:=omega) only [go_sem,t178]
 clear hE
 rw [Ll,u0,u29,u30,u31,u32,DH]
 have hY3:=hy.st _ _ _ _ hY (hS.trans h23)
 have hS3:=hS.trans h23
 have hn1:=h5.1
 have hn2:=h24.1
 have hn3:=hS3.1
 refine hy.yl 188 (.inr rfl) _ _ ⟨u,v,tK s x zs[j]⟩ _ _ hY3 (by omega) fun bk4 H4 hb4 hY4 hn4 hf4=> ?_
 have hF4:YF lo L1 bK H3 H4:=⟨hn4,hf4⟩
 simp (disch:=omega) only [go_sem]
 rw [Int.zero_sub,DH]
 refine hy.yl 188 (.inr rfl) _ _ ⟨v,u, -pE s x zs[j]⟩ _ _ hY4 (by simp;omega) fun bk5 H5 hb5 hY5 hn5 hf5=> ?_
 have hF5:YF lo L1 bk4 H4 H5:=⟨hn5,hf5⟩
 simp (disch:=omega) only [go_sem,K1]
 have hx4:=hx3.yf hy hY3 hF4 hY4 hL
 have hx5:=hx4.yf hy hY4 hF5 hY5 hL
 have q5:=((h5.stay hS3).yf hF4 (by omega) (by omega) hk5).yf hF5 (by omega) (by omega) (by omega)
 have q24:=((h24.stay hS3).yf hF4 (by omega) (by omega) hk24).yf hF5 (by omega) (by omega) (by omega)
 rw [ki] at hY5
 refine hk _ H5 bk5 hx5 ⟨?_, ?_, ?_, ?_, ?_,q5⟩ hY5 q24 (by omega) (by omega) ?_ ?_ ?_ ?_ ?_ ?_ ?_
 all_goals simp (disch:=omega) only [go_sem,u0,u1,u2,u3,u5,u24,u176,u177,u178,u166,u167,u168]
structure KP (s:bo) (lo L1 rc gc pc b5:Nat) (dps:D) (y:AV) (Y:Nat->List BF.Lk->Hp->Prop) (done:List BF.Lk) (bK:Nat) (H:Hp) (t:E2):Prop where
 cx:CX s lo rc gc pc dps H
 sb:SB5 s y rc gc pc b5 H t
 y:Y bK done H
 k5:b5≠bK
def I12 (s:bo) (lo L1 rc gc pc b5 b24:Nat) (dps dz:D) (y:AV) (Y:Nat->List BF.Lk->Hp->Prop) (T:List BF.Lk) (i:Nat) (x:Int) (zs:List Int) (t0:E2) (m:Nat) (e:En) (H:Hp):Prop:=
 ∃j D bK,m=zs.length - j/\j<=zs.length/\e.dm=[]/\D++prw s i x (i+1+j) (zs.drop j)=T/\KP s lo L1 rc gc pc b5 dps y Y D bK H e.t/\At H b24 (ae 3 [O x])/\b24≠bK/\e.t 24= .ptr b24 0/\e.t 176=ofD dz/\e.t 177= O (zs.length:Int)/\e.t 178= O (j:Int)/\e.t 166=t0 166/\e.t 167=t0 167/\e.t 168=t0 168
theorem E' {s:bo} {lo L1 rc gc pc b5 b24 bK i:Nat} {x:Int} {zs:List Int} {dps dz:D} {H:Hp} {y:AV} {Y:Nat->List BF.Lk->Hp->Prop} {done:List BF.Lk} {t:E2} {k:AEx->En->Hp->Bool} (hy:YR lo L1 y Y) (hL:rc<L1/\gc<L1/\pc<L1/\lo<L1/\rc≠lo+1/\gc≠lo+1/\pc≠lo+1) (hb:L1<b5/\L1<b24/\lo+1<L1) (ho:SOK s) (hst:Sl 3 dx s.stops s.ds)
  (h:KP s lo L1 rc gc pc b5 dps y Y done bK H t) (hlen:(done++prw s i x (i+1) zs).length<=90) (h24:At H b24 (ae 3 [O x])) (hk24:b24≠bK) (hz:Sl 1 iw zs dz) (hi:(plc s)[i]? =some x) (hzs:zs=(plc s).drop (i+1))
  (t24:t 24= .ptr b24 0) (t176:t 176=ofD dz) (t177:t 177= O (zs.length:Int)) (t178:t 178= O 0)
  (hk:∀t' H' bK',KP s lo L1 rc gc pc b5 dps y Y (done++prw s i x (i+1) zs) bK' H' t'->t' 166=t 166->t' 167=t 167->t' 168=t 168->k (.exit 12) ⟨t',[]⟩ H'=true):
  kS 232 (.loop (fH 205 67108454)) none ⟨t,[]⟩ H k=true:=by
 have hpw:=(m8 s).1
 have hzl:zs.length<=4:=by have:=(m8 s).2.2.2;rw [hzs,mR];omega
 refine aZ (I12 s lo L1 rc gc pc b5 b24 dps dz y Y (done++prw s i x (i+1) zs) i x zs t) (fun m e H1 hi'=> ?_) (m:=zs.length) ⟨0,done,bK,rfl,bN _,rfl,rfl,h,h24,hk24,t24,t176,t177,t178,rfl,rfl,rfl⟩
 obtain⟨j,D,bk1,rfl,hj,hdm,hD,⟨cx,sb,hY,k5⟩,g24,gk24,u24,u176,u177,u178,u166,u167,u168⟩:=hi'
 obtain⟨t1,dm⟩:=e
 dsimp only at hdm u24 u176 u177 u178 u166 u167 u168 sb
 subst hdm
 refine aV 200 ?_
 by_cases hjl:j<zs.length
 ·have hlt:((j:Int)<(zs.length:Int))=True:=by simp;omega
  have hzj:(plc s)[i+1+j]? =some zs[j]:=by
   have:zs[j]? =some zs[j]:=dW hjl
   rw [←this,hzs,kB]
  have hil:i<(plc s).length:=(jb.1 hi).1
  have hil2:i+1+j<(plc s).length:=(jb.1 hzj).1
  have hxy:x<zs[j]:=by
   have:=List.pairwise_iff_getElem.1 hpw i (i+1+j) hil hil2 (by omega)
   rw [(jb.1 hi).2,(jb.1 hzj).2] at this
   exact this
  have hdr:zs.drop j=zs[j]::zs.drop (j+1):=List.drop_eq_getElem_cons hjl
  have hDl:D.length<=90:=by
   rw [←hD,gZ] at hlen;omega
  rw [Hu,u178,u177,cB]
  simp only [hlt,dL,dH]
  obtain⟨v0,v1,v2,v3,v5,v5'⟩:=sb
  refine FL (x:=x) (u:=3+i) (v:=3+(i+1+j)) hy hL hb ho hst cx ⟨by simp (disch:=omega) only [go_sem,v0],by simp (disch:=omega) only [go_sem,v1],by simp (disch:=omega) only [go_sem,v2],by simp (disch:=omega) only [go_sem,v3],by simp (disch:=omega) only [go_sem,v5],v5'⟩ hY hDl g24 k5 gk24 hz hjl (ku hi) (ku hzj) hxy (Ns hi) (Ns hzj) (by simp (disch:=omega) only [go_sem,u24]) (by simp (disch:=omega) only [go_sem,u176]) (by simp (disch:=omega) only [go_sem,u178]) fun t2 H2 bk2 cx2 sb2 hY2 g2 k52 gk2 w24 w176 w177 w178 w166 w167 w168=> ?_
  obtain⟨v0,v1,v2,v3,v5,v5'⟩:=sb2
  rw [eU,J3,w178]
  simp (disch:=omega) only [go_sem]
  refine bd (m':=zs.length - (j+1)) (by omega) ⟨j+1,_,bk2,rfl,by omega,rfl, ?_,⟨cx2,⟨?_, ?_, ?_, ?_, ?_,v5'⟩,hY2,k52⟩,g2,gk2, ?_, ?_, ?_, ?_, ?_, ?_, ?_⟩
  ·rw [←hD,hdr,prw,ki];rfl
  all_goals dsimp only
  ·simp (disch:=omega) only [go_sem,v0]
  ·simp (disch:=omega) only [go_sem,v1]
  ·simp (disch:=omega) only [go_sem,v2]
  ·simp (disch:=omega) only [go_sem,v3]
  ·simp (disch:=omega) only [go_sem,v5]
  ·simp (disch:=omega) only [go_sem,w24]
  ·simp (disch:=omega) only [go_sem,w176]
  ·simp (disch:=omega) only [go_sem,w177,u177]
  ·simp (disch:=omega) only [go_sem];rfl
  ·simp (disch:=omega) only [go_sem,w166,u166]
  ·simp (disch:=omega) only [go_sem,w167,u167]
  ·simp (disch:=omega) only [go_sem,w168,u168]
 ·have hje:j=zs.length:=by omega
  subst hje
  rw [List.drop_length,prw,List.append_nil] at hD
  subst hD
  rw [Hu,u178,u177,cB]
  have hlt:((zs.length:Int)<(zs.length:Int))=False:=by simp
  obtain⟨v0,v1,v2,v3,v5,v5'⟩:=sb
  simp (disch:=omega) only [go_sem,hlt]
  refine hk _ H1 bk1 ⟨cx,⟨?_, ?_, ?_, ?_, ?_,v5'⟩,hY,k5⟩ ?_ ?_ ?_
  all_goals simp (disch:=omega) only [go_sem,v0,v1,v2,v3,v5,u166,u167,u168]
theorem slZ {H:Hp} {xs:List Int} {d:D} {n:Nat} (hd:Sl 1 iw xs d) (hn:n<=xs.length) (hx:xs≠[]):∃d',Sl 1 iw (xs.drop n) d'/\∀(ik:IntKind) (k:AV->Bool),cK P H 51 (ofD d) (some (.int ik (n:Int))) none none k=k (ofD d'):=by
 rcases hd with⟨_,rfl⟩| rfl
 ·exact absurd rfl hx
 ·refine⟨.sl 1 (cC iw (xs.drop n)) (xs.drop n).length,.inr rfl,fun ik k=> ?_⟩
  show cK P H 51 (.dat (.sl 1 (cC iw xs) xs.length)) _ _ _ k=k (.dat (.sl 1 (cC iw (xs.drop n)) (xs.drop n).length))
  unfold cK
  simp only [IR,gz,mP]
  rw [ce3,bW,show Nat.ble n xs.length=true from by simpa using hn,show Nat.ble xs.length xs.length=true from by simp]
  simp only [bA]
  have h1:((cC iw xs).drop (n * 1)).take ((xs.length - n) * 1)=cC iw (xs.drop n):=by
   rw [dZ,dZ]
   have h2:∀(ys:List Int),cC iw ys=ys.map (D.int .i64):=fun ys=>by
    induction ys with
    | nil=>rfl
    | cons y ys ih=>show iw y++cC iw ys=_;rw [ih];rfl
   rw [h2,h2,List.map_drop,cN (by simp)]
  rw [h1,mR]
end Go.S5
