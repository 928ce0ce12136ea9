/- A part of the proof of RoundChanges. -/
import Derived.Test.YtnljpmbidnnlkaaGreatDoorRAk
import Derived.Test.YtnljpmbidnnlkaaGreatDoorRAi
import Derived.Test.YtnljpmbidnnlkaaGreatDoorRBf
set_option maxRecDepth 1000000
set_option linter.unusedVariables false
set_option linter.unusedSimpArgs false
set_option maxHeartbeats 8000000
namespace Go.S5
open Go.Ev Go.Proofs
mutual
def jR:aF->aF
 | .mk kind names _ gap most lo hi kids _=>.mk kind names .nils gap most lo hi (jG kids) .nils
def jG:List aF->List aF
 | []=>[]
 | o::l=>jR o::jG l
end
theorem qS:∀l:List aF,jG l=l.map jR
 | []=>by simp [jG]
 | o::l=>by rw [jG,qS l];rfl
mutual
theorem aZB:∀o:aF,tO (jR o)=tO o
 | .mk _ _ _ _ _ _ _ kids _=>by rw [jR,tO,tO,aPO kids]
theorem aPO:∀l:List aF,tOs (jG l)=tOs l
 | []=>by rw [jG]
 | o::l=>by rw [jG,tOs,tOs,aZB o,aPO l]
end
mutual
theorem aWV:∀o:aF,hO (jR o)=hO o
 | .mk _ _ _ _ _ _ _ kids _=>by rw [jR,hO,hO,aPH kids]
theorem aPH:∀l:List aF,hOs (jG l)=hOs l
 | []=>by rw [jG]
 | o::l=>by rw [jG,hOs,hOs,aWV o,aPH l]
end
mutual
theorem aCT:∀o:aF,eB (jR o)=eB o
 | .mk kind names dn gap most lo hi kids dk=>by
  rw [jR,eB,eB,aBW kids]
  congr 1
  simp only [nM,aF.kids,aF.kind,aF.names,aF.gap,aF.most,aF.lo,aF.hi,kJ,qS,List.length_map];rfl
theorem aBW:∀l:List aF,oG (jG l)=oG l
 | []=>by rw [jG]
 | o::l=>by rw [jG,oG,oG,aCT o,aBW l]
end
mutual
theorem aHZ:∀(l:List Str) (o:aF),jY l (jR o)=jY l o
 | l,.mk _ names _ _ _ _ _ kids _=>by rw [jR,jY,jY,aDW _ kids]
theorem aDW:∀(l:List Str) (os:List aF),gQ l (jG os)=gQ l os
 | l,[]=>by rw [jG]
 | l,o::os=>by rw [jG,gQ,gQ,aHZ l o,aDW _ os]
end
mutual
theorem aHR:∀o:aF,pG (jR o)=pG o
 | .mk kind names _ _ _ _ hi kids _=>by rw [jR,pG,pG,aDZ _ kids]
theorem aDZ:∀(v:Int) (l:List aF),iK v (jG l)=iK v l
 | v,[]=>by rw [jG]
 | v,o::l=>by rw [jG,iK,iK,aHR o,aDZ _ l]
end
theorem aAI (o:aF):fB (jR o)=fB o:=by
 unfold fB;rw [aZB,aWV,aCT,aHZ,aHR]
theorem aIR {o o':aF} (h:jR o'=jR o):fB o'=fB o:=by rw [←aAI o',h,aAI]
theorem aJR (o:aF):(jR o).kind=o.kind:=by cases o;rw [jR];rfl
theorem aSA {o o':aF} (h:jR o'=jR o):o'.kind=o.kind:=by rw [←aJR o',h,aJR]
theorem Rds.snoc {H:Hp} {v:AV} {d:D} {I:List Nat} (h:Rd H v d I):∀ds:List D,Rds H (bD ds++[v]) (ds++[d]) I
 | []=>by have:=Rds.cons v d I [] [] [] h .nil;rw [List.append_nil] at this;exact this
 | x::ds=>Rds.cons _ _ [] _ _ _ (.fro x) (Rds.snoc h ds)
theorem aIK {o:aF} (h:eB o=true):o.names.length<=4/\o.kids.length<=1048576/\∀k∈o.kids,eB k=true:=by
 rw [jV,Bool.and_eq_true] at h
 have h1:=(kL h.1).1
 refine⟨h1.2.1, ?_,by simpa [List.all_eq_true] using h.2⟩
 have:=h1.1
 unfold sB at this
 repeat' split at this
 all_goals omega
def z40:List AV:=[.int .i64 0,.nils,.int .i64 0,.int .i64 0,.int .i64 0,.int .i64 0,.int .i64 0,.nils]
def a2A (o:aF) (dn':D) (m:Nat) (e:En) (H:Hp):Prop:=∃(zs:List aF) (v:AV),zs.length<=o.kids.length/\m=o.kids.length - zs.length/\e.dm=[]/\(∀z∈zs,dC z)/\zs.map jR=(o.kids.take zs.length).map jR/\
 Own 8 aV 40 2 H v (zs++o.kids.drop zs.length)/\2<=H.nx/\E2.get e.t 14= .int .i64 zs.length/\E2.get e.t 13= .int .i64 o.kids.length/\E2.get e.t 3=v/\E2.get e.t 1= .ptr 0 0/\E2.get e.t 2= .ptr 1 0/\
 H.get 0=some (.cells (some 40) false [.int .i64 o.kind,ofD dn',.int .i64 o.gap.lo,.int .i64 o.gap.hi,.int .i64 o.most,.int .i64 o.lo,.int .i64 o.hi,ofD o.dk])/\H.get 1=some (.cells (some 40) false [.int .i64 0,.nils,.int .i64 0,.int .i64 0,.int .i64 0,.int .i64 0,.int .i64 0,.nils])
theorem aMR {o:aF} (h:dC o):(bD (aV o)).all Ev.one=true:=by
 cases h with
 | mk kind names dn gap most lo hi kids dk hn hnl hl hk hkl ho=>
  have e1:=bW hn
  have e2:=bW hk
  simp only [aV,aF.dn,aF.dk,bD,List.all_cons,List.all_nil,e1,e2,Bool.and_true,Bool.true_and];rfl
section
variable {o : aF} {dn' : D} {t : E2} {H : Hp} {k : AEx -> En -> Hp -> Bool} {ro : Option Nat}
theorem alL {zs:List aF} {v:AV} (hv:Own 8 aV 40 2 H v zs) (hdn:Ev.one (ofD dn')=true) (hnx:2<=H.nx) (g3:E2.get t 3=v) (g1:E2.get t 1= .ptr 0 0) (g2:E2.get t 2= .ptr 1 0)
  (hg0:H.get 0=some (.cells (some 40) false [.int .i64 o.kind,ofD dn',.int .i64 o.gap.lo,.int .i64 o.gap.hi,.int .i64 o.most,.int .i64 o.lo,.int .i64 o.hi,ofD o.dk])) (hg1:H.get 1=some (.cells (some 40) false [.int .i64 0,.nils,.int .i64 0,.int .i64 0,.int .i64 0,.int .i64 0,.int .i64 0,.nils]))
  (hk:∀t' H',E2.get t' 2= .ptr 1 0->Own 8 aV 40 2 H' v zs->H'.get 1=some (.cells (some 40) false [.int .i64 o.kind,ofD dn',.int .i64 o.gap.lo,.int .i64 o.gap.hi,.int .i64 o.most,.int .i64 o.lo,.int .i64 o.hi,v])->k .ret ⟨t',[]⟩ H'=true):
  cd P G 196 29 (aJ 127 [1,1,1,1]) ro ⟨t,[]⟩ H k=true:=by
 have c1:=hv.cells
 have c2:=hv.one
 rw [anQ]
 simp (disch:=first|exact bk rfl|omega) only [go_sem,g1,g2,g3,hg0,hg1,c1,c2,hdn,aM,aI]
 refine hk _ _ (eg rfl g2) (hv.frame (by simp (disch:=first|exact bk rfl|omega) only [go_sem];omega) fun c hc1 hc2=> ?_) (by simp (disch:=first|exact bk rfl|omega) only [go_sem,aM,aI])
 have a1:(c=0)=False:=eq_false (by omega)
 have a2:(c=1)=False:=eq_false (by omega)
 simp (disch:=first|exact bk rfl|omega) only [go_sem,a1,a2,if_false]
theorem anK {zs kids:List aF} {v:AV} {Q:aF->Prop} (hn:zs.length<kids.length) (hv:Own 8 aV 40 2 H v (zs++kids.drop zs.length)) (hnx:2<=H.nx) (hc:CQ P G 127 [.agg (aV kids[zs.length])] (fun d=>∃o',d= .agg (aV o')/\dC o'/\Q o'))
  (hl:kids.length<=1048576) (g14:E2.get t 14= .int .i64 zs.length) (g13:E2.get t 13= .int .i64 kids.length) (g3:E2.get t 3=v) (g1:E2.get t 1= .ptr 0 0) (g2:E2.get t 2= .ptr 1 0)
  (hk:∀z t' H',dC z->Q z->Own 8 aV 40 2 H' v ((zs++[z])++kids.drop (zs.length+1))->2<=H'.nx->E2.get t' 14= .int .i64 ((zs.length+1:Nat):Int)->E2.get t' 13= .int .i64 kids.length->E2.get t' 3=v->E2.get t' 1= .ptr 0 0->E2.get t' 2= .ptr 1 0->(∀c,c<2->H'.get c=H.get c)->k .normal ⟨t',[]⟩ H'=true):
  cd P G 200 29 (aJ 127 [1,1,1,0,1,0]) ro ⟨t,[]⟩ H k=true:=by
 have hxl:(zs++kids.drop zs.length).length=kids.length:=by rw [List.length_append,List.length_drop];omega
 have hn2:zs.length<(zs++kids.drop zs.length).length:=by omega
 have hx:(zs++kids.drop zs.length)[zs.length]=kids[zs.length]:=by
  rw [List.getElem_append_right (Nat.le_refl _)];simp
 obtain⟨b,hvb,hlo,hb,hgb⟩:=hv.at hn2
 rw [hvb] at g3
 have e1:((zs.length:Int)<(kids.length:Int))=True:=eq_true (by omega)
 rw [aUQ]
 simp (disch:=first|exact bk rfl|omega) only [go_sem,g14,g13,g3,e1]
 rw [eI dS mM kC hn2,abI cG awV kC hgb hn2,hx]
 refine cS hG [.agg (aV kids[zs.length])] hc rfl ?_
 rintro d ⟨z,rfl,hz,hq⟩
 rw [g3,g14,eI dS mM kC hn2,show ofD (.agg (aV z))= .agg (bD (aV z)) from rfl,aHC cG awV kC hgb hn2 (aMR hz)]
 simp (disch:=first|exact bk rfl|omega) only [go_sem]
 have hset:(zs++kids.drop zs.length).set zs.length z=(zs++[z])++kids.drop (zs.length+1):=by
  rw [List.set_append_right (h:=Nat.le_refl _),Nat.sub_self,List.append_assoc]
  congr 1
  rw [List.drop_eq_getElem_cons hn];rfl
 rw [hset]
 refine hk z _ _ hz hq (.inr ⟨b,none, ?_,.inl rfl,hlo, ?_, ?_⟩) ?_ ?_ ?_ ?_ ?_ ?_ fun c hc=> ?_
 ·rw [hvb,hxl]
  have:((zs++[z])++kids.drop (zs.length+1)).length=kids.length:=by simp;omega
  rw [this]
 ·simp (disch:=first|exact bk rfl|omega) only [go_sem];exact hb
 ·simp (disch:=first|exact bk rfl|omega) only [go_sem,aI]
 ·simp (disch:=first|exact bk rfl|omega) only [go_sem];exact hnx
 ·simp (disch:=first|exact bk rfl|omega) only [go_sem];congr 1
 ·simp (disch:=first|exact bk rfl|omega) only [go_sem];exact g13
 ·simp (disch:=first|exact bk rfl|omega) only [go_sem];rw [g3,hvb]
 ·simp (disch:=first|exact bk rfl|omega) only [go_sem];exact g1
 ·simp (disch:=first|exact bk rfl|omega) only [go_sem];exact g2
 ·have a1:(c=b)=False:=eq_false (by omega)
  simp (disch:=first|exact bk rfl|omega) only [go_sem,a1,if_false]
end
theorem aNA {o:aF} (ho:dC o):eB o=true->CQ P G 127 [.agg (aV o)] (fun d=>∃o',d= .agg (aV o')/\dC o'/\jR o'=jR o):=by
 induction ho with
 | mk kind names dn gap most lo hi kids dk hn hnl hl hk hkl ho ih=>
  intro hfo
  obtain⟨hs1,hs2,hs3⟩:=aIK hfo
  dsimp only [aF.names,aF.kids] at hs1 hs2 hs3
  generalize hoo:aF.mk kind names dn gap most lo hi kids dk=o
  have oe1:o.kind=kind:=by rw [←hoo];rfl
  have oe2:o.gap=gap:=by rw [←hoo];rfl
  have oe3:o.most=most:=by rw [←hoo];rfl
  have oe4:o.lo=lo:=by rw [←hoo];rfl
  have oe5:o.hi=hi:=by rw [←hoo];rfl
  have oe6:o.dk=dk:=by rw [←hoo];rfl
  have oe7:o.dn=dn:=by rw [←hoo];rfl
  have oe8:o.kids=kids:=by rw [←hoo];rfl
  have hon:=bW hn
  have hok:=bW hk
  refine CQ.enter hG ?_
  have heo:aV o=[.int .i64 kind,dn,.int .i64 gap.lo,.int .i64 gap.hi,.int .i64 most,.int .i64 lo,.int .i64 hi,dk]:=by rw [←hoo];rfl
  simp (disch:=first|exact bk rfl|omega) only [go_sem,heo,a3X,aM,aI]
  refine cS hG [dn] (aOD hn (by omega)) rfl fun dn' hdn'=> ?_
  have hon':=bW hdn'
  have hcn':=gC hdn'
  simp (disch:=first|exact bk rfl|omega) only [go_sem,hon',hcn',aM,aI]
  refine aLO hk ho hs2 fun v H' hv hnx hfr=> ?_
  simp only [go_sem] at hnx hv
  have hg0:H'.get 0=some (.cells (some 40) false [.int .i64 o.kind,ofD dn',.int .i64 o.gap.lo,.int .i64 o.gap.hi,.int .i64 o.most,.int .i64 o.lo,.int .i64 o.hi,ofD o.dk]):=by
   rw [hfr 0 (by simp (disch:=first|exact bk rfl|omega) only [go_sem]),oe1,oe2,oe3,oe4,oe5,oe6];simp (disch:=first|exact bk rfl|omega) only [go_sem,aM,aI]
  have hg1:H'.get 1=some (.cells (some 40) false [.int .i64 0,.nils,.int .i64 0,.int .i64 0,.int .i64 0,.int .i64 0,.int .i64 0,.nils]):=by
   rw [hfr 1 (by simp (disch:=first|exact bk rfl|omega) only [go_sem])];simp (disch:=first|exact bk rfl|omega) only [go_sem,aM,aI]
  simp (disch:=first|exact bk rfl|omega) only [go_sem,hv.len dS]
  refine bA (a2A o dn') (fun m e H hi=> ?_) (m:=kids.length) ?_
  rotate_left
  ·refine⟨[],v,by simp,by rw [oe8];rfl,rfl,by simp,by simp,by simpa [oe8] using hv,by omega,eg rfl rfl,by rw [oe8];first | rfl | (simp (disch:=first|exact bk rfl|omega) only [go_sem]<;>rfl),eg rfl rfl,eg rfl rfl,eg rfl rfl,hg0,hg1⟩
  obtain⟨zs,v,hn',rfl,hdm,hzo,hzs,hv,hnx,g14,g13,g3,g1,g2,hg0,hg1⟩:=hi
  obtain⟨t,dm⟩:=e
  dsimp only at hdm g14 g13 g3 g1 g2
  subst hdm
  rw [oe8] at hn' hzs hv g13
  refine bC 200 ?_
  by_cases hlt:zs.length<kids.length
  ·refine anK (Q:=fun o'=>jR o'=jR kids[zs.length]) hlt hv hnx (ih _ (List.getElem_mem hlt) (hs3 _ (List.getElem_mem hlt))) hs2 g14 g13 g3 g1 g2 fun z t' H' hz hq hv' hnx' k14 k13 k3 k1 k2 hfr=> ?_
   refine aZ (m':=o.kids.length - (zs.length+1)) (by rw [oe8];omega) ⟨zs++[z],v,by rw [oe8,List.length_append,List.length_singleton];omega,by rw [List.length_append];rfl,rfl, ?_, ?_, ?_,hnx',by rw [List.length_append];exact k14,by rw [oe8];exact k13,k3,k1,k2,by rw [hfr 0 (by omega)];exact hg0,by rw [hfr 1 (by omega)];exact hg1⟩
   ·intro y hy
    rcases List.mem_append.1 hy with h | h
    ·exact hzo y h
    ·rw [List.mem_singleton] at h;subst h;exact hz
   ·rw [oe8,List.length_append,List.map_append,hzs,List.length_singleton,←fY hlt,List.map_append]
    simp [hq]
   ·rw [oe8,List.length_append];exact hv'
  ·have hzl:zs.length=kids.length:=by omega
   have e1:((zs.length:Int)<(kids.length:Int))=False:=eq_false (by omega)
   rw [aUQ]
   simp (disch:=first|exact bk rfl|omega) only [go_sem,g14,g13,e1]
   rw [List.drop_of_length_le (by omega),List.append_nil] at hv
   refine alL hv hon' hnx (eg rfl g3) (eg rfl g1) (eg rfl g2) hg0 hg1 fun t' H' k2 hv' hg1'=> ?_
   show aS P G Tryz.f127 _ _ .ret ⟨t',[]⟩ H'=true
   rw [a2L,k2]
   simp (disch:=first|exact bk rfl|omega) only [go_sem,hg1']
   obtain⟨d',I,hrd,hsl⟩:=hv'.rd cG
   refine iO (I:=I) (d:= .agg (aV (.mk kind names dn' gap most lo hi zs d'))) ⟨.mk kind names dn' gap most lo hi zs d',rfl, ?_, ?_⟩ ?_
   ·exact .mk _ _ _ _ _ _ _ _ _ hdn' hnl hl hsl (by omega) hzo
   ·rw [←hoo,jR,jR,qS,qS,hzs,hzl,List.take_length]
   ·refine .agg _ _ _ ?_
    have:=Rds.snoc hrd [.int .i64 kind,dn',.int .i64 gap.lo,.int .i64 gap.hi,.int .i64 most,.int .i64 lo,.int .i64 hi]
    rw [oe1,oe2,oe3,oe4,oe5]
    exact this
def dHS (d:mK):List bU×List bU:=(d.hours,d.shut)
structure Few (c:cJ):Prop where
 rooms:c.house.rooms.length<=8
 doors:c.house.doors.length<=4
 ways:c.house.ways.length<=20
 keys:c.keys.length<=12
 sts:c.stations.length<=10
 marks:c.marks.length<=14
 stops:c.session.stops.length<=6
 size:tO c.order<=50
def OkC (c:cJ):Prop:=eB c.order=true/\∀d∈c.house.doors,d.hours.length+d.shut.length<=16
def reV (c:cJ) (dr dw dse dk dst:D) (o:aF) (v1 v2:AV):List AV:=[ofD dr,v1,ofD dw,.int .i64 c.session.id,.int .i64 c.session.in_.lo,.int .i64 c.session.in_.hi,.int .i64 c.session.out.lo,.int .i64 c.session.out.hi,.int .i64 c.session.zero.lo,.int .i64 c.session.zero.hi,.int .i64 c.session.end_.lo,.int .i64 c.session.end_.hi,.int .i64 c.session.rate.lo,.int .i64 c.session.rate.hi,ofD dse,
   .int .i64 c.ink.faint,.int .i64 c.ink.stray,.int .i64 c.ink.slip,ofD dk,ofD dst,v2,.int .i64 c.start,.int .i64 c.since,.int .i64 o.kind,ofD o.dn,.int .i64 o.gap.lo,.int .i64 o.gap.hi,.int .i64 o.most,.int .i64 o.lo,.int .i64 o.hi,ofD o.dk]
theorem aUR (c:cJ):bD (bI c)=reV c c.house.dr c.house.dw c.session.ds c.dk c.dst c.order (ofD c.house.dd) (ofD c.dm):=by rw [bG];rfl
structure Re (c:cJ) (dr dw dse dk dst:D) (ds:List mK) (o:aF):Prop where
 dr:Sl 2 iN c.house.rooms dr
 dw:Sl 5 oD c.house.ways dw
 dse:Sl 3 hZ c.session.stops dse
 dk:Sl 3 dJ c.keys dk
 dst:Sl 3 cN c.stations dst
 doors:ds.map dHS=c.house.doors.map dHS
 dok:∀d∈ds,Sl 2 bJ d.hours d.dh/\Sl 2 bJ d.shut d.ds
 ord:dC o
 ordE:jR o=jR c.order
def reC (c:cJ) (dr:D) (ds:List mK) (dd dw dse dk dst:D) (ms:List dO) (dm:D) (o:aF):cJ:=⟨⟨c.house.rooms,dr,ds,dd,c.house.ways,dw⟩,⟨c.session.id,c.session.in_,c.session.out,c.session.zero,c.session.end_,c.session.rate,c.session.stops,dse⟩,c.ink,c.keys,dk,c.stations,dst,ms,dm,c.start,c.since,o⟩
theorem aET (c:cJ) (dr:D) (ds:List mK) (dd dw dse dk dst:D) (ms:List dO) (dm:D) (o:aF):bD (bI (reC c dr ds dd dw dse dk dst ms dm o))=reV c dr dw dse dk dst o (ofD dd) (ofD dm):=by rw [bG];rfl
theorem Re.ok {c:cJ} {dr dw dse dk dst:D} {ds:List mK} {o:aF} (h:Re c dr dw dse dk dst ds o) (ho:dD c) {dd dm:D} {ms:List dO} (hd:Sl 2 eY ds dd) (hm:Sl 5 bS ms dm) (hml:ms.length<=1000000):dD (reC c dr ds dd dw dse dk dst ms dm o):=by
 have hl:ds.length=c.house.doors.length:=by have:=congrArg List.length h.doors;simpa using this
 have hmem:∀d∈ds,∃d'∈c.house.doors,d.hours=d'.hours/\d.shut=d'.shut:=fun d hd=>by
  have:dHS d∈c.house.doors.map dHS:=by rw [←h.doors];exact List.mem_map_of_mem hd
  obtain⟨d',h1,h2⟩:=List.mem_map.1 this
  simp only [dHS,Prod.mk.injEq] at h2
  exact⟨d',h1,h2.1.symm,h2.2.symm⟩
 refine⟨⟨h.dr,ho.house.roomsL,ho.house.names,hd,by rw [show (reC c dr ds dd dw dse dk dst ms dm o).house.doors=ds from rfl,hl];exact ho.house.doorsL,fun d hd=>(h.dok d hd).1,fun d hd=> ?_,fun d hd=>(h.dok d hd).2,fun d hd=> ?_,h.dw,ho.house.waysL⟩,h.dse,ho.stopsL,⟨h.dk,ho.st.keysL,h.dr,ho.house.roomsL,h.dst,ho.st.stsL,ho.st.names⟩,hm,by show ms.length<=_;omega,h.ord⟩
 ·obtain⟨d',h1,h2,h3⟩:=hmem d hd;rw [h2];exact ho.house.hoursL d' h1
 ·obtain⟨d',h1,h2,h3⟩:=hmem d hd;rw [h3];exact ho.house.shutL d' h1
theorem dC.o1 {o:aF} (h:dC o):Ev.one (ofD o.dn)=true:=by cases h with | mk _ _ _ _ _ _ _ _ _ h=>exact bW h
theorem dC.o2 {o:aF} (h:dC o):Ev.one (ofD o.dk)=true:=by cases h with | mk _ _ _ _ _ _ _ _ _ _ _ _ h=>exact bW h
def z42:List AV:=[.nils,.nils,.nils,.int .i64 0,.int .i64 0,.int .i64 0,.int .i64 0,.int .i64 0,.int .i64 0,.int .i64 0,.int .i64 0,.int .i64 0,.int .i64 0,.int .i64 0,.nils,.int .i64 0,.int .i64 0,.int .i64 0,.nils,.nils,.nils,.int .i64 0,.int .i64 0,.int .i64 0,.nils,.int .i64 0,.int .i64 0,.int .i64 0,.int .i64 0,.int .i64 0,.nils]
section
variable {c : cJ} {t : E2} {H : Hp} {k : AEx -> En -> Hp -> Bool} {ro : Option Nat} {q : Nat}
theorem aqA {zs doors:List mK} {v:AV} (hn:zs.length<doors.length) (hv:Own 2 eY 78 (q+2) H v (zs++doors.drop zs.length)) (hx1:Sl 2 bJ doors[zs.length].hours doors[zs.length].dh) (hx2:Sl 2 bJ doors[zs.length].shut doors[zs.length].ds)
  (hl1:doors[zs.length].hours.length<=1048576) (hl2:doors[zs.length].shut.length<=1048576) (hl:doors.length<=1048576) (g23:E2.get t 23= .int .i64 zs.length) (g22:E2.get t 22= .int .i64 doors.length) (g3:E2.get t 3=v) (g1:E2.get t 1= .ptr q 0) (g2:E2.get t 2= .ptr (q+1) 0)
  (hk:∀z t' H',(Sl 2 bJ z.hours z.dh/\Sl 2 bJ z.shut z.ds)->dHS z=dHS doors[zs.length]->Own 2 eY 78 (q+2) H' v ((zs++[z])++doors.drop (zs.length+1))->H'.nx=H.nx->E2.get t' 23= .int .i64 ((zs.length+1:Nat):Int)->E2.get t' 22= .int .i64 doors.length->E2.get t' 3=v->E2.get t' 1= .ptr q 0->E2.get t' 2= .ptr (q+1) 0->(∀c,c<q+2->H'.get c=H.get c)->k .normal ⟨t',[]⟩ H'=true):
  cd P G 200 69 (aJ 53 [1,1,1,1,0,1,0]) ro ⟨t,[]⟩ H k=true:=by
 have hxl:(zs++doors.drop zs.length).length=doors.length:=by rw [List.length_append,List.length_drop];omega
 have hn2:zs.length<(zs++doors.drop zs.length).length:=by omega
 have hx:(zs++doors.drop zs.length)[zs.length]=doors[zs.length]:=by
  rw [List.getElem_append_right (Nat.le_refl _)];simp
 obtain⟨b,hvb,hlo,hb,hgb⟩:=hv.at hn2
 rw [hvb] at g3
 have e1:((zs.length:Int)<(doors.length:Int))=True:=eq_true (by omega)
 have r0:(bD (cB eY (zs++doors.drop zs.length)))[zs.length * 2]? =some (ofD doors[zs.length].dh):=by
  rw [←Nat.add_zero (zs.length * 2),dF cY _ zs.length 0 hn2 (by decide),hx];rfl
 have r1:(bD (cB eY (zs++doors.drop zs.length)))[zs.length * 2+1]? =some (ofD doors[zs.length].ds):=by
  rw [dF cY _ zs.length 1 hn2 (by decide),hx];rfl
 have a1:∀n,aR (n+1) (ofD doors[zs.length].dh) (ofD doors[zs.length].dh)=true:=dB hx1
 have a2:∀n,aR (n+1) (ofD doors[zs.length].ds) (ofD doors[zs.length].ds)=true:=dB hx2
 rw [afC]
 simp (disch:=first|exact bk rfl|omega) only [go_sem,g23,g22,g3,e1,eI gR vW tB hn2,hgb,r0,r1]
 refine cS hG [doors[zs.length].dh] (aBB hx1 hl1) rfl fun d1 hd1=> ?_
 simp (disch:=first|exact bk rfl|omega) only [go_sem,g23,g22,g3,e1,eI gR vW tB hn2,hgb,r0,r1,a1 999,a2 999]
 refine cS hG [doors[zs.length].ds] (aBB hx2 hl2) rfl fun d2 hd2=> ?_
 simp (disch:=first|exact bk rfl|omega) only [go_sem,g23,g22,g3,e1,eI gR vW tB hn2,hgb,r0,r1,a1 999,a2 999,gC hd1,gC hd2]
 have hst:=aCW (sz:=2) (enc:=eY) (zs++doors.drop zs.length) zs.length ⟨doors[zs.length].hours,d1,doors[zs.length].shut,d2⟩ cY hn2
 rw [show bD (eY ⟨doors[zs.length].hours,d1,doors[zs.length].shut,d2⟩)=[ofD d1,ofD d2] from rfl] at hst
 have o1:=bW hd1
 have o2:=bW hd2
 rw [hst]
 simp (disch:=first|exact bk rfl|omega) only [go_sem,o1,o2]
 have hset:∀z,(zs++doors.drop zs.length).set zs.length z=(zs++[z])++doors.drop (zs.length+1):=fun z=>by
  rw [List.set_append_right (h:=Nat.le_refl _),Nat.sub_self,List.append_assoc]
  congr 1
  rw [List.drop_eq_getElem_cons hn];rfl
 rw [hset]
 refine hk ⟨doors[zs.length].hours,d1,doors[zs.length].shut,d2⟩ _ _ ⟨hd1,hd2⟩ rfl (.inr ⟨b,none, ?_,.inl rfl,hlo, ?_, ?_⟩) ?_ ?_ ?_ ?_ ?_ ?_ fun c hc=> ?_
 ·rw [hvb,hxl,List.length_append,List.length_append,List.length_drop,List.length_singleton]
  congr 1;omega
 ·simp (disch:=first|exact bk rfl|omega) only [go_sem];exact hb
 ·simp (disch:=first|exact bk rfl|omega) only [go_sem,aI]
 ·simp (disch:=first|exact bk rfl|omega) only [go_sem]
 ·simp (disch:=first|exact bk rfl|omega) only [go_sem];congr 1
 ·simp (disch:=first|exact bk rfl|omega) only [go_sem];exact g22
 ·simp (disch:=first|exact bk rfl|omega) only [go_sem];rw [g3,hvb]
 ·simp (disch:=first|exact bk rfl|omega) only [go_sem];exact g1
 ·simp (disch:=first|exact bk rfl|omega) only [go_sem];exact g2
 ·have a1:(c=b)=False:=eq_false (by omega)
  simp (disch:=first|exact bk rfl|omega) only [go_sem,a1,if_false]
theorem auT (ho:dD c) (hf:Few c) (hfo:eB c.order=true) {v:AV} {dr dw:D} {ds:List mK} (hv:Own 2 eY 78 (q+2) H v ds) (hdr:Sl 2 iN c.house.rooms dr) (hdw:Sl 5 oD c.house.ways dw) (hds:ds.map dHS=c.house.doors.map dHS) (hdok:∀d∈ds,Sl 2 bJ d.hours d.dh/\Sl 2 bJ d.shut d.ds)
  (hnx:q+2<=H.nx) (g3:E2.get t 3=v) (g1:E2.get t 1= .ptr q 0) (g2:E2.get t 2= .ptr (q+1) 0)
  (hg0:H.get q=some (.cells (some 42) false (reV c dr dw c.session.ds c.dk c.dst c.order (ofD c.house.dd) (ofD c.dm)))) (hg1:H.get (q+1)=some (.cells (some 42) false z42))
  (hk:∀t' H' Hm v2 dse dk dst o,Re c dr dw dse dk dst ds o->Own 2 eY 78 (q+2) Hm v ds->Own 5 bS 50 Hm.nx H' v2 c.marks->q+2<=Hm.nx->Hm.nx<=H'.nx->(∀b,q+2<=b->b<Hm.nx->H'.get b=Hm.get b)->(∀b,b<q->H'.get b=H.get b)->
   E2.get t' 2= .ptr (q+1) 0->H'.get (q+1)=some (.cells (some 42) false (reV c dr dw dse dk dst o v v2))->k .ret ⟨t',[]⟩ H'=true):
  cd P G 195 69 (aJ 53 [1,1,1,1,1]) ro ⟨t,[]⟩ H k=true:=by
 have c1:=hv.cells
 have c2:=hv.one
 have n1:(q=q+1)=False:=eq_false (by omega)
 have n2:(q+1=q)=False:=eq_false (by omega)
 simp only [reV] at hg0
 simp only [z42] at hg1
 have s1:=bW ho.stops
 have s2:=bW ho.st.keys
 have s3:=bW ho.st.sts
 have s4:=bW ho.mks
 rw [axE]
 simp (disch:=first|exact bk rfl|omega) only [go_sem,g1,g2,g3,hg0,hg1,c1,c2,n1,n2,aM,aI]
 refine cS hG [c.session.ds] (aMA ho.stops (by have:=hf.stops;omega)) rfl fun dse hdse=> ?_
 simp (disch:=first|exact bk rfl|omega) only [go_sem,g1,g2,g3,hg0,hg1,c1,c2,n1,n2,aM,aI,gC hdse,bW hdse]
 refine cS hG [c.dk] (aLM ho.st.keys (by have:=hf.keys;omega)) rfl fun dk hdk=> ?_
 simp (disch:=first|exact bk rfl|omega) only [go_sem,g1,g2,g3,hg0,hg1,c1,c2,n1,n2,aM,aI,gC hdk,bW hdk]
 refine cS hG [c.dst] (aOA ho.st.sts (by have:=hf.sts;omega)) rfl fun dst hdst=> ?_
 simp (disch:=first|exact bk rfl|omega) only [go_sem,g1,g2,g3,hg0,hg1,c1,c2,n1,n2,aM,aI,gC hdst,bW hdst]
 generalize hHx:(Hp.setb _ q _:Hp)=Hx
 have hxq:Hx.get q=some (.cells (some 42) false (reV c dr dw dse dk dst c.order v (ofD c.dm))):=by subst hHx;simp (disch:=first|exact bk rfl|omega) only [go_sem,aI,reV]
 have hxq1:Hx.get (q+1)=some (.cells (some 42) false z42):=by subst hHx;simp (disch:=first|exact bk rfl|omega) only [go_sem,n2,if_false,hg1,z42]
 have hxf:∀b,(b=q)=False->Hx.get b=H.get b:=fun b hb=>by subst hHx;simp (disch:=first|exact bk rfl|omega) only [go_sem,hb,if_false]
 have hxn:Hx.nx=H.nx:=by subst hHx;simp (disch:=first|exact bk rfl|omega) only [go_sem]
 clear hHx
 refine aLH ho.mks (by have:=hf.marks;omega) fun v2 H2 hv2 hnx2 hfr2=> ?_
 have h2q:=hfr2 q (by omega)
 have h2q1:=hfr2 (q+1) (by omega)
 rw [hxq] at h2q
 rw [hxq1] at h2q1
 simp only [reV] at h2q
 simp only [z42] at h2q1
 have oo1:Ev.one (ofD c.order.dn)=true:=ho.order.o1
 have oo2:Ev.one (ofD c.order.dk)=true:=ho.order.o2
 simp (disch:=first|exact bk rfl|omega) only [go_sem,g1,g2,g3,h2q,h2q1,c1,c2,n1,n2,aM,aI,hv2.cells,hv2.one]
 refine cS hG [.agg (aV c.order)] (aNA ho.order hfo) rfl fun d hd=> ?_
 obtain⟨o,rfl,hoo,hos⟩:=hd
 have od:ofD (.agg (aV o))= .agg [.int .i64 o.kind,ofD o.dn,.int .i64 o.gap.lo,.int .i64 o.gap.hi,.int .i64 o.most,.int .i64 o.lo,.int .i64 o.hi,ofD o.dk]:=rfl
 have oo3:Ev.one (ofD o.dn)=true:=hoo.o1
 have oo4:Ev.one (ofD o.dk)=true:=hoo.o2
 rw [od]
 simp (disch:=first|exact bk rfl|omega) only [go_sem,g1,g2,g3,h2q,h2q1,c1,c2,n1,n2,aM,aI,hv2.cells,hv2.one,oo3,oo4,bW hdr,bW hdw,bW hdse,bW hdk,bW hdst]
 refine hk _ _ Hx v2 dse dk dst o ⟨hdr,hdw,hdse,hdk,hdst,hds,hdok,hoo,hos⟩ (hv.frame (by omega) fun b hb1 hb2=>hxf b (eq_false (by omega))) (hv2.frame (by simp (disch:=first|exact bk rfl|omega) only [go_sem];omega) fun b hb1 hb2=> ?_) (by omega) (by simp (disch:=first|exact bk rfl|omega) only [go_sem];omega) (fun b hb1 hb2=> ?_) (fun b hb=> ?_) (eg rfl g2) (by simp (disch:=first|exact bk rfl|omega) only [go_sem,aI,reV])
 ·have a1:(b=q)=False:=eq_false (by omega)
  have a2:(b=q+1)=False:=eq_false (by omega)
  simp (disch:=first|exact bk rfl|omega) only [go_sem,a1,a2,if_false]
 ·have a1:(b=q)=False:=eq_false (by omega)
  have a2:(b=q+1)=False:=eq_false (by omega)
  simp (disch:=first|exact bk rfl|omega) only [go_sem,a1,a2,if_false]
  exact hfr2 b hb2
 ·have a1:(b=q)=False:=eq_false (by omega)
  have a2:(b=q+1)=False:=eq_false (by omega)
  simp (disch:=first|exact bk rfl|omega) only [go_sem,a1,a2,if_false]
  rw [hfr2 b (by omega),hxf b a1]
end
def I53 (c:cJ) (dr dw:D) (H0:Hp) (q:Nat) (m:Nat) (e:En) (H:Hp):Prop:=∃(zs:List mK) (v:AV),zs.length<=c.house.doors.length/\m=c.house.doors.length - zs.length/\e.dm=[]/\(∀z∈zs,Sl 2 bJ z.hours z.dh/\Sl 2 bJ z.shut z.ds)/\zs.map dHS=(c.house.doors.take zs.length).map dHS/\
 Own 2 eY 78 (q+2) H v (zs++c.house.doors.drop zs.length)/\q+2<=H.nx/\E2.get e.t 23= .int .i64 zs.length/\E2.get e.t 22= .int .i64 c.house.doors.length/\E2.get e.t 3=v/\E2.get e.t 1= .ptr q 0/\E2.get e.t 2= .ptr (q+1) 0/\
 H.get q=some (.cells (some 42) false (reV c dr dw c.session.ds c.dk c.dst c.order (ofD c.house.dd) (ofD c.dm)))/\H.get (q+1)=some (.cells (some 42) false z42)/\∀b,b<q->H.get b=H0.get b
theorem aEV {c:cJ} (ho:dD c) (hf:Few c) (hfo:OkC c) {H:Hp} {k:fE->Hp->Bool}
  (hk:∀H' Hm v v2 dr dw dse dk dst ds o,Re c dr dw dse dk dst ds o->Own 2 eY 78 (H.nx+2) Hm v ds->Own 5 bS 50 Hm.nx H' v2 c.marks->H.nx<=Hm.nx->Hm.nx<=H'.nx->(∀b,H.nx+2<=b->b<Hm.nx->H'.get b=Hm.get b)->(∀b,b<H.nx->H'.get b=H.get b)->
   k (.ret (.agg (reV c dr dw dse dk dst o v v2))) H'=true):aP P G ⟨cd P G 200,dY P G⟩ 53 [.agg (bD (bI c))] H k=true:=by
 generalize hq:H.nx=q at hk
 have n1:(q=q+1)=False:=eq_false (by omega)
 have n2:(q+1=q)=False:=eq_false (by omega)
 rw [aUR]
 have s1:=bW ho.stops
 have s2:=bW ho.st.keys
 have s3:=bW ho.st.sts
 have s4:=bW ho.mks
 have s5:=bW ho.house.doors
 have s6:=bW ho.house.ways
 have oo1:=ho.order.o1
 have oo2:=ho.order.o2
 rw [h53]
 simp (disch:=first|exact bk rfl|omega) only [go_sem,reV,hq,n1,n2,aM,aI]
 refine cS hG [c.house.dr] (aNO ho.house.rooms (by have:=hf.rooms;omega)) rfl fun dr hdr=> ?_
 simp (disch:=first|exact bk rfl|omega) only [go_sem,hq,n1,n2,aM,aI,gC hdr,bW hdr]
 refine cS hG [c.house.dw] (aML ho.house.ways (by have:=hf.ways;omega)) rfl fun dw hdw=> ?_
 simp (disch:=first|exact bk rfl|omega) only [go_sem,hq,n1,n2,aM,aI,gC hdw,bW hdw]
 generalize hHx:(Hp.setb _ q _:Hp)=Hx
 have hxq:Hx.get q=some (.cells (some 42) false (reV c dr dw c.session.ds c.dk c.dst c.order (ofD c.house.dd) (ofD c.dm))):=by subst hHx;simp (disch:=first|exact bk rfl|omega) only [go_sem,aI,reV]
 have hxq1:Hx.get (q+1)=some (.cells (some 42) false z42):=by subst hHx;simp (disch:=first|exact bk rfl|omega) only [go_sem,n2,hq,if_false,aI,z42]
 have hxf:∀b,b<q->Hx.get b=H.get b:=fun b hb=>by
  have a1:(b=q)=False:=eq_false (by omega)
  have a2:(b=q+1)=False:=eq_false (by omega)
  subst hHx;simp (disch:=first|exact bk rfl|omega) only [go_sem,a1,a2,hq,if_false]
 have hxn:Hx.nx=q+2:=by subst hHx;simp (disch:=first|exact bk rfl|omega) only [go_sem,hq]
 clear hHx
 refine aLD ho.house.doors (fun d hd=>⟨bW (ho.house.hours d hd),bW (ho.house.shut d hd)⟩) (by have:=hf.doors;omega) fun v H1 hv hnx hfr=> ?_
 rw [hxn] at hv hnx hfr
 simp (disch:=first|exact bk rfl|omega) only [go_sem,hv.len gR]
 refine bA (I53 c dr dw H q) (fun m e H' hi=> ?_) (m:=c.house.doors.length) ?_
 rotate_left
 ·exact⟨[],v,by simp,rfl,rfl,by simp,by simp,by simpa using hv,hnx,eg rfl rfl,eg rfl rfl,eg rfl rfl,by subst hq;first | rfl | (simp (disch:=first|exact bk rfl|omega) only [go_sem]<;>rfl),by subst hq;first | rfl | (simp (disch:=first|exact bk rfl|omega) only [go_sem]<;>rfl),by rw [hfr q (by omega)];exact hxq,by rw [hfr (q+1) (by omega)];exact hxq1,fun b hb=>by rw [hfr b (by omega),hxf b hb]⟩
 obtain⟨zs,v,hn',rfl,hdm,hzo,hzs,hv,hnx,g23,g22,g3,g1,g2,hg0,hg1,hfr⟩:=hi
 obtain⟨t,dm⟩:=e
 dsimp only at hdm g23 g22 g3 g1 g2
 subst hdm
 refine bC 200 ?_
 by_cases hlt:zs.length<c.house.doors.length
 ·have hmem:=List.getElem_mem hlt
  have hsp:=hfo.2 _ hmem
  refine aqA hlt hv (ho.house.hours _ hmem) (ho.house.shut _ hmem) (by omega) (by omega) (by have:=hf.doors;omega) g23 g22 g3 g1 g2 fun z t' H' hz hq hv' hnx' k23 k22 k3 k1 k2 hfr'=> ?_
  refine aZ (m':=c.house.doors.length - (zs.length+1)) (by omega) ⟨zs++[z],v,by rw [List.length_append,List.length_singleton];omega,by rw [List.length_append];rfl,rfl, ?_, ?_, ?_,by omega,by rw [List.length_append];exact k23,k22,k3,k1,k2,by rw [hfr' q (by omega)];exact hg0,by rw [hfr' (q+1) (by omega)];exact hg1,fun b hb=>by rw [hfr' b (by omega),hfr b hb]⟩
  ·intro y hy
   rcases List.mem_append.1 hy with h | h
   ·exact hzo y h
   ·rw [List.mem_singleton] at h;subst h;exact hz
  ·rw [List.length_append,List.map_append,hzs,List.length_singleton,←fY hlt,List.map_append]
   simp [hq]
  ·rw [List.length_append];exact hv'
 ·have hzl:zs.length=c.house.doors.length:=by omega
  have e1:((zs.length:Int)<(c.house.doors.length:Int))=False:=eq_false (by omega)
  rw [afC]
  simp (disch:=first|exact bk rfl|omega) only [go_sem,g23,g22,e1]
  rw [List.drop_of_length_le (by omega),List.append_nil] at hv
  rw [hzl,List.take_length] at hzs
  refine auT ho hf hfo.1 hv hdr hdw hzs hzo hnx (eg rfl g3) (eg rfl g1) (eg rfl g2) hg0 hg1 fun t' H' Hm v2 dse dk dst o hre hv' hv2 hn1 hn2 hf1 hf2 k2 hg'=> ?_
  show aS P G Tryz.f53 _ _ .ret ⟨t',[]⟩ H'=true
  rw [r53,k2]
  simp only [reV] at hg'
  simp (disch:=first|exact bk rfl|omega) only [go_sem,hg']
  refine hk H' Hm v v2 dr dw dse dk dst zs o hre hv' hv2 (by omega) hn2 hf1 fun b hb=>by rw [hf2 b hb,hfr b hb]
theorem aSL {c:cJ} (ho:dD c) (hf:Few c) (hfo:OkC c) {H:Hp} {k:AV->Hp->Bool}
  (hk:∀H' Hm v v2 dr dw dse dk dst ds o,Re c dr dw dse dk dst ds o->Own 2 eY 78 (H.nx+2) Hm v ds->Own 5 bS 50 Hm.nx H' v2 c.marks->H.nx<=Hm.nx->Hm.nx<=H'.nx->(∀b,H.nx+2<=b->b<Hm.nx->H'.get b=Hm.get b)->(∀b,b<H.nx->H'.get b=H.get b)->
   k (.agg (reV c dr dw dse dk dst o v v2)) H'=true):cl P G 53 [.agg (bD (bI c))] H k=true:=dA 200 (aEV ho hf hfo hk)
theorem Rds.app {H:Hp} {b:List AV} {es:List D} {J:List Nat} (hb:Rds H b es J):∀{a:List AV} {ds:List D} {I:List Nat},Rds H a ds I->Rds H (a++b) (ds++es) (I++J)
 | _,_,_,.nil=>hb
 | _,_,_,.cons v d I vs ds J' h hs=>by rw [List.append_assoc];exact .cons v d I _ _ _ h (Rds.app hb hs)
theorem zO {H:Hp} {c:cJ} {dr dw dse dk dst:D} {o:aF} {v1 v2:AV} {d1 d2:D} {I J:List Nat} (h1:Rd H v1 d1 I) (h2:Rd H v2 d2 J) (ms:List dO) (ds:List mK):∃K,Rd H (.agg (reV c dr dw dse dk dst o v1 v2)) (.agg (bI (reC c dr ds d1 dw dse dk dst ms d2 o))) K:=by
 have a4:Rds H [.int .i64 c.start,.int .i64 c.since,.int .i64 o.kind,ofD o.dn,.int .i64 o.gap.lo,.int .i64 o.gap.hi,.int .i64 o.most,.int .i64 o.lo,.int .i64 o.hi,ofD o.dk] [.int .i64 c.start,.int .i64 c.since,.int .i64 o.kind,o.dn,.int .i64 o.gap.lo,.int .i64 o.gap.hi,.int .i64 o.most,.int .i64 o.lo,.int .i64 o.hi,o.dk] []:=Rds.fro [.int .i64 c.start,.int .i64 c.since,.int .i64 o.kind,o.dn,.int .i64 o.gap.lo,.int .i64 o.gap.hi,.int .i64 o.most,.int .i64 o.lo,.int .i64 o.hi,o.dk]
 have a3:=Rds.cons _ _ _ _ _ _ h2 a4
 have a2:=Rds.app a3 (Rds.fro (H:=H) [dw,.int .i64 c.session.id,.int .i64 c.session.in_.lo,.int .i64 c.session.in_.hi,.int .i64 c.session.out.lo,.int .i64 c.session.out.hi,.int .i64 c.session.zero.lo,.int .i64 c.session.zero.hi,.int .i64 c.session.end_.lo,.int .i64 c.session.end_.hi,.int .i64 c.session.rate.lo,.int .i64 c.session.rate.hi,dse,.int .i64 c.ink.faint,.int .i64 c.ink.stray,.int .i64 c.ink.slip,dk,dst])
 have a1:=Rds.cons _ _ _ _ _ _ h1 a2
 have a0:=Rds.cons _ _ [] _ _ _ (Rd.fro (H:=H) dr) a1
 rw [bG]
 exact⟨_,.agg _ _ _ a0⟩
def ClQ (c:cJ) (ms:List dO) (d:D):Prop:=∃dr ds dd dw dse dk dst dm o,d= .agg (bI (reC c dr ds dd dw dse dk dst ms dm o))/\Re c dr dw dse dk dst ds o/\Sl 2 eY ds dd/\Sl 5 bS ms dm
theorem aRZ {c:cJ} (ho:dD c) (hf:Few c) (hfo:OkC c):CQ P G 53 [.agg (bI c)] (ClQ c c.marks):=by
 refine CQ.enter hG ?_
 refine aEV ho hf hfo fun H' Hm v v2 dr dw dse dk dst ds o hre hv hv2 hn1 hn2 hf1 hf2=> ?_
 obtain⟨d1,I,h1,h1'⟩:=(hv.frame hn2 hf1).rd cY
 obtain⟨d2,J,h2,h2'⟩:=hv2.rd dG
 obtain⟨K,hK⟩:=zO (c:=c) (dr:=dr) (dw:=dw) (dse:=dse) (dk:=dk) (dst:=dst) (o:=o) h1 h2 c.marks ds
 exact iO ⟨dr,ds,d1,dw,dse,dk,dst,d2,o,rfl,hre,h1',h2'⟩ hK
theorem aCO (xs:List Int) (d:D) (hs:Sl 1 tP xs d) (hl:xs.length<=9223372036854775807) (v:Int):CQ P G 128 [d,.int .i64 v] (·= .bool (xs.any (fun x=>decide (v=x)))):=by
 refine CQ.enter hG ?_
 (try simp (disch:=first|exact bk rfl|omega) only [go_sem,aiP]);repeat' (first | ((with_reducible first | apply aD | apply aE | apply aC)<;>intro h<;>(try simp only [spl] at h)<;>try simp (disch:=first|exact bk rfl|omega) only [go_sem,aiP,h])| ((with_reducible refine cR ?_;refine bE hG _ (aNJ xs d hs hl v) rfl ?_)<;>try simp (disch:=first|exact bk rfl|omega) only [go_sem,aiP]))
 refine aG (.bool _) ?_
 rw [←aAX]
def jZ (is:List Int) (l:List dO):List dO:=(l.zipIdx.filter (fun p=> !is.any (fun x=>decide ((p.2:Int)=x)))).map (·.1)
theorem oF {is:List Int} {l:List dO} {n:Nat} (h:n<l.length):jZ is (l.take (n+1))=jZ is (l.take n)++(if is.any (fun x=>decide ((n:Int)=x))=true then [] else [l[n]]):=by
 rw [←fY h]
 unfold jZ
 rw [List.zipIdx_append,List.filter_append,List.map_append]
 congr 1
 simp only [List.zipIdx_cons,List.zipIdx_nil,List.length_take,Nat.min_eq_left (Nat.le_of_lt h),Nat.zero_add]
 cases hx:is.any (fun x=>decide ((n:Int)=x))<;>simp [hx]
theorem nZ (is:List Int) (l:List dO):(jZ is l).length<=l.length:=by
 unfold jZ
 rw [List.length_map]
 exact Nat.le_trans (List.length_filter_le _ _) (by simp)
theorem axO (a b c d e:Int) (k:Blk->(Nat->AV)->Bool):bF P 36 1 [(0,.agg [.int .i64 a,.int .i64 b,.int .i64 c,.int .i64 d,.int .i64 e])] k=k (.cells (some 50) false [.int .i64 a,.int .i64 b,.int .i64 c,.int .i64 d,.int .i64 e]) (sG 1 5):=by kernel_rfl
def I54 (c:cJ) (is:List Int) (di dr dd dw dse dk dst:D) (o:aF) (m:Nat) (e:En) (H:Hp):Prop:=∃(n:Nat) (v:AV),n<=c.marks.length/\m=c.marks.length - n/\e.dm=[]/\Own 5 bS 50 3 H v (jZ is (c.marks.take n))/\3<=H.nx/\
 E2.get e.t 14= .int .i64 n/\E2.get e.t 13= .int .i64 c.marks.length/\E2.get e.t 12=ofD c.dm/\E2.get e.t 1=ofD di/\E2.get e.t 4= .ptr 1 0/\E2.get e.t 5= .ptr 2 0/\H.get 1=some (.cells (some 42) false z42)/\H.get 2=some (.cells (some 42) false (reV c dr dw dse dk dst o (ofD dd) v))
theorem apH {c:cJ} {is:List Int} {di dr dd dw dse dk dst:D} {o:aF} {t:E2} {H:Hp} {k:AEx->En->Hp->Bool} {ro:Option Nat} {n:Nat} {v:AV} (hm:Sl 5 bS c.marks c.dm) (hml:c.marks.length<=14) (hi:Sl 1 tP is di) (hil:is.length<=1000000) (hn:n<c.marks.length) (hv:Own 5 bS 50 3 H v (jZ is (c.marks.take n))) (hnx:3<=H.nx)
  (g14:E2.get t 14= .int .i64 n) (g13:E2.get t 13= .int .i64 c.marks.length) (g12:E2.get t 12=ofD c.dm) (g1:E2.get t 1=ofD di) (g4:E2.get t 4= .ptr 1 0) (g5:E2.get t 5= .ptr 2 0) (hg2:H.get 2=some (.cells (some 42) false (reV c dr dw dse dk dst o (ofD dd) v)))
  (hk:∀t' H' v',Own 5 bS 50 3 H' v' (jZ is (c.marks.take (n+1)))->3<=H'.nx->E2.get t' 14= .int .i64 ((n+1:Nat):Int)->E2.get t' 13= .int .i64 c.marks.length->E2.get t' 12=ofD c.dm->E2.get t' 1=ofD di->E2.get t' 4= .ptr 1 0->E2.get t' 5= .ptr 2 0->H'.get 1=H.get 1->H'.get 2=some (.cells (some 42) false (reV c dr dw dse dk dst o (ofD dd) v'))->k .normal ⟨t',[]⟩ H'=true):
  cd P G 200 31 (aJ 54 [1,1,1,0,1,0]) ro ⟨t,[]⟩ H k=true:=by
 have e1:((n:Int)<(c.marks.length:Int))=True:=eq_true (by omega)
 have hkl:=nZ is (c.marks.take n)
 rw [List.length_take] at hkl
 have z1:(H.nx=2)=False:=eq_false (by omega)
 have z2:(2=H.nx)=False:=eq_false (by omega)
 have z3:(1=H.nx)=False:=eq_false (by omega)
 have z4:(2=H.nx+1)=False:=eq_false (by omega)
 have z5:(1=H.nx+1)=False:=eq_false (by omega)
 have z6:(H.nx=H.nx+1)=False:=eq_false (by omega)
 simp only [reV] at hg2
 rw [agX]
 simp (disch:=first|exact bk rfl|omega) only [go_sem,g14,g13,g12,g1,g5,e1,aX hm gY wU qC hn,aY dG hn,bS,aM,aI]
 refine bE hG [di,.int .i64 n] (aCO is di hi (by omega) n) rfl ?_
 cases hc:is.any (fun x=>decide ((n:Int)=x))
 ·simp (disch:=first|exact bk rfl|omega) only [go_sem,Bool.not_false,g14,g13,g12,g1,g5,hg2,z1,z2,z3,aM,aI,axO,cM]
  refine fV (x:=c.marks[n]) (lo:=3) dG (fun _=>rfl) aEO.ap (hv.frame (by simp (disch:=first|exact bk rfl|omega) only [go_sem];omega) fun b hb hb2=> ?_) (by simp (disch:=first|exact bk rfl|omega) only [go_sem];omega) (by (simp (disch:=first|exact bk rfl|omega) only [go_sem,aI];rfl)) (by omega) fun v2 H2 ho2 hn2 hn3 hf hf2=> ?_
  ·have a1:(b=H.nx)=False:=eq_false (by omega)
   have a2:(b=H.nx+1)=False:=eq_false (by omega)
   simp (disch:=first|exact bk rfl|omega) only [go_sem,a1,a2,aM]
  have h22:H2.get 2=some (.cells (some 42) false (reV c dr dw dse dk dst o (ofD dd) v)):=by rw [hf 2 (by omega)];simp (disch:=first|exact bk rfl|omega) only [go_sem,z2,z4,aM,hg2,reV]
  have h21:H2.get 1=H.get 1:=by rw [hf 1 (by omega)];simp (disch:=first|exact bk rfl|omega) only [go_sem,z3,z5,aM]
  simp only [reV] at h22
  simp (disch:=first|exact bk rfl|omega) only [go_sem,g5,h22,ho2.cells,ho2.one,afT,g14]
  refine hk _ _ v2 ?_ (by simp (disch:=first|exact bk rfl|omega) only [go_sem];simp (disch:=first|exact bk rfl|omega) only [go_sem] at hn2;omega) (by simp (disch:=first|exact bk rfl|omega) only [go_sem];congr 1) (eg rfl g13) (eg rfl g12) (eg rfl g1) (eg rfl g4) (eg rfl g5) (by simp (disch:=first|exact bk rfl|omega) only [go_sem,aM,h21]) (by simp (disch:=first|exact bk rfl|omega) only [go_sem,aI,reV])
  rw [oF hn,hc,if_neg (by decide)]
  refine ho2.frame (by simp (disch:=first|exact bk rfl|omega) only [go_sem];omega) fun b hb hb2=> ?_
  have a1:(b=2)=False:=eq_false (by omega)
  simp (disch:=first|exact bk rfl|omega) only [go_sem,a1,aM]
 ·simp (disch:=first|exact bk rfl|omega) only [go_sem,Bool.not_true,g14,g13,g12,g1,g5,afT]
  refine hk _ _ v ?_ (by simp (disch:=first|exact bk rfl|omega) only [go_sem];omega) (by simp (disch:=first|exact bk rfl|omega) only [go_sem];congr 1) (eg rfl g13) (eg rfl g12) (eg rfl g1) (eg rfl g4) (eg rfl g5) (by simp (disch:=first|exact bk rfl|omega) only [go_sem,z3,aM]) (by simp (disch:=first|exact bk rfl|omega) only [go_sem,z2,aM,reV,hg2])
  rw [oF hn,hc,if_pos rfl,List.append_nil]
  refine hv.frame (by simp (disch:=first|exact bk rfl|omega) only [go_sem];omega) fun b hb hb2=> ?_
  have a1:(b=H.nx)=False:=eq_false (by omega)
  simp (disch:=first|exact bk rfl|omega) only [go_sem,a1,aM]
theorem Re.ones {c:cJ} {dr dw dse dk dst:D} {ds:List mK} {o:aF} (h:Re c dr dw dse dk dst ds o):Ev.one (ofD dr)=true/\Ev.one (ofD dw)=true/\Ev.one (ofD dse)=true/\Ev.one (ofD dk)=true/\Ev.one (ofD dst)=true/\Ev.one (ofD o.dn)=true/\Ev.one (ofD o.dk)=true:=
 ⟨bW h.dr,bW h.dw,bW h.dse,bW h.dk,bW h.dst,h.ord.o1,h.ord.o2⟩
theorem aJW {c:cJ} (ho:dD c) (hf:Few c) (hfo:OkC c) {is:List Int} {di:D} (hi:Sl 1 tP is di) (hil:is.length<=1000000):CQ P G 54 [.agg (bI c),di] (ClQ c (jZ is c.marks)):=by
 have s1:=bW ho.stops
 have s2:=bW ho.st.keys
 have s3:=bW ho.st.sts
 have s4:=bW ho.mks
 have s5:=bW ho.house.doors
 have s6:=bW ho.house.ways
 have s7:=bW ho.house.rooms
 have oo1:=ho.order.o1
 have oo2:=ho.order.o2
 have hml:=hf.marks
 refine CQ.enter hG ?_
 simp (disch:=first|exact bk rfl|omega) only [go_sem,bG,h54,aM,aI]
 refine cS hG [.agg (bI c)] (aRZ ho hf hfo) (by rw [bG];rfl) fun d hd=> ?_
 obtain⟨dr,ds,dd,dw,dse,dk,dst,dm,o,rfl,hre,hsd,hsm⟩:=hd
 obtain⟨p1,p2,p3,p4,p5,p6,p7⟩:=hre.ones
 have p8:=bW hsd
 have p9:=bW hsm
 rw [show ofD (.agg (bI (reC c dr ds dd dw dse dk dst c.marks dm o)))= .agg (bD (bI (reC c dr ds dd dw dse dk dst c.marks dm o))) from rfl,aET]
 simp (disch:=first|exact bk rfl|omega) only [go_sem,reV,aM,aI,p1,p2,p3,p4,p5,p6,p7,p8,p9,aK ho.mks gY]
 refine bA (I54 c is di dr dd dw dse dk dst o) (fun m e H hi=> ?_) (m:=c.marks.length) ?_
 rotate_left
 ·refine⟨0,.nils,Nat.zero_le _,rfl,rfl,.inl ⟨rfl,rfl⟩,by simp (disch:=first|exact bk rfl|omega) only [go_sem],eg rfl rfl,eg rfl rfl,eg rfl rfl,eg rfl rfl,eg rfl rfl,eg rfl rfl,by simp (disch:=first|exact bk rfl|omega) only [go_sem,aM,aI,z42],by simp (disch:=first|exact bk rfl|omega) only [go_sem,aM,aI,reV]⟩
 obtain⟨n,v,hn',rfl,hdm,hv,hnx,g14,g13,g12,g1,g4,g5,hg1,hg2⟩:=hi
 obtain⟨t,dm'⟩:=e
 dsimp only at hdm g14 g13 g12 g1 g4 g5
 subst hdm
 refine bC 200 ?_
 by_cases hlt:n<c.marks.length
 ·refine apH ho.mks hml hi hil hlt hv hnx g14 g13 g12 g1 g4 g5 hg2 fun t' H' v' hv' hnx' k14 k13 k12 k1 k4 k5 kg1 kg2=> ?_
  exact aZ (m':=c.marks.length - (n+1)) (by omega) ⟨n+1,v',by omega,rfl,rfl,hv',hnx',k14,k13,k12,k1,k4,k5,by rw [kg1];exact hg1,kg2⟩
 ·have e1:((n:Int)<(c.marks.length:Int))=False:=eq_false (by omega)
  rw [List.take_of_length_le (by omega)] at hv
  have c1:=hv.cells
  have c2:=hv.one
  simp only [reV] at hg2
  simp only [z42] at hg1
  rw [agX]
  simp (disch:=first|exact bk rfl|omega) only [go_sem,g14,g13,e1,auX,g5,g4,hg1,hg2,c1,c2,p1,p2,p3,p4,p5,p6,p7,p8,aM,aI,r54]
  have hv':=hv.frame (H':=H.setb 1 (some (.cells (some 42) false (reV c dr dw dse dk dst o (ofD dd) v)))) (by simp (disch:=first|exact bk rfl|omega) only [go_sem];omega) (fun b hb hb2=>by
   have a1:(b=1)=False:=eq_false (by omega)
   simp (disch:=first|exact bk rfl|omega) only [go_sem,a1,aM])
  obtain⟨d2,J,h2,h2'⟩:=hv'.rd dG
  obtain⟨K,hK⟩:=zO (c:=c) (dr:=dr) (dw:=dw) (dse:=dse) (dk:=dk) (dst:=dst) (o:=o) (Rd.fro dd) h2 (jZ is c.marks) ds
  exact iO ⟨dr,ds,dd,dw,dse,dk,dst,d2,o,rfl,hre,hsd,h2'⟩ hK
def gN:cJ:=⟨⟨[],.nils,[],.nils,[],.nils⟩,⟨0,⟨0,0⟩,⟨0,0⟩,⟨0,0⟩,⟨0,0⟩,⟨0,0⟩,[],.nils⟩,⟨0,0,0⟩,[],.nils,[],.nils,[],.nils,0,0,.mk 0 [] .nils ⟨0,0⟩ 0 0 0 [] .nils⟩
theorem aeQ:bD (bI gN)=z42:=rfl
theorem aAP (k:AV->Bool):bO P 42 [] k=k (.agg z42):=by kernel_rfl
theorem aRO {c:cJ} (h:cU c=0):eB c.order=true:=by
 have h1:fB c.order=0:=by
  unfold cU at h
  repeat' split at h
  all_goals first | exact h | (exfalso;omega)| (exact absurd h (by assumption))
 unfold fB at h1
 repeat' split at h1
 all_goals first | assumption | (exfalso;omega)
theorem vD {c:cJ} (h:cU c=0):OkC c:=by
 refine⟨aRO h,fun d hd=> ?_⟩
 have h1:eV c.house=0:=by
  unfold cU at h
  split at h
  ·assumption
  ·exact absurd h (by assumption)
 have h2:c.house.doors.all mY=true:=by
  unfold eV at h1
  repeat' split at h1
  all_goals first | (rename_i h;rw [Bool.and_eq_true] at h;exact h.1)| (exfalso;omega)
 have h3:=List.all_eq_true.1 h2 d hd
 simp only [mY,iV,Bool.and_eq_true,decide_eq_true_eq] at h3
 omega
theorem Re.self {c:cJ} (ho:dD c):Re c c.house.dr c.house.dw c.session.ds c.dk c.dst c.house.doors c.order:=
 ⟨ho.house.rooms,ho.house.ways,ho.stops,ho.st.keys,ho.st.sts,rfl,fun d hd=>⟨ho.house.hours d hd,ho.house.shut d hd⟩,ho.order,rfl⟩
def WoQ (c:cJ) (is:List Int) (d:D):Prop:=if cU c=0 then ∃d1,d= .tup [d1,.int .i64 0]/\ClQ c (jZ is c.marks) d1 else d= .tup [.agg (bI gN),.int .i64 (cU c)]
theorem aHY {c:cJ} (ho:dD c) (hf:Few c) {is:List Int} {di:D} (hi:Sl 1 tP is di) (hil:is.length<=1000000):CQ P G 13 [.agg (bI c),di] (WoQ c is):=by
 refine CQ.enter hG ?_
 simp (disch:=first|exact bk rfl|omega) only [go_sem,bG,h13,aM,aI]
 refine bE hG [.agg (bI c)] (zN c ho) (by rw [bG];rfl) ?_
 by_cases h1:cU c=0
 ·have e1:=eq_true h1
  simp (disch:=first|exact bk rfl|omega) only [go_sem,e1,decide_true,Bool.not_true,aM,aI]
  refine cS hG [.agg (bI c),di] (aJW ho hf (vD h1) hi hil) (by rw [bG];rfl) fun d hd=> ?_
  have hd':=hd
  obtain⟨dr,ds,dd,dw,dse,dk,dst,dm,o,rfl,hre,hsd,hsm⟩:=hd
  obtain⟨p1,p2,p3,p4,p5,p6,p7⟩:=hre.ones
  have p8:=bW hsd
  have p9:=bW hsm
  rw [show ofD (.agg (bI (reC c dr ds dd dw dse dk dst (jZ is c.marks) dm o)))= .agg (bD (bI (reC c dr ds dd dw dse dk dst (jZ is c.marks) dm o))) from rfl,aET]
  simp (disch:=first|exact bk rfl|omega) only [go_sem,reV,aM,aI,p1,p2,p3,p4,p5,p6,p7,p8,p9]
  refine aG (.tup [.agg (bI (reC c dr ds dd dw dse dk dst (jZ is c.marks) dm o)),.int .i64 0]) ?_
  unfold WoQ;rw [if_pos h1]
  exact⟨_,rfl,hd'⟩
 ·have e1:=eq_false h1
  simp (disch:=first|exact bk rfl|omega) only [go_sem,e1,decide_false,Bool.not_false,aAP,z42,aM,aI]
  refine aG (.tup [.agg (bI gN),.int .i64 (cU c)]) ?_
  unfold WoQ;rw [if_neg h1]
def aFY (is:List Int) (n:Nat):Bool:=is.any (fun x=>decide ((n:Int)=x))
theorem aDV {is:List Int} {n k:Nat} (h:k<is.length):aFY (is.take (k+1)) n=(aFY (is.take k) n||decide (is[k]=(n:Int))):=by
 rw [←fY h]
 unfold aFY
 rw [List.any_append]
 simp [eq_comm]
structure akF (c:cJ) (di:D) (n:Nat) (v:AV) (H0:Hp) (t:E2) (H:Hp):Prop where
 g1:E2.get t 1=ofD di
 g2:E2.get t 2= .ptr 0 0
 g4:E2.get t 4= .ptr 1 0
 g5:E2.get t 5=v
 g6:E2.get t 6= .int .i64 n
 h:H=H0
def a4I (c:cJ) (is:List Int) (di:D) (n:Nat) (v:AV) (H0:Hp) (m:Nat) (e:En) (H:Hp):Prop:=∃j:Nat,j<=is.length/\m=is.length - j/\e.dm=[]/\E2.get e.t 8= .int .i64 j/\E2.get e.t 7= .bool (aFY (is.take j) n)/\akF c di n v H0 e.t H
theorem axU {c:cJ} {is:List Int} {di:D} {n:Nat} {v:AV} {t:E2} {H:Hp} {k:AEx->En->Hp->Bool} {ro:Option Nat} (hi:Sl 1 tP is di) (hil:is.length<=1000000) (hin:akF c di n v H t H) (g8:E2.get t 8= .int .i64 0) (g7:E2.get t 7= .bool false)
  (hk:∀t',akF c di n v H t' H->E2.get t' 7= .bool (aFY is n)->k (.exit 2) ⟨t',[]⟩ H=true):cI P G 44 (.loop (aJ 15 [1,1,0,1,0,0,1,0,0,1,0,1,0])) ro ⟨t,[]⟩ H k=true:=by
 refine bA (a4I c is di n v H) (fun m e H' hj=> ?_) (m:=is.length) ⟨0,Nat.zero_le _,rfl,rfl,g8,by rw [g7];rfl,hin⟩
 obtain⟨j,hj',rfl,hdm,g8,g7,⟨g1,g2,g4,g5,g6,rfl⟩⟩:=hj
 obtain⟨t,dm⟩:=e
 dsimp only at hdm g8 g7 g1 g2 g4 g5 g6
 subst hdm
 refine bC 200 ?_
 rw [auL]
 by_cases hlt:j<is.length
 ·have e1:((j:Int)<(is.length:Int))=True:=eq_true (by omega)
  cases hb:aFY (is.take j) n
  ·rw [hb] at g7
   simp (disch:=first|exact bk rfl|omega) only [go_sem,g8,g1,g7,g6,e1,aK hi aFL,aX hi aFL in3 ce3 hlt,bL aAZ hlt (by decide),tP]
   refine aZ (m':=is.length - (j+1)) (by omega) ⟨j+1,by omega,rfl,rfl,by simp (disch:=first|exact bk rfl|omega) only [go_sem];congr 1, ?_,eg rfl g1,eg rfl g2,eg rfl g4,eg rfl g5,eg rfl g6,rfl⟩
   simp (disch:=first|exact bk rfl|omega) only [go_sem,aDV hlt,hb,Bool.false_or]
  ·rw [hb] at g7
   simp (disch:=first|exact bk rfl|omega) only [go_sem,g8,g1,g7,g6,e1,aK hi aFL]
   refine aZ (m':=is.length - (j+1)) (by omega) ⟨j+1,by omega,rfl,rfl,by simp (disch:=first|exact bk rfl|omega) only [go_sem];congr 1, ?_,eg rfl g1,eg rfl g2,eg rfl g4,eg rfl g5,eg rfl g6,rfl⟩
   simp (disch:=first|exact bk rfl|omega) only [go_sem,aDV hlt,hb,Bool.true_or]
 ·have e1:((j:Int)<(is.length:Int))=False:=eq_false (by omega)
  rw [List.take_of_length_le (by omega)] at g7
  simp (disch:=first|exact bk rfl|omega) only [go_sem,g8,g1,e1,aK hi aFL]
  exact hk _ ⟨eg rfl g1,eg rfl g2,eg rfl g4,eg rfl g5,eg rfl g6,rfl⟩ (eg rfl g7)
def I15 (c:cJ) (is:List Int) (di:D) (m:Nat) (e:En) (H:Hp):Prop:=∃(n:Nat) (v:AV),n<=c.marks.length/\m=c.marks.length - n/\e.dm=[]/\Own 5 bS 50 2 H v (jZ is (c.marks.take n))/\2<=H.nx/\E2.get e.t 1=ofD di/\E2.get e.t 2= .ptr 0 0/\E2.get e.t 4= .ptr 1 0/\E2.get e.t 5=v/\E2.get e.t 6= .int .i64 n/\H.get 0=some (.cells (some 42) false (bD (bI c)))/\H.get 1=some (.cells (some 42) false z42)
theorem aAK {c:cJ} (ho:dD c) (hf:Few c) {is:List Int} {di:D} (hi:Sl 1 tP is di) (hil:is.length<=1000000):CQ P G 15 [.agg (bI c),di] (ClQ c (jZ is c.marks)):=by
 have hml:=hf.marks
 obtain⟨p1,p2,p3,p4,p5,p6,p7⟩:=(Re.self ho).ones
 have p8:=bW ho.house.doors
 refine CQ.enter hG ?_
 simp (disch:=first|exact bk rfl|omega) only [go_sem,h15]
 refine bA (I15 c is di) (fun m e H hi'=> ?_) (m:=c.marks.length) ?_
 rotate_left
 ·exact⟨0,.nils,Nat.zero_le _,rfl,rfl,.inl ⟨rfl,rfl⟩,by simp (disch:=first|exact bk rfl|omega) only [go_sem],eg rfl rfl,eg rfl rfl,eg rfl rfl,eg rfl rfl,eg rfl rfl,by simp (disch:=first|exact bk rfl|omega) only [go_sem,aM,aI],by simp (disch:=first|exact bk rfl|omega) only [go_sem,aM,aI,z42]⟩
 obtain⟨n,v,hn',rfl,hdm,hv,hnx,g1,g2,g4,g5,g6,hg0,hg1⟩:=hi'
 obtain⟨t,dm'⟩:=e
 dsimp only at hdm g1 g2 g4 g5 g6
 subst hdm
 have hg0':=hg0
 rw [bG] at hg0
 simp only [go_sem] at hg0
 refine bC 200 ?_
 rw [atP]
 by_cases hlt:n<c.marks.length
 ·have e1:((n:Int)<(c.marks.length:Int))=True:=eq_true (by omega)
  simp (disch:=first|exact bk rfl|omega) only [go_sem,g2,hg0,g6,e1,aK ho.mks gY]
  refine axU (c:=c) (n:=n) (v:=v) hi hil ⟨eg rfl g1,eg rfl g2,eg rfl g4,eg rfl g5,eg rfl g6,rfl⟩ (eg rfl rfl) (eg rfl rfl) fun t' hin g7=> ?_
  obtain⟨k1,k2,k4,k5,k6, -⟩:=hin
  have hkl:=nZ is (c.marks.take n)
  rw [List.length_take] at hkl
  simp (disch:=first|exact bk rfl|omega) only [go_sem,atF,g7]
  cases hc:aFY is n
  ·simp (disch:=first|exact bk rfl|omega) only [go_sem,Bool.not_false,k2,hg0,k6,aX ho.mks gY wU qC hlt,aY dG hlt,bS,axO,cM,k5]
   refine fV (x:=c.marks[n]) (lo:=2) dG (fun _=>rfl) aEO.ap (hv.frame (by simp (disch:=first|exact bk rfl|omega) only [go_sem];omega) fun b hb hb2=> ?_) (by simp (disch:=first|exact bk rfl|omega) only [go_sem];omega) (by (simp (disch:=first|exact bk rfl|omega) only [go_sem,aI];rfl)) (by omega) fun v2 H2 ho2 hn2 hn3 hf hf2=> ?_
   ·have a1:(b=H.nx)=False:=eq_false (by omega)
    simp (disch:=first|exact bk rfl|omega) only [go_sem,a1,aM]
   have z0:(0=H.nx)=False:=eq_false (by omega)
   have z1:(1=H.nx)=False:=eq_false (by omega)
   simp (disch:=first|exact bk rfl|omega) only [go_sem,agJ,k6]
   refine aZ (m':=c.marks.length - (n+1)) (by omega) ⟨n+1,v2,by omega,rfl,rfl, ?_,by simp (disch:=first|exact bk rfl|omega) only [go_sem] at hn2;omega,eg rfl k1,eg rfl k2,eg rfl k4,eg rfl rfl,by simp (disch:=first|exact bk rfl|omega) only [go_sem];congr 1,by rw [hf 0 (by omega)];simp (disch:=first|exact bk rfl|omega) only [go_sem,z0,aM];exact hg0',by rw [hf 1 (by omega)];simp (disch:=first|exact bk rfl|omega) only [go_sem,z1,aM];exact hg1⟩
   have e3:=oF (is:=is) hlt
   unfold aFY at hc
   rw [hc,if_neg (by decide)] at e3
   rw [e3];exact ho2
  ·simp (disch:=first|exact bk rfl|omega) only [go_sem,Bool.not_true,agJ,k6]
   refine aZ (m':=c.marks.length - (n+1)) (by omega) ⟨n+1,v,by omega,rfl,rfl, ?_,hnx,eg rfl k1,eg rfl k2,eg rfl k4,eg rfl k5,by simp (disch:=first|exact bk rfl|omega) only [go_sem];congr 1,hg0',hg1⟩
   have e3:=oF (is:=is) hlt
   unfold aFY at hc
   rw [hc,if_pos rfl,List.append_nil] at e3
   rw [e3];exact hv
 ·have e1:((n:Int)<(c.marks.length:Int))=False:=eq_false (by omega)
  rw [List.take_of_length_le (by omega)] at hv
  have c1:=hv.cells
  have c2:=hv.one
  simp only [z42] at hg1
  simp (disch:=first|exact bk rfl|omega) only [go_sem,g2,hg0,g6,e1,aK ho.mks gY,arP,g5,g4,hg1,c1,c2,p1,p2,p3,p4,p5,p6,p7,p8,aM,aI,r15]
  have hv':=hv.frame (H':=(H.setb 0 (some (.cells (some 42) false (reV c c.house.dr c.house.dw c.session.ds c.dk c.dst c.order (ofD c.house.dd) v)))).setb 1 (some (.cells (some 42) false (reV c c.house.dr c.house.dw c.session.ds c.dk c.dst c.order (ofD c.house.dd) v)))) (by simp (disch:=first|exact bk rfl|omega) only [go_sem];omega) (fun b hb hb2=>by
   have a1:(b=1)=False:=eq_false (by omega)
   have a2:(b=0)=False:=eq_false (by omega)
   simp (disch:=first|exact bk rfl|omega) only [go_sem,a1,a2,aM])
  obtain⟨d2,J,h2,h2'⟩:=hv'.rd dG
  obtain⟨K,hK⟩:=zO (c:=c) (dr:=c.house.dr) (dw:=c.house.dw) (dse:=c.session.ds) (dk:=c.dk) (dst:=c.dst) (o:=c.order) (Rd.fro c.house.dd) h2 (jZ is c.marks) c.house.doors
  exact iO ⟨c.house.dr,c.house.doors,c.house.dd,c.house.dw,c.session.ds,c.dk,c.dst,d2,c.order,rfl,Re.self ho,ho.house.doors,h2'⟩ hK
def aGA (s:bU):Prop:=0<=s.lo/\s.lo<=s.hi/\s.hi<=43199
theorem zB {x:Arc} (h:dZ x=true):∀s∈fS x,aGA s:=by
 simp only [dZ,decide_eq_true_eq] at h
 intro s hs
 unfold fS at hs
 split at hs
 ·simp only [List.mem_singleton] at hs;subst hs;simp only [aGA];omega
 ·simp only [List.mem_cons,List.not_mem_nil,or_false] at hs
  rcases hs with rfl | rfl<;>(simp only [aGA];omega)
theorem aTG {x y:Arc} (hx:dZ x=true) (hy:dZ y=true):∀s∈hU (fS x) (fS y),aGA s:=by
 intro s hs
 obtain⟨a,ha,b,hb,h⟩:=nG _ _ s hs
 obtain⟨h1,h2,h3⟩:=nX h
 have q1:=zB hx a ha
 have q2:=zB hy b hb
 simp only [aGA] at q1 q2⊢
 omega
theorem aUF {s:bU} (h:aGA s):dZ (toA s)=true:=by
 simp only [aGA] at h
 refine decide_eq_true ?_
 simp only [toA]
 omega
theorem aXV {x y:Arc} (hx:dZ x=true) (hy:dZ y=true):∀z∈iD x y,dZ z=true:=by
 have h43:=aTG hx hy
 have hg:=(zS (iC hx) (iC hy)).p
 have hl:=nH x y
 unfold iD
 generalize hU (fS x) (fS y)=l at *
 intro q hq
 by_cases hw:xV l
 ·obtain⟨h1,h2,h3⟩:=hw
  rcases wC h1 hl with⟨x,y,rfl⟩| ⟨x,y,z,rfl⟩
  ·rw [zA (x:=x) (y:=y) h2 h3] at hq
   have a:=h43 x (by simp)
   have b:=h43 y (by simp)
   simp only [List.mem_singleton] at hq
   subst hq
   simp only [List.pairwise_cons,List.mem_singleton,forall_eq] at hg
   have hg1:=hg.1
   simp only [List.getElem_cons_zero] at h2
   simp only [aGA] at a b
   refine decide_eq_true ?_
   have h3':y.hi=43199:=h3
   simp only
   omega
  ·rw [aFT (x:=x) (y:=y) (z:=z) h2 h3] at hq
   have a:=h43 x (by simp)
   have b:=h43 y (by simp)
   have c:=h43 z (by simp)
   simp only [List.mem_cons,List.not_mem_nil,or_false] at hq
   rcases hq with rfl | rfl
   ·exact aUF b
   ·rw [List.pairwise_cons] at hg
    have hg1:=hg.1 z (by simp)
    simp only [List.getElem_cons_zero] at h2
    simp only [aGA] at a b c
    refine decide_eq_true ?_
    have h3':z.hi=43199:=h3
    simp only
    omega
 ·rw [uJ hw] at hq
  obtain⟨s,hs,rfl⟩:=List.mem_map.1 hq
  exact aUF (h43 s hs)
theorem aYW {a b:Int} (h0:0<=a) (h1:a<=4095) (h2:0<=b) (h3:b<=4095):0<=bOr a b/\bOr a b<=4095:=by
 unfold bOr
 have h:((BitVec.ofInt 64 a)||| (BitVec.ofInt 64 b)).toNat<2 ^12:=by
  rw [BitVec.toNat_or]
  refine Nat.or_lt_two_pow ?_ ?_<;>(rw [BitVec.toNat_ofInt];omega)
 rw [tI (by omega)]
 omega
def zM:dO:=⟨⟨0,0⟩,0,0,0⟩
noncomputable def eR (x y:dO):Int×dO:=
 if (eH x&&eH y)=true then (if x.track=y.track/\mJ (bOr x.seen y.seen) (bOr x.blank y.blank)=0 then (match iD x.at_ y.at_ with
  | []=>(5,zM)
  | [z]=>(0,⟨z,x.track,bOr x.seen y.seen,bOr x.blank y.blank⟩)
  | _=>(3,zM)) else (9,zM)) else (1,zM)
theorem aDA (x y:dO):kR x y= .tup [.agg (bS (eR x y).2),.int .i64 (eR x y).1]:=by
 unfold kR eR
 split
 ·split
  ·rcases iD x.at_ y.at_ with _ | ⟨z,_ | ⟨w,l⟩⟩<;>rfl
  ·rfl
 ·rfl
theorem aAQ {x y:dO} (h:(eR x y).1=0):eH (eR x y).2=true:=by
 unfold eR at h⊢
 split at h
 ·rename_i hb
  rw [if_pos hb]
  rw [Bool.and_eq_true] at hb
  split at h
  ·rename_i ht
   rw [if_pos ht]
   rcases hm:iD x.at_ y.at_ with _ | ⟨z,_ | ⟨w,l⟩⟩<;>rw [hm] at h
   ·cases h
   ·have hz:=aXV (lN hb.1) (lN hb.2) z (by rw [hm];simp)
    obtain⟨h1,h2⟩:=hb
    simp only [eH,mV,Bool.and_eq_true,decide_eq_true_eq] at h1 h2⊢
    have o1:=aYW h1.1.1.2.1 h1.1.1.2.2 h2.1.1.2.1 h2.1.1.2.2
    have o2:=aYW h1.1.2.1 h1.1.2.2 h2.1.2.1 h2.1.2.2
    exact⟨⟨⟨⟨hz,h1.1.1.1.2⟩,o1⟩,o2⟩,ht.2⟩
   ·cases h
  ·cases h
 ·cases h
noncomputable def shE (c:cJ) (x m:dO):Int:=if (eR x m).1=0 then (if okR (gV (eZ c.session (eR x m).2 c.ink))=true then 0 else 3) else (eR x m).1
def ShQ (c:cJ) (n:Nat) (x m:dO) (d:D):Prop:=if shE c x m=0 then ∃d1,d= .tup [d1,.int .i64 0]/\ClQ c (c.marks.set n (eR x m).2) d1 else d= .tup [.agg (bI gN),.int .i64 (shE c x m)]
theorem yX {s:dP} {i:Ink}:∀{l:List dO},mkE s i l=0↔∀m∈l,eH m=true/\okR (gV (eZ s m i))=true
 | []=>by simp [mkE]
 | m::l=>by
  have ih:=yX (s:=s) (i:=i) (l:=l)
  simp only [mkE,List.mem_cons,forall_eq_or_imp]
  split
  ·rename_i h1
   split
   ·rename_i h2
    rw [ih];simp [h1,h2]
   ·rename_i h2
    simp [h2]
  ·rename_i h1
   simp [h1]
theorem lH {c:cJ} (h:cU c=0):eV c.house=0/\gE c.session=0/\mP c.ink=true/\dQ c=0/\fX c=0:=by
 unfold cU at h
 split at h
 ·split at h
  ·split at h
   ·split at h
    ·split at h
     ·rename_i h1 h2 h3 h4 h5
      rw [Bool.and_eq_true] at h3
      exact⟨h1,h2,h3.2,h4,h5⟩
     ·exact absurd h (by assumption)
    ·exact absurd h (by assumption)
   ·cases h
  ·exact absurd h (by assumption)
 ·exact absurd h (by assumption)
theorem aZI {c:cJ} (h:fX c=0):c.marks.length<=12/\∀m∈c.marks,eH m=true/\okR (gV (eZ c.session m c.ink))=true:=by
 unfold fX at h
 split at h
 ·cases h
 ·exact⟨by omega,yX.1 h⟩
theorem akB {c:cJ} {n:Nat} {x m:dO} {Hf:Hp} {dr dw dse dk dst:D} {ds:List mK} {o:aF} {v1 v2:AV} (hsh:shE c x m=0) (hre:Re c dr dw dse dk dst ds o) (h1:∃d I,Rd Hf v1 d I/\Sl 2 eY ds d) (h2:∃d I,Rd Hf v2 d I/\Sl 5 bS (c.marks.set n (eR x m).2) d):
  kU (ShQ c n x m) (.ret (.tup [.agg (reV c dr dw dse dk dst o v1 v2),.int .i64 0])) Hf=true:=by
 obtain⟨d1,I,r1,s1⟩:=h1
 obtain⟨d2,J,r2,s2⟩:=h2
 obtain⟨K,hK⟩:=zO (c:=c) (dr:=dr) (dw:=dw) (dse:=dse) (dk:=dk) (dst:=dst) (o:=o) r1 r2 (c.marks.set n (eR x m).2) ds
 refine iO ?_ (.tup _ _ _ (.cons _ _ _ _ _ _ hK (.cons _ _ _ _ _ _ (.fro (.int .i64 0)) .nil)))
 unfold ShQ
 rw [if_pos hsh]
 exact⟨_,rfl,dr,ds,d1,dw,dse,dk,dst,d2,o,rfl,hre,s1,s2⟩
theorem sZ (m:dO):(bD (bS m)).all Ev.one=true:=rfl
theorem aAH {c:cJ} (ho:dD c) (hf:Few c) (hc:cU c=0) {n:Nat} (hn:n<c.marks.length) (m:dO):CQ P G 17 [.agg (bI c),.int .i64 n,.agg (bS m)] (ShQ c n c.marks[n] m):=by
 obtain⟨q1,q2,q3,q4,q5⟩:=lH hc
 have hmk:=ho.mk' q2 q3
 have hml:=hf.marks
 obtain⟨p1,p2,p3,p4,p5,p6,p7⟩:=(Re.self ho).ones
 have p8:=bW ho.house.doors
 have p9:=bW ho.mks
 have hav:=dB ho.mks 999
 generalize hx:c.marks[n]=x
 have hbad:∀e H,shE c x m=e->e≠0->kU (ShQ c n x m) (.ret (.tup [.agg z42,.int .i64 e])) H=true:=fun e H h1 h2=>by
  refine aG (.tup [.agg (bI gN),.int .i64 e]) ?_
  unfold ShQ;rw [if_neg (by omega),h1]
 refine CQ.enter hG ?_
 simp (disch:=first|exact bk rfl|omega) only [go_sem,bG,h17,bS,aM,aI]
 refine bE hG [.agg (bS m)] (vN m) rfl ?_
 cases hm:eH m
 ·simp (disch:=first|exact bk rfl|omega) only [go_sem,Bool.not_false,aAP,z42,aM,aI]
  refine hbad 1 _ ?_ (by decide)
  have:eR x m=(1,zM):=by unfold eR;rw [hm,Bool.and_false];rfl
  unfold shE;rw [this];rfl
 simp (disch:=first|exact bk rfl|omega) only [go_sem,Bool.not_true,aM,aI,aX ho.mks gY wU qC hn,aY dG hn,bS,hx]
 refine bE hG [.agg (bS x),.agg (bS m)] (aKE x m) rfl ?_
 rw [aDA]
 generalize hp:eR x m=p
 obtain⟨e,z⟩:=p
 simp (disch:=first|exact bk rfl|omega) only [go_sem,aM,aI,cL,bS,hav]
 by_cases he:e=0
 rotate_left
 ·have e1:=eq_false he
  simp (disch:=first|exact bk rfl|omega) only [go_sem,e1,decide_false,Bool.not_false,aAP,z42,aM,aI,cL]
  exact hbad e _ (by unfold shE;rw [hp,if_neg he]) he
 subst he
 have hzm:eH z=true:=by have:=aAQ (x:=x) (y:=m) (by rw [hp]);rwa [hp] at this
 simp (disch:=first|exact bk rfl|omega) only [go_sem,decide_true,Bool.not_true,aM,aI,cL,bS]
 refine bE hG [.agg (eO c.session),.agg (bS z),.agg (iI c.ink)] (aEH c.session z c.ink (hmk.rch hzm) hmk.one) rfl ?_
 obtain⟨ra,rb,hr⟩:=oC (eZ c.session z c.ink)
 have hsh:shE c x m=if okR (gV (eZ c.session z c.ink))=true then 0 else 3:=by unfold shE;rw [hp,if_pos rfl]
 generalize hok:okR (gV (eZ c.session z c.ink))=ok at hr hsh
 rw [hr]
 cases ok
 ·simp (disch:=first|exact bk rfl|omega) only [go_sem,Bool.not_false,aAP,z42,aM,aI,cL]
  exact hbad 3 _ (by rw [hsh];rfl) (by decide)
 simp (disch:=first|exact bk rfl|omega) only [go_sem,Bool.not_true,aM,aI,cL,aEO.bs,cM]
 refine qU (lo:=4) (xs:=([]:List dO)) dG sZ aEO.ap (.inr ⟨5,some 0,rfl,.inr ⟨rfl,rfl⟩,by omega,by simp (disch:=first|exact bk rfl|omega) only [go_sem],by simp (disch:=first|exact bk rfl|omega) only [go_sem,aM,aI,cL];rfl⟩) (by simp (disch:=first|exact bk rfl|omega) only [go_sem]) ho.mks (by simp;omega) fun v1 H1 gr1=> ?_
 have h10:H1.get 0=some (.cells (some 42) false (reV c c.house.dr c.house.dw c.session.ds c.dk c.dst c.order (ofD c.house.dd) (ofD c.dm))):=by
  rw [gr1.keep 0 (by omega)];simp (disch:=first|exact bk rfl|omega) only [go_sem,aM,aI,cL,reV]
 have h12:H1.get 2=some (.cells (some 42) false z42):=by
  rw [gr1.keep 2 (by omega)];simp (disch:=first|exact bk rfl|omega) only [go_sem,aM,aI,cL,z42]
 have h13:H1.get 3=some (.cells (some 50) false (bD (bS z))):=by
  rw [gr1.keep 3 (by omega)];simp (disch:=first|exact bk rfl|omega) only [go_sem,aM,aI,cL,bS]
 have hn1:=gr1.nx1
 have hown:=gr1.own
 rw [List.nil_append] at hown
 simp (disch:=first|exact bk rfl|omega) only [go_sem] at hn1
 clear gr1
 simp only [bS,go_sem] at h13
 simp (disch:=first|exact bk rfl|omega) only [go_sem,h13]
 obtain⟨b,hvb,hlo,hb,hgb⟩:=hown.at hn
 rw [hvb,eI gY wU qC hn,show AV.agg [.int .i64 z.at_.from_,.int .i64 z.at_.len,.int .i64 z.track,.int .i64 z.seen,.int .i64 z.blank]= .agg (bD (bS z)) from rfl,aHC dG aqH qC hgb hn (sZ z)]
 have b0:(0=b)=False:=eq_false (by omega)
 have b2:(2=b)=False:=eq_false (by omega)
 simp only [reV] at h10
 simp only [z42] at h12
 simp (disch:=first|exact bk rfl|omega) only [go_sem,h10,h12,b0,b2,aM,aI,p1,p2,p3,p4,p5,p6,p7,p8]
 refine akB (v1:=ofD c.house.dd) (v2:= .sl b 0 c.marks.length 5 none) (ds:=c.house.doors) (by rw [hsh];rfl) (Re.self ho) ⟨_,[],.fro _,ho.house.doors⟩ (Own.rd dG (el:=50) (lo:=4) (.inr ⟨b,none,by rw [List.length_set],.inl rfl,hlo,by simp (disch:=first|exact bk rfl|omega) only [go_sem];exact hb, ?_⟩))
 have a0:(b=0)=False:=eq_false (by omega)
 have a2:(b=2)=False:=eq_false (by omega)
 simp (disch:=first|exact bk rfl|omega) only [go_sem,a0,a2,aM,aI,hp]
def pF (c:cJ) (i:Int) (m:dO) (d:D):Prop:=if tX c i=0 then ∃(n:Nat) (h:n<c.marks.length),i=n/\ShQ c n c.marks[n] m d else d= .tup [.agg (bI gN),.int .i64 (tX c i)]
theorem aaY {Q:D->Prop} {c:cJ} {n:Nat} {x m:dO} (hQ:∀d,ShQ c n x m d->Q d) {Hf:Hp} {dr dw dse dk dst:D} {ds:List mK} {o:aF} {v1 v2:AV} (hsh:shE c x m=0) (hre:Re c dr dw dse dk dst ds o) (h1:∃d I,Rd Hf v1 d I/\Sl 2 eY ds d) (h2:∃d I,Rd Hf v2 d I/\Sl 5 bS (c.marks.set n (eR x m).2) d):
  kU Q (.ret (.tup [.agg (reV c dr dw dse dk dst o v1 v2),.int .i64 0])) Hf=true:=by
 obtain⟨d1,I,r1,s1⟩:=h1
 obtain⟨d2,J,r2,s2⟩:=h2
 obtain⟨K,hK⟩:=zO (c:=c) (dr:=dr) (dw:=dw) (dse:=dse) (dk:=dk) (dst:=dst) (o:=o) r1 r2 (c.marks.set n (eR x m).2) ds
 refine iO (hQ _ ?_) (.tup _ _ _ (.cons _ _ _ _ _ _ hK (.cons _ _ _ _ _ _ (.fro (.int .i64 0)) .nil)))
 unfold ShQ
 rw [if_pos hsh]
 exact⟨_,rfl,dr,ds,d1,dw,dse,dk,dst,d2,o,rfl,hre,s1,s2⟩
theorem aOV {c:cJ} {i:Int} (h:tX c i=0):cU c=0/\∃n:Nat,n<c.marks.length/\i=n:=by
 unfold tX at h
 split at h
 ·rename_i h1
  split at h
  ·rename_i h2
   simp only [fC,decide_eq_true_eq] at h2
   exact⟨h1,i.toNat,by omega,by omega⟩
  ·cases h
 ·exact absurd h (by assumption)
theorem pQ {c:cJ} (ho:dD c) (hf:Few c) (i:Int) (m:dO):CQ P G 12 [.agg (bI c),.int .i64 i,.agg (bS m)] (pF c i m):=by
 have hml:=hf.marks
 obtain⟨p1,p2,p3,p4,p5,p6,p7⟩:=(Re.self ho).ones
 have p8:=bW ho.house.doors
 have p9:=bW ho.mks
 have hav:=dB ho.mks 999
 refine CQ.enter hG ?_
 simp (disch:=first|exact bk rfl|omega) only [go_sem,bG,h12,bS,aM,aI]
 refine bE hG [.agg (bI c),.int .i64 i] (aQW c ho i) (by rw [bG];rfl) ?_
 by_cases ha:tX c i=0
 rotate_left
 ·have e1:=eq_false ha
  simp (disch:=first|exact bk rfl|omega) only [go_sem,e1,decide_false,Bool.not_false,aAP,z42,aM,aI]
  refine aG (.tup [.agg (bI gN),.int .i64 (tX c i)]) ?_
  unfold pF;rw [if_neg ha]
 obtain⟨hc,n,hn,rfl⟩:=aOV ha
 obtain⟨q1,q2,q3,q4,q5⟩:=lH hc
 have hmk:=ho.mk' q2 q3
 have hfo:=vD hc
 generalize hx:c.marks[n]=x
 have hQ:∀d,ShQ c n x m d->pF c n m d:=fun d hd=>by
  unfold pF;rw [if_pos ha];exact⟨n,hn,rfl,by rw [hx];exact hd⟩
 have hbad:∀e H,shE c x m=e->e≠0->kU (pF c n m) (.ret (.tup [.agg z42,.int .i64 e])) H=true:=fun e H h1 h2=>by
  refine aG (.tup [.agg (bI gN),.int .i64 e]) (hQ _ ?_)
  unfold ShQ;rw [if_neg (by omega),h1]
 have e1:=eq_true ha
 simp (disch:=first|exact bk rfl|omega) only [go_sem,e1,decide_true,Bool.not_true,aM,aI,aX ho.mks gY wU qC hn,aY dG hn,bS,hx]
 refine bE hG [.agg (bS x),.agg (bS m)] (aIP x m) rfl ?_
 rw [aDA]
 generalize hp:eR x m=p
 obtain⟨e,z⟩:=p
 simp (disch:=first|exact bk rfl|omega) only [go_sem,aM,aI,cL,bS,hav]
 by_cases he:e=0
 rotate_left
 ·have e1:=eq_false he
  simp (disch:=first|exact bk rfl|omega) only [go_sem,e1,decide_false,Bool.not_false,aAP,z42,aM,aI,cL]
  exact hbad e _ (by unfold shE;rw [hp,if_neg he]) he
 subst he
 have hzm:eH z=true:=by have:=aAQ (x:=x) (y:=m) (by rw [hp]);rwa [hp] at this
 simp (disch:=first|exact bk rfl|omega) only [go_sem,decide_true,Bool.not_true,aM,aI,cL,bS]
 refine bE hG [.agg (bI c),.agg (bS z)] (rX c z (hmk.rch hzm)) (by rw [bG];rfl) ?_
 obtain⟨ra,rb,hr⟩:=oC (eZ c.session z c.ink)
 have hsh:shE c x m=if okR (gV (eZ c.session z c.ink))=true then 0 else 3:=by unfold shE;rw [hp,if_pos rfl]
 generalize hok:okR (gV (eZ c.session z c.ink))=ok at hr hsh
 rw [hr]
 cases ok
 ·simp (disch:=first|exact bk rfl|omega) only [go_sem,Bool.not_false,aAP,z42,aM,aI,cL]
  exact hbad 3 _ (by rw [hsh];rfl) (by decide)
 simp (disch:=first|exact bk rfl|omega) only [go_sem,Bool.not_true,aM,aI,cL]
 rw [show AV.agg _=AV.agg (bD (bI c)) from by rw [bG];rfl]
 refine aSL ho hf hfo fun H1 Hm v v2 dr dw dse dk dst ds o hre hv hv2 hn1 hn2 hf1 hf2=> ?_
 have h12:H1.get 2=some (.cells (some 42) false z42):=by
  rw [hf2 2 (by simp (disch:=first|exact bk rfl|omega) only [go_sem])];simp (disch:=first|exact bk rfl|omega) only [go_sem,aM,aI,cL,z42]
 have h13:H1.get 3=some (.cells (some 50) false (bD (bS z))):=by
  rw [hf2 3 (by simp (disch:=first|exact bk rfl|omega) only [go_sem])];simp (disch:=first|exact bk rfl|omega) only [go_sem,aM,aI,cL,bS]
 clear hf2
 simp (disch:=first|exact bk rfl|omega) only [go_sem] at hv hn1 hf1
 obtain⟨p1,p2,p3,p4,p5,p6,p7⟩:=hre.ones
 simp only [bS,go_sem] at h13
 simp only [z42] at h12
 have c1:=hv.cells
 have c2:=hv.one
 have c3:=hv2.cells
 have c4:=hv2.one
 have m2:(2=H1.nx)=False:=eq_false (by omega)
 have m3:(3=H1.nx)=False:=eq_false (by omega)
 simp (disch:=first|exact bk rfl|omega) only [go_sem,reV,h12,h13,m2,m3,c1,c2,c3,c4,p1,p2,p3,p4,p5,p6,p7,aM,aI]
 obtain⟨b,hvb,hlo,hb,hgb⟩:=hv2.at hn
 have m4:(b=H1.nx)=False:=eq_false (by omega)
 have m5:(H1.nx=b)=False:=eq_false (by omega)
 have m6:(2=b)=False:=eq_false (by omega)
 have m7:(b=2)=False:=eq_false (by omega)
 have m8:(H1.nx=2)=False:=eq_false (by omega)
 subst hvb
 generalize hG1:(Hp.setb _ _ _:Hp)=HG
 have hgb':HG.get b=some (.cells (some 50) false (bD (cB bS c.marks))):=by subst hG1;simp (disch:=first|exact bk rfl|omega) only [go_sem,m4,aM];exact hgb
 rw [eI gY wU qC hn,show AV.agg [.int .i64 z.at_.from_,.int .i64 z.at_.len,.int .i64 z.track,.int .i64 z.seen,.int .i64 z.blank]= .agg (bD (bS z)) from rfl,aHC dG aqH qC hgb' hn (sZ z)]
 subst hG1
 simp (disch:=first|exact bk rfl|omega) only [go_sem,h12,m2,m4,m5,m6,m7,m8,c1,c2,p1,p2,p3,p4,p5,p6,p7,aM,aI]
 refine aaY hQ (v1:=v) (v2:= .sl b 0 c.marks.length 5 none) (ds:=ds) (by rw [hsh];rfl) hre ?_ ?_
 ·refine Own.rd cY (hv.frame (by simp (disch:=first|exact bk rfl|omega) only [go_sem];omega) fun b' h1 h2=> ?_)
  have n1:(b'=H1.nx)=False:=eq_false (by omega)
  have n2:(b'=b)=False:=eq_false (by omega)
  have n3:(b'=2)=False:=eq_false (by omega)
  simp (disch:=first|exact bk rfl|omega) only [go_sem,n1,n2,n3,aM]
  exact hf1 b' h1 h2
 ·refine Own.rd dG (el:=50) (lo:=4) (.inr ⟨b,none,by rw [List.length_set],.inl rfl,by omega,by first | omega | (simp (disch:=first|exact bk rfl|omega) only [go_sem]<;>omega), ?_⟩)
  simp (disch:=first|exact bk rfl|omega) only [go_sem,m7,aM,aI,hp]
theorem alJ (a b c:Int) (k:AV->Bool):aH P .neq 96 false (.agg [.int .i64 a,.int .i64 b,.int .i64 c]) (.agg [.int .i64 a,.int .i64 b,.int .i64 c]) k=(match fL [.i,.i,.i] [.int .i64 a,.int .i64 b,.int .i64 c] [.int .i64 a,.int .i64 b,.int .i64 c] with | some r=>eT (!r) fun r=>k (.bool r)| none=>false):=by kernel_rfl
theorem auS (a b c:Int) (k:AV->Bool):aH P .neq 96 false (.agg [.int .i64 a,.int .i64 b,.int .i64 c]) (.agg [.int .i64 a,.int .i64 b,.int .i64 c]) k=k (.bool false):=by
 rw [alJ];simp only [fL,yG,Nat.beq_refl,oR,decide_true,Bool.and_true,Bool.not_true];exact cD _ _
theorem ajJ (a b c:Int) (k:AV->Bool):aH P .eql 33 false (.agg [.int .i64 a,.int .i64 b,.int .i64 c]) (.agg [.int .i64 a,.int .i64 b,.int .i64 c]) k=(match fL [.i,.i,.i] [.int .i64 a,.int .i64 b,.int .i64 c] [.int .i64 a,.int .i64 b,.int .i64 c] with | some r=>eT r fun r=>k (.bool r)| none=>false):=by kernel_rfl
theorem arX (a b c:Int) (k:AV->Bool):aH P .eql 33 false (.agg [.int .i64 a,.int .i64 b,.int .i64 c]) (.agg [.int .i64 a,.int .i64 b,.int .i64 c]) k=k (.bool true):=by
 rw [ajJ];simp only [fL,yG,Nat.beq_refl,oR,decide_true,Bool.and_true];exact cD _ _
theorem aiK (a:Str) (b c:Int) (k:AV->Bool):aH P .neq 94 false (.agg [.str a,.int .i64 b,.int .i64 c]) (.agg [.str a,.int .i64 b,.int .i64 c]) k=(match fL [.s,.i,.i] [.str a,.int .i64 b,.int .i64 c] [.str a,.int .i64 b,.int .i64 c] with | some r=>eT (!r) fun r=>k (.bool r)| none=>false):=by kernel_rfl
theorem arF (a:Str) (b c:Int) (k:AV->Bool):aH P .neq 94 false (.agg [.str a,.int .i64 b,.int .i64 c]) (.agg [.str a,.int .i64 b,.int .i64 c]) k=k (.bool false):=by
 rw [aiK];simp only [fL,yG,Nat.beq_refl,oR,rE,decide_true,Bool.and_true,Bool.not_true];exact cD _ _
theorem adV (a:Str) (b:Int) (k:AV->Bool):aH P .neq 136 false (.agg [.str a,.int .i64 b]) (.agg [.str a,.int .i64 b]) k=(match fL [.s,.i] [.str a,.int .i64 b] [.str a,.int .i64 b] with | some r=>eT (!r) fun r=>k (.bool r)| none=>false):=by kernel_rfl
theorem aiV (a:Str) (b:Int) (k:AV->Bool):aH P .neq 136 false (.agg [.str a,.int .i64 b]) (.agg [.str a,.int .i64 b]) k=k (.bool false):=by
 rw [adV];simp only [fL,yG,Nat.beq_refl,oR,rE,decide_true,Bool.and_true,Bool.not_true];exact cD _ _
theorem adN (a b c d e:Int) (k:AV->Bool):aH P .neq 138 false (.agg [.int .i64 a,.int .i64 b,.int .i64 c,.int .i64 d,.int .i64 e]) (.agg [.int .i64 a,.int .i64 b,.int .i64 c,.int .i64 d,.int .i64 e]) k=(match fL [.i,.i,.i,.i,.i] [.int .i64 a,.int .i64 b,.int .i64 c,.int .i64 d,.int .i64 e] [.int .i64 a,.int .i64 b,.int .i64 c,.int .i64 d,.int .i64 e] with | some r=>eT (!r) fun r=>k (.bool r)| none=>false):=by kernel_rfl
theorem alT (a b c d e:Int) (k:AV->Bool):aH P .neq 138 false (.agg [.int .i64 a,.int .i64 b,.int .i64 c,.int .i64 d,.int .i64 e]) (.agg [.int .i64 a,.int .i64 b,.int .i64 c,.int .i64 d,.int .i64 e]) k=k (.bool false):=by
 rw [adN];simp only [fL,yG,Nat.beq_refl,oR,decide_true,Bool.and_true,Bool.not_true];exact cD _ _
theorem alZ (a b c d e:Int) (k:AV->Bool):aH P .neq 50 false (.agg [.int .i64 a,.int .i64 b,.int .i64 c,.int .i64 d,.int .i64 e]) (.agg [.int .i64 a,.int .i64 b,.int .i64 c,.int .i64 d,.int .i64 e]) k=(match fL [.i,.i,.i,.i,.i] [.int .i64 a,.int .i64 b,.int .i64 c,.int .i64 d,.int .i64 e] [.int .i64 a,.int .i64 b,.int .i64 c,.int .i64 d,.int .i64 e] with | some r=>eT (!r) fun r=>k (.bool r)| none=>false):=by kernel_rfl
theorem atG (a b c d e:Int) (k:AV->Bool):aH P .neq 50 false (.agg [.int .i64 a,.int .i64 b,.int .i64 c,.int .i64 d,.int .i64 e]) (.agg [.int .i64 a,.int .i64 b,.int .i64 c,.int .i64 d,.int .i64 e]) k=k (.bool false):=by
 rw [alZ];simp only [fL,yG,Nat.beq_refl,oR,decide_true,Bool.and_true,Bool.not_true];exact cD _ _
theorem ahY (a b:Int) (k:AV->Bool):aH P .neq 28 false (.agg [.int .i64 a,.int .i64 b]) (.agg [.int .i64 a,.int .i64 b]) k=k (.bool false):=by rw [aIJ];simp
def a5L (xs:List bU) (d1 d2:D) (m:Nat) (e:En) (H:Hp):Prop:=∃n:Nat,n<=xs.length/\m=xs.length - n/\e.dm=[]/\E2.get e.t 5= .int .i64 n/\E2.get e.t 0=ofD d1/\E2.get e.t 1=ofD d2
theorem pP {xs:List bU} {d1 d2:D} (h1:Sl 2 bJ xs d1) (h2:Sl 2 bJ xs d2) (hl:xs.length<=1000000):CQ P G 129 [d1,d2] (·= .bool true):=by
 refine CQ.enter hG ?_
 simp (disch:=first|exact bk rfl|omega) only [go_sem,a5G,aK h1 cO,aK h2 cO,decide_true,Bool.not_true]
 refine bA (a5L xs d1 d2) (fun m e H hi=> ?_) (m:=xs.length) ⟨0,Nat.zero_le _,rfl,rfl,eg rfl rfl,eg rfl rfl,eg rfl rfl⟩
 obtain⟨n,hn',rfl,hdm,g5,g0,g1⟩:=hi
 obtain⟨t,dm⟩:=e
 dsimp only at hdm g5 g0 g1
 subst hdm
 refine bC 200 ?_
 rw [anF]
 by_cases hlt:n<xs.length
 ·have e1:((n:Int)<(xs.length:Int))=True:=eq_true (by omega)
  simp (disch:=first|exact bk rfl|omega) only [go_sem,g5,g0,g1,e1,aK h1 cO,aK h2 cO,aX h1 cO gD eP hlt,aX h2 cO gD eP hlt,aY jE hlt,bJ,ahY]
  exact aZ (m':=xs.length - (n+1)) (by omega) ⟨n+1,by omega,rfl,rfl,by simp (disch:=first|exact bk rfl|omega) only [go_sem];congr 1,eg rfl g0,eg rfl g1⟩
 ·have e1:((n:Int)<(xs.length:Int))=False:=eq_false (by omega)
  simp (disch:=first|exact bk rfl|omega) only [go_sem,g5,g0,g1,e1,aK h1 cO,akW,a5A]
  exact aG (.bool true) rfl
def I55 (xs:List dO) (d1 d2:D) (m:Nat) (e:En) (H:Hp):Prop:=∃n:Nat,n<=xs.length/\m=xs.length - n/\e.dm=[]/\E2.get e.t 5= .int .i64 n/\E2.get e.t 0=ofD d1/\E2.get e.t 1=ofD d2
theorem aBY {xs:List dO} {d1 d2:D} (h1:Sl 5 bS xs d1) (h2:Sl 5 bS xs d2) (hl:xs.length<=1000000):CQ P G 55 [d1,d2] (·= .bool true):=by
 refine CQ.enter hG ?_
 simp (disch:=first|exact bk rfl|omega) only [go_sem,h55,aK h1 gY,aK h2 gY,decide_true,Bool.not_true]
 refine bA (I55 xs d1 d2) (fun m e H hi=> ?_) (m:=xs.length) ⟨0,Nat.zero_le _,rfl,rfl,eg rfl rfl,eg rfl rfl,eg rfl rfl⟩
 obtain⟨n,hn',rfl,hdm,g5,g0,g1⟩:=hi
 obtain⟨t,dm⟩:=e
 dsimp only at hdm g5 g0 g1
 subst hdm
 refine bC 200 ?_
 rw [aoY]
 by_cases hlt:n<xs.length
 ·have e1:((n:Int)<(xs.length:Int))=True:=eq_true (by omega)
  simp (disch:=first|exact bk rfl|omega) only [go_sem,g5,g0,g1,e1,aK h1 gY,aK h2 gY,aX h1 gY wU qC hlt,aX h2 gY wU qC hlt,aY dG hlt,bS,atG]
  exact aZ (m':=xs.length - (n+1)) (by omega) ⟨n+1,by omega,rfl,rfl,by simp (disch:=first|exact bk rfl|omega) only [go_sem];congr 1,eg rfl g0,eg rfl g1⟩
 ·have e1:((n:Int)<(xs.length:Int))=False:=eq_false (by omega)
  simp (disch:=first|exact bk rfl|omega) only [go_sem,g5,g0,g1,e1,aK h1 gY,arE,r55]
  exact aG (.bool true) rfl
structure uZ (a b:gP):Prop where
 r:b.rooms=a.rooms
 ra:Sl 2 iN a.rooms a.dr
 rb:Sl 2 iN a.rooms b.dr
 d:b.doors.map dHS=a.doors.map dHS
 da:Sl 2 eY a.doors a.dd
 db:Sl 2 eY b.doors b.dd
 oa:∀d∈a.doors,Sl 2 bJ d.hours d.dh/\Sl 2 bJ d.shut d.ds
 ob:∀d∈b.doors,Sl 2 bJ d.hours d.dh/\Sl 2 bJ d.shut d.ds
 wa:Sl 5 oD a.ways a.dw
 wb:Sl 5 oD a.ways b.dw
 lr:a.rooms.length<=1000000
 ld:a.doors.length<=1000000
 lw:a.ways.length<=1000000
 ls:∀d∈a.doors,d.hours.length<=1000000/\d.shut.length<=1000000
theorem uZ.len {a b:gP} (h:uZ a b):b.doors.length=a.doors.length:=by have:=congrArg List.length h.d;simpa using this
theorem uZ.at {a b:gP} (h:uZ a b) {n:Nat} (hn:n<a.doors.length):∃hb:n<b.doors.length,b.doors[n].hours=a.doors[n].hours/\b.doors[n].shut=a.doors[n].shut:=by
 have hl:=h.len
 refine⟨by omega, ?_⟩
 have e:(b.doors.map dHS)[n]? =(a.doors.map dHS)[n]? :=by rw [h.d]
 rw [List.getElem?_map,List.getElem?_map,List.getElem?_eq_getElem hn,List.getElem?_eq_getElem (by omega:n<b.doors.length)] at e
 simp only [Option.map_some,Option.some.injEq,dHS,Prod.mk.injEq] at e
 exact e
structure R56 (a b:gP) (t:E2) (H:Hp):Prop where
 g2:E2.get t 2= .ptr 0 0
 g3:E2.get t 3= .ptr 1 0
 h0:H.get 0=some (.cells (some 26) false (bD (cH a)))
 h1:H.get 1=some (.cells (some 26) false (bD (cH b)))
section
variable {a b : gP} {t : E2} {H : Hp} {k : AEx -> En -> Hp -> Bool} {ro : Option Nat}
def atJ (a b:gP) (m:Nat) (e:En) (H:Hp):Prop:=∃n:Nat,n<=a.rooms.length/\m=a.rooms.length - n/\e.dm=[]/\E2.get e.t 5= .int .i64 n/\R56 a b e.t H
theorem apZ (h:uZ a b) (hr:R56 a b t H) (g5:E2.get t 5= .int .i64 0) (hk:∀t' H',R56 a b t' H'->k (.exit 0) ⟨t',[]⟩ H'=true):cI P G 110 (.loop (aJ 56 [1,1,0,1,0])) ro ⟨t,[]⟩ H k=true:=by
 refine bA (atJ a b) (fun m e H hi=> ?_) (m:=a.rooms.length) ⟨0,Nat.zero_le _,rfl,rfl,g5,hr⟩
 obtain⟨n,hn',rfl,hdm,g5,⟨g2,g3,h0,h1⟩⟩:=hi
 obtain⟨t,dm⟩:=e
 dsimp only at hdm g5 g2 g3
 subst hdm
 have h0':=h0
 have h1':=h1
 simp only [cH,go_sem] at h0 h1
 refine bC 200 ?_
 rw [avH]
 have hl:=h.lr
 by_cases hlt:n<a.rooms.length
 ·have e1:((n:Int)<(a.rooms.length:Int))=True:=eq_true (by omega)
  simp (disch:=first|exact bk rfl|omega) only [go_sem,g5,g2,g3,h0,h1,e1,aK h.ra jC,aX h.ra jC aCS xT hlt,aX h.rb jC aCS xT hlt,aY kD hlt,iN,aiV]
  exact aZ (m':=a.rooms.length - (n+1)) (by omega) ⟨n+1,by omega,rfl,rfl,by simp (disch:=first|exact bk rfl|omega) only [go_sem];congr 1,eg rfl g2,eg rfl g3,h0',h1'⟩
 ·have e1:((n:Int)<(a.rooms.length:Int))=False:=eq_false (by omega)
  simp (disch:=first|exact bk rfl|omega) only [go_sem,g5,g2,g3,h0,h1,e1,aK h.ra jC]
  exact hk _ _ ⟨eg rfl g2,eg rfl g3,h0',h1'⟩
def aqP (a b:gP) (m:Nat) (e:En) (H:Hp):Prop:=∃n:Nat,n<=a.ways.length/\m=a.ways.length - n/\e.dm=[]/\E2.get e.t 9= .int .i64 n/\R56 a b e.t H
theorem atK (h:uZ a b) (hr:R56 a b t H) (g9:E2.get t 9= .int .i64 0) (hk:∀t' H',R56 a b t' H'->k (.exit 4) ⟨t',[]⟩ H'=true):cI P G 110 (.loop (aJ 56 [1,1,1,1,0,1,0])) ro ⟨t,[]⟩ H k=true:=by
 refine bA (aqP a b) (fun m e H hi=> ?_) (m:=a.ways.length) ⟨0,Nat.zero_le _,rfl,rfl,g9,hr⟩
 obtain⟨n,hn',rfl,hdm,g9,⟨g2,g3,h0,h1⟩⟩:=hi
 obtain⟨t,dm⟩:=e
 dsimp only at hdm g9 g2 g3
 subst hdm
 have h0':=h0
 have h1':=h1
 simp only [cH,go_sem] at h0 h1
 refine bC 200 ?_
 rw [axN]
 have hl:=h.lw
 by_cases hlt:n<a.ways.length
 ·have e1:((n:Int)<(a.ways.length:Int))=True:=eq_true (by omega)
  simp (disch:=first|exact bk rfl|omega) only [go_sem,g9,g2,g3,h0,h1,e1,aK h.wa nY,aX h.wa nY aPP aEG hlt,aX h.wb nY aPP aEG hlt,aY tL hlt,oD,alT]
  exact aZ (m':=a.ways.length - (n+1)) (by omega) ⟨n+1,by omega,rfl,rfl,by simp (disch:=first|exact bk rfl|omega) only [go_sem];congr 1,eg rfl g2,eg rfl g3,h0',h1'⟩
 ·have e1:((n:Int)<(a.ways.length:Int))=False:=eq_false (by omega)
  simp (disch:=first|exact bk rfl|omega) only [go_sem,g9,g2,g3,h0,h1,e1,aK h.wa nY]
  exact hk _ _ ⟨eg rfl g2,eg rfl g3,h0',h1'⟩
def awG (a b:gP) (m:Nat) (e:En) (H:Hp):Prop:=∃n:Nat,n<=a.doors.length/\m=a.doors.length - n/\e.dm=[]/\E2.get e.t 6= .int .i64 n/\R56 a b e.t H
theorem axV (h:uZ a b) (hr:R56 a b t H) (g6:E2.get t 6= .int .i64 0) (hk:∀t' H',R56 a b t' H'->k (.exit 2) ⟨t',[]⟩ H'=true):cI P G 110 (.loop (aJ 56 [1,1,1,0,1,0])) ro ⟨t,[]⟩ H k=true:=by
 refine bA (awG a b) (fun m e H hi=> ?_) (m:=a.doors.length) ⟨0,Nat.zero_le _,rfl,rfl,g6,hr⟩
 obtain⟨n,hn',rfl,hdm,g6,⟨g2,g3,h0,h1⟩⟩:=hi
 obtain⟨t,dm⟩:=e
 dsimp only at hdm g6 g2 g3
 subst hdm
 have h0':=h0
 have h1':=h1
 simp only [cH,go_sem] at h0 h1
 refine bC 200 ?_
 rw [apJ]
 have hl:=h.ld
 by_cases hlt:n<a.doors.length
 ·have e1:((n:Int)<(a.doors.length:Int))=True:=eq_true (by omega)
  obtain⟨hlb,q1,q2⟩:=h.at hlt
  have oa:=h.oa _ (List.getElem_mem hlt)
  have ob:=h.ob _ (List.getElem_mem hlb)
  have ls:=h.ls _ (List.getElem_mem hlt)
  rw [q1,q2] at ob
  have a1:=dB h.da 999
  have a2:=dB h.db 999
  have a3:=dB oa.1 999
  have a4:=dB oa.2 999
  have a5:=dB ob.1 999
  have a6:=dB ob.2 999
  simp (disch:=first|exact bk rfl|omega) only [go_sem,g6,g2,g3,h0,h1,e1,aK h.da gR,aX h.da gR vW tB hlt,aX h.db gR vW tB hlb,bL cY hlt (by decide:0<2),dF cY a.doors n 1 hlt (by decide),bL cY hlb (by decide:0<2),dF cY b.doors n 1 hlb (by decide),eY]
  refine bE hG [a.doors[n].dh,b.doors[n].dh] (pP oa.1 ob.1 ls.1) rfl ?_
  simp (disch:=first|exact bk rfl|omega) only [go_sem,a1,a2,a3,a4,a5,a6,g6,g2,g3,h0,h1,e1,aK h.da gR,aX h.da gR vW tB hlt,aX h.db gR vW tB hlb,bL cY hlt (by decide:0<2),dF cY a.doors n 1 hlt (by decide),bL cY hlb (by decide:0<2),dF cY b.doors n 1 hlb (by decide),eY]
  refine bE hG [a.doors[n].ds,b.doors[n].ds] (pP oa.2 ob.2 ls.2) rfl ?_
  simp (disch:=first|exact bk rfl|omega) only [go_sem,a1,a2,a3,a4,a5,a6,g6,g2,g3,h0,h1,e1,aK h.da gR,aX h.da gR vW tB hlt,aX h.db gR vW tB hlb,bL cY hlt (by decide:0<2),dF cY a.doors n 1 hlt (by decide),bL cY hlb (by decide:0<2),dF cY b.doors n 1 hlb (by decide),eY,Bool.not_true]
  exact aZ (m':=a.doors.length - (n+1)) (by omega) ⟨n+1,by omega,rfl,rfl,by simp (disch:=first|exact bk rfl|omega) only [go_sem];congr 1,eg rfl g2,eg rfl g3,h0',h1'⟩
 ·have e1:((n:Int)<(a.doors.length:Int))=False:=eq_false (by omega)
  simp (disch:=first|exact bk rfl|omega) only [go_sem,g6,g2,g3,h0,h1,e1,aK h.da gR]
  exact hk _ _ ⟨eg rfl g2,eg rfl g3,h0',h1'⟩
end
theorem aTX {a b:gP} (h:uZ a b):CQ P G 56 [.agg (cH a),.agg (cH b)] (·= .bool true):=by
 refine CQ.enter hG ?_
 have hd:=h.len
 simp (disch:=first|exact bk rfl|omega) only [go_sem,cH,h56,aK h.ra jC,aK h.rb jC,aK h.da gR,aK h.db gR,hd,aK h.wa nY,aK h.wb nY,decide_true,Bool.not_true,aM,aI]
 refine apZ h ⟨eg rfl rfl,eg rfl rfl,by simp (disch:=first|exact bk rfl|omega) only [go_sem,aM,aI,cH],by simp (disch:=first|exact bk rfl|omega) only [go_sem,aM,aI,cH]⟩ (eg rfl rfl) fun t1 H1 r1=> ?_
 simp (disch:=first|exact bk rfl|omega) only [go_sem,aqO]
 refine axV h ⟨eg rfl r1.g2,eg rfl r1.g3,r1.h0,r1.h1⟩ (eg rfl rfl) fun t2 H2 r2=> ?_
 simp (disch:=first|exact bk rfl|omega) only [go_sem,aqK]
 refine atK h ⟨eg rfl r2.g2,eg rfl r2.g3,r2.h0,r2.h1⟩ (eg rfl rfl) fun t3 H3 r3=> ?_
 simp (disch:=first|exact bk rfl|omega) only [go_sem,asW,r56]
 exact aG (.bool true) rfl
structure aJH (a b:cJ):Prop where
 h:uZ a.house b.house
 ka:Sl 3 dJ a.keys a.dk
 kb:Sl 3 dJ a.keys b.dk
 sa:Sl 3 cN a.stations a.dst
 sb:Sl 3 cN a.stations b.dst
 ma:Sl 5 bS a.marks a.dm
 mb:Sl 5 bS a.marks b.dm
 i:b.ink=a.ink
 st:b.start=a.start
 si:b.since=a.since
 lk:a.keys.length<=1000000
 ls:a.stations.length<=1000000
 lm:a.marks.length<=1000000
structure R14 (a b:cJ) (t:E2) (H:Hp):Prop where
 g2:E2.get t 2= .ptr 0 0
 g3:E2.get t 3= .ptr 1 0
 g5:E2.get t 5= .bool true
 g6:E2.get t 6= .bool true
 h0:H.get 0=some (.cells (some 42) false (bD (bI a)))
 h1:H.get 1=some (.cells (some 42) false (bD (bI b)))
section
variable {a b : cJ} {t : E2} {H : Hp} {k : AEx -> En -> Hp -> Bool} {ro : Option Nat}
def apA (a b:cJ) (m:Nat) (e:En) (H:Hp):Prop:=∃n:Nat,n<=a.keys.length/\m=a.keys.length - n/\e.dm=[]/\E2.get e.t 7= .int .i64 n/\R14 a b e.t H
theorem apU (h:aJH a b) (hr:R14 a b t H) (g7:E2.get t 7= .int .i64 0) (hk:∀t' H',R14 a b t' H'->k (.exit 0) ⟨t',[]⟩ H'=true):cI P G 96 (.loop (aJ 14 [1,1,1,1,0,1,0])) ro ⟨t,[]⟩ H k=true:=by
 refine bA (apA a b) (fun m e H hi=> ?_) (m:=a.keys.length) ⟨0,Nat.zero_le _,rfl,rfl,g7,hr⟩
 obtain⟨n,hn',rfl,hdm,g7,⟨g2,g3,g5,g6,h0,h1⟩⟩:=hi
 obtain⟨t,dm⟩:=e
 dsimp only at hdm g7 g2 g3 g5 g6
 subst hdm
 have h0':=h0
 have h1':=h1
 rw [bG] at h0 h1
 simp only [go_sem] at h0 h1
 refine bC 200 ?_
 rw [asG]
 have hl:=h.lk
 by_cases hlt:n<a.keys.length
 ·have e1:((n:Int)<(a.keys.length:Int))=True:=eq_true (by omega)
  simp (disch:=first|exact bk rfl|omega) only [go_sem,g7,g2,g3,h0,h1,e1,aK h.ka gO,aX h.ka gO rK oV hlt,aX h.kb gO rK oV hlt,aY dR hlt,dJ,auS]
  exact aZ (m':=a.keys.length - (n+1)) (by omega) ⟨n+1,by omega,rfl,rfl,by simp (disch:=first|exact bk rfl|omega) only [go_sem];congr 1,eg rfl g2,eg rfl g3,eg rfl g5,eg rfl g6,h0',h1'⟩
 ·have e1:((n:Int)<(a.keys.length:Int))=False:=eq_false (by omega)
  simp (disch:=first|exact bk rfl|omega) only [go_sem,g7,g2,g3,h0,h1,e1,aK h.ka gO]
  exact hk _ _ ⟨eg rfl g2,eg rfl g3,eg rfl g5,eg rfl g6,h0',h1'⟩
def aqS (a b:cJ) (m:Nat) (e:En) (H:Hp):Prop:=∃n:Nat,n<=a.stations.length/\m=a.stations.length - n/\e.dm=[]/\E2.get e.t 8= .int .i64 n/\R14 a b e.t H
theorem avY (h:aJH a b) (hr:R14 a b t H) (g8:E2.get t 8= .int .i64 0) (hk:∀t' H',R14 a b t' H'->k (.exit 2) ⟨t',[]⟩ H'=true):cI P G 96 (.loop (aJ 14 [1,1,1,1,1,0,1,0])) ro ⟨t,[]⟩ H k=true:=by
 refine bA (aqS a b) (fun m e H hi=> ?_) (m:=a.stations.length) ⟨0,Nat.zero_le _,rfl,rfl,g8,hr⟩
 obtain⟨n,hn',rfl,hdm,g8,⟨g2,g3,g5,g6,h0,h1⟩⟩:=hi
 obtain⟨t,dm⟩:=e
 dsimp only at hdm g8 g2 g3 g5 g6
 subst hdm
 have h0':=h0
 have h1':=h1
 rw [bG] at h0 h1
 simp only [go_sem] at h0 h1
 refine bC 200 ?_
 rw [auA]
 have hl:=h.ls
 by_cases hlt:n<a.stations.length
 ·have e1:((n:Int)<(a.stations.length:Int))=True:=eq_true (by omega)
  simp (disch:=first|exact bk rfl|omega) only [go_sem,g8,g2,g3,h0,h1,e1,aK h.sa gZ,aX h.sa gZ xF rM hlt,aX h.sb gZ xF rM hlt,aY cF hlt,cN,arF]
  exact aZ (m':=a.stations.length - (n+1)) (by omega) ⟨n+1,by omega,rfl,rfl,by simp (disch:=first|exact bk rfl|omega) only [go_sem];congr 1,eg rfl g2,eg rfl g3,eg rfl g5,eg rfl g6,h0',h1'⟩
 ·have e1:((n:Int)<(a.stations.length:Int))=False:=eq_false (by omega)
  simp (disch:=first|exact bk rfl|omega) only [go_sem,g8,g2,g3,h0,h1,e1,aK h.sa gZ]
  exact hk _ _ ⟨eg rfl g2,eg rfl g3,eg rfl g5,eg rfl g6,h0',h1'⟩
end
theorem tR {a b:cJ} (h:aJH a b):CQ P G 14 [.agg (bI a),.agg (bI b)] (·= .bool true):=by
 have hi:=h.i
 have hs1:=h.st
 have hs2:=h.si
 refine CQ.enter hG ?_
 simp (disch:=first|exact bk rfl|omega) only [go_sem,bG,h14,aM,aI]
 refine bE hG [a.dm,b.dm] (aBY h.ma h.mb h.lm) rfl ?_
 simp (disch:=first|exact bk rfl|omega) only [go_sem,aM,aI]
 refine bE hG [.agg (cH a.house),.agg (cH b.house)] (aTX h.h) rfl ?_
 simp (disch:=first|exact bk rfl|omega) only [go_sem,aM,aI,aK h.ka gO,aK h.kb gO,aK h.sa gZ,aK h.sb gZ,decide_true,Bool.not_true]
 refine apU h ⟨eg rfl rfl,eg rfl rfl,eg rfl rfl,eg rfl rfl,by rw [bG];simp (disch:=first|exact bk rfl|omega) only [go_sem,aM,aI],by rw [bG];simp (disch:=first|exact bk rfl|omega) only [go_sem,aM,aI]⟩ (eg rfl rfl) fun t1 H1 r1=> ?_
 simp (disch:=first|exact bk rfl|omega) only [go_sem,awN]
 refine avY h ⟨eg rfl r1.g2,eg rfl r1.g3,eg rfl r1.g5,eg rfl r1.g6,r1.h0,r1.h1⟩ (eg rfl rfl) fun t2 H2 r2=> ?_
 have h0:=r2.h0
 have h1:=r2.h1
 rw [bG] at h0 h1
 simp only [go_sem] at h0 h1
 simp (disch:=first|exact bk rfl|omega) only [go_sem,avF,r2.g2,r2.g3,r2.g5,r2.g6,h0,h1,hi,hs1,hs2,arX,decide_true,r14]
 exact aG (.bool true) rfl
def apC (c:cJ) (d:D):Prop:=∃b:Bool,d= .bool b/\(b=true->Few c)
def I6 (c:cJ) (m:Nat) (e:En) (H:Hp):Prop:=∃n:Nat,n<=c.house.doors.length/\m=c.house.doors.length - n/\e.dm=[]/\E2.get e.t 3= .int .i64 n/\E2.get e.t 1= .ptr 0 0/\H.get 0=some (.cells (some 42) false (bD (bI c)))
theorem akY {c:cJ} (ho:dD c):CQ P G 6 [.agg (bI c)] (apC c):=by
 have hno:∀H,kU (apC c) (.ret (.bool false)) H=true:=fun H=>aG (.bool false) ⟨false,rfl,fun h=>by cases h⟩
 have l1:=ho.house.roomsL
 have l2:=ho.house.doorsL
 have l3:=ho.house.waysL
 have l4:=ho.st.keysL
 have l5:=ho.st.stsL
 have l6:=ho.mksL
 have l7:=ho.stopsL
 have hd:=ho.house.doors
 refine CQ.enter hG ?_
 rw [show bD [D.agg (bI c)]=[.agg (bD (bI c))] from rfl,bG,h6]
 by_cases q1:c.house.rooms.length<=8
 rotate_left
 ·have e1:((8:Int)<(c.house.rooms.length:Int))=True:=eq_true (by omega)
  simp (disch:=first|exact bk rfl|omega) only [go_sem,aK ho.house.rooms jC,e1,r6]
  exact hno _
 have e1:((8:Int)<(c.house.rooms.length:Int))=False:=eq_false (by omega)
 by_cases q2:c.house.doors.length<=4
 rotate_left
 ·have e2:((4:Int)<(c.house.doors.length:Int))=True:=eq_true (by omega)
  simp (disch:=first|exact bk rfl|omega) only [go_sem,aK ho.house.rooms jC,aK hd gR,e1,e2,r6]
  exact hno _
 have e2:((4:Int)<(c.house.doors.length:Int))=False:=eq_false (by omega)
 by_cases q3:c.house.ways.length<=20
 rotate_left
 ·have e3:((20:Int)<(c.house.ways.length:Int))=True:=eq_true (by omega)
  simp (disch:=first|exact bk rfl|omega) only [go_sem,aK ho.house.rooms jC,aK hd gR,aK ho.house.ways nY,e1,e2,e3,r6]
  exact hno _
 have e3:((20:Int)<(c.house.ways.length:Int))=False:=eq_false (by omega)
 by_cases q4:c.keys.length<=12
 rotate_left
 ·have e4:((12:Int)<(c.keys.length:Int))=True:=eq_true (by omega)
  simp (disch:=first|exact bk rfl|omega) only [go_sem,aK ho.house.rooms jC,aK hd gR,aK ho.house.ways nY,aK ho.st.keys gO,e1,e2,e3,e4,r6]
  exact hno _
 have e4:((12:Int)<(c.keys.length:Int))=False:=eq_false (by omega)
 by_cases q5:c.stations.length<=10
 rotate_left
 ·have e5:((10:Int)<(c.stations.length:Int))=True:=eq_true (by omega)
  simp (disch:=first|exact bk rfl|omega) only [go_sem,aK ho.house.rooms jC,aK hd gR,aK ho.house.ways nY,aK ho.st.keys gO,aK ho.st.sts gZ,e1,e2,e3,e4,e5,r6]
  exact hno _
 have e5:((10:Int)<(c.stations.length:Int))=False:=eq_false (by omega)
 by_cases q6:c.marks.length<=14
 rotate_left
 ·have e6:((14:Int)<(c.marks.length:Int))=True:=eq_true (by omega)
  simp (disch:=first|exact bk rfl|omega) only [go_sem,aK ho.house.rooms jC,aK hd gR,aK ho.house.ways nY,aK ho.st.keys gO,aK ho.st.sts gZ,aK ho.mks gY,e1,e2,e3,e4,e5,e6,r6]
  exact hno _
 have e6:((14:Int)<(c.marks.length:Int))=False:=eq_false (by omega)
 by_cases q7:c.session.stops.length<=6
 rotate_left
 ·have e7:((6:Int)<(c.session.stops.length:Int))=True:=eq_true (by omega)
  simp (disch:=first|exact bk rfl|omega) only [go_sem,aK ho.house.rooms jC,aK hd gR,aK ho.house.ways nY,aK ho.st.keys gO,aK ho.st.sts gZ,aK ho.mks gY,aK ho.stops kQ,e1,e2,e3,e4,e5,e6,e7,r6]
  exact hno _
 have e7:((6:Int)<(c.session.stops.length:Int))=False:=eq_false (by omega)
 simp (disch:=first|exact bk rfl|omega) only [go_sem,aK ho.house.rooms jC,aK hd gR,aK ho.house.ways nY,aK ho.st.keys gO,aK ho.st.sts gZ,aK ho.mks gY,aK ho.stops kQ,e1,e2,e3,e4,e5,e6,e7]
 refine bE hG [.agg (aV c.order),.int .i64 60] (aKG ho.order 60 (by decide) (by decide)) rfl ?_
 by_cases q8:tO c.order<=50
 rotate_left
 ·have e8:((50:Int)<min (tO c.order:Int) 60)=True:=eq_true (by omega)
  simp (disch:=first|exact bk rfl|omega) only [go_sem,e1,e2,e3,e4,e5,e6,e7,e8,r6]
  exact hno _
 have e8:((50:Int)<min (tO c.order:Int) 60)=False:=eq_false (by omega)
 simp (disch:=first|exact bk rfl|omega) only [go_sem,e1,e2,e3,e4,e5,e6,e7,e8]
 refine bA (I6 c) (fun m e H hi=> ?_) (m:=c.house.doors.length) ?_
 rotate_left
 ·exact⟨0,Nat.zero_le _,rfl,rfl,eg rfl rfl,eg rfl rfl,by rw [bG];simp (disch:=first|exact bk rfl|omega) only [go_sem,aI]⟩
 obtain⟨n,hn',rfl,hdm,g3,g1,hg0⟩:=hi
 obtain⟨t,dm⟩:=e
 dsimp only at hdm g3 g1
 subst hdm
 have hg0':=hg0
 rw [bG] at hg0
 simp only [go_sem] at hg0
 refine bC 200 ?_
 rw [a1B]
 by_cases hlt:n<c.house.doors.length
 ·have hmem:=List.getElem_mem hlt
  have z1:((n:Int)<(c.house.doors.length:Int))=True:=eq_true (by omega)
  by_cases q9:(10:Int)<aVL (c.house.doors[n].hours.length:Int) (c.house.doors[n].shut.length:Int)
  ·have z2:=eq_true q9
   simp (disch:=first|exact bk rfl|omega) only [go_sem,g3,g1,hg0,z1,z2,aQN,aK hd gR,aX hd gR vW tB hlt,bL cY hlt (by decide:0<2),dF cY c.house.doors n 1 hlt (by decide),eY,aK (ho.house.hours _ hmem) cO,aK (ho.house.shut _ hmem) cO,r6]
   exact hno _
  ·have z2:=eq_false q9
   simp (disch:=first|exact bk rfl|omega) only [go_sem,g3,g1,hg0,z1,z2,aQN,aK hd gR,aX hd gR vW tB hlt,bL cY hlt (by decide:0<2),dF cY c.house.doors n 1 hlt (by decide),eY,aK (ho.house.hours _ hmem) cO,aK (ho.house.shut _ hmem) cO]
   exact aZ (m':=c.house.doors.length - (n+1)) (by omega) ⟨n+1,by omega,rfl,rfl,by simp (disch:=first|exact bk rfl|omega) only [go_sem];congr 1,eg rfl g1,hg0'⟩
 ·have z1:((n:Int)<(c.house.doors.length:Int))=False:=eq_false (by omega)
  simp (disch:=first|exact bk rfl|omega) only [go_sem,g3,g1,hg0,z1,aK hd gR,a5T,r6]
  exact aG (.bool true) ⟨true,rfl,fun _=>⟨q1,q2,q3,q4,q5,q6,q7,q8⟩⟩
theorem aGU:dD gN:=
 have n1:∀{α:Type} {sz:Nat} {enc:α->List D},Sl sz enc ([]:List α) .nils:= .inl ⟨rfl,rfl⟩
 ⟨⟨n1,by decide,(by intro s hs;cases hs),n1,by decide,(by intro s hs;cases hs),(by intro s hs;cases hs),(by intro s hs;cases hs),(by intro s hs;cases hs),n1,by decide⟩,n1,by decide,⟨n1,by decide,n1,by decide,n1,by decide,(by intro s hs;cases hs)⟩,n1,by decide,.mk _ _ _ _ _ _ _ _ _ n1 (by decide) ((by intro s hs;cases hs)) n1 (by decide) ((by intro s hs;cases hs))⟩
theorem aVD:aJH gN gN:=
 have n1:∀{α:Type} {sz:Nat} {enc:α->List D},Sl sz enc ([]:List α) .nils:= .inl ⟨rfl,rfl⟩
 ⟨⟨rfl,n1,n1,rfl,n1,n1,(by intro s hs;cases hs),(by intro s hs;cases hs),n1,n1,by decide,by decide,by decide,(by intro s hs;cases hs)⟩,n1,n1,n1,n1,n1,n1,rfl,rfl,rfl,by decide,by decide,by decide⟩
section
variable (x : cJ)
theorem rZ:fK 31 (bD (bI x))=some (bD (bI x)):=by rw [bG];rfl
theorem avQ:(bD (bI x))[0]? =some (ofD x.house.dr):=by rw [bG];rfl
theorem a3Q:(bD (bI x))[3]? =some (.int .i64 x.session.id):=by rw [bG];rfl
theorem agY:(bD (bI x))[19]? =some (ofD x.dst):=by rw [bG];rfl
theorem aWJ:(bD (bI x))[20]? =some (ofD x.dm):=by rw [bG];rfl
theorem atW:(bD (bI x))[23]? =some (.int .i64 x.order.kind):=by rw [bG];rfl
theorem aMZ:(bD (bI x)).length=31:=by rw [bG];rfl
theorem aFQ:aCI [.nils,.nils,.nils,.int .i64 0,.int .i64 0,.int .i64 0,.int .i64 0,.int .i64 0,.int .i64 0,.int .i64 0,.int .i64 0,.int .i64 0,.int .i64 0,.int .i64 0,.nils,.int .i64 0,.int .i64 0,.int .i64 0,.nils,.nils,.nils,.int .i64 0,.int .i64 0,.int .i64 0,.nils,.int .i64 0,.int .i64 0,.int .i64 0,.int .i64 0,.int .i64 0,.nils] (bD (bI x))=some (bD (bI x)):=by rw [bG];rfl
theorem akR:ofD (.agg (bI x))= .agg (bD (bI x)):=rfl
end
theorem dD.ones {x:cJ} (h:dD x):(bD (bI x)).all Ev.one=true:=by
 rw [bG]
 simp only [bD,List.all_cons,List.all_nil,bW h.house.rooms,bW h.house.doors,bW h.house.ways,bW h.stops,bW h.st.keys,bW h.st.sts,bW h.mks,h.order.o1,h.order.o2,Bool.and_true,Bool.true_and]
 rfl
theorem dC.v1 {o:aF} (h:dC o) (n:Nat):aR (n+1) (ofD o.dn) (ofD o.dn)=true:=by cases h with | mk _ _ _ _ _ _ _ _ _ h=>exact dB h n
theorem dC.v2 {o:aF} (h:dC o) (n:Nat):aR (n+1) (ofD o.dk) (ofD o.dk)=true:=by cases h with | mk _ _ _ _ _ _ _ _ _ _ _ _ h=>exact dB h n
theorem a1G (n:Nat) (a:Int):aR (n+1) (ofD (.int .i64 a)) (ofD (.int .i64 a))=true:=abX n .i64 a
theorem aHK:∀(l:List D) (n:Nat),(∀d∈l,∀n,aR (n+1) (ofD d) (ofD d)=true)->l.length<=n->gW (n+1) (bD l) (bD l)=true
 | [],n,_,_=>adB n
 | d::l,n,h,hl=>by
  simp only [List.length_cons] at hl
  obtain⟨m,rfl⟩:∃m,n=m+1:=⟨n - 1,by omega⟩
  rw [nS,aXQ,h d (by simp) m,Bool.true_and]
  exact aHK l m (fun d hd=>h d (by simp [hd])) (by omega)
theorem dD.avs {x:cJ} (h:dD x):aR 1000 (.agg (bD (bI x))) (.agg (bD (bI x)))=true:=by
 show aR (999+1) _ _=true
 rw [aaP]
 refine aHK (bI x) 998 (fun d hd n=> ?_) (by rw [bG];exact (by decide:31<=998))
 rw [bG] at hd
 simp only [List.mem_cons,List.not_mem_nil,or_false] at hd
 rcases hd with rfl | rfl | rfl | rfl | rfl | rfl | rfl | rfl | rfl | rfl | rfl | rfl | rfl | rfl | rfl | rfl | rfl | rfl | rfl | rfl | rfl | rfl | rfl | rfl | rfl | rfl | rfl | rfl | rfl | rfl | rfl
 all_goals first | exact a1G n _ | exact dB h.house.rooms n | exact dB h.house.doors n | exact dB h.house.ways n | exact dB h.stops n | exact dB h.st.keys n | exact dB h.st.sts n | exact dB h.mks n | exact h.order.v1 n | exact h.order.v2 n
structure Cp (c:cJ) (ms:List dO) (a:cJ):Prop where
 ok:dD a
 id:a.session.id=c.session.id
 kind:a.order.kind=c.order.kind
 chk:cU c=0->ms.length<=12->mkE c.session c.ink ms=0->cU a=0
theorem aPB {s s':dP} {i:Ink} (h:jT s=jT s'):∀l:List dO,mkE s i l=mkE s' i l
 | []=>rfl
 | m::l=>by rw [mkE,mkE,aPB h l];unfold eZ;rw [h]
theorem aHS {c c':cJ} (hk:c.keys=c'.keys) (hr:c.house.rooms=c'.house.rooms):∀(l p:List eC),stE c p l=stE c' p l
 | [],p=>rfl
 | x::l,p=>by rw [stE,stE];unfold eE;rw [hk,hr,aHS hk hr l]
theorem aLC {s s':dP} (h1:s.id=s'.id) (h2:s.in_=s'.in_) (h3:s.out=s'.out) (h4:s.zero=s'.zero) (h5:s.end_=s'.end_) (h6:s.rate=s'.rate) (h7:s.stops=s'.stops):gE s=gE s':=by
 cases s;cases s'
 dsimp only at h1 h2 h3 h4 h5 h6 h7
 subst h1 h2 h3 h4 h5 h6 h7
 rfl
theorem aZF {l l':List mK} (h:l.map dHS=l'.map dHS):l.all mY=l'.all mY:=by
 have e:∀m:List mK,m.all mY=(m.map dHS).all fun p=>iV p.1 86399&&iV p.2 1073741823:=fun m=>by rw [List.all_map];rfl
 rw [e,e,h]
theorem ClQ.cp {c:cJ} (ho:dD c) (hf:Few c) {ms:List dO} (hml:ms.length<=1000000) {d:D} (h:ClQ c ms d):∃a,d= .agg (bI a)/\Cp c ms a:=by
 obtain⟨dr,ds,dd,dw,dse,dk,dst,dm,o,rfl,hre,hsd,hsm⟩:=h
 refine⟨_,rfl,hre.ok ho hsd hsm hml,rfl,aSA hre.ordE,fun hc hl hm=> ?_⟩
 have hlen:ds.length=c.house.doors.length:=by have:=congrArg List.length hre.doors;simpa using this
 have h1:eV (reC c dr ds dd dw dse dk dst ms dm o).house=eV c.house:=by
  unfold eV
  rw [show (reC c dr ds dd dw dse dk dst ms dm o).house.doors=ds from rfl,hlen,aZF hre.doors]
  rfl
 have h2:fX (reC c dr ds dd dw dse dk dst ms dm o)=0:=by
  unfold fX
  rw [if_neg (by show ¬12<ms.length;omega)]
  rw [←aPB (s:=(reC c dr ds dd dw dse dk dst ms dm o).session) (s':=c.session) rfl] at hm
  exact hm
 have h3:fB (reC c dr ds dd dw dse dk dst ms dm o).order=fB c.order:=aIR hre.ordE
 have h4:fX c=0:=(lH hc).2.2.2.2
 have h5:gE (reC c dr ds dd dw dse dk dst ms dm o).session=gE c.session:=aLC rfl rfl rfl rfl rfl rfl rfl
 have h6:dQ (reC c dr ds dd dw dse dk dst ms dm o)=dQ c:=by
  unfold dQ
  rw [aHS (c:=reC c dr ds dd dw dse dk dst ms dm o) (c':=c) rfl rfl]
  rfl
 rw [←hc]
 unfold cU
 rw [h1,h2,h3,h4,h5,h6]
 rfl
theorem ClQ.pair {c:cJ} (ho:dD c) (hf:Few c) (hok:OkC c) {ms:List dO} (hml:ms.length<=1000000) {a b:cJ} (h1:ClQ c ms (.agg (bI a))) (h2:ClQ c ms (.agg (bI b))):∃a' b',bI a=bI a'/\bI b=bI b'/\aJH a' b':=by
 obtain⟨dr,ds,dd,dw,dse,dk,dst,dm,o,e1,hre,hsd,hsm⟩:=h1
 obtain⟨dr',ds',dd',dw',dse',dk',dst',dm',o',e2,hre',hsd',hsm'⟩:=h2
 simp only [D.agg.injEq] at e1 e2
 have hlen:ds.length=c.house.doors.length:=by have:=congrArg List.length hre.doors;simpa using this
 refine⟨_,_,e1,e2,⟨⟨rfl,hre.dr,hre'.dr,by show ds'.map dHS=ds.map dHS;rw [hre.doors,hre'.doors],hsd,hsd',hre.dok,hre'.dok,hre.dw,hre'.dw,by have:=hf.rooms;show c.house.rooms.length<=_;omega,by have:=hf.doors;show ds.length<=_;omega,by have:=hf.ways;show c.house.ways.length<=_;omega,fun d hd=> ?_⟩,hre.dk,hre'.dk,hre.dst,hre'.dst,hsm,hsm',rfl,rfl,rfl,by have:=hf.keys;show c.keys.length<=_;omega,by have:=hf.sts;show c.stations.length<=_;omega,hml⟩⟩
 have:dHS d∈c.house.doors.map dHS:=by rw [←hre.doors];exact List.mem_map_of_mem hd
 obtain⟨d',q1,q2⟩:=List.mem_map.1 this
 simp only [dHS,Prod.mk.injEq] at q2
 have:=hok.2 d' q1
 rw [←q2.1,←q2.2];omega
theorem xJ {c:cJ} (ho:dD c) (hf:Few c) (hok:OkC c) {ms:List dO} (hml:ms.length<=1000000) {a b:cJ} (h1:ClQ c ms (.agg (bI a))) (h2:ClQ c ms (.agg (bI b))):CQ P G 14 [.agg (bI a),.agg (bI b)] (·= .bool true):=by
 obtain⟨a',b',e1,e2,h⟩:=ClQ.pair ho hf hok hml h1 h2
 rw [e1,e2];exact tR h
theorem qW:CQ P G 7 [] (·= .bool true):=by
 intro w vs L hg hd
 have hv:vs=#[]:=by obtain⟨vs⟩:=vs;cases hd;rfl
 subst hv
 have h:=Go.Q5.sanity w hg
 refine CallsIn.mono (callsIn_wide.2 h) fun en w' ⟨he,hb⟩=> ?_
 exact⟨.bool true,.bool true,[],he,rfl,.bool _,by simp,hb⟩
structure R4 (c a b:cJ) (m:dO) (i:Int) (di:D) (e f bad:Int) (t:E2) (H:Hp):Prop where
 g1:E2.get t 1= .int .i64 i
 g3:E2.get t 3=ofD di
 g4:E2.get t 4= .ptr 0 0
 g6:E2.get t 6= .ptr 1 0
 g9:E2.get t 9= .ptr 2 0
 g10:E2.get t 10= .int .i64 e
 g11:E2.get t 11= .ptr 3 0
 g12:E2.get t 12= .int .i64 f
 g13:E2.get t 13= .int .i64 bad
 h0:H.get 0=some (.cells (some 42) false (bD (bI c)))
 h1:H.get 1=some (.cells (some 50) false (bD (bS m)))
 h2:H.get 2=some (.cells (some 42) false (bD (bI a)))
 h3:H.get 3=some (.cells (some 42) false (bD (bI b)))
 nx:H.nx=4
theorem z_m:ofD gN.dm= .nils:=rfl
theorem z_s:ofD gN.dst= .nils:=rfl
theorem z_r:ofD gN.house.dr= .nils:=rfl
theorem l36 (H:Hp) (k:AV->Bool):bH P 36 AV.nils H k=k (.int .i64 0):=by unfold bH;rw [gY];rfl
theorem l35 (H:Hp) (k:AV->Bool):bH P 35 AV.nils H k=k (.int .i64 0):=by unfold bH;rw [gZ];rfl
theorem l22 (H:Hp) (k:AV->Bool):bH P 22 AV.nils H k=k (.int .i64 0):=by unfold bH;rw [jC];rfl
section
variable {c a b : cJ} {m : dO} {i : Int} {di : D} {e f bad : Int} {t : E2} {H : Hp} {k : AEx -> En -> Hp -> Bool} {ro : Option Nat}
theorem awY (hr:R4 c a gN m i di e bad bad t H) (hb:bad≠0) (hk:∀t',R4 c a gN m i di e bad bad t' H->E2.get t' 73= .bool false->k .normal ⟨t',[]⟩ H=true):
  cd P G 193 153 (aJ 4 [1,1,1,1,1,0,0]) ro ⟨t,[]⟩ H k=true:=by
 obtain⟨g1,g3,g4,g6,g9,g10,g11,g12,g13,h0,h1,h2,h3,nx⟩:=hr
 have e1:=eq_false hb
 rw [auZ]
 simp (disch:=first|exact bk rfl|omega) only [go_sem,g12,g13,g11,h3,e1,aWJ,agY,avQ,z_m,z_s,z_r,l36,l35,l22,decide_true,decide_false,Bool.not_true,Bool.not_false,Int.reduceAdd,Int.reduceLT]
 exact hk _ ⟨eg rfl g1,eg rfl g3,eg rfl g4,eg rfl g6,eg rfl g9,eg rfl g10,eg rfl g11,eg rfl g12,eg rfl g13,h0,h1,h2,h3,nx⟩ (eg rfl rfl)
theorem apW (hc:dD c) (hbo:dD b) (hr:R4 c a b m i di e 0 0 t H) (h15:CQ P G 15 [.agg (bI c),di] (fun d=>∃b',d= .agg (bI b')/\CQ P G 14 [.agg (bI b),.agg (bI b')] (·= .bool true))) (hk:∀t',R4 c a b m i di e 0 0 t' H->E2.get t' 73= .bool false->k .normal ⟨t',[]⟩ H=true):
  cd P G 193 153 (aJ 4 [1,1,1,1,1,0,0]) ro ⟨t,[]⟩ H k=true:=by
 obtain⟨g1,g3,g4,g6,g9,g10,g11,g12,g13,h0,h1,h2,h3,nx⟩:=hr
 have v1:=hc.avs
 have v2:=hbo.avs
 rw [auZ]
 simp (disch:=first|exact bk rfl|omega) only [go_sem,g3,g12,g13,g11,g4,h0,h3,rZ,decide_true,decide_false,Bool.not_true,Bool.not_false]
 refine cS hG [.agg (bI c),di] h15 rfl fun d hd=> ?_
 obtain⟨b',rfl,h14⟩:=hd
 rw [akR]
 simp (disch:=first|exact bk rfl|omega) only [go_sem,g4,g11,h0,h3,rZ,v1,v2]
 refine bE hG [.agg (bI b),.agg (bI b')] h14 rfl ?_
 simp (disch:=first|exact bk rfl|omega) only [go_sem,g4,g11,h0,h3,rZ,v1,v2,Bool.not_true]
 exact hk _ ⟨eg rfl g1,eg rfl g3,eg rfl g4,eg rfl g6,eg rfl g9,eg rfl g10,eg rfl g11,eg rfl g12,eg rfl g13,h0,h1,h2,h3,nx⟩ (eg rfl rfl)
end
section
variable {c a b : cJ} {m : dO} {i : Int} {di : D} {e f bad : Int} {t : E2} {H : Hp} {k : AEx -> En -> Hp -> Bool} {ro : Option Nat}
theorem auB (hc:dD c) (hl:c.marks.length<=14) (hr:R4 c a b m i di e f bad t H) (hk:∀t',R4 c a b m i di e f (if bad=0/\inB i 0 ((c.marks.length:Int) - 1)=false then 1 else bad) t' H->cd P G 193 153 (aJ 4 [1,1,1,1,1,1,1]) ro ⟨t',[]⟩ H k=true):
  cd P G 194 153 (aJ 4 [1,1,1,1,1,1]) ro ⟨t,[]⟩ H k=true:=by
 obtain⟨g1,g3,g4,g6,g9,g10,g11,g12,g13,h0,h1,h2,h3,nx⟩:=hr
 rw [a0G]
 by_cases hb:bad=0
 ·subst hb
  simp (disch:=first|exact bk rfl|omega) only [go_sem,g13,g1,g4,h0,aWJ,aK hc.mks gY,decide_true]
  refine bE hG [.int .i64 i,.int .i64 0,.int .i64 ((c.marks.length:Int) - 1)] (aNZ _ _ _) rfl ?_
  cases hi:inB i 0 ((c.marks.length:Int) - 1)
  ·rw [hi,if_pos ⟨rfl,rfl⟩] at hk
   simp (disch:=first|exact bk rfl|omega) only [go_sem,Bool.not_false]
   exact hk _ ⟨eg rfl g1,eg rfl g3,eg rfl g4,eg rfl g6,eg rfl g9,eg rfl g10,eg rfl g11,eg rfl g12,eg rfl rfl,h0,h1,h2,h3,nx⟩
  ·rw [hi,if_neg (by simp)] at hk
   simp (disch:=first|exact bk rfl|omega) only [go_sem,Bool.not_true]
   exact hk _ ⟨eg rfl g1,eg rfl g3,eg rfl g4,eg rfl g6,eg rfl g9,eg rfl g10,eg rfl g11,eg rfl g12,eg rfl g13,h0,h1,h2,h3,nx⟩
 ·rw [if_neg (fun h=>hb h.1)] at hk
  have e1:=eq_false hb
  simp (disch:=first|exact bk rfl|omega) only [go_sem,g13,g1,e1,decide_false]
  exact hk _ ⟨eg rfl g1,eg rfl g3,eg rfl g4,eg rfl g6,eg rfl g9,eg rfl g10,eg rfl g11,eg rfl g12,eg rfl g13,h0,h1,h2,h3,nx⟩
theorem agP (hr:R4 c gN b m i di bad f bad t H) (hb:bad≠0) (hk:∀t' H',E2.get t' 8= .bool true->k .ret ⟨t',[]⟩ H'=true):
  cd P G 193 153 (aJ 4 [1,1,1,1,1,1,1]) ro ⟨t,[]⟩ H k=true:=by
 obtain⟨g1,g3,g4,g6,g9,g10,g11,g12,g13,h0,h1,h2,h3,nx⟩:=hr
 have e1:=eq_false hb
 rw [atT]
 simp (disch:=first|exact bk rfl|omega) only [go_sem,g13,e1,decide_false,Bool.not_false]
 refine bE hG [] qW rfl ?_
 simp (disch:=first|exact bk rfl|omega) only [go_sem,g10,g13,g9,h2,decide_true,aWJ,agY,avQ,z_m,z_s,z_r,l36,l35,l22,Int.reduceAdd]
 exact hk _ _ (eg rfl rfl)
theorem axA (hc:dD c) (hr:R4 c a b m i di e f 0 t H) (h17:CQ P G 17 [.agg (bI c),.int .i64 i,.agg (bS m)] (fun d=>∃x,d= .tup [.agg (bI x),.int .i64 e]/\dD x/\CQ P G 14 [.agg (bI a),.agg (bI x)] (·= .bool true)))
  (h8:e=0->CQ P G 8 [.agg (bI a)] (·= .int .i64 0)/\a.session.id=c.session.id/\a.order.kind=c.order.kind) (hk:∀t' H',E2.get t' 8= .bool true->k .ret ⟨t',[]⟩ H'=true):
  cd P G 193 153 (aJ 4 [1,1,1,1,1,1,1]) ro ⟨t,[]⟩ H k=true:=by
 obtain⟨g1,g3,g4,g6,g9,g10,g11,g12,g13,h0,h1,h2,h3,nx⟩:=hr
 have h1':=h1
 simp only [bS,go_sem] at h1
 rw [atT]
 simp (disch:=first|exact bk rfl|omega) only [go_sem,g13,g4,g6,g1,h0,h1,rZ,decide_true,Bool.not_true,aM,aI]
 refine cS hG [.agg (bI c),.int .i64 i,.agg (bS m)] h17 rfl fun d hd=> ?_
 obtain⟨x,rfl,hx,h14⟩:=hd
 have ox:=hx.ones
 have n4:(2=H.nx)=False:=eq_false (by omega)
 have n5:(0=H.nx)=False:=eq_false (by omega)
 simp (disch:=first|exact bk rfl|omega) only [go_sem,show ofD (.tup [.agg (bI x),.int .i64 e])= .tup [.agg (bD (bI x)),.int .i64 e] from rfl,aMZ,aFQ,ox,aM,aI]
 refine bE hG [] qW rfl ?_
 simp (disch:=first|exact bk rfl|omega) only [go_sem,g10,g9,h2,n4,n5,rZ,decide_true,aM,aI]
 refine bE hG [.agg (bI a),.agg (bI x)] h14 rfl ?_
 by_cases he:e=0
 ·subst he
  obtain⟨h8,i1,i2⟩:=h8 rfl
  simp (disch:=first|exact bk rfl|omega) only [go_sem,g9,h2,n4,n5,rZ,decide_true,Bool.not_true,aM,aI]
  refine bE hG [.agg (bI a)] h8 rfl ?_
  simp (disch:=first|exact bk rfl|omega) only [go_sem,g9,g4,h2,h0,n4,n5,a3Q,atW,i1,i2,decide_true,aM,aI]
  exact hk _ _ (eg rfl rfl)
 ·have e1:=eq_false he
  simp (disch:=first|exact bk rfl|omega) only [go_sem,e1,decide_false,Bool.not_false]
  exact hk _ _ (eg rfl rfl)
end
theorem aPQ (x:cJ) (e:Int):ofD (.tup [.agg (bI x),.int .i64 e])= .tup [.agg (bD (bI x)),.int .i64 e]:=rfl
theorem aCV {c:cJ} {n:Nat} {x m:dO} {d:D} (ho:dD c) (hf:Few c) (h:ShQ c n x m d):∃a,d= .tup [.agg (bI a),.int .i64 (shE c x m)]/\dD a/\(shE c x m≠0->a=gN)/\(shE c x m=0->ClQ c (c.marks.set n (eR x m).2) (.agg (bI a))/\Cp c (c.marks.set n (eR x m).2) a):=by
 unfold ShQ at h
 split at h
 ·rename_i h0
  obtain⟨d1,rfl,hq⟩:=h
  obtain⟨a,rfl,hcp⟩:=hq.cp ho hf (by rw [List.length_set];have:=hf.marks;omega)
  exact⟨a,by rw [h0],hcp.ok,fun h=>absurd h0 h,fun _=>⟨hq,hcp⟩⟩
 ·rename_i h0
  exact⟨gN,h,aGU,fun _=>rfl,fun h=>absurd h h0⟩
theorem acY {s:dP} {ik:Ink} {l:List dO} {n:Nat} {z:dO} (h:mkE s ik l=0) (hz:eH z=true/\okR (gV (eZ s z ik))=true):mkE s ik (l.set n z)=0:=by
 rw [yX] at h⊢
 intro m hm
 rcases List.mem_or_eq_of_mem_set hm with hm | rfl
 ·exact h m hm
 ·exact hz
theorem amJ {c:cJ} (ho:dD c) (i:Int) (m:dO) {is:List Int} {di:D} (hi:Sl 1 tP is di):CQ P G 4 [.agg (bI c),.int .i64 i,.agg (bS m),di] (·= .bool true):=by
 refine CQ.enter hG ?_
 rw [show bD [D.agg (bI c),.int .i64 i,.agg (bS m),di]=[.agg (bD (bI c)),.int .i64 i,.agg (bD (bS m)),ofD di] from rfl,h4]
 simp (disch:=first|exact bk rfl|omega) only [go_sem,rZ,aM,aI]
 refine cS hG [.agg (bI c)] (akY ho) rfl fun d hd=> ?_
 obtain⟨fb,rfl,hf⟩:=hd
 have hret:∀(H:Hp),kU (fun x=>x=D.bool true) (.ret (.bool true)) H=true:=fun H=>aG (.bool true) rfl
 cases fb
 ·simp (disch:=first|exact bk rfl|omega) only [go_sem,Bool.not_false]
  refine bE hG [] qW rfl ?_
  exact hret _
 have hf:=hf rfl
 by_cases hil:is.length<=20
 rotate_left
 ·have e1:((20:Int)<(is.length:Int))=True:=eq_true (by omega)
  simp (disch:=first|exact bk rfl|omega) only [go_sem,Bool.not_true,aK hi aFL,e1,decide_true]
  refine bE hG [] qW rfl ?_
  exact hret _
 have e1:((20:Int)<(is.length:Int))=False:=eq_false (by omega)
 have em:bD (bS m)=[.int .i64 m.at_.from_,.int .i64 m.at_.len,.int .i64 m.track,.int .i64 m.seen,.int .i64 m.blank]:=rfl
 have hml:=hf.marks
 have h12:∃e,(cU c≠0->e=cU c)/\(cU c=0->inB i 0 ((c.marks.length:Int) - 1)=false->e=1)/\CQ P G 12 [.agg (bI c),.int .i64 i,.agg (bS m)] (fun d=>∃a,d= .tup [.agg (bI a),.int .i64 e]/\dD a/\((cU c≠0∨inB i 0 ((c.marks.length:Int) - 1)=false)->a=gN)/\
   (cU c=0->inB i 0 ((c.marks.length:Int) - 1)=true->∃(n:Nat) (h:n<c.marks.length),i=n/\e=shE c c.marks[n] m/\(e≠0->a=gN)/\(e=0->ClQ c (c.marks.set n (eR c.marks[n] m).2) (.agg (bI a))/\Cp c (c.marks.set n (eR c.marks[n] m).2) a))):=by
  by_cases hc:cU c=0
  ·have hask:tX c i=if fC i c.marks.length then 0 else 1:=by unfold tX;rw [if_pos hc]
   cases hin:inB i 0 ((c.marks.length:Int) - 1)
   ·have hix:fC i c.marks.length=false:=by
     simp only [inB,decide_eq_false_iff_not] at hin
     exact decide_eq_false (by omega)
    rw [hix] at hask
    refine⟨1,fun h=>absurd hc h,fun _ _=>rfl,(pQ ho hf i m).mono fun d hd=> ?_⟩
    unfold pF at hd
    rw [if_neg (by rw [hask];decide),hask] at hd
    exact⟨gN,hd,aGU,fun _=>rfl,fun _ h=>by cases h⟩
   ·have hix:fC i c.marks.length=true:=by
     simp only [inB,decide_eq_true_eq] at hin
     exact decide_eq_true (by omega)
    rw [hix] at hask
    obtain⟨-,n,hn,rfl⟩:=aOV hask
    refine⟨shE c c.marks[n] m,fun h=>absurd hc h,(fun _ h=>by cases h),(pQ ho hf n m).mono fun d hd=> ?_⟩
    unfold pF at hd
    rw [if_pos (by rw [hask];rfl)] at hd
    obtain⟨n',hn',e,hd⟩:=hd
    have:n'=n:=by omega
    subst this
    obtain⟨a,rfl,q1,q2,q3⟩:=aCV ho hf hd
    exact⟨a,rfl,q1,(fun h=>by rcases h with h | h<;>first | exact absurd hc h | cases h),fun _ _=>⟨n',hn,rfl,rfl,q2,q3⟩⟩
  ·have hask:tX c i=cU c:=by unfold tX;rw [if_neg hc]
   refine⟨cU c,fun _=>rfl,fun h=>absurd h hc,(pQ ho hf i m).mono fun d hd=> ?_⟩
   unfold pF at hd
   rw [if_neg (by rw [hask];exact hc),hask] at hd
   exact⟨gN,hd,aGU,fun _=>rfl,fun h=>absurd h hc⟩
 obtain⟨e,he1,he2,h12⟩:=h12
 simp (disch:=first|exact bk rfl|omega) only [go_sem,Bool.not_true,aK hi aFL,e1,decide_false,rZ,em,aM,aI]
 refine cS hG [.agg (bI c),.int .i64 i,.agg (bS m)] h12 rfl fun d hd=> ?_
 obtain⟨a,rfl,ha,hz,hcl⟩:=hd
 have oa:=ha.ones
 simp (disch:=first|exact bk rfl|omega) only [go_sem,aPQ,aMZ,aFQ,rZ,oa,aM,aI]
 refine cS hG [.agg (bI c),di] (aHY ho hf hi (by omega)) rfl fun d hd=> ?_
 have hb:∃b,d= .tup [.agg (bI b),.int .i64 (cU c)]/\dD b/\(cU c≠0->b=gN)/\(cU c=0->ClQ c (jZ is c.marks) (.agg (bI b))):=by
  unfold WoQ at hd
  split at hd
  ·rename_i hc
   obtain⟨d1,rfl,hq⟩:=hd
   have hq':=hq
   obtain⟨b,rfl,hcp⟩:=hq.cp ho hf (by have:=nZ is c.marks;omega)
   exact⟨b,by rw [hc],hcp.ok,fun h=>absurd hc h,fun _=>hq'⟩
  ·rename_i hc
   exact⟨gN,hd,aGU,fun _=>rfl,fun h=>absurd h hc⟩
 obtain⟨b,rfl,hbo,hbz,hbq⟩:=hb
 have ob:=hbo.ones
 simp (disch:=first|exact bk rfl|omega) only [go_sem,aPQ,aMZ,aFQ,rZ,ob,aM,aI]
 refine bE hG [.agg (bI c)] (aVA c ho) rfl ?_
 simp (disch:=first|exact bk rfl|omega) only [go_sem]
 rw [a4H]
 generalize hH:(Hp.setb _ _ _:Hp)=Hf
 have q0:Hf.get 0=some (.cells (some 42) false (bD (bI c))):=by subst hH;simp (disch:=first|exact bk rfl|omega) only [go_sem,aM,aI]
 have q1:Hf.get 1=some (.cells (some 50) false (bD (bS m))):=by subst hH;simp (disch:=first|exact bk rfl|omega) only [go_sem,aM,aI];rfl
 have q2:Hf.get 2=some (.cells (some 42) false (bD (bI a))):=by subst hH;simp (disch:=first|exact bk rfl|omega) only [go_sem,aM,aI]
 have q3:Hf.get 3=some (.cells (some 42) false (bD (bI b))):=by subst hH;simp (disch:=first|exact bk rfl|omega) only [go_sem,aM,aI]
 have qn:Hf.nx=4:=by subst hH;simp (disch:=first|exact bk rfl|omega) only [go_sem]
 clear hH
 have hreg:∀t:E2,E2.get t 1= .int .i64 i->E2.get t 3=ofD di->E2.get t 4= .ptr 0 0->E2.get t 6= .ptr 1 0->E2.get t 9= .ptr 2 0->E2.get t 10= .int .i64 e->E2.get t 11= .ptr 3 0->E2.get t 12= .int .i64 (cU c)->E2.get t 13= .int .i64 (cU c)->R4 c a b m i di e (cU c) (cU c) t Hf:=
  fun t g1 g3 g4 g6 g9 g10 g11 g12 g13=>⟨g1,g3,g4,g6,g9,g10,g11,g12,g13,q0,q1,q2,q3,qn⟩
 have hend:∀(t:E2) (H:Hp),E2.get t 8= .bool true->aS P G Tryz.f4 ⟨cd P G 200,dY P G⟩ (kU fun x=>x=D.bool true) .ret ⟨t,[]⟩ H=true:=fun t H g=>by rw [r4,g];exact hret H
 by_cases hc:cU c=0
 rotate_left
 ·obtain rfl:=hbz hc
  obtain rfl:=hz (.inl hc)
  obtain rfl:=he1 hc
  refine awY (hreg _ (eg rfl rfl) (eg rfl rfl) (eg rfl rfl) (eg rfl rfl) (eg rfl rfl) (eg rfl rfl) (eg rfl rfl) (eg rfl rfl) (eg rfl rfl)) hc fun t1 r1 g73=> ?_
  simp (disch:=first|exact bk rfl|omega) only [go_sem,ayD,g73]
  refine auB ho hml r1 fun t2 r2=> ?_
  rw [if_neg (fun h=>hc h.1)] at r2
  exact agP r2 hc fun t3 H3 g8=>hend t3 H3 g8
 ·rw [hc] at hreg
  refine apW ho hbo (hreg _ (eg rfl rfl) (eg rfl rfl) (eg rfl rfl) (eg rfl rfl) (eg rfl rfl) (eg rfl rfl) (eg rfl rfl) (by first | rfl | (simp (disch:=first|exact bk rfl|omega) only [go_sem,hc]<;>rfl)) (by first | rfl | (simp (disch:=first|exact bk rfl|omega) only [go_sem,hc]<;>rfl))) ((aAK ho hf hi (by omega)).mono fun d hd=> ?_) fun t1 r1 g73=> ?_
  ·have hd':=hd
   obtain⟨b',rfl, -⟩:=hd.cp ho hf (by have:=nZ is c.marks;omega)
   exact⟨b',rfl,xJ ho hf (vD hc) (by have:=nZ is c.marks;omega) (hbq hc) hd'⟩
  simp (disch:=first|exact bk rfl|omega) only [go_sem,ayD,g73]
  refine auB ho hml r1 fun t2 r2=> ?_
  cases hin:inB i 0 ((c.marks.length:Int) - 1)
  ·rw [hin,if_pos ⟨rfl,rfl⟩] at r2
   obtain rfl:=hz (.inr hin)
   obtain rfl:=he2 hc hin
   exact agP r2 (by decide) fun t3 H3 g8=>hend t3 H3 g8
  ·rw [hin,if_neg (by simp)] at r2
   obtain⟨n,hn,rfl,rfl,w1,w2⟩:=hcl hc hin
   refine axA ho r2 ((aAH ho hf hc hn m).mono fun d hd=> ?_) (fun he=> ?_) fun t3 H3 g8=>hend t3 H3 g8
   ·obtain⟨x,rfl,hx,w3,w4⟩:=aCV ho hf hd
    refine⟨x,rfl,hx, ?_⟩
    by_cases he:shE c c.marks[n] m=0
    ·exact xJ ho hf (vD hc) (by rw [List.length_set];omega) (w2 he).1 (w4 he).1
    ·obtain rfl:=w1 he
     obtain rfl:=w3 he
     exact tR aVD
   ·obtain⟨w5,w6⟩:=w2 he
    obtain⟨k1,k2,k3,k4,k5⟩:=lH hc
    have hmm:=aZI k5
    have hsh:(eR c.marks[n] m).1=0/\okR (gV (eZ c.session (eR c.marks[n] m).2 c.ink))=true:=by
     unfold shE at he
     split at he
     ·rename_i h1
      refine⟨h1, ?_⟩
      split at he
      ·assumption
      ·cases he
     ·exact absurd he (by assumption)
    have hch:=w6.chk hc (by rw [List.length_set];exact hmm.1) (acY (yX.2 hmm.2) ⟨aAQ hsh.1,hsh.2⟩)
    have:=zN a ha
    rw [hch] at this
    exact⟨this,w6.id,w6.kind⟩
end Go.S5
