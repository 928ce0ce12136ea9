/- A part of the proof of RoundChanges. -/
import Derived.Test.YtnljpmbidnnlkaaGreatDoorRAi
import Derived.Sort.Grow
import Derived.Sort.EncStr
import Derived.Test.YtnljpmbidnnlkaaGreatDoorRAj
import Derived.ChangeArms
import Derived.DataReads
import Derived.ProofKit
set_option maxRecDepth 1000000
set_option linter.unusedVariables false
set_option linter.unusedSimpArgs false
set_option maxHeartbeats 8000000
namespace Go.Ev
noncomputable section
section
variable {P : Program} {G : bK} {H : Hp}
theorem adX {t m:Nat} {kt vt:TypeId} {ro:Bool} {es:List (AV×AV×Nat)} {cl:Nat} {k:AV->Hp->Bool} (hu:P.underlying t=some (.map kt vt)) (hm:H.get m=some (.map ro es cl))
  (h:k (.ptr H.nx 0) (H.push (.miter (some m) cl [] cl))=true):tC P H t (.map m) k=true:=by rw [aLK hu hm];exact h
theorem aJA:∀es:List (AV×AV×Nat),eU [] es=es
 | []=>rfl
 | (y,v,s)::es=>by show (y,v,s)::eU [] es=_;rw [aJA es]
theorem aDY:∀(l:List (List Nat×AV)) (i:Nat),(sE l i).length=l.length
 | [],_=>rfl
 | (s,v)::l,i=>by simp [sE,aDY l]
theorem cM (n z b:Nat):sG n z b= .sl b 0 n z (some n):=rfl
end
end
end Go.Ev
namespace Go.S5
open Go.Ev Go.Proofs
theorem aMW:ApT P 37 9 1:=⟨by kernel_rfl,by kernel_rfl,by kernel_rfl,by kernel_rfl,by kernel_rfl,by kernel_rfl⟩
theorem ahU (s:Str) (k:Blk->(Nat->AV)->Bool):bF P 37 1 [(0,.str s)] k=k (.cells (some 9) false [.str s]) (sG 1 1):=by kernel_rfl
theorem agI (t:E2) (H:Hp) (k:fE->Hp->Bool) (i:Evs):aS P G Tryz.f226 i k .normal ⟨t,[]⟩ H=k (.ret (.tup [])) H:=by kernel_rfl
theorem arS {d:Nat} {t:E2} {H:Hp} {k:fE->Hp->Bool} {i:Evs} (hd:H.get d=some (.dfr true)):aS P G Tryz.f258 i k .ret ⟨t,[.mark d]⟩ H=k (.ret (E2.get t 4)) (H.setb d (some (.dfr false))):=by
 have h:aS P G Tryz.f258 i k .ret ⟨t,[.mark d]⟩ H=(match H.get d with | some (.dfr true)=>H.put d (some (.dfr false)) fun H=>k (.ret (E2.get t 4)) H | _=>false):=by kernel_rfl
 rw [h,hd]
 dsimp only
 rw [Hp.put_r]
theorem alS:iF P 226=true:=by kernel_rfl
theorem ahL (dm:List Dm) (ro:Option Nat) (H:Hp) (k:AEx->En->Hp->Bool):∀(t:E2),cd P G 194 13 (aJ 258 [1,0,1,0,0]) ro ⟨t,dm⟩ H k=k .normal ⟨(es t [(5,(E2.get t 7))]),dm⟩ H:=aL fun f=>by kernel_rfl
theorem alO (dm:List Dm) (ro:Option Nat) (H:Hp) (k:AEx->En->Hp->Bool):∀(t:E2),cd P G 194 13 (aJ 258 [1,0,1,0,1]) ro ⟨t,dm⟩ H k=
 (aB P G H 37 (E2.get t 2) fun v1=>
 bF P 37 1 [(0,(E2.get t 5))] fun k3 r3=>Hp.new H k3 fun b3 H3=>
 cE P H3 37 37 v1 (r3 b3) fun v4 H4=>
 bB P H4 37 (E2.get t 2) v4 fun H5=>
 k .normal ⟨(es t [(8,v1),(9,(E2.get t 5)),(10,(r3 b3)),(11,v4)]),dm⟩ H5):=aL fun f=>by kernel_rfl
theorem lV (s:Str):(bD (fH s)).all one=true:=rfl
def a0T (l:List Str) (n0 mb:Nat) (env:E2) (asg body:Code) (H0:Hp) (m:Nat) (e:En) (H:Hp):Prop:=∃(seen:List Nat) (xs:List Str) (v:AV),m=(eU seen (sE (mS l) 0)).length/\e.dm=[]/\xs.length+m=l.length/\Own 1 fH 9 (n0+4) H v xs/\n0+4<=H.nx/\
 H.get n0=some (.cells (some 37) false [v])/\H.get (n0+1)=some (.dfr true)/\H.get (n0+2)=some (.loop .ready none env 13 [7] asg body (n0+1))/\H.get (n0+3)=some (.miter (some mb) (mS l).length seen (mS l).length)/\
 (∀c,c<n0->H.get c=H0.get c)/\E2.get e.t 0= .yld (n0+2)/\E2.get e.t 5= .ptr (n0+3) 0
theorem aME (l:List Str) (hl:l.length<=1000000) (bx mb:Nat) (H:Hp) (K:AV->Hp->Bool) (hbx:H.get bx=some (.cells (some 155) false [.map mb])) (hmb:H.get mb=some (mB l)) (h1:bx<H.nx) (h2:mb<H.nx)
  (hK:∀v xs lo H',Own 1 fH 9 lo H' v xs->xs.length=l.length->H.nx<=lo->lo<=H'.nx->(∀c,c<H.nx->H'.get c=H.get c)->K v H'=true):cl P G 258 [.nils,.fn 226 [] [.ptr bx 0]] H K=true:=by
 refine dA 200 ?_
 rw [a1X]
 simp (disch:=first|exact bk rfl|omega) only [go_sem]
 refine aQI alS ?_
 refine dA 200 ?_
 simp (disch:=first|exact bk rfl|omega) only [go_sem,List.nil_append,List.cons_append,a3I,hbx,aM]
 refine adX auE (ro:=false) (es:=sE (mS l) 0) (cl:=(mS l).length) (by simp (disch:=first|exact bk rfl|omega) only [go_sem,aM,hmb,mB]) ?_
 simp (disch:=first|exact bk rfl|omega) only [go_sem]
 let env:E2:=es E2.empty [(0,AV.nils),(1,AV.fn 226 [] [AV.ptr bx 0]),(2,AV.ptr H.nx 0),(4,AV.nils),(6,AV.fn 226 [] [AV.ptr bx 0])]
 have henv2:E2.get env 2= .ptr H.nx 0:=by first | rfl | (simp (disch:=first|exact bk rfl|omega) only [go_sem,env]<;>rfl)
 refine bA (a0T l H.nx mb env (aJ 258 [1,0,1,0,0]) (aJ 258 [1,0,1,0,1]) H) (fun m e H1 hi=> ?_) (m:=(eU [] (sE (mS l) 0)).length) ?_
 rotate_left
 ·refine⟨[],[],.nils,rfl,rfl, ?_,.inl ⟨rfl,rfl⟩,by simp (disch:=first|exact bk rfl|omega) only [go_sem];omega,by simp (disch:=first|exact bk rfl|omega) only [go_sem,aM,aI],by simp (disch:=first|exact bk rfl|omega) only [go_sem,aM,aI],by (simp (disch:=first|exact bk rfl|omega) only [go_sem,aM,aI];rfl),by simp (disch:=first|exact bk rfl|omega) only [go_sem,aM,aI],fun c hc=>by simp (disch:=first|exact bk rfl|omega) only [go_sem,aM], ?_, ?_⟩
  ·rw [aJA,aDY,aWB];simp
  all_goals (first | rfl | (simp (disch:=first|exact bk rfl|omega) only [go_sem]<;>rfl))
 obtain⟨seen,xs,v,rfl,hdm,hlen,hown,hnx,hg0,hgd,hgl,hgi,hfr,g0,g5⟩:=hi
 obtain⟨t,dm⟩:=e
 dsimp only at hdm g0 g5
 subst hdm
 have hmb':H1.get mb=some (.map false (sE (mS l) 0) (mS l).length):=by rw [hfr mb h2,hmb];rfl
 refine bC 200 ?_
 rw [ahS]
 simp (disch:=first|exact bk rfl|omega) only [go_sem,g5]
 refine aTN hgi hmb' (fun hnil=> ?_) (fun j hj hjs=> ?_)
 ·simp (disch:=first|exact bk rfl|omega) only [go_sem,agI]
  rw [aHJ hgl]
  simp (disch:=first|exact bk rfl|omega) only [go_sem,aiG,henv2,hg0,aM]
  rw [arS (d:=H.nx+1) (by simp (disch:=first|exact bk rfl|omega) only [go_sem,hgd,aM])]
  simp (disch:=first|exact bk rfl|omega) only [go_sem]
  rw [hnil] at hlen
  refine hK v xs (H.nx+4) _ (hown.frame (Nat.le_refl _) fun c hc _=>by simp (disch:=first|exact bk rfl|omega) only [go_sem,aM]) (by simpa using hlen) (by omega) (by simp (disch:=first|exact bk rfl|omega) only [go_sem];omega) (fun c hc=> ?_)
  simp (disch:=first|exact bk rfl|omega) only [go_sem,aM]
  exact hfr c hc
 ·have hjl:j<l.length:=by rw [aWB] at hj;exact hj
  have hll:=aJJ seen j (mS l) 0 hjs (by omega) (by omega)
  simp (disch:=first|exact bk rfl|omega) only [go_sem,g0,g5]
  rw [aLJ (n:=(mS l).length) (seen:=seen) (m:=mb) (ro:=false) (l:=mS l) (by simp (disch:=first|exact bk rfl|omega) only [go_sem,aI]) (by simp (disch:=first|exact bk rfl|omega) only [go_sem,aM];exact hmb') hj]
  simp (disch:=first|exact bk rfl|omega) only [go_sem,g0]
  rw [yR]
  refine sP (env':=es (E2.set env 7 (.str (mS l)[j].1)) [(5,.str (mS l)[j].1)]) (asg:=aJ 258 [1,0,1,0,0]) (body:=aJ 258 [1,0,1,0,1]) (d:=H.nx+1) (env:=env) (by simp (disch:=first|exact bk rfl|omega) only [go_sem,aM];exact hgl) (by decide) (by decide) (fun K=>by rw [ahL];rw [E2.get_set_same _ _ _ (by decide)]) (by simp (disch:=first|exact bk rfl|omega) only [go_sem,aM];exact hgl) (fun K hk2=> ?_)
  rw [alO]
  have e2:E2.get (es (E2.set env 7 (.str (mS l)[j].1)) [(5,.str (mS l)[j].1)]) 2= .ptr H.nx 0:=by
   rw [qF _ _ _ (by decide) rfl];show E2.get (E2.set env 7 (.str (mS l)[j].1)) 2=_;rw [E2.get_set_ne _ _ _ _ (by decide) (by decide) (by decide)];exact henv2
  have e5:E2.get (es (E2.set env 7 (.str (mS l)[j].1)) [(5,.str (mS l)[j].1)]) 5= .str (mS l)[j].1:=by
   rw [qF _ _ _ (by decide) rfl];rfl
  rw [e2,e5]
  simp (disch:=first|exact bk rfl|omega) only [go_sem,hg0,aM,ahU,cM]
  refine fV (x:=(mS l)[j].1) cC lV aMW (lo:=H.nx+4) (xs:=xs) (hown.frame (by simp (disch:=first|exact bk rfl|omega) only [go_sem];omega) fun c hc hc2=>by simp (disch:=first|exact bk rfl|omega) only [go_sem,aM]) (by simp (disch:=first|exact bk rfl|omega) only [go_sem];omega) (by (simp (disch:=first|exact bk rfl|omega) only [go_sem,aI];rfl)) (by omega) ?_
  intro v' H' hown' hn1 hn2 hf hf2
  have hf0:=hf H.nx (by omega)
  have hf1:=hf (H.nx+1) (by omega)
  have hf3:=hf (H.nx+2) (by omega)
  have hf4:=hf (H.nx+3) (by omega)
  simp only [go_sem] at hn1 hn2
  simp (disch:=omega) only [go_sem,aM,aI,hg0,hgd,hgi] at hf0 hf1 hf3 hf4
  simp (disch:=first|exact bk rfl|omega) only [go_sem,hf0,hown'.cells,hown'.one]
  refine hk2 _ _ (by simp (disch:=first|exact bk rfl|omega) only [go_sem,aM];exact hf3) ?_
  simp (disch:=first|exact bk rfl|omega) only [go_sem,agI]
  refine aZ (m':=(eU (j::seen) (sE (mS l) 0)).length) (by omega) ⟨j::seen,xs++[(mS l)[j].1],v',rfl,rfl,by simp;omega, ?_, ?_, ?_, ?_, ?_, ?_,fun c hc=> ?_, ?_, ?_⟩
  ·exact hown'.frame (by simp (disch:=first|exact bk rfl|omega) only [go_sem];omega) fun c hc _=>by simp (disch:=first|exact bk rfl|omega) only [go_sem,aM]
  ·simp (disch:=first|exact bk rfl|omega) only [go_sem];omega
  ·simp (disch:=first|exact bk rfl|omega) only [go_sem,aM,aI]
  ·simp (disch:=first|exact bk rfl|omega) only [go_sem,aM];exact hf1
  ·simp (disch:=first|exact bk rfl|omega) only [go_sem,aI]
  ·simp (disch:=first|exact bk rfl|omega) only [go_sem,aM];exact hf4
  ·simp (disch:=first|exact bk rfl|omega) only [go_sem,aM]
   rw [hf c (by omega)]
   simp (disch:=first|exact bk rfl|omega) only [go_sem,aM]
   exact hfr c hc
  all_goals (first | rfl | (simp (disch:=first|exact bk rfl|omega) only [go_sem,g0,g5]<;>rfl))
theorem wK:∀a b:Str,kK a b=true↔a<b
 | [],[]=>by simp [kK]
 | a::x,[]=>by simp [kK]
 | [],b::y=>by simp [kK]
 | a::x,b::y=>by
  rw [List.cons_lt_cons_iff,←wK x y]
  show (match Nat.blt a b with | true=>true | false=>match Nat.beq a b with | true=>kK x y | false=>false)=true↔_
  by_cases h:a<b
  ·rw [show Nat.blt a b=true from by simpa [Nat.blt_eq] using h];simp [h]
  ·rw [show Nat.blt a b=false from by rw [←Bool.not_eq_true,Nat.blt_eq];exact h]
   by_cases e:a=b
   ·subst e;rw [Nat.beq_refl];simp
   ·rw [show Nat.beq a b=false from by rw [←Bool.not_eq_true,Nat.beq_eq];exact e];simp [h,e]
theorem abJ (a b:Str) (h1:¬a<b) (h2:¬b<a):a=b:=List.le_antisymm (List.not_lt.1 h2) (List.not_lt.1 h1)
def jM:List Str->Str->List Str
 | [],s=>[s]
 | x::xs,s=>if x<s then x::jM xs s else if x=s then x::xs else s::x::xs
theorem aAU:∀(xs:List Str) (s y:Str),y∈jM xs s↔y∈xs∨y=s
 | [],s,y=>by simp [jM]
 | x::xs,s,y=>by
  simp only [jM]
  split
  ·simp [aAU xs s y,or_assoc]
  ·split
   ·rename_i hx he
    subst he
    refine⟨.inl,fun hy=> ?_⟩
    rcases hy with hy | rfl
    ·exact hy
    ·exact List.mem_cons_self
   ·simp only [List.mem_cons]
    exact or_comm
theorem xX:∀(xs:List Str) (s:Str),xs.Pairwise (·<·)->(jM xs s).Pairwise (·<·)
 | [],s,_=>by simp [jM]
 | x::xs,s,h=>by
  obtain⟨h1,h2⟩:=List.pairwise_cons.1 h
  simp only [jM]
  split
  ·rename_i hx
   refine List.pairwise_cons.2 ⟨fun y hy=> ?_,xX xs s h2⟩
   rcases (aAU xs s y).1 hy with hy | rfl
   ·exact h1 y hy
   ·exact hx
  ·split
   ·exact h
   ·rename_i hx he
    have hsx:s<x:=by
     by_cases hc:s<x
     ·exact hc
     ·exact absurd (abJ x s hx hc) he
    refine List.pairwise_cons.2 ⟨fun y hy=> ?_,h⟩
    rcases List.mem_cons.1 hy with rfl | hy
    ·exact hsx
    ·exact List.lt_trans hsx (h1 y hy)
theorem aKT:∀(xs:List Str) (s:Str),xs.Pairwise (·<·)->(jM xs s).length=if s∈xs then xs.length else xs.length+1
 | [],s,_=>by simp [jM]
 | x::xs,s,h=>by
  obtain⟨h1,h2⟩:=List.pairwise_cons.1 h
  simp only [jM]
  split
  ·rename_i hx
   have hne:s≠x:=fun e=>by subst e;exact List.lt_irrefl _ hx
   rw [List.length_cons,aKT xs s h2]
   simp only [List.mem_cons,hne,false_or,List.length_cons]
   split<;>omega
  ·split
   ·rename_i hx he;subst he;simp
   ·rename_i hx he
    have hn:s∉xs:=fun hm=>hx (h1 s hm)
    have hne:s≠x:=fun e=>he e.symm
    simp [hn,hne]
theorem aaQ {xs:List Str} {s:Str} {n:Nat} (hn:n<=xs.length) (hlt:∀y∈xs.take n,y<s) (hge:∀h:n<xs.length,¬xs[n]<s):
  jM xs s=(if ∃h:n<xs.length,xs[n]=s then xs else xs.take n++[s]++xs.drop n):=by
 induction xs generalizing n with
 | nil=>simp at hn;subst hn;simp [jM]
 | cons x xs ih=>
  cases n with
  | zero=>
   have h0:=hge (by simp)
   simp only [List.getElem_cons_zero] at h0
   simp only [jM]
   rw [if_neg h0]
   by_cases he:x=s
   ·rw [if_pos he,if_pos ⟨by simp,by simpa using he⟩]
   ·rw [if_neg he,if_neg (fun⟨_,h⟩=>he (by simpa using h))];simp
  | succ n=>
   have hx:x<s:=hlt x (by simp)
   have ih':=ih (n:=n) (by simpa using hn) (fun y hy=>hlt y (by simp [hy])) (fun h=>by have:=hge (by simpa using h);simpa using this)
   simp only [jM]
   rw [if_pos hx,ih']
   by_cases he:∃h:n<xs.length,xs[n]=s
   ·rw [if_pos he,if_pos]
    obtain⟨h,e⟩:=he
    exact⟨by simpa using h,by simpa using e⟩
   ·rw [if_neg he,if_neg]
    ·simp
    ·rintro⟨h,e⟩
     exact he ⟨by simpa using h,by simpa using e⟩
structure fT (l r:List Str):Prop where
 len:l.length=r.length
 mem:∀y,y∈l↔y∈r
 srt:r.Pairwise (·<·)
theorem fT.ins {l r:List Str} (h:fT l r) (s:Str):fT (vP l s) (jM r s):=by
 refine⟨?_,fun y=> ?_,xX _ _ h.srt⟩
 ·rw [aKT _ _ h.srt,vP]
  by_cases hm:s∈l
  ·rw [if_pos hm,if_pos ((h.mem s).1 hm),h.len]
  ·rw [if_neg hm,if_neg (fun e=>hm ((h.mem s).2 e)),List.length_append,h.len];rfl
 ·rw [aAU,←h.mem y,vP]
  split
  ·rename_i hm
   constructor
   ·exact .inl
   ·rintro (h | rfl)
    ·exact h
    ·exact hm
  ·simp
mutual
def jY:List Str->aF->List Str
 | l,.mk _ names _ _ _ _ _ kids _=>gQ (names.foldl jM l) kids
def gQ:List Str->List aF->List Str
 | l,[]=>l
 | l,o::os=>gQ (jY l o) os
end
theorem adW (l:List Str) (o:aF):jY l o=gQ (o.names.foldl jM l) o.kids:=by cases o;rw [jY];rfl
theorem aEU:∀(a b:List aF) (l:List Str),gQ l (a++b)=gQ (gQ l a) b
 | [],b,l=>by simp [gQ]
 | o::a,b,l=>by
  show gQ l (o::(a++b))=_
  rw [gQ,gQ,aEU a b]
theorem aMQ {kids:List aF} {n:Nat} (h:n<kids.length) (l:List Str):gQ l (kids.take (n+1))=jY (gQ l (kids.take n)) kids[n]:=by
 rw [List.take_succ_eq_append_getElem h,aEU];simp [gQ]
theorem fT.fold {names:List Str}:∀{l r:List Str},fT l r->fT (names.foldl vP l) (names.foldl jM r):=by
 induction names with
 | nil=>intro l r h;exact h
 | cons s names ih=>intro l r h;exact ih (h.ins s)
mutual
theorem fT.gat:∀(o:aF) {l r:List Str},fT l r->fT (uE l o) (jY r o)
 | .mk _ names _ _ _ _ _ kids _,l,r,h=>by rw [uE,jY];exact fT.gats kids h.fold
theorem fT.gats:∀(os:List aF) {l r:List Str},fT l r->fT (jF l os) (gQ r os)
 | [],l,r,h=>by rw [jF,gQ];exact h
 | o::os,l,r,h=>by rw [jF,gQ];exact fT.gats os (fT.gat o h)
end
theorem aRY (o:aF):(uE [] o).length=(jY [] o).length:=(fT.gat o ⟨rfl,fun _=>Iff.rfl,.nil⟩).len
end Go.S5
namespace Go.Ev
noncomputable section
section
variable {P : Program} {G : bK} {H : Hp} {k : AV -> Bool} {α : Type} {sz : Nat} {enc : α -> List D} {xs : List α} {d : D}
@[go_sem ↓] theorem axR (t:TypeId) (nc:Bool) (a b:List Nat):aH P .lss t nc (.str a) (.str b) k=k (.bool (kK a b)):=by
 simp [aH,wG,cD]
def slD (d:D) (n:Nat):D:=match d with
 | .sl sz cs len=>.sl sz ((cs.drop (n * sz)).take ((len - n) * sz)) (len - n)
 | d=>d
theorem aEK (hs:∀x,(enc x).length=sz):∀(xs:List α) (n:Nat),n<=xs.length->(cB enc xs).drop (n * sz)=cB enc (xs.drop n)
 | xs,0,_=>by simp
 | [],n+1,h=>by simp at h
 | x::xs,n+1,h=>by
  have ih:=aEK hs xs n (by simpa using h)
  show (enc x++cB enc xs).drop ((n+1) * sz)=cB enc (xs.drop n)
  rw [←ih,Nat.succ_mul,List.drop_append,List.drop_of_length_le (by rw [hs x];omega),hs x,List.nil_append]
  congr 1;omega
theorem Sl.drop (h:Sl sz enc xs d) (hs:∀x,(enc x).length=sz) {n:Nat} (hn:n<=xs.length):Sl sz enc (xs.drop n) (slD d n):=by
 rcases h with⟨rfl,rfl⟩| rfl
 ·exact .inl ⟨rfl,by simp⟩
 ·refine .inr ?_
  simp only [slD]
  rw [aEK hs xs n hn,List.length_drop,List.take_of_length_le]
  rw [eG hs,List.length_drop];exact Nat.le_refl _
theorem aAT (h:Sl sz enc xs d) {t e:TypeId} (he:cK P t=some e) (hc:P.cellsOf e=sz) {n:Nat} (hn:n<=xs.length) {i:IntKind}:
  cQ P H t (ofD d) (some (.int i (n:Int))) none none k=k (ofD (slD d n)):=by
 rcases h with⟨rfl,rfl⟩| rfl
 ·simp at hn
  subst hn
  unfold cQ
  simp only [ofD,he]
  rfl
 ·unfold cQ
  simp only [ofD,he,gL,oO]
  rw [hc,Nat.beq_refl,show Nat.ble n xs.length=true from by simpa using hn,show Nat.ble xs.length xs.length=true from by simp]
  simp only [bQ,slD,ofD]
end
end
end Go.Ev
namespace Go.S5
open Go.Ev Go.Proofs
theorem agH (k:Blk->(Nat->AV)->Bool):bF P 37 0 [] k=k (.cells (some 9) false []) (sG 0 1):=by kernel_rfl
def a3B (xs:List Str) (d:D) (s:Str) (m:Nat) (e:En) (H:Hp):Prop:=∃n:Nat,n<=xs.length/\m=xs.length - n/\e.dm=[]/\(∀y∈xs.take n,y<s)/\E2.get e.t 5= .int .i64 n/\E2.get e.t 0=ofD d/\E2.get e.t 1= .str s
theorem aHQ (xs:List Str) (d:D) (s:Str) (hd:Sl 1 fH xs d) (hl:xs.length<=100000):CQ P G 178 [d,.str s] (Sl 1 fH (jM xs s)):=by
 refine CQ.enter hG ?_
 (try simp (disch:=first|exact bk rfl|omega) only [go_sem,aqG,yP]);repeat' ((with_reducible first | apply aD | apply aE | apply aC)<;>intro h<;>(try simp only [spl] at h)<;>try simp (disch:=first|exact bk rfl|omega) only [go_sem,aqG,yP,h])
 refine bA (a3B xs d s) (fun m e H hi=> ?_) (m:=xs.length) ?_
 rotate_left
 ·refine⟨0,Nat.zero_le _,rfl,rfl,fun y hy=>by simp at hy, ?_, ?_, ?_⟩<;>(first | rfl | (simp (disch:=first|exact bk rfl|omega) only [go_sem]<;>rfl))
 obtain⟨n,hn,rfl,hdm,ha,g5,g0,g1⟩:=hi
 obtain⟨t,dm⟩:=e
 dsimp only at hdm g5 g0 g1
 subst hdm
 refine bC 200 ?_
 rw [alQ]
 have hgo:∀(b:Bool),(∀h:n<xs.length,¬xs[n]<s)->(t':E2)->E2.get t' 5= .int .i64 n->E2.get t' 0=ofD d->E2.get t' 1= .str s->cd P G 197 48 (aJ 178 [1,1,1]) none ⟨t',[]⟩ H (fun x e H=>aS P G Tryz.f178 ⟨cd P G 200,dY P G⟩ (kU (Sl 1 fH (jM xs s))) x e H)=true:=by
  intro b hge t' f5 f0 f1
  rw [amM]
  have hins:=aaQ hn ha hge
  by_cases hlt:n<xs.length
  ·by_cases he:xs[n]=s
   ·have he':(xs[n]=s)=True:=eq_true he
    (try simp (disch:=first|exact bk rfl|omega) only [go_sem,f5,f0,f1,he',aK hd dE,aX hd dE in9 ce9 hlt,bL cC hlt (by decide:0<1),fH,Int.ofNat_lt,hlt,yP]);repeat' ((with_reducible first | apply aD | apply aE | apply aC)<;>intro h<;>(try simp only [spl] at h)<;>try simp (disch:=first|exact bk rfl|omega) only [go_sem,f5,f0,f1,he',aK hd dE,aX hd dE in9 ce9 hlt,bL cC hlt (by decide:0<1),fH,Int.ofNat_lt,hlt,yP,h])
    rw [if_pos ⟨hlt,he⟩] at hins
    exact aG d (by rw [hins];exact hd)
   have he':(xs[n]=s)=False:=eq_false he
   have hne:¬(∃h:n<xs.length,xs[n]=s):=fun⟨_,h⟩=>he h
   rw [if_neg hne] at hins
   simp (disch:=first|exact bk rfl|omega) only [go_sem,f5,f0,f1,he',aK hd dE,aX hd dE in9 ce9 hlt,bL cC hlt (by decide:0<1),fH,Int.ofNat_lt,hlt,agH,cM,jS hd aBZ ce9 hn]
   refine qU (lo:=H.nx) (xs:=([]:List Str)) cC lV aMW (.inr ⟨H.nx,some 0,rfl,.inr ⟨rfl,rfl⟩,Nat.le_refl _,by simp (disch:=first|exact bk rfl|omega) only [go_sem];omega,by simp (disch:=first|exact bk rfl|omega) only [go_sem];rfl⟩) (by simp (disch:=first|exact bk rfl|omega) only [go_sem];omega) (hd.take cC hn) (by simp;omega) fun v1 H1 gr1=> ?_
   have hx1:=gr1.nx1
   simp only [go_sem] at hx1
   simp (disch:=first|exact bk rfl|omega) only [go_sem,f5,f0,f1,ahU,cM]
   refine fV (x:=s) (lo:=H.nx) cC lV aMW (gr1.own.frame (by simp (disch:=first|exact bk rfl|omega) only [go_sem];omega) fun c hc hc2=>by simp (disch:=first|exact bk rfl|omega) only [go_sem,aM]) (by simp (disch:=first|exact bk rfl|omega) only [go_sem];omega) (by (simp (disch:=first|exact bk rfl|omega) only [go_sem,aI];rfl)) (by simp;omega) fun v2 H2 ho2 hn2 hn3 hf hf2=> ?_
   simp only [go_sem] at hn2
   simp (disch:=first|exact bk rfl|omega) only [go_sem,f5,f0,f1,aAT hd aBZ ce9 hn]
   refine qU (lo:=H.nx) cC lV aMW ho2 (by omega) (hd.drop cC hn) (by simp;omega) fun v3 H3 gr3=> ?_
   simp (disch:=first|exact bk rfl|omega) only [go_sem,yP]
   refine gr3.own.ret cC fun r hr=> ?_
   rw [hins]
   simpa using hr
  ·have hne:¬(∃h:n<xs.length,xs[n]=s):=fun⟨h,_⟩=>hlt h
   rw [if_neg hne] at hins
   simp (disch:=first|exact bk rfl|omega) only [go_sem,f5,f0,f1,aK hd dE,Int.ofNat_lt,hlt,agH,cM,jS hd aBZ ce9 hn]
   refine qU (lo:=H.nx) (xs:=([]:List Str)) cC lV aMW (.inr ⟨H.nx,some 0,rfl,.inr ⟨rfl,rfl⟩,Nat.le_refl _,by simp (disch:=first|exact bk rfl|omega) only [go_sem];omega,by simp (disch:=first|exact bk rfl|omega) only [go_sem];rfl⟩) (by simp (disch:=first|exact bk rfl|omega) only [go_sem];omega) (hd.take cC hn) (by simp;omega) fun v1 H1 gr1=> ?_
   have hx1:=gr1.nx1
   simp only [go_sem] at hx1
   simp (disch:=first|exact bk rfl|omega) only [go_sem,f5,f0,f1,ahU,cM]
   refine fV (x:=s) (lo:=H.nx) cC lV aMW (gr1.own.frame (by simp (disch:=first|exact bk rfl|omega) only [go_sem];omega) fun c hc hc2=>by simp (disch:=first|exact bk rfl|omega) only [go_sem,aM]) (by simp (disch:=first|exact bk rfl|omega) only [go_sem];omega) (by (simp (disch:=first|exact bk rfl|omega) only [go_sem,aI];rfl)) (by simp;omega) fun v2 H2 ho2 hn2 hn3 hf hf2=> ?_
   simp only [go_sem] at hn2
   simp (disch:=first|exact bk rfl|omega) only [go_sem,f5,f0,f1,aAT hd aBZ ce9 hn]
   refine qU (lo:=H.nx) cC lV aMW ho2 (by omega) (hd.drop cC hn) (by simp;omega) fun v3 H3 gr3=> ?_
   simp (disch:=first|exact bk rfl|omega) only [go_sem,yP]
   refine gr3.own.ret cC fun r hr=> ?_
   rw [hins]
   simpa using hr
 by_cases hlt:n<xs.length
 ·cases hc:kK xs[n] s
  ·(try simp (disch:=first|exact bk rfl|omega) only [go_sem,g5,g0,g1,hc,aK hd dE,aX hd dE in9 ce9 hlt,bL cC hlt (by decide:0<1),fH,Int.ofNat_lt,hlt,yP]);repeat' ((with_reducible first | apply aD | apply aE | apply aC)<;>intro h<;>(try simp only [spl] at h)<;>try simp (disch:=first|exact bk rfl|omega) only [go_sem,g5,g0,g1,hc,aK hd dE,aX hd dE in9 ce9 hlt,bL cC hlt (by decide:0<1),fH,Int.ofNat_lt,hlt,yP,h])
   refine hgo true (fun h hx=> ?_) _ ?_ ?_ ?_
   ·rw [(wK _ _).2 hx] at hc;cases hc
   all_goals (first | rfl | (simp (disch:=first|exact bk rfl|omega) only [go_sem,g5,g0,g1]<;>rfl))
  ·(try simp (disch:=first|exact bk rfl|omega) only [go_sem,g5,g0,g1,hc,aK hd dE,aX hd dE in9 ce9 hlt,bL cC hlt (by decide:0<1),fH,Int.ofNat_lt,hlt,yP]);repeat' ((with_reducible first | apply aD | apply aE | apply aC)<;>intro h<;>(try simp only [spl] at h)<;>try simp (disch:=first|exact bk rfl|omega) only [go_sem,g5,g0,g1,hc,aK hd dE,aX hd dE in9 ce9 hlt,bL cC hlt (by decide:0<1),fH,Int.ofNat_lt,hlt,yP,h])
   refine aZ (m':=xs.length - (n+1)) (by omega) ⟨n+1,by omega,rfl,rfl, ?_, ?_, ?_, ?_⟩
   ·rw [List.take_succ_eq_append_getElem hlt]
    intro y hy
    rcases List.mem_append.1 hy with hy | hy
    ·exact ha y hy
    ·simp at hy;subst hy;exact (wK _ _).1 hc
   all_goals (first | rfl | (simp (disch:=first|exact bk rfl|omega) only [go_sem,g5,g0,g1]<;>rfl))
 ·(try simp (disch:=first|exact bk rfl|omega) only [go_sem,g5,g0,g1,aK hd dE,Int.ofNat_lt,hlt,yP]);repeat' ((with_reducible first | apply aD | apply aE | apply aC)<;>intro h<;>(try simp only [spl] at h)<;>try simp (disch:=first|exact bk rfl|omega) only [go_sem,g5,g0,g1,aK hd dE,Int.ofNat_lt,hlt,yP,h])
  refine hgo true (fun h=>absurd h hlt) _ ?_ ?_ ?_<;>(first | rfl | (simp (disch:=first|exact bk rfl|omega) only [go_sem,g5,g0,g1]<;>rfl))
end Go.S5
namespace Go.Ev
open Go.RowKit Go.Proofs
noncomputable section
section
variable {P : Program} {G : bK} {H : Hp}
theorem aQK {μ:Mu}:∀(xs:List (List Nat)) (vs:List Value),VRs μ (xs.map AV.str) vs->∃ss:List (List UInt8),vs=ss.map encStr/\ss.map (·.map UInt8.toNat)=xs
 | [],_,h=>by cases h;exact⟨[],rfl,rfl⟩
 | x::xs,_,h=>by
  cases h with
  | cons _ v _ vs h hs=>
   obtain⟨ss,h1,h2⟩:=aQK xs vs hs
   cases h with
   | str s _ h=>exact⟨s.data.toList::ss,by rw [h1];rfl,by rw [List.map_cons,h2,h]⟩
theorem abP {μ:Mu} (ss:List (List UInt8)):∀(i:Nat) (v:AV),(ss.map (fun l=>AV.str (l.map UInt8.toNat)))[i]? =some v->∃x:Value,(ss.map encStr)[i]? =some x/\VR μ v x:=by
 intro i v h
 rw [List.getElem?_map,Option.map_eq_some_iff] at h
 obtain⟨l,hl,rfl⟩:=h
 exact⟨encStr l,by rw [List.getElem?_map,hl];rfl,.str _ _ rfl⟩
def eS (s:List Nat):List D:=[.str s]
theorem wM (xs:List (List Nat)):bD (cB eS xs)=xs.map AV.str:=by
 induction xs with
 | nil=>rfl
 | cons x xs ih=>show bD (eS x++cB eS xs)=_;rw [eF,ih];rfl
theorem acM {f:FuncId} (hG:mH G) {b:Nat} {el:Option TypeId} {xs:List (List Nat)} {K:AV->Hp->Bool}
  (hsort:∀(blk off cap:Nat) (ss:List (List UInt8)) (w:World),Go.Sort.Holds encStr w blk off ss.toArray->blk<w.heap.size->ss.length<4611686018427387904->
   Calls P f #[.slice (some ⟨blk,off,none⟩) ss.length cap] w fun e w'=>e= .returned (.tuple #[])/\∃(n:Nat) (os:Array Obj) (S:List (List UInt8)),S.length=ss.length/\w'=Go.Sort.grow (Go.Sort.putRow encStr (Go.Sort.ahead w n) blk off S.toArray) os)
  (hb:H.get b=some (.cells el false (bD (cB eS xs)))) (hne:xs≠[]) (hlen:xs.length<=1000000)
  (hk:∀ys:List (List Nat),ys.length=xs.length->K (.tup []) (H.setb b (some (.cells el false (bD (cB eS ys)))))=true):cl P G f [.sl b 0 xs.length 1 none] H K=true:=by
 refine tJ fun μ w vs hh hvs=> ?_
 rw [wM] at hb
 obtain⟨vs⟩:=vs
 cases hvs with
 | cons _ v _ vs' hv hs=>
 cases hs
 cases hv with
 | sl _ _ _ _ _ p cap a hp hl ht hc hn ha=>
 have hpos:0<xs.length:=List.length_pos_iff.2 hne
 have hcap:0<cap:=by omega
 obtain rfl:=ha hcap
 rw [Nat.add_zero]
 obtain⟨arr,el',fz,g1,g2,g3,g4,g5⟩:=hh.at hb hp
 obtain⟨rfl,g4'⟩:=g4 rfl
 obtain⟨ws,k1,k2,k3⟩:=iA (n:=(xs.map AV.str).length) g5 (Nat.le_refl _)
 rw [List.take_length] at k2
 obtain⟨ss,rfl,hss⟩:=aQK xs ws k2
 have hsl:ss.length=xs.length:=by rw [←hss,List.length_map]
 have hholds:Go.Sort.Holds encStr w p.blk p.base ss.toArray:=fun j hj=>by
  have hj':j<ss.length:=by simpa using hj
  have h1:=k3 j (encStr ss[j]) (by rw [List.getElem?_map,List.getElem?_eq_getElem hj'];rfl)
  refine⟨?_, ?_⟩
  ·unfold World.cell?
   rw [g1]
   show arr[p.base+j]? =_
   rw [h1]
   simp [hj']
  ·unfold World.frozen?
   rw [g1]
   simp
 have hcall:=hsort p.blk p.base cap ss w hholds (hh.lt hb hp) (by omega)
 rw [hsl] at hcall
 refine CallsIn.mono (callsIn_wide.2 hcall) fun en w' ⟨he,n,os,S,hS,hw⟩=> ?_
 subst he
 let ys:List (List Nat):=S.map (·.map UInt8.toNat)
 let arr':Array Value:=Go.Sort.putCells encStr p.base S.toArray arr
 have hsz:arr'.size=arr.size:=by simp [arr',Go.Sort.putCells]
 have hat:∀i,i<S.length->arr'[p.base+i]? =(S.map encStr)[i]? :=fun i hi=>by
  simp only [arr',Go.Sort.putCells,Array.getElem?_mapIdx]
  have hb2:p.base+i<arr.size:=by simp only [List.length_map] at g3;omega
  rw [Array.getElem?_eq_getElem hb2]
  simp only [Option.map_some,List.size_toArray]
  rw [if_pos (by omega),List.getElem?_map,List.getElem?_eq_getElem hi]
  simp [hi]
 have hys:ys.length=xs.length:=by simp only [ys,List.length_map];omega
 have hbr:BR μ p (.cells el false (bD (cB eS ys))) (some (.cells arr' el' (0,0))):=by
  refine⟨arr',el',(0,0),rfl,by rw [hsz];exact g2,by rw [wM,List.length_map,hys];simpa using g3,fun _=>⟨rfl,fun e he=> ?_⟩,fun i c hc=> ?_⟩
  ·obtain⟨h1,h2,h3⟩:=g4' e he
   exact⟨h1,h2,by rw [hsz];exact h3⟩
  ·rw [wM,show ys.map AV.str=S.map (fun l=>AV.str (l.map UInt8.toNat)) from by simp [ys]] at hc
   obtain⟨x,hx,hv⟩:=abP (μ:=μ) S i c hc
   have hi:i<S.length:=by have:=(List.getElem?_eq_some_iff.1 hc).1;simpa using this
   exact⟨x,by rw [hat i hi];exact hx,hv⟩
 have hput:=hh.put hb rfl hp trivial hbr
 have hlt:=hh.lt hb hp
 have hw1:∀j,j<w.heap.size->w'.heap[j]? =(w.putObj p.blk (.cells arr' el' (0,0))).heap[j]? :=fun j hj=>by
  subst hw
  show ((w.heap.modify p.blk _)++os)[j]? =_
  rw [Array.getElem?_append_left (by simpa using hj),Array.getElem?_modify]
  by_cases hjb:p.blk=j
  ·subst hjb
   rw [World.putObj_heap_same hlt,if_pos rfl,g1]
   rfl
  ·rw [World.putObj_heap_other (fun e=>hjb e.symm),if_neg hjb]
 have hsz1:(w.putObj p.blk (.cells arr' el' (0,0))).heap.size=w.heap.size:=by simp [World.putObj]
 have hsz2:w.heap.size<=w'.heap.size:=by subst hw;show _<=((w.heap.modify p.blk _)++os).size;simp
 refine⟨.ret (.tup []),μ,H.setb b (some (.cells el false (bD (cB eS ys)))),hput.world (fun c y q hc hq=>hw1 _ (by have:=hput.lt hc hq;omega)) (fun g cs hg=>hw1 _ (by have:=hput.globlt hg;omega)) (fun j o hj=>hw1 _ (by have:=hput.frolt hj;omega)), ?_,.ret _ _ (.tup _ _ .nil), ?_⟩
 ·refine (Ext.put hh hb rfl hp trivial _).trans ⟨Mu.le_refl _,fun _ _=>rfl,fun _ _ h=>h,Nat.le_refl _,by omega,fun j hj _=>hw1 j (by omega),fun c y q hc hq=>.inr ⟨c,y,q,hc,hq,rfl,id⟩, ?_, ?_,fun j o hj=>.inl hj⟩
  ·subst hw;rfl
  ·subst hw;rfl
 ·exact hk ys hys
end
end
end Go.Ev
namespace Go.Ev
noncomputable section
section
variable {P : Program} {G : bK} {H : Hp} {α : Type} {sz : Nat} {enc : α -> List D} {xs : List α}
theorem Own.cellsw (hs:∀x,(enc x).length=sz) {H':Hp} {b j m:Nat} {c1:Option Nat} {el:TypeId} (hb:H'.get b=some (.cells (some el) false (bD (cB enc xs)))) (hj:j+m<=xs.length) (kk:Nat->List AV->Bool):
  fN H' sz (.sl b (j * sz) m sz c1) kk=kk ((xs.drop j).take m).length (bD (cB enc ((xs.drop j).take m))):=aJC hs hb hj
theorem Own.hi {t e el:TypeId} {lo:Nat} {v:AV} (hs:∀x,(enc x).length=sz) (h:Own sz enc el lo H v xs) (he:cK P t=some e) (hc:P.cellsOf e=sz) {n:Nat} (hn:n<=xs.length) (i:IntKind):
  ∃x,(∀k,cQ P H t v none (some (.int i (n:Int))) none k=k x)/\∀H',(∀b z m q,v= .sl b z m sz q->H'.get b=H.get b)->∀kk,fN H' sz x kk=kk (xs.take n).length (bD (cB enc (xs.take n))):=by
 rcases h with⟨rfl,rfl⟩| ⟨b,c,rfl,hcc,h2,h3,h5⟩
 ·simp at hn
  subst hn
  refine⟨.nils,fun k=> ?_,fun H' _ kk=>rfl⟩
  unfold cQ
  simp only [he]
  rfl
 ·rcases hcc with rfl | ⟨rfl,rfl⟩
  ·refine⟨.sl b (0 * sz) n sz none,fun k=> ?_,fun H' hb kk=> ?_⟩
   ·unfold cQ
    simp only [he,gL,oO]
    rw [hc,Nat.beq_refl,show xQ H sz b 0 xs.length none n=true from by unfold xQ;rw [show Nat.ble n xs.length=true from by simpa using hn]]
    simp only [Nat.ble,bQ,Nat.zero_mul,Nat.add_zero,Nat.sub_zero]
   ·have:=Own.cellsw (j:=0) (m:=n) (c1:=none) hs (H':=H') (by rw [hb b 0 _ none rfl];exact h5) (by omega) kk
    simpa using this
  ·simp at hn
   subst hn
   refine⟨.sl b 0 0 sz (some 0),fun k=> ?_,fun H' hb kk=> ?_⟩
   ·unfold cQ
    simp only [he,gL,oO,List.length_nil]
    rw [hc,Nat.beq_refl]
    rfl
   ·have:=Own.cellsw (j:=0) (m:=0) (c1:=some 0) hs (H':=H') (by rw [hb b 0 _ (some 0) rfl];exact h5) (by omega) kk
    simpa using this
theorem Own.lo_ {t e el:TypeId} {lo:Nat} {v:AV} (hs:∀x,(enc x).length=sz) (h:Own sz enc el lo H v xs) (he:cK P t=some e) (hc:P.cellsOf e=sz) {n:Nat} (hn:n<=xs.length) (i:IntKind):
  ∃x,(∀k,cQ P H t v (some (.int i (n:Int))) none none k=k x)/\(∀H',(∀b z m q,v= .sl b z m sz q->H'.get b=H.get b)->∀kk,fN H' sz x kk=kk (xs.drop n).length (bD (cB enc (xs.drop n))))/\
   (∀H',(∀b z m q,v= .sl b z m sz q->H'.get b=H.get b)->∃d I,Rd H' x d I/\Sl sz enc (xs.drop n) d):=by
 rcases h with⟨rfl,rfl⟩| ⟨b,c,rfl,hcc,h2,h3,h5⟩
 ·simp at hn
  subst hn
  refine⟨.nils,fun k=> ?_,fun H' _ kk=>rfl,fun H' _=>⟨.nils,[],.fro .nils,.inl ⟨rfl,rfl⟩⟩⟩
  unfold cQ
  simp only [he]
  rfl
 ·have hlen:(bD (cB enc xs)).length=xs.length * sz:=by rw [cT,eG hs]
  rcases hcc with rfl | ⟨rfl,rfl⟩
  ·refine⟨.sl b (n * sz) (xs.length - n) sz none,fun k=> ?_,fun H' hb kk=> ?_,fun H' hb=> ?_⟩
   ·unfold cQ
    simp only [he,gL,oO]
    rw [hc,Nat.beq_refl,show xQ H sz b 0 xs.length none xs.length=true from by unfold xQ;rw [show Nat.ble xs.length xs.length=true from by simp],show Nat.ble n xs.length=true from by simpa using hn]
    simp only [bQ,Nat.zero_add]
   ·have:=Own.cellsw (j:=n) (m:=xs.length - n) (c1:=none) hs (H':=H') (by rw [hb b 0 _ none rfl];exact h5) (by omega) kk
    rw [List.take_of_length_le (by rw [List.length_drop];exact Nat.le_refl _)] at this
    exact this
   ·refine⟨.sl sz (cB enc (xs.drop n)) (xs.drop n).length,[b], ?_,.inr rfl⟩
    rw [List.length_drop]
    refine .sl b (n * sz) (xs.length - n) sz none _ _ _ (bD (cB enc (xs.drop n))) (cB enc (xs.drop n)) [] (by rw [hb b 0 _ none rfl];exact h5) ?_ (.fro _)
    have h1:(n+(xs.length - n)) * sz=xs.length * sz:=by congr 1;omega
    rw [Nat.add_mul] at h1
    rw [fR _ _ (by rw [List.length_drop,hlen];omega),mA hs xs n (xs.length - n) (by omega),List.take_of_length_le (by rw [List.length_drop];exact Nat.le_refl _)]
  ·simp at hn
   subst hn
   refine⟨.sl b 0 0 sz (some 0),fun k=> ?_,fun H' hb kk=> ?_,fun H' hb=> ?_⟩
   ·unfold cQ
    simp only [he,gL,oO,List.length_nil]
    rw [hc,Nat.beq_refl]
    rfl
   ·have:=Own.cellsw (j:=0) (m:=0) (c1:=some 0) hs (H':=H') (by rw [hb b 0 _ (some 0) rfl];exact h5) (by omega) kk
    simpa using this
   ·exact⟨.sl sz [] 0,[b],.sl b 0 0 sz (some 0) _ _ _ [] [] [] (by rw [hb b 0 _ (some 0) rfl];exact h5) (by simp [fK]) (.fro []),.inr rfl⟩
theorem aFJ {t e:TypeId} {lo:Nat} {v x:AV} {zs:List α} {k:AV->Hp->Bool} (hs:∀x,(enc x).length=sz) (hone:∀x,(bD (enc x)).all one=true) (ht:ApT P t e sz)
  (ho:Own sz enc e lo H v xs) (hlo:lo<=H.nx) (hcells:∀kk:Nat->List AV->Bool,fN H sz x kk=kk zs.length (bD (cB enc zs))) (hlen:xs.length+zs.length<=1048576)
  (hk:∀v' H',aQD sz enc e lo H v (xs++zs) v' H'->k v' H'=true):cE P H t t v x k=true:=zH hs hone ht ho hlo hcells hlen hk
end
end
end Go.Ev
namespace Go.S5
open Go.Ev Go.Proofs
theorem wI:ApT P 76 28 2:=⟨by kernel_rfl,by kernel_rfl,by kernel_rfl,by kernel_rfl,by kernel_rfl,by kernel_rfl⟩
theorem aDU:ApT P 168 48 2:=⟨by kernel_rfl,by kernel_rfl,by kernel_rfl,by kernel_rfl,by kernel_rfl,by kernel_rfl⟩
theorem sK (a b:Int) (k:Blk->(Nat->AV)->Bool):bF P 76 1 [(0,.agg [.int .i64 a,.int .i64 b])] k=k (.cells (some 28) false [.int .i64 a,.int .i64 b]) (sG 1 2):=by kernel_rfl
theorem kY (a b:Int) (k:Blk->(Nat->AV)->Bool):bF P 168 1 [(0,.agg [.int .i64 a,.int .i64 b])] k=k (.cells (some 48) false [.int .i64 a,.int .i64 b]) (sG 1 2):=by kernel_rfl
theorem fW (s:bU):(bD (bJ s)).all one=true:=rfl
theorem tZ (s:Arc):(bD (cV s)).all one=true:=rfl
theorem bT:∀x:bU,(bJ x).length=2:=fun _=>rfl
theorem jI:∀x:Arc,(cV x).length=2:=fun _=>rfl
def inR (s:bU):Prop:= -1000000<=s.lo/\s.lo<=1000000/\ -1000000<=s.hi/\s.hi<=1000000
structure aPY (l1 l2:List bU) (s:bU):Prop where
 a:∀x∈l1,x.lo<=x.hi/\x.hi+1<s.lo
 b:∀x∈l2,s.hi+1<x.lo
 c:s.lo<=s.hi
 d:∀x∈l1++l2,inR x
 e:inR s
theorem aPY.at {l1 l2:List bU} {s:bU} (h:aPY l1 l2 s) {n:Nat} (hn:n<(l1++l2).length):inR (l1++l2)[n]/\((n<l1.length->(l1++l2)[n].hi+1<s.lo/\(l1++l2)[n].lo<s.lo)/\(¬n<l1.length->s.hi+1<(l1++l2)[n].lo)):=by
 refine⟨h.d _ (List.getElem_mem hn),fun h1=> ?_,fun h1=> ?_⟩
 ·rw [List.getElem_append_left h1]
  have:=h.a _ (List.getElem_mem h1)
  omega
 ·rw [List.getElem_append_right (by omega)]
  exact h.b _ (List.getElem_mem _)
def a3K (l:List bU) (d:D) (s:bU) (m:Nat) (e:En) (H:Hp):Prop:=∃(n:Nat) (v:AV),n<=l.length/\m=l.length - n/\e.dm=[]/\Own 2 bJ 28 1 H v (l.take n)/\1<=H.nx/\E2.get e.t 6= .int .i64 n/\E2.get e.t 5=v/\E2.get e.t 0=ofD d/\E2.get e.t 3= .ptr 0 0/\H.get 0=some (.cells (some 28) false [.int .i64 s.lo,.int .i64 s.hi])
def axS (l:List bU) (K:Nat) (s:bU) (v:AV) (m:Nat) (e:En) (H:Hp):Prop:=∃(n:Nat),n<=K/\m=K - n/\e.dm=[]/\Own 2 bJ 28 1 H v l/\1<=H.nx/\E2.get e.t 7= .int .i64 n/\E2.get e.t 5=v/\E2.get e.t 3= .ptr 0 0/\H.get 0=some (.cells (some 28) false [.int .i64 s.lo,.int .i64 s.hi])
theorem tM (l1 l2:List bU) (s:bU) (d:D) (hd:Sl 2 bJ (l1++l2) d) (hl:(l1++l2).length<=1000) (ho:aPY l1 l2 s):CQ P G 248 [d,.agg (bJ s)] (Sl 2 bJ (l1++[s]++l2)):=by
 obtain⟨slo,shi⟩:=s
 have hee:=ho.e
 have hcc:=ho.c
 simp only [inR] at hee hcc
 refine CQ.enter hG ?_
 (try simp (disch:=first|exact bk rfl|omega) only [go_sem,bJ,awJ,aCP]);repeat' ((with_reducible first | apply aD | apply aE | apply aC)<;>intro h<;>(try simp only [spl] at h)<;>try simp (disch:=first|exact bk rfl|omega) only [go_sem,bJ,awJ,aCP,h])
 refine bA (a3K (l1++l2) d ⟨slo,shi⟩) (fun m e H hi=> ?_) (m:=(l1++l2).length) ?_
 rotate_left
 ·refine⟨0,.nils,Nat.zero_le _,rfl,rfl,.inl ⟨rfl,by simp⟩,by first | omega | (simp (disch:=first|exact bk rfl|omega) only [go_sem]<;>omega), ?_, ?_, ?_, ?_, ?_⟩<;>(first | rfl | (simp (disch:=first|exact bk rfl|omega) only [go_sem]<;>rfl))
 obtain⟨n,v,hn,rfl,hdm,hown,hnx,g6,g5,g0,g3,hg0⟩:=hi
 obtain⟨t,dm⟩:=e
 dsimp only at hdm g6 g5 g0 g3
 subst hdm
 refine bC 200 ?_
 rw [ahV]
 by_cases hlt:n<(l1++l2).length
 ·obtain⟨hin,hat1,hat2⟩:=ho.at hlt
  simp only [inR] at hin
  have hcond:((l1++l2)[n].hi+1<slo)∨(¬(l1++l2)[n].hi+1<slo/\shi+1<(l1++l2)[n].lo):=by
   by_cases h1:n<l1.length
   ·exact .inl (hat1 h1).1
   ·have:=hat2 h1
    by_cases h2:(l1++l2)[n].hi+1<slo
    ·exact .inl h2
    ·exact .inr ⟨h2,this⟩
  have hrd:=dF bT (l1++l2) n 1 hlt (by omega)
  have hrd0:=bL bT hlt (by decide:0<2)
  rcases hcond with h1 | ⟨h1,h2⟩
  ·have e1:=eq_true h1
   (try simp (disch:=first|exact bk rfl|omega) only [go_sem,g6,g5,g0,g3,hg0,e1,hrd,hrd0,aK hd cO,aX hd cO gD eP hlt,aY bT hlt,bJ,Int.ofNat_lt,hlt,aGQ,aFA,aFP,aGD,sK,cM]);repeat' ((with_reducible first | apply aD | apply aE | apply aC)<;>intro h<;>(try simp only [spl] at h)<;>try simp (disch:=first|exact bk rfl|omega) only [go_sem,g6,g5,g0,g3,hg0,e1,hrd,hrd0,aK hd cO,aX hd cO gD eP hlt,aY bT hlt,bJ,Int.ofNat_lt,hlt,aGQ,aFA,aFP,aGD,sK,cM,h])
   refine fV (x:=(l1++l2)[n]) (lo:=1) bT fW wI (hown.frame (by first | omega | (simp (disch:=first|exact bk rfl|omega) only [go_sem]<;>omega)) fun c hc hc2=>by simp (disch:=first|exact bk rfl|omega) only [go_sem,aM]) (by first | omega | (simp (disch:=first|exact bk rfl|omega) only [go_sem]<;>omega)) (by (simp (disch:=first|exact bk rfl|omega) only [go_sem,aI];rfl)) (by rw [List.length_take];omega) fun v2 H2 ho2 hn2 hn3 hf hf2=> ?_
   have hf0:=hf 0 (by omega)
   simp (disch:=omega) only [go_sem,aM,hg0] at hf0 hn2
   refine aZ (m':=(l1++l2).length - (n+1)) (by omega) ⟨n+1,v2,by omega,rfl,rfl,by rw [List.take_succ_eq_append_getElem hlt];exact ho2,by omega, ?_, ?_, ?_, ?_,hf0⟩<;>(first | rfl | (simp (disch:=first|exact bk rfl|omega) only [go_sem,g6,g5,g0,g3]<;>rfl))
  ·have e1:=eq_false h1
   have e2:=eq_true h2
   (try simp (disch:=first|exact bk rfl|omega) only [go_sem,g6,g5,g0,g3,hg0,e1,e2,hrd,hrd0,aK hd cO,aX hd cO gD eP hlt,aY bT hlt,bJ,Int.ofNat_lt,hlt,aGQ,aFA,aFP,aGD,sK,cM]);repeat' ((with_reducible first | apply aD | apply aE | apply aC)<;>intro h<;>(try simp only [spl] at h)<;>try simp (disch:=first|exact bk rfl|omega) only [go_sem,g6,g5,g0,g3,hg0,e1,e2,hrd,hrd0,aK hd cO,aX hd cO gD eP hlt,aY bT hlt,bJ,Int.ofNat_lt,hlt,aGQ,aFA,aFP,aGD,sK,cM,h])
   refine fV (x:=(l1++l2)[n]) (lo:=1) bT fW wI (hown.frame (by first | omega | (simp (disch:=first|exact bk rfl|omega) only [go_sem]<;>omega)) fun c hc hc2=>by simp (disch:=first|exact bk rfl|omega) only [go_sem,aM]) (by first | omega | (simp (disch:=first|exact bk rfl|omega) only [go_sem]<;>omega)) (by (simp (disch:=first|exact bk rfl|omega) only [go_sem,aI];rfl)) (by rw [List.length_take];omega) fun v2 H2 ho2 hn2 hn3 hf hf2=> ?_
   have hf0:=hf 0 (by omega)
   simp (disch:=omega) only [go_sem,aM,hg0] at hf0 hn2
   refine aZ (m':=(l1++l2).length - (n+1)) (by omega) ⟨n+1,v2,by omega,rfl,rfl,by rw [List.take_succ_eq_append_getElem hlt];exact ho2,by omega, ?_, ?_, ?_, ?_,hf0⟩<;>(first | rfl | (simp (disch:=first|exact bk rfl|omega) only [go_sem,g6,g5,g0,g3]<;>rfl))
 ·have hte:(l1++l2).take n=l1++l2:=List.take_of_length_le (by omega)
  rw [hte] at hown
  (try simp (disch:=first|exact bk rfl|omega) only [go_sem,g6,g5,g0,g3,aK hd cO,Int.ofNat_lt,hlt,aWI,aCP]);repeat' ((with_reducible first | apply aD | apply aE | apply aC)<;>intro h<;>(try simp only [spl] at h)<;>try simp (disch:=first|exact bk rfl|omega) only [go_sem,g6,g5,g0,g3,aK hd cO,Int.ofNat_lt,hlt,aWI,aCP,h])
  refine bA (axS (l1++l2) l1.length ⟨slo,shi⟩ v) (fun m e H hi=> ?_) (m:=l1.length) ?_
  rotate_left
  ·refine⟨0,Nat.zero_le _,rfl,rfl,hown,hnx, ?_, ?_, ?_,hg0⟩<;>(first | rfl | (simp (disch:=first|exact bk rfl|omega) only [go_sem,g5,g3]<;>rfl))
  clear g6 g5 g0 g3 hg0 hlt hn hown hnx
  obtain⟨n,hn,rfl,hdm,hown,hnx,g7,g5,g3,hg0⟩:=hi
  obtain⟨t,dm⟩:=e
  dsimp only at hdm g7 g5 g3
  subst hdm
  refine bC 200 ?_
  rw [alU]
  have hll:(l1++l2).length=l1.length+l2.length:=List.length_append
  by_cases hlt:n<(l1++l2).length
  ·obtain⟨b,rfl,hb1,hb2,hgb⟩:=hown.at hlt
   obtain⟨hin,hat1,hat2⟩:=ho.at hlt
   simp only [inR] at hin
   have hrd0:=bL bT hlt (by decide:0<2)
   by_cases h1:n<l1.length
   ·have e1:=eq_true (hat1 h1).2
    (try simp (disch:=first|exact bk rfl|omega) only [go_sem,g7,g5,g3,hg0,e1,hrd0,hgb,hown.len cO,eI cO gD eP hlt,bJ,Int.ofNat_lt,hlt,vX,wB,rA,rC]);repeat' ((with_reducible first | apply aD | apply aE | apply aC)<;>intro h<;>(try simp only [spl] at h)<;>try simp (disch:=first|exact bk rfl|omega) only [go_sem,g7,g5,g3,hg0,e1,hrd0,hgb,hown.len cO,eI cO gD eP hlt,bJ,Int.ofNat_lt,hlt,vX,wB,rA,rC,h])
    refine aZ (m':=l1.length - (n+1)) (by omega) ⟨n+1,by omega,rfl,rfl,hown,hnx, ?_, ?_, ?_,hg0⟩<;>(first | rfl | (simp (disch:=first|exact bk rfl|omega) only [go_sem,g7,g5,g3]<;>rfl))
   ·have e1:((l1++l2)[n].lo<slo)=False:=eq_false (by have:=hat2 h1;simp only at this;omega)
    (try simp (disch:=first|exact bk rfl|omega) only [go_sem,g7,g5,g3,hg0,e1,hrd0,hgb,hown.len cO,eI cO gD eP hlt,bJ,Int.ofNat_lt,hlt,vX,wB,rA,rC,aGC,aCP]);repeat' ((with_reducible first | apply aD | apply aE | apply aC)<;>intro h<;>(try simp only [spl] at h)<;>try simp (disch:=first|exact bk rfl|omega) only [go_sem,g7,g5,g3,hg0,e1,hrd0,hgb,hown.len cO,eI cO gD eP hlt,bJ,Int.ofNat_lt,hlt,vX,wB,rA,rC,aGC,aCP,h])
    have hn1:n=l1.length:=by omega
    subst hn1
    obtain⟨x,hx,hxc⟩:=hown.hi bT aVS eP (n:=l1.length) (by omega) .i64
    rw [hx]
    refine aFJ (lo:=H.nx) (xs:=([]:List bU)) bT fW wI (.inl ⟨rfl,rfl⟩) (Nat.le_refl _) (hxc H (fun _ _ _ _ _=>rfl)) (by simp;omega) fun v1 H1 gr1=> ?_
    have k0:=gr1.keep 0 (by omega)
    have kn:=gr1.nx1
    rw [hg0] at k0
    simp (disch:=first|exact bk rfl|omega) only [go_sem,g7,g5,g3,k0,sK,cM]
    refine fV (x:=⟨slo,shi⟩) (lo:=H.nx) bT fW wI (gr1.own.frame (by first | omega | (simp (disch:=first|exact bk rfl|omega) only [go_sem]<;>omega)) fun c hc hc2=>by simp (disch:=first|exact bk rfl|omega) only [go_sem,aM]) (by first | omega | (simp (disch:=first|exact bk rfl|omega) only [go_sem]<;>omega)) (by (simp (disch:=first|exact bk rfl|omega) only [go_sem,aI];rfl)) (by simp;omega) fun v2 H2 ho2 hn2 hn3 hf hf2=> ?_
    have hown2:Own 2 bJ 28 1 H2 _ (l1++l2):=hown.frame (by simp only [go_sem] at hn2;omega) fun c hc hc2=>by
     rw [hf c hc2]
     simp (disch:=first|exact bk rfl|omega) only [go_sem,aM]
     exact gr1.keep c hc2
    obtain⟨y,hy,hyc,_⟩:=hown2.lo_ bT aVS eP (n:=l1.length) (by omega) .i64
    simp (disch:=first|exact bk rfl|omega) only [go_sem,g7,g5,g3]
    rw [hy]
    refine aFJ (lo:=H.nx) bT fW wI ho2 (by simp only [go_sem] at hn2;omega) (hyc H2 (fun _ _ _ _ _=>rfl)) (by simp;omega) fun v3 H3 gr3=> ?_
    simp (disch:=first|exact bk rfl|omega) only [go_sem,aCP]
    refine gr3.own.ret bT fun r hr=> ?_
    simpa using hr
  ·(try simp (disch:=first|exact bk rfl|omega) only [go_sem,g7,g5,g3,hg0,hown.len cO,Int.ofNat_lt,hlt,vX,wB,rA,rC,aGC,aCP]);repeat' ((with_reducible first | apply aD | apply aE | apply aC)<;>intro h<;>(try simp only [spl] at h)<;>try simp (disch:=first|exact bk rfl|omega) only [go_sem,g7,g5,g3,hg0,hown.len cO,Int.ofNat_lt,hlt,vX,wB,rA,rC,aGC,aCP,h])
   have hn1:n=l1.length:=by omega
   subst hn1
   obtain⟨x,hx,hxc⟩:=hown.hi bT aVS eP (n:=l1.length) (by omega) .i64
   rw [hx]
   refine aFJ (lo:=H.nx) (xs:=([]:List bU)) bT fW wI (.inl ⟨rfl,rfl⟩) (Nat.le_refl _) (hxc H (fun _ _ _ _ _=>rfl)) (by simp;omega) fun v1 H1 gr1=> ?_
   have k0:=gr1.keep 0 (by omega)
   have kn:=gr1.nx1
   rw [hg0] at k0
   simp (disch:=first|exact bk rfl|omega) only [go_sem,g7,g5,g3,k0,sK,cM]
   refine fV (x:=⟨slo,shi⟩) (lo:=H.nx) bT fW wI (gr1.own.frame (by first | omega | (simp (disch:=first|exact bk rfl|omega) only [go_sem]<;>omega)) fun c hc hc2=>by simp (disch:=first|exact bk rfl|omega) only [go_sem,aM]) (by first | omega | (simp (disch:=first|exact bk rfl|omega) only [go_sem]<;>omega)) (by (simp (disch:=first|exact bk rfl|omega) only [go_sem,aI];rfl)) (by simp;omega) fun v2 H2 ho2 hn2 hn3 hf hf2=> ?_
   have hown2:Own 2 bJ 28 1 H2 _ (l1++l2):=hown.frame (by simp only [go_sem] at hn2;omega) fun c hc hc2=>by
    rw [hf c hc2]
    simp (disch:=first|exact bk rfl|omega) only [go_sem,aM]
    exact gr1.keep c hc2
   obtain⟨y,hy,hyc,_⟩:=hown2.lo_ bT aVS eP (n:=l1.length) (by omega) .i64
   simp (disch:=first|exact bk rfl|omega) only [go_sem,g7,g5,g3]
   rw [hy]
   refine aFJ (lo:=H.nx) bT fW wI ho2 (by simp only [go_sem] at hn2;omega) (hyc H2 (fun _ _ _ _ _=>rfl)) (by simp;omega) fun v3 H3 gr3=> ?_
   simp (disch:=first|exact bk rfl|omega) only [go_sem,aCP]
   refine gr3.own.ret bT fun r hr=> ?_
   simpa using hr
def gG (x y:bU):List bU:=if max x.lo y.lo<=min x.hi y.hi then [⟨max x.lo y.lo,min x.hi y.hi⟩] else []
def hU:List bU->List bU->List bU
 | x::a,y::b=>gG x y++(if x.hi<y.hi then hU a (y::b) else hU (x::a) b)
 | _,_=>[]
termination_by a b=>a.length+b.length
theorem cL (H:Hp) (n c:Nat):(⟨H.t,n⟩:Hp).get c=H.get c:=rfl
theorem lY (x y:bU) (a b:List bU):hU (x::a) (y::b)=gG x y++(if x.hi<y.hi then hU a (y::b) else hU (x::a) b):=by rw [hU]
theorem nT (b:List bU):hU [] b=[]:=by rw [hU];intro x a y c h;cases h
theorem mG (a:List bU):hU a []=[]:=by rw [hU];intro x a y c _ h;cases h
theorem aCN {x:bU} {a:List bU} {d:D} (h:Sl 2 bJ (x::a) d) (k:AV->Bool):aN P 76 (ofD d) (.int .i64 0) k=k (.dat (.ptr (cB bJ (x::a)) 0)):=by
 have:=aX (k:=k) h cO gD eP (n:=0) (by simp) (i:= .i64)
 simpa using this
theorem rd0 (x:bU) (a:List bU):(bD (cB bJ (x::a)))[0]? =some (.int .i64 x.lo):=rfl
theorem rd1 (x:bU) (a:List bU):(bD (cB bJ (x::a)))[1]? =some (.int .i64 x.hi):=rfl
theorem sF {x:bU} {a:List bU} {d:D} (h:Sl 2 bJ (x::a) d) (H:Hp) (k:AV->Bool):cQ P H 76 (ofD d) (some (.int .i64 1)) none none k=k (ofD (slD d 1)):=by
 have:=aAT (H:=H) (k:=k) h aVS eP (n:=1) (by simp) (i:= .i64)
 simpa using this
def awH (a b:List bU) (m:Nat) (e:En) (H:Hp):Prop:=∃(a' b' xs:List bU) (da db:D) (v:AV),m=a'.length+b'.length/\e.dm=[]/\a'.length<=1000/\b'.length<=1000/\xs.length+m<=2000/\Sl 2 bJ a' da/\Sl 2 bJ b' db/\Own 2 bJ 28 0 H v xs/\xs++hU a' b'=hU a b/\E2.get e.t 0=ofD da/\E2.get e.t 1=ofD db/\E2.get e.t 5=v
theorem atH (n:Nat) (a b:Int):aR (n+2) (.agg [.int .i64 a,.int .i64 b]) (.agg [.int .i64 a,.int .i64 b])=gW (n+1) [.int .i64 a,.int .i64 b] [.int .i64 a,.int .i64 b]:=rfl
theorem aRD (a b:List bU) (da db:D) (ha:Sl 2 bJ a da) (hb:Sl 2 bJ b db) (hla:a.length<=1000) (hlb:b.length<=1000):CQ P G 165 [da,db] (Sl 2 bJ (hU a b)):=by
 refine CQ.enter hG ?_
 (try simp (disch:=first|exact bk rfl|omega) only [go_sem,asO,aSE]);repeat' ((with_reducible first | apply aD | apply aE | apply aC)<;>intro h<;>(try simp only [spl] at h)<;>try simp (disch:=first|exact bk rfl|omega) only [go_sem,asO,aSE,h])
 refine bA (awH a b) (fun m e H hi=> ?_) (m:=a.length+b.length) ?_
 rotate_left
 ·refine⟨a,b,[],da,db,.nils,rfl,rfl,hla,hlb,by simp;omega,ha,hb,.inl ⟨rfl,rfl⟩,rfl, ?_, ?_, ?_⟩<;>(first | rfl | (simp (disch:=first|exact bk rfl|omega) only [go_sem]<;>rfl))
 clear ha hb hla hlb
 obtain⟨a',b',xs,da',db',v,rfl,hdm,hla,hlb,hlen,ha,hb,hown,heq,g0,g1,g5⟩:=hi
 obtain⟨t,dm⟩:=e
 dsimp only at hdm g0 g1 g5
 subst hdm
 refine bC 200 ?_
 rw [ajM]
 cases a' with
 | nil=>
  (try simp (disch:=first|exact bk rfl|omega) only [go_sem,g0,g1,g5,aK ha cO,List.length_nil,Int.ofNat_zero,Int.reduceLT,aGX,aSE]);repeat' ((with_reducible first | apply aD | apply aE | apply aC)<;>intro h<;>(try simp only [spl] at h)<;>try simp (disch:=first|exact bk rfl|omega) only [go_sem,g0,g1,g5,aK ha cO,List.length_nil,Int.ofNat_zero,Int.reduceLT,aGX,aSE,h])
  rw [nT,List.append_nil] at heq
  exact hown.ret bT fun r hr=>by rw [←heq];exact hr
 | cons x a'=>
  have hpa:((0:Int)<((a'.length+1:Nat):Int))=True:=eq_true (by omega)
  cases b' with
  | nil=>
   (try simp (disch:=first|exact bk rfl|omega) only [go_sem,g0,g1,g5,hpa,aK ha cO,aK hb cO,List.length_nil,Int.ofNat_zero,Int.reduceLT,aGX,aSE]);repeat' ((with_reducible first | apply aD | apply aE | apply aC)<;>intro h<;>(try simp only [spl] at h)<;>try simp (disch:=first|exact bk rfl|omega) only [go_sem,g0,g1,g5,hpa,aK ha cO,aK hb cO,List.length_nil,Int.ofNat_zero,Int.reduceLT,aGX,aSE,h])
   rw [mG,List.append_nil] at heq
   exact hown.ret bT fun r hr=>by rw [←heq];exact hr
  | cons y b'=>
   have hpb:((0:Int)<((b'.length+1:Nat):Int))=True:=eq_true (by omega)
   rw [lY] at heq
   simp only [List.length_cons] at hla hlb hlen
   have hda:=ha.drop bT (n:=1) (by simp)
   have hdb:=hb.drop bT (n:=1) (by simp)
   simp only [List.drop_succ_cons,List.drop_zero] at hda hdb
   have hfin:∀(v2:AV) (H2:Hp) (t2:E2),Own 2 bJ 28 0 H2 v2 (xs++gG x y)->E2.get t2 5=v2->E2.get t2 0=ofD (if x.hi<y.hi then slD da' 1 else da')->E2.get t2 1=ofD (if x.hi<y.hi then db' else slD db' 1)->yB (awH a b) ((x::a').length+(y::b').length) ⟨t2,[]⟩ H2=true:=by
    intro v2 H2 t2 ho2 f5 f0 f1
    have hms:(gG x y).length<=1:=by unfold gG;split<;>simp
    by_cases hc:x.hi<y.hi
    ·rw [if_pos hc] at f0 f1 heq
     exact aZ (m':=a'.length+(y::b').length) (by simp) ⟨a',y::b',xs++gG x y,_,_,v2,rfl,rfl,by omega,by simp;omega,by simp;omega,hda,hb,ho2,by rw [List.append_assoc];exact heq,f0,f1,f5⟩
    ·rw [if_neg hc] at f0 f1 heq
     exact aZ (m':=(x::a').length+b'.length) (by simp) ⟨x::a',b',xs++gG x y,_,_,v2,rfl,rfl,by simp;omega,by omega,by simp;omega,ha,hdb,ho2,by rw [List.append_assoc];exact heq,f0,f1,f5⟩
   by_cases hM:max x.lo y.lo<=min x.hi y.hi
   ·have hms:gG x y=[⟨max x.lo y.lo,min x.hi y.hi⟩]:=if_pos hM
    have eM:=eq_true hM
    simp (disch:=first|exact bk rfl|omega) only [go_sem,eM,g0,g1,g5,hpa,hpb,aK ha cO,aK hb cO,aCN ha,aCN hb,rd0,rd1,bJ,Int.reduceLT,jX,aM,aI,sK,cM,sF ha,sF hb,aBE]
    refine fV (x:=⟨max x.lo y.lo,min x.hi y.hi⟩) (lo:=0) bT fW wI (hown.frame (by first | omega | (simp (disch:=first|exact bk rfl|omega) only [go_sem]<;>omega)) fun c hc hc2=>by simp (disch:=first|exact bk rfl|omega) only [go_sem,aM,cL]) (by omega) (by (simp (disch:=first|exact bk rfl|omega) only [go_sem,aI,aM];rfl)) (by omega) fun v2 H2 ho2 hn2 hn3 hf hf2=> ?_
    rw [←hms] at ho2
    by_cases hc:x.hi<y.hi
    ·have ec:=eq_true hc
     simp (disch:=first|exact bk rfl|omega) only [go_sem,ec,g0,g1,g5,hpa,hpb,aK ha cO,aK hb cO,aCN ha,aCN hb,rd0,rd1,bJ,Int.reduceLT,jX,aM,aI,sK,cM,sF ha,sF hb,aBE]
     refine hfin v2 H2 _ ho2 ?_ ?_ ?_<;>(first | rfl | (simp (disch:=first|exact bk rfl|omega) only [go_sem,g0,g1,g5,hc,ec]<;>rfl))
    ·have ec:=eq_false hc
     simp (disch:=first|exact bk rfl|omega) only [go_sem,ec,g0,g1,g5,hpa,hpb,aK ha cO,aK hb cO,aCN ha,aCN hb,rd0,rd1,bJ,Int.reduceLT,jX,aM,aI,sK,cM,sF ha,sF hb,aBE]
     refine hfin v2 H2 _ ho2 ?_ ?_ ?_<;>(first | rfl | (simp (disch:=first|exact bk rfl|omega) only [go_sem,g0,g1,g5,hc,ec]<;>rfl))
   ·have hms:gG x y=[]:=if_neg hM
    have eM:=eq_false hM
    have ho2:=hown
    rw [←List.append_nil xs,←hms] at ho2
    by_cases hc:x.hi<y.hi
    ·have ec:=eq_true hc
     simp (disch:=first|exact bk rfl|omega) only [go_sem,eM,ec,g0,g1,g5,hpa,hpb,aK ha cO,aK hb cO,aCN ha,aCN hb,rd0,rd1,bJ,Int.reduceLT,jX,aM,aI,sK,cM,sF ha,sF hb,aBE]
     refine hfin v _ _ (ho2.frame (by first | omega | (simp (disch:=first|exact bk rfl|omega) only [go_sem]<;>omega)) fun c hc hc2=>by simp (disch:=first|exact bk rfl|omega) only [go_sem,aM,cL]) ?_ ?_ ?_<;>(first | rfl | (simp (disch:=first|exact bk rfl|omega) only [go_sem,g0,g1,g5,hc,ec]<;>rfl))
    ·have ec:=eq_false hc
     simp (disch:=first|exact bk rfl|omega) only [go_sem,eM,ec,g0,g1,g5,hpa,hpb,aK ha cO,aK hb cO,aCN ha,aCN hb,rd0,rd1,bJ,Int.reduceLT,jX,aM,aI,sK,cM,sF ha,sF hb,aBE]
     refine hfin v _ _ (ho2.frame (by first | omega | (simp (disch:=first|exact bk rfl|omega) only [go_sem]<;>omega)) fun c hc hc2=>by simp (disch:=first|exact bk rfl|omega) only [go_sem,aM,cL]) ?_ ?_ ?_<;>(first | rfl | (simp (disch:=first|exact bk rfl|omega) only [go_sem,g0,g1,g5,hc,ec]<;>rfl))
def fS (x:Arc):List bU:=if x.from_+x.len<43200 then [⟨x.from_,x.from_+x.len⟩] else [⟨0,x.from_+x.len - 43200⟩,⟨x.from_,43199⟩]
theorem oW {x:Arc} {d:D} (h:Sl 2 cV [x] d) (H:Hp) (k:AV->Bool):bH P 168 (ofD d) H k=k (.int .i64 1):=by
 have:=aK (H:=H) (k:=k) h jL
 simpa using this
theorem yD {x:Arc} {d:D} (h:Sl 2 cV [x] d) (k:AV->Bool):aN P 168 (ofD d) (.int .i64 0) k=k (.dat (.ptr (cB cV [x]) 0)):=by
 have:=aX (k:=k) h jL aTP aCE (n:=0) (by simp) (i:= .i64)
 simpa using this
theorem ra0 (x:Arc) (a:List Arc):(bD (cB cV (x::a)))[0]? =some (.int .i64 x.from_):=rfl
theorem ra1 (x:Arc) (a:List Arc):(bD (cB cV (x::a)))[1]? =some (.int .i64 x.len):=rfl
theorem aMN {α:Type} {sz:Nat} {enc:α->List D}:Sl sz enc ([]:List α) .nils:= .inl ⟨rfl,rfl⟩
def a2F (x:Arc) (d:D) (m:Nat) (e:En) (H:Hp):Prop:=(m=1/\e.dm=[]/\E2.get e.t 4= .int .i64 0/\E2.get e.t 0=ofD d/\E2.get e.t 3=ofD .nils)∨(m=0/\e.dm=[]/\E2.get e.t 4= .int .i64 1/\E2.get e.t 0=ofD d/\∃r,Sl 2 bJ (fS x) r/\E2.get e.t 3=ofD r)
theorem sU (x:Arc) (hx:dZ x=true) (d:D) (hd:Sl 2 cV [x] d):CQ P G 199 [d] (Sl 2 bJ (fS x)):=by
 simp only [dZ,decide_eq_true_eq] at hx
 refine CQ.enter hG ?_
 (try simp (disch:=first|exact bk rfl|omega) only [go_sem,aqE,aeD]);repeat' ((with_reducible first | apply aD | apply aE | apply aC)<;>intro h<;>(try simp only [spl] at h)<;>try simp (disch:=first|exact bk rfl|omega) only [go_sem,aqE,aeD,h])
 refine bA (a2F x d) (fun m e H hi=> ?_) (m:=1) ?_
 rotate_left
 ·refine .inl ⟨rfl,rfl, ?_, ?_, ?_⟩<;>(first | rfl | (simp (disch:=first|exact bk rfl|omega) only [go_sem]<;>rfl))
 rcases hi with⟨rfl,hdm,g4,g0,g3⟩| ⟨rfl,hdm,g4,g0,r,hr,g3⟩
 ·obtain⟨t,dm⟩:=e
  dsimp only at hdm g4 g0 g3
  subst hdm
  refine bC 200 ?_
  rw [aVH]
  by_cases hw:x.from_+x.len<43200
  ·have ew:=eq_true hw
   have hs:fS x=[⟨x.from_,x.from_+x.len⟩]:=if_pos hw
   (try simp (disch:=first|exact bk rfl|omega) only [go_sem,g4,g0,g3,ew,oW hd,yD hd,ra0,ra1,Int.reduceLT,jX,sY]);repeat' ((with_reducible first | apply aD | apply aE | apply aC)<;>intro h<;>(try simp only [spl] at h)<;>try simp (disch:=first|exact bk rfl|omega) only [go_sem,g4,g0,g3,ew,oW hd,yD hd,ra0,ra1,Int.reduceLT,jX,sY,h])
   refine cS hG [.nils,.agg (bJ ⟨x.from_,x.from_+x.len⟩)] (tM [] [] ⟨x.from_,x.from_+x.len⟩ .nils aMN (by simp) ⟨by simp,by simp,by simp only;omega,by simp,by simp only [inR];omega⟩) rfl fun r hr=> ?_
   simp (disch:=first|exact bk rfl|omega) only [go_sem,g4,g0,g3,sY,Int.reduceAdd]
   refine aZ (m':=0) (by omega) (.inr ⟨rfl,rfl, ?_, ?_,r,by rw [hs];exact hr, ?_⟩)<;>(first | rfl | (simp (disch:=first|exact bk rfl|omega) only [go_sem,g4,g0,g3]<;>rfl))
  ·have ew:=eq_false hw
   have hs:fS x=[⟨0,x.from_+x.len - 43200⟩,⟨x.from_,43199⟩]:=if_neg hw
   (try simp (disch:=first|exact bk rfl|omega) only [go_sem,g4,g0,g3,ew,oW hd,yD hd,ra0,ra1,Int.reduceLT,jX,sY]);repeat' ((with_reducible first | apply aD | apply aE | apply aC)<;>intro h<;>(try simp only [spl] at h)<;>try simp (disch:=first|exact bk rfl|omega) only [go_sem,g4,g0,g3,ew,oW hd,yD hd,ra0,ra1,Int.reduceLT,jX,sY,h])
   refine cS hG [.nils,.agg (bJ ⟨x.from_,43199⟩)] (tM [] [] ⟨x.from_,43199⟩ .nils aMN (by simp) ⟨by simp,by simp,by simp only;omega,by simp,by simp only [inR];omega⟩) rfl fun r1 hr1=> ?_
   simp (disch:=first|exact bk rfl|omega) only [go_sem,g4,g0,g3,sY,Int.reduceAdd,jX]
   refine cS hG [r1,.agg (bJ ⟨0,x.from_+x.len - 43200⟩)] (tM [] [⟨x.from_,43199⟩] ⟨0,x.from_+x.len - 43200⟩ r1 hr1 (by simp) ⟨by simp,by simp;omega,by simp only;omega,by simp [inR];omega,by simp only [inR];omega⟩) rfl fun r hr=> ?_
   simp (disch:=first|exact bk rfl|omega) only [go_sem,g4,g0,g3,sY,Int.reduceAdd]
   refine aZ (m':=0) (by omega) (.inr ⟨rfl,rfl, ?_, ?_,r,by rw [hs];exact hr, ?_⟩)<;>(first | rfl | (simp (disch:=first|exact bk rfl|omega) only [go_sem,g4,g0,g3]<;>rfl))
 ·obtain⟨t,dm⟩:=e
  dsimp only at hdm g4 g0 g3
  subst hdm
  refine bC 200 ?_
  rw [aVH]
  (try simp (disch:=first|exact bk rfl|omega) only [go_sem,g4,g0,g3,oW hd,Int.reduceLT,aVW,aeD]);repeat' ((with_reducible first | apply aD | apply aE | apply aC)<;>intro h<;>(try simp only [spl] at h)<;>try simp (disch:=first|exact bk rfl|omega) only [go_sem,g4,g0,g3,oW hd,Int.reduceLT,aVW,aeD,h])
  exact aG r hr
def kV (x:bU) (b:List bU):List bU:=b.flatMap (gG x)
def lG (a b:List bU):List bU:=a.flatMap fun x=>kV x b
theorem vU {x:bU} {b:List bU} {n:Nat} (h:n<b.length):kV x (b.take (n+1))=kV x (b.take n)++gG x b[n]:=by
 unfold kV;rw [List.take_succ_eq_append_getElem h,List.flatMap_append];simp
theorem aDD {a b:List bU} {n:Nat} (h:n<a.length):lG (a.take (n+1)) b=lG (a.take n) b++kV a[n] b:=by
 unfold lG;rw [List.take_succ_eq_append_getElem h,List.flatMap_append];simp
structure Gap (l:List bU):Prop where
 p:l.Pairwise fun u v=>u.hi+1<v.lo
 a:∀u∈l,u.lo<=u.hi/\inR u
theorem Gap.pre {l l':List bU} (h:Gap l) (hp:l'<+:l):Gap l':=⟨h.p.sublist hp.sublist,fun u hu=>h.a u (hp.subset hu)⟩
theorem Gap.put {l:List bU} {s:bU} (h:Gap (l++[s])):aPY l [] s:=by
 obtain⟨h1,h2⟩:=h
 rw [List.pairwise_append] at h1
 refine⟨fun x hx=>⟨(h2 x (by simp [hx])).1,h1.2.2 x hx s (by simp)⟩,by simp,(h2 s (by simp)).1,fun x hx=>(h2 x (by simpa using Or.inl (by simpa using hx))).2,(h2 s (by simp)).2⟩
theorem acO {a b:List bU} {i k:Nat} (hi:i<a.length) (hk:k<b.length):lG (a.take i) b++kV a[i] (b.take k)++gG a[i] b[k]<+:lG a b:=by
 have h1:lG a b=lG (a.take i) b++kV a[i] b++lG (a.drop (i+1)) b:=by
  rw [←aDD hi]
  unfold lG
  rw [←List.flatMap_append,List.take_append_drop]
 have h2:kV a[i] b=kV a[i] (b.take k)++gG a[i] b[k]++kV a[i] (b.drop (k+1)):=by
  rw [←vU hk]
  unfold kV
  rw [←List.flatMap_append,List.take_append_drop]
 rw [h1,h2]
 exact⟨kV a[i] (b.drop (k+1))++lG (a.drop (i+1)) b,by simp [List.append_assoc]⟩
def a0M (a b:List bU) (da db:D) (m:Nat) (e:En) (H:Hp):Prop:=∃(n:Nat) (r:D),n<=a.length/\m=a.length - n/\e.dm=[]/\Sl 2 bJ (lG (a.take n) b) r/\E2.get e.t 6= .int .i64 n/\E2.get e.t 5=ofD r/\E2.get e.t 0=ofD da/\E2.get e.t 1=ofD db
def arM (a b:List bU) (da db:D) (i:Nat) (x:bU) (m:Nat) (e:En) (H:Hp):Prop:=∃(n:Nat) (r:D),n<=b.length/\m=b.length - n/\e.dm=[]/\Sl 2 bJ (lG (a.take i) b++kV x (b.take n)) r/\E2.get e.t 7= .int .i64 n/\E2.get e.t 6= .int .i64 i/\E2.get e.t 5=ofD r/\E2.get e.t 0=ofD da/\E2.get e.t 1=ofD db
theorem aXG (x y:bU):(gG x y).length<=1:=by unfold gG;split<;>simp
theorem aHI (a b:List bU) (da db:D) (ha:Sl 2 bJ a da) (hb:Sl 2 bJ b db) (hla:a.length<=1000) (hlb:b.length<=1000) (hlc:(lG a b).length<=900) (hg:Gap (lG a b)):CQ P G 198 [da,db] (Sl 2 bJ (lG a b)):=by
 refine CQ.enter hG ?_
 (try simp (disch:=first|exact bk rfl|omega) only [go_sem,aqX,adK]);repeat' ((with_reducible first | apply aD | apply aE | apply aC)<;>intro h<;>(try simp only [spl] at h)<;>try simp (disch:=first|exact bk rfl|omega) only [go_sem,aqX,adK,h])
 refine bA (a0M a b da db) (fun m e H hi=> ?_) (m:=a.length) ?_
 rotate_left
 ·refine⟨0,.nils,Nat.zero_le _,rfl,rfl,aMN, ?_, ?_, ?_, ?_⟩<;>(first | rfl | (simp (disch:=first|exact bk rfl|omega) only [go_sem]<;>rfl))
 obtain⟨n,r,hn,rfl,hdm,hr,g6,g5,g0,g1⟩:=hi
 obtain⟨t,dm⟩:=e
 dsimp only at hdm g6 g5 g0 g1
 subst hdm
 refine bC 200 ?_
 rw [anI]
 by_cases hlt:n<a.length
 ·(try simp (disch:=first|exact bk rfl|omega) only [go_sem,g6,g5,g0,g1,aK ha cO,Int.ofNat_lt,hlt]);repeat' ((with_reducible first | apply aD | apply aE | apply aC)<;>intro h<;>(try simp only [spl] at h)<;>try simp (disch:=first|exact bk rfl|omega) only [go_sem,g6,g5,g0,g1,aK ha cO,Int.ofNat_lt,hlt,h])
  refine bA (arM a b da db n a[n]) (fun m e H hi=> ?_) (m:=b.length) ?_
  rotate_left
  ·refine⟨0,r,Nat.zero_le _,rfl,rfl,by simpa [kV] using hr, ?_, ?_, ?_, ?_, ?_⟩<;>(first | rfl | (simp (disch:=first|exact bk rfl|omega) only [go_sem,g6,g5,g0,g1]<;>rfl))
  clear g6 g5 g0 g1 hr
  obtain⟨k,r,hk,rfl,hdm,hr,g7,g6,g5,g0,g1⟩:=hi
  obtain⟨t,dm⟩:=e
  dsimp only at hdm g7 g6 g5 g0 g1
  subst hdm
  refine bC 200 ?_
  rw [amX]
  by_cases hlk:k<b.length
  ·have hpre:=acO hlt hlk
   have r1:=dF bT a n 1 hlt (by omega)
   have r0:=bL bT hlt (by decide:0<2)
   have s1:=dF bT b k 1 hlk (by omega)
   have s0:=bL bT hlk (by decide:0<2)
   by_cases hM:max a[n].lo b[k].lo<=min a[n].hi b[k].hi
   ·have eM:=eq_true hM
    have hms:gG a[n] b[k]=[⟨max a[n].lo b[k].lo,min a[n].hi b[k].hi⟩]:=if_pos hM
    rw [hms] at hpre
    have hlen:=hpre.length_le
    simp only [List.length_append,List.length_singleton] at hlen
    (try simp (disch:=first|exact bk rfl|omega) only [go_sem,g7,g6,g5,g0,g1,eM,r1,r0,s1,s0,cL,aK hb cO,aX ha cO gD eP hlt,aX hb cO gD eP hlk,bJ,Int.ofNat_lt,hlk,jX,aM,aI]);repeat' ((with_reducible first | apply aD | apply aE | apply aC)<;>intro h<;>(try simp only [spl] at h)<;>try simp (disch:=first|exact bk rfl|omega) only [go_sem,g7,g6,g5,g0,g1,eM,r1,r0,s1,s0,cL,aK hb cO,aX ha cO gD eP hlt,aX hb cO gD eP hlk,bJ,Int.ofNat_lt,hlk,jX,aM,aI,h])
    refine cS hG [r,.agg (bJ ⟨max a[n].lo b[k].lo,min a[n].hi b[k].hi⟩)] (tM (lG (a.take n) b++kV a[n] (b.take k)) [] _ r (by simpa using hr) (by simp;omega) (hg.pre hpre).put) rfl fun r2 hr2=> ?_
    rw [List.append_nil] at hr2
    simp (disch:=first|exact bk rfl|omega) only [go_sem,g7,g6,g5,g0,g1,aMO]
    refine aZ (m':=b.length - (k+1)) (by omega) ⟨k+1,r2,by omega,rfl,rfl,by rw [vU hlk,hms,←List.append_assoc];exact hr2, ?_, ?_, ?_, ?_, ?_⟩<;>(first | rfl | (simp (disch:=first|exact bk rfl|omega) only [go_sem,g7,g6,g5,g0,g1]<;>rfl))
   ·have eM:=eq_false hM
    have hms:gG a[n] b[k]=[]:=if_neg hM
    (try simp (disch:=first|exact bk rfl|omega) only [go_sem,g7,g6,g5,g0,g1,eM,r1,r0,s1,s0,cL,aK hb cO,aX ha cO gD eP hlt,aX hb cO gD eP hlk,bJ,Int.ofNat_lt,hlk,jX,aM,aI,aMO]);repeat' ((with_reducible first | apply aD | apply aE | apply aC)<;>intro h<;>(try simp only [spl] at h)<;>try simp (disch:=first|exact bk rfl|omega) only [go_sem,g7,g6,g5,g0,g1,eM,r1,r0,s1,s0,cL,aK hb cO,aX ha cO gD eP hlt,aX hb cO gD eP hlk,bJ,Int.ofNat_lt,hlk,jX,aM,aI,aMO,h])
    refine aZ (m':=b.length - (k+1)) (by omega) ⟨k+1,r,by omega,rfl,rfl,by rw [vU hlk,hms,List.append_nil];exact hr, ?_, ?_, ?_, ?_, ?_⟩<;>(first | rfl | (simp (disch:=first|exact bk rfl|omega) only [go_sem,g7,g6,g5,g0,g1]<;>rfl))
  ·(try simp (disch:=first|exact bk rfl|omega) only [go_sem,g7,g6,g5,g0,g1,aK hb cO,Int.ofNat_lt,hlk,aUS]);repeat' ((with_reducible first | apply aD | apply aE | apply aC)<;>intro h<;>(try simp only [spl] at h)<;>try simp (disch:=first|exact bk rfl|omega) only [go_sem,g7,g6,g5,g0,g1,aK hb cO,Int.ofNat_lt,hlk,aUS,h])
   rw [show b.take k=b from List.take_of_length_le (by omega)] at hr
   refine aZ (m':=a.length - (n+1)) (by omega) ⟨n+1,r,by omega,rfl,rfl,by rw [aDD hlt];exact hr, ?_, ?_, ?_, ?_⟩<;>(first | rfl | (simp (disch:=first|exact bk rfl|omega) only [go_sem,g7,g6,g5,g0,g1]<;>rfl))
 ·(try simp (disch:=first|exact bk rfl|omega) only [go_sem,g6,g5,g0,g1,aK ha cO,Int.ofNat_lt,hlt,aWD,adK]);repeat' ((with_reducible first | apply aD | apply aE | apply aC)<;>intro h<;>(try simp only [spl] at h)<;>try simp (disch:=first|exact bk rfl|omega) only [go_sem,g6,g5,g0,g1,aK ha cO,Int.ofNat_lt,hlt,aWD,adK,h])
  rw [List.take_of_length_le (by omega)] at hr
  exact aG r hr
def toA (s:bU):Arc:=⟨s.lo,s.hi - s.lo⟩
def xV (l:List bU):Prop:=∃h:1<l.length,l[0].lo=0/\l[l.length - 1].hi=43199
def mC (l:List bU) (w:Bool) (i:Nat) (x:bU) (f:Int):List Arc:=if w=true/\i=0 then [] else if w=true/\i=l.length - 1 then [⟨x.lo,x.hi - x.lo+1+f⟩] else [toA x]
def tE (l:List bU) (w:Bool) (f:Int):Nat->List Arc
 | 0=>[]
 | i+1=>tE l w f i++(if h:i<l.length then mC l w i l[i] f else [])
theorem aJO (l:List bU) (w:Bool) (f:Int):∀n,(tE l w f n).length<=n
 | 0=>by simp [tE]
 | n+1=>by
  have:=aJO l w f n
  rw [tE,List.length_append]
  split
  ·unfold mC;split
   ·simp;omega
   ·split<;>simp<;>omega
  ·simp;omega
theorem wL {l:List bU} {n:Nat} (h:n<l.length):(bD (cB bJ l))[n * 2+1]? =some (.int .i64 l[n].hi):=by rw [dF bT l n 1 h (by omega)];rfl
theorem aGP {l:List bU} {n:Nat} (h:n<l.length):(bD (cB bJ l))[n * 2]? =some (.int .i64 l[n].lo):=by rw [bL bT h (by decide)];rfl
theorem wD {l:List bU} {d:D} (h:Sl 2 bJ l d) (hp:0<l.length) (k:AV->Bool):aN P 76 (ofD d) (.int .i64 0) k=k (.dat (.ptr (cB bJ l) 0)):=by
 have:=aX (k:=k) h cO gD eP (n:=0) hp (i:= .i64)
 simpa using this
theorem raZ {l:List bU} (hp:0<l.length):(bD (cB bJ l))[0]? =some (.int .i64 l[0].lo):=by have:=aGP hp;simpa using this
theorem raO {l:List bU} (hp:0<l.length):(bD (cB bJ l))[1]? =some (.int .i64 l[0].hi):=by have:=wL hp;simpa using this
theorem aLU {l:List bU} {d:D} (h:Sl 2 bJ l d) (hp:1<l.length) (k:AV->Bool):aN P 76 (ofD d) (.int .i64 ((l.length:Int) - 1)) k=k (.dat (.ptr (cB bJ l) ((l.length - 1) * 2))):=by
 have:=aX (k:=k) h cO gD eP (n:=l.length - 1) (by omega) (i:= .i64)
 rw [show ((l.length:Int) - 1)=((l.length - 1:Nat):Int) from by omega]
 exact this
def atS (l:List bU) (d:D) (w:Bool) (f:Int) (m:Nat) (e:En) (H:Hp):Prop:=∃(n:Nat) (v:AV),n<=l.length/\m=l.length - n/\e.dm=[]/\Own 2 cV 48 0 H v (tE l w f n)/\E2.get e.t 6= .int .i64 n/\E2.get e.t 4= .int .i64 (l.length:Int)/\E2.get e.t 5= .bool w/\E2.get e.t 0=ofD d/\E2.get e.t 3=v
theorem aHA (l:List bU) (d:D) (hd:Sl 2 bJ l d) (hl:l.length<=1000) (hin:∀s∈l,inR s) (w:Bool) (f:Int) (hf:∀h:0<l.length,f=l[0].hi) (hf2: -1000000<=f/\f<=1000000) {m:Nat} {e:En} {H:Hp} {k:AEx->En->Hp->Bool} (h0:atS l d w f m e H)
  (hk:∀t H v,Own 2 cV 48 0 H v (tE l w f l.length)->E2.get t 3=v->k (.exit 0) ⟨t,[]⟩ H=true):cI P G 77 (.loop (aJ 197 [1,1,1,1,0,1,0])) none e H k=true:=by
 refine bA (atS l d w f) (fun m e H hi=> ?_) h0
 clear h0
 obtain⟨n,v,hn,rfl,hdm,hown,g6,g4,g5,g0,g3⟩:=hi
 obtain⟨t,dm⟩:=e
 dsimp only at hdm g6 g4 g5 g0 g3
 subst hdm
 refine bC 200 ?_
 rw [akE]
 by_cases hlt:n<l.length
 ·have hal:=aJO l w f n
  have hinn:=hin _ (List.getElem_mem hlt)
  simp only [inR] at hinn
  have hacc:tE l w f (n+1)=tE l w f n++mC l w n l[n] f:=by rw [tE,dif_pos hlt]
  have hpos:0<l.length:=by omega
  have hgo:∀(z:Arc) (t2:E2) (H2:Hp) (v2:AV),mC l w n l[n] f=[z]->True:=fun _ _ _ _ _=>trivial
  cases w
  ·have hit:mC l false n l[n] f=[⟨l[n].lo,l[n].hi - l[n].lo⟩]:=by simp [mC,toA]
   (try simp (disch:=first|exact bk rfl|omega) only [go_sem,g6,g4,g5,g0,g3,wL hlt,aGP hlt,cL,aX hd cO gD eP hlt,bJ,Int.ofNat_lt,hlt,uM,aM,aI,mE,wF,kY,cM]);repeat' ((with_reducible first | apply aD | apply aE | apply aC)<;>intro h<;>(try simp only [spl] at h)<;>try simp (disch:=first|exact bk rfl|omega) only [go_sem,g6,g4,g5,g0,g3,wL hlt,aGP hlt,cL,aX hd cO gD eP hlt,bJ,Int.ofNat_lt,hlt,uM,aM,aI,mE,wF,kY,cM,h])
   refine fV (x:=⟨l[n].lo,l[n].hi - l[n].lo⟩) (lo:=0) jI tZ aDU (hown.frame (by first | omega | (simp (disch:=first|exact bk rfl|omega) only [go_sem]<;>omega)) fun c hc hc2=>by simp (disch:=first|exact bk rfl|omega) only [go_sem,aM,cL]) (by omega) (by (simp (disch:=first|exact bk rfl|omega) only [go_sem,aI,aM];rfl)) (by omega) fun v2 H2 ho2 hn2 hn3 hf hf2=> ?_
   rw [←hit,←hacc] at ho2
   simp (disch:=first|exact bk rfl|omega) only [go_sem,mE,g6]
   refine aZ (m':=l.length - (n+1)) (by omega) ⟨n+1,v2,by omega,rfl,rfl,ho2, ?_, ?_, ?_, ?_, ?_⟩<;>(first | rfl | (simp (disch:=first|exact bk rfl|omega) only [go_sem,g6,g4,g5,g0,g3]<;>rfl))
  ·by_cases hz:n=0
   ·have hit:mC l true n l[n] f=[]:=by simp [mC,hz]
    have ez:((n:Int)=0)=True:=eq_true (by omega)
    (try simp (disch:=first|exact bk rfl|omega) only [go_sem,g6,g4,g5,g0,g3,ez,Int.ofNat_lt,hlt,mE]);repeat' ((with_reducible first | apply aD | apply aE | apply aC)<;>intro h<;>(try simp only [spl] at h)<;>try simp (disch:=first|exact bk rfl|omega) only [go_sem,g6,g4,g5,g0,g3,ez,Int.ofNat_lt,hlt,mE,h])
    rw [hit,List.append_nil] at hacc
    refine aZ (m':=l.length - (n+1)) (by omega) ⟨n+1,v,by omega,rfl,rfl,by rw [hacc];exact hown, ?_, ?_, ?_, ?_, ?_⟩<;>(first | rfl | (simp (disch:=first|exact bk rfl|omega) only [go_sem,g6,g4,g5,g0,g3]<;>rfl))
   ·have ez:((n:Int)=0)=False:=eq_false (by omega)
    by_cases he:n=l.length - 1
    ·have ee:((n:Int)=(l.length:Int) - 1)=True:=eq_true (by omega)
     have hit:mC l true n l[n] f=[⟨l[n].lo,l[n].hi - l[n].lo+1+l[0].hi⟩]:=by rw [hf hpos];unfold mC;rw [if_neg (fun h=>hz h.2),if_pos (show true=true/\n=l.length - 1 from⟨rfl,he⟩)];rfl
     have hin0:=hin _ (List.getElem_mem hpos)
     simp only [inR] at hin0
     (try simp (disch:=first|exact bk rfl|omega) only [go_sem,g6,g4,g5,g0,g3,ez,ee,wL hlt,aGP hlt,raO hpos,cL,wD hd hpos,aX hd cO gD eP hlt,bJ,Int.ofNat_lt,hlt,uM,aM,aI,mE,wF,kY,cM]);repeat' ((with_reducible first | apply aD | apply aE | apply aC)<;>intro h<;>(try simp only [spl] at h)<;>try simp (disch:=first|exact bk rfl|omega) only [go_sem,g6,g4,g5,g0,g3,ez,ee,wL hlt,aGP hlt,raO hpos,cL,wD hd hpos,aX hd cO gD eP hlt,bJ,Int.ofNat_lt,hlt,uM,aM,aI,mE,wF,kY,cM,h])
     refine fV (x:=⟨l[n].lo,l[n].hi - l[n].lo+1+l[0].hi⟩) (lo:=0) jI tZ aDU (hown.frame (by first | omega | (simp (disch:=first|exact bk rfl|omega) only [go_sem]<;>omega)) fun c hc hc2=>by simp (disch:=first|exact bk rfl|omega) only [go_sem,aM,cL]) (by omega) (by (simp (disch:=first|exact bk rfl|omega) only [go_sem,aI,aM];rfl)) (by omega) fun v2 H2 ho2 hn2 hn3 hf hf2=> ?_
     rw [←hit,←hacc] at ho2
     simp (disch:=first|exact bk rfl|omega) only [go_sem,mE,g6]
     refine aZ (m':=l.length - (n+1)) (by omega) ⟨n+1,v2,by omega,rfl,rfl,ho2, ?_, ?_, ?_, ?_, ?_⟩<;>(first | rfl | (simp (disch:=first|exact bk rfl|omega) only [go_sem,g6,g4,g5,g0,g3]<;>rfl))
    ·have ee:((n:Int)=(l.length:Int) - 1)=False:=eq_false (by omega)
     have hit:mC l true n l[n] f=[⟨l[n].lo,l[n].hi - l[n].lo⟩]:=by simp only [mC,toA];rw [if_neg (by omega),if_neg (by omega)]
     (try simp (disch:=first|exact bk rfl|omega) only [go_sem,g6,g4,g5,g0,g3,ez,ee,wL hlt,aGP hlt,cL,aX hd cO gD eP hlt,bJ,Int.ofNat_lt,hlt,uM,aM,aI,mE,wF,kY,cM]);repeat' ((with_reducible first | apply aD | apply aE | apply aC)<;>intro h<;>(try simp only [spl] at h)<;>try simp (disch:=first|exact bk rfl|omega) only [go_sem,g6,g4,g5,g0,g3,ez,ee,wL hlt,aGP hlt,cL,aX hd cO gD eP hlt,bJ,Int.ofNat_lt,hlt,uM,aM,aI,mE,wF,kY,cM,h])
     refine fV (x:=⟨l[n].lo,l[n].hi - l[n].lo⟩) (lo:=0) jI tZ aDU (hown.frame (by first | omega | (simp (disch:=first|exact bk rfl|omega) only [go_sem]<;>omega)) fun c hc hc2=>by simp (disch:=first|exact bk rfl|omega) only [go_sem,aM,cL]) (by omega) (by (simp (disch:=first|exact bk rfl|omega) only [go_sem,aI,aM];rfl)) (by omega) fun v2 H2 ho2 hn2 hn3 hf hf2=> ?_
     rw [←hit,←hacc] at ho2
     simp (disch:=first|exact bk rfl|omega) only [go_sem,mE,g6]
     refine aZ (m':=l.length - (n+1)) (by omega) ⟨n+1,v2,by omega,rfl,rfl,ho2, ?_, ?_, ?_, ?_, ?_⟩<;>(first | rfl | (simp (disch:=first|exact bk rfl|omega) only [go_sem,g6,g4,g5,g0,g3]<;>rfl))
 ·have hnl:n=l.length:=by omega
  subst hnl
  (try simp (disch:=first|exact bk rfl|omega) only [go_sem,g6,g4,g5,g0,g3,Int.ofNat_lt,hlt]);repeat' ((with_reducible first | apply aD | apply aE | apply aC)<;>intro h<;>(try simp only [spl] at h)<;>try simp (disch:=first|exact bk rfl|omega) only [go_sem,g6,g4,g5,g0,g3,Int.ofNat_lt,hlt,h])
  exact hk _ _ v hown (eg rfl g3)
open Classical in
noncomputable def kM (l:List bU):List Arc:=tE l (decide (xV l)) (if h:0<l.length then l[0].hi else 0) l.length
theorem aER (l:List bU) (d:D) (hd:Sl 2 bJ l d) (hl:l.length<=1000) (hin:∀s∈l,inR s):CQ P G 197 [d] (Sl 2 cV (kM l)):=by
 classical
 refine CQ.enter hG ?_
 have hend:∀(w:Bool),w=decide (xV l)->∀(t:E2) (H:Hp),E2.get t 6= .int .i64 0->E2.get t 4= .int .i64 (l.length:Int)->E2.get t 5= .bool w->E2.get t 0=ofD d->E2.get t 3= .nils->
   cI P G 77 (.loop (aJ 197 [1,1,1,1,0,1,0])) none ⟨t,[]⟩ H (fun x e5 H5=>aW 0 x (fun _=>aO .normal (fun _=>cd P G 195 77 (aJ 197 [1,1,1,1,1]) none e5 H5 fun x e H=>aS P G Tryz.f197 ⟨cd P G 200,dY P G⟩ (kU (Sl 2 cV (kM l))) x e H) (fun x=>aS P G Tryz.f197 ⟨cd P G 200,dY P G⟩ (kU (Sl 2 cV (kM l))) x e5 H5)) (fun x=>aO x (fun _=>cd P G 195 77 (aJ 197 [1,1,1,1,1]) none e5 H5 fun x e H=>aS P G Tryz.f197 ⟨cd P G 200,dY P G⟩ (kU (Sl 2 cV (kM l))) x e H) (fun x=>aS P G Tryz.f197 ⟨cd P G 200,dY P G⟩ (kU (Sl 2 cV (kM l))) x e5 H5)))=true:=by
  intro w hw t H g6 g4 g5 g0 g3
  have hf2: -1000000<=(if h:0<l.length then l[0].hi else 0)/\(if h:0<l.length then l[0].hi else 0)<=1000000:=by
   split
   ·rename_i h;have:=hin _ (List.getElem_mem h);simp only [inR] at this;omega
   ·omega
  refine aHA l d hd hl hin w (if h:0<l.length then l[0].hi else 0) (fun h=>by rw [dif_pos h]) hf2 (m:=l.length) ⟨0,.nils,Nat.zero_le _,rfl,rfl,.inl ⟨rfl,rfl⟩,g6,g4,g5,g0,g3⟩ fun t H v ho g3=> ?_
  simp (disch:=first|exact bk rfl|omega) only [go_sem,ajT,a1S,g3]
  refine ho.ret jI fun r hr=> ?_
  unfold kM
  rw [←hw]
  exact hr
 by_cases h1:1<l.length
 ·have e1:((1:Int)<(l.length:Int))=True:=eq_true (by omega)
  have hpos:0<l.length:=by omega
  have hmx:max ((l.length:Int) - 1) 0=(l.length:Int) - 1:=by omega
  by_cases h2:l[0].lo=0
  ·have e2:=eq_true h2
   by_cases h3:l[l.length - 1].hi=43199
   ·have e3:=eq_true h3
    simp (disch:=first|exact bk rfl|omega) only [go_sem,acS,e1,e2,e3,hmx,aK hd cO,wD hd hpos,raZ hpos,aLU hd h1,wL (show l.length - 1<l.length by omega),bJ]
    refine hend true (by symm;exact decide_eq_true ⟨h1,h2,h3⟩) _ _ ?_ ?_ ?_ ?_ ?_<;>(first | rfl | (simp (disch:=first|exact bk rfl|omega) only [go_sem]<;>rfl))
   ·have e3:=eq_false h3
    simp (disch:=first|exact bk rfl|omega) only [go_sem,acS,e1,e2,e3,hmx,aK hd cO,wD hd hpos,raZ hpos,aLU hd h1,wL (show l.length - 1<l.length by omega),bJ]
    refine hend false (by symm;exact decide_eq_false fun⟨_,_,h⟩=>h3 h) _ _ ?_ ?_ ?_ ?_ ?_<;>(first | rfl | (simp (disch:=first|exact bk rfl|omega) only [go_sem]<;>rfl))
  ·have e2:=eq_false h2
   simp (disch:=first|exact bk rfl|omega) only [go_sem,acS,e1,e2,hmx,aK hd cO,wD hd hpos,raZ hpos,aLU hd h1,bJ]
   refine hend false (by symm;exact decide_eq_false fun⟨_,h,_⟩=>h2 h) _ _ ?_ ?_ ?_ ?_ ?_<;>(first | rfl | (simp (disch:=first|exact bk rfl|omega) only [go_sem]<;>rfl))
 ·have e1:((1:Int)<(l.length:Int))=False:=eq_false (by omega)
  simp (disch:=first|exact bk rfl|omega) only [go_sem,acS,e1,aK hd cO,bJ]
  refine hend false (by symm;exact decide_eq_false fun⟨h,_⟩=>h1 h) _ _ ?_ ?_ ?_ ?_ ?_<;>(first | rfl | (simp (disch:=first|exact bk rfl|omega) only [go_sem]<;>rfl))
set_option maxHeartbeats 4000000
theorem aVE (x y:bU) (d:D) (hd:Sl 2 bJ [x,y] d) (hin:∀s∈[x,y],inR s) (w1:x.lo=0) (w2:y.hi=43199) {t:E2} {H:Hp} {v:AV} (hown:Own 2 cV 48 0 H v ([x,y].map toA)) (g0:E2.get t 0=ofD d) (g3:E2.get t 3=v) {Q:D->Prop} (hQ:∀r,Sl 2 cV [⟨y.lo,y.hi - y.lo+(x.hi - x.lo+1)⟩] r->Q r):
  cd P G 197 62 (aJ 162 [1,1,1]) none ⟨t,[]⟩ H (fun x e H=>aS P G Tryz.f162 ⟨cd P G 200,dY P G⟩ (kU Q) x e H)=true:=by
 rw [qB]
 obtain⟨b,rfl,hb1,hb2,hgb⟩:=hown.at (n:=0) (by simp)
 have hgb':H.get b=some (.cells (some 48) false [.int .i64 x.lo,.int .i64 (x.hi - x.lo),.int .i64 y.lo,.int .i64 (y.hi - y.lo)]):=hgb
 have hx:=hin x (by simp)
 have hl:=hin y (by simp)
 simp only [inR] at hx hl
 have lnA:∀(H':Hp) (k:AV->Bool),bH P 168 (.sl b 0 2 2 none) H' k=k (.int .i64 2):=fun H' k=>by have:=hown.len jL H' k;simpa using this
 have ix0:∀k:AV->Bool,aN P 168 (.sl b 0 2 2 none) (.int .i64 0) k=k (.ptr b 0):=fun k=>by have:=eI (k:=k) (b:=b) (off:=0) (len:=2) (c:=none) jL aTP aCE (n:=0) (by omega) (i:= .i64);simpa using this
 have ixL:∀k:AV->Bool,aN P 168 (.sl b 0 2 2 none) (.int .i64 1) k=k (.ptr b 2):=fun k=>by have:=eI (k:=k) (b:=b) (off:=0) (len:=2) (c:=none) jL aTP aCE (n:=1) (by omega) (i:= .i64);simpa using this
 have ixS:∀k:AV->Bool,aN P 76 (ofD d) (.int .i64 1) k=k (.dat (.ptr (cB bJ [x,y]) 2)):=fun k=>by have:=aX (k:=k) hd cO gD eP (n:=1) (by simp) (i:= .i64);simpa using this
 have rS:(bD (cB bJ [x,y]))[3]? =some (.int .i64 y.hi):=rfl
 have e1:=eq_true w1
 have e2:=eq_true w2
 simp only [List.map,List.length_cons,List.length_nil,Nat.zero_add,Nat.reduceAdd] at g3
 (try simp (disch:=first|exact bk rfl|omega) only [go_sem,g0,g3,lnA,ix0,ixL,ixS,rS,e1,e2,hgb',wD hd (by simp),rd0,rd1,Int.reduceLT,Int.reduceSub,aM,aI,Int.reduceEq]);repeat' ((with_reducible first | apply aD | apply aE | apply aC)<;>intro h<;>(try simp only [spl] at h)<;>try simp (disch:=first|exact bk rfl|omega) only [go_sem,g0,g3,lnA,ix0,ixL,ixS,rS,e1,e2,hgb',wD hd (by simp),rd0,rd1,Int.reduceLT,Int.reduceSub,aM,aI,Int.reduceEq,h])
 have hown2:Own 2 cV 48 0 (H.setb b (some (.cells (some 48) false [.int .i64 x.lo,.int .i64 (x.hi - x.lo),.int .i64 y.lo,.int .i64 (y.hi - y.lo+(x.hi - x.lo+1))]))) (.sl b 0 2 2 none) [toA x,⟨y.lo,y.hi - y.lo+(x.hi - x.lo+1)⟩]:= .inr ⟨b,none,rfl,.inl rfl,hb1,by simp (disch:=first|exact bk rfl|omega) only [go_sem];exact hb2,by simp (disch:=first|exact bk rfl|omega) only [go_sem];rfl⟩
 obtain⟨y',hy,_,hyr⟩:=hown2.lo_ jI afP aCE (n:=1) (by simp) .i64
 have hy':∀k,cQ P (H.setb b (some (.cells (some 48) false [.int .i64 x.lo,.int .i64 (x.hi - x.lo),.int .i64 y.lo,.int .i64 (y.hi - y.lo+(x.hi - x.lo+1))]))) 168 (.sl b 0 2 2 none) (some (.int .i64 1)) none none k=k y':=fun k=>by have:=hy k;simpa using this
 rw [hy']
 simp (disch:=first|exact bk rfl|omega) only [go_sem,aCD]
 obtain⟨r,I,hr1,hr2⟩:=hyr _ (fun _ _ _ _ _=>rfl)
 exact iO (hQ r (by simpa using hr2)) hr1
theorem aWS (x y z:bU) (d:D) (hd:Sl 2 bJ [x,y,z] d) (hin:∀s∈[x,y,z],inR s) (w1:x.lo=0) (w2:z.hi=43199) {t:E2} {H:Hp} {v:AV} (hown:Own 2 cV 48 0 H v ([x,y,z].map toA)) (g0:E2.get t 0=ofD d) (g3:E2.get t 3=v) {Q:D->Prop} (hQ:∀r,Sl 2 cV [toA y,⟨z.lo,z.hi - z.lo+(x.hi - x.lo+1)⟩] r->Q r):
  cd P G 197 62 (aJ 162 [1,1,1]) none ⟨t,[]⟩ H (fun x e H=>aS P G Tryz.f162 ⟨cd P G 200,dY P G⟩ (kU Q) x e H)=true:=by
 rw [qB]
 obtain⟨b,rfl,hb1,hb2,hgb⟩:=hown.at (n:=0) (by simp)
 have hgb':H.get b=some (.cells (some 48) false [.int .i64 x.lo,.int .i64 (x.hi - x.lo),.int .i64 y.lo,.int .i64 (y.hi - y.lo),.int .i64 z.lo,.int .i64 (z.hi - z.lo)]):=hgb
 have hx:=hin x (by simp)
 have hl:=hin z (by simp)
 simp only [inR] at hx hl
 have lnA:∀(H':Hp) (k:AV->Bool),bH P 168 (.sl b 0 3 2 none) H' k=k (.int .i64 3):=fun H' k=>by have:=hown.len jL H' k;simpa using this
 have ix0:∀k:AV->Bool,aN P 168 (.sl b 0 3 2 none) (.int .i64 0) k=k (.ptr b 0):=fun k=>by have:=eI (k:=k) (b:=b) (off:=0) (len:=3) (c:=none) jL aTP aCE (n:=0) (by omega) (i:= .i64);simpa using this
 have ixL:∀k:AV->Bool,aN P 168 (.sl b 0 3 2 none) (.int .i64 2) k=k (.ptr b 4):=fun k=>by have:=eI (k:=k) (b:=b) (off:=0) (len:=3) (c:=none) jL aTP aCE (n:=2) (by omega) (i:= .i64);simpa using this
 have ixS:∀k:AV->Bool,aN P 76 (ofD d) (.int .i64 2) k=k (.dat (.ptr (cB bJ [x,y,z]) 4)):=fun k=>by have:=aX (k:=k) hd cO gD eP (n:=2) (by simp) (i:= .i64);simpa using this
 have rS:(bD (cB bJ [x,y,z]))[5]? =some (.int .i64 z.hi):=rfl
 have e1:=eq_true w1
 have e2:=eq_true w2
 simp only [List.map,List.length_cons,List.length_nil,Nat.zero_add,Nat.reduceAdd] at g3
 (try simp (disch:=first|exact bk rfl|omega) only [go_sem,g0,g3,lnA,ix0,ixL,ixS,rS,e1,e2,hgb',wD hd (by simp),rd0,rd1,Int.reduceLT,Int.reduceSub,aM,aI,Int.reduceEq]);repeat' ((with_reducible first | apply aD | apply aE | apply aC)<;>intro h<;>(try simp only [spl] at h)<;>try simp (disch:=first|exact bk rfl|omega) only [go_sem,g0,g3,lnA,ix0,ixL,ixS,rS,e1,e2,hgb',wD hd (by simp),rd0,rd1,Int.reduceLT,Int.reduceSub,aM,aI,Int.reduceEq,h])
 have hown2:Own 2 cV 48 0 (H.setb b (some (.cells (some 48) false [.int .i64 x.lo,.int .i64 (x.hi - x.lo),.int .i64 y.lo,.int .i64 (y.hi - y.lo),.int .i64 z.lo,.int .i64 (z.hi - z.lo+(x.hi - x.lo+1))]))) (.sl b 0 3 2 none) [toA x,toA y,⟨z.lo,z.hi - z.lo+(x.hi - x.lo+1)⟩]:= .inr ⟨b,none,rfl,.inl rfl,hb1,by simp (disch:=first|exact bk rfl|omega) only [go_sem];exact hb2,by simp (disch:=first|exact bk rfl|omega) only [go_sem];rfl⟩
 obtain⟨y',hy,_,hyr⟩:=hown2.lo_ jI afP aCE (n:=1) (by simp) .i64
 have hy':∀k,cQ P (H.setb b (some (.cells (some 48) false [.int .i64 x.lo,.int .i64 (x.hi - x.lo),.int .i64 y.lo,.int .i64 (y.hi - y.lo),.int .i64 z.lo,.int .i64 (z.hi - z.lo+(x.hi - x.lo+1))]))) 168 (.sl b 0 3 2 none) (some (.int .i64 1)) none none k=k y':=fun k=>by have:=hy k;simpa using this
 rw [hy']
 simp (disch:=first|exact bk rfl|omega) only [go_sem,aCD]
 obtain⟨r,I,hr1,hr2⟩:=hyr _ (fun _ _ _ _ _=>rfl)
 exact iO (hQ r (by simpa using hr2)) hr1
theorem wC {l:List bU} (h1:1<l.length) (hl:l.length<=3):(∃x y,l=[x,y])∨∃x y z,l=[x,y,z]:=by
 match l,h1,hl with
 | [x,y],_,_=>exact .inl ⟨x,y,rfl⟩
 | [x,y,z],_,_=>exact .inr ⟨x,y,z,rfl⟩
theorem zG (l:List bU) (f:Int):∀n,n<=l.length->tE l false f n=(l.take n).map toA
 | 0,_=>by simp [tE]
 | n+1,h=>by
  rw [tE,zG l f n (by omega),dif_pos (by omega),List.take_succ_eq_append_getElem (by omega),List.map_append]
  simp [mC]
theorem uJ {l:List bU} (h:¬xV l):kM l=l.map toA:=by
 classical
 unfold kM
 rw [decide_eq_false h,zG l _ _ (Nat.le_refl _),List.take_length]
theorem zA {x y:bU} (w1:x.lo=0) (w2:y.hi=43199):kM [x,y]=[⟨y.lo,y.hi - y.lo+(x.hi - x.lo+1)⟩]:=by
 classical
 unfold kM
 rw [decide_eq_true (show xV [x,y] from⟨by simp,w1,w2⟩)]
 simp [tE,mC,w1]
 omega
theorem aFT {x y z:bU} (w1:x.lo=0) (w2:z.hi=43199):kM [x,y,z]=[toA y,⟨z.lo,z.hi - z.lo+(x.hi - x.lo+1)⟩]:=by
 classical
 unfold kM
 rw [decide_eq_true (show xV [x,y,z] from⟨by simp,w1,w2⟩)]
 simp [tE,mC,w1]
 omega
def a5K (l:List bU) (d:D) (m:Nat) (e:En) (H:Hp):Prop:=∃(n:Nat) (v:AV),n<=l.length/\m=l.length - n/\e.dm=[]/\Own 2 cV 48 0 H v ((l.take n).map toA)/\E2.get e.t 9= .int .i64 n/\E2.get e.t 8= .int .i64 (l.length:Int)/\E2.get e.t 7=ofD d/\E2.get e.t 0=ofD d/\E2.get e.t 3=v
theorem aEB (l:List bU) (d:D) (hd:Sl 2 bJ l d) (hl:l.length<=3) (hin:∀s∈l,inR s):CQ P G 162 [d] (Sl 2 cV (kM l)):=by
 refine CQ.enter hG ?_
 (try simp (disch:=first|exact bk rfl|omega) only [go_sem,arD,aCD,aK hd cO]);repeat' ((with_reducible first | apply aD | apply aE | apply aC)<;>intro h<;>(try simp only [spl] at h)<;>try simp (disch:=first|exact bk rfl|omega) only [go_sem,arD,aCD,aK hd cO,h])
 refine bA (a5K l d) (fun m e H hi=> ?_) (m:=l.length) ?_
 rotate_left
 ·refine⟨0,.nils,Nat.zero_le _,rfl,rfl,.inl ⟨rfl,rfl⟩, ?_, ?_, ?_, ?_, ?_⟩<;>(first | rfl | (simp (disch:=first|exact bk rfl|omega) only [go_sem]<;>rfl))
 obtain⟨n,v,hn,rfl,hdm,hown,g9,g8,g7,g0,g3⟩:=hi
 obtain⟨t,dm⟩:=e
 dsimp only at hdm g9 g8 g7 g0 g3
 subst hdm
 refine bC 200 ?_
 rw [anS]
 by_cases hlt:n<l.length
 ·have hinn:=hin _ (List.getElem_mem hlt)
  simp only [inR] at hinn
  (try simp (disch:=first|exact bk rfl|omega) only [go_sem,g9,g8,g7,g0,g3,wL hlt,aGP hlt,aX hd cO gD eP hlt,aY bT hlt,bJ,Int.ofNat_lt,hlt,uM,aM,aI,kY,cM]);repeat' ((with_reducible first | apply aD | apply aE | apply aC)<;>intro h<;>(try simp only [spl] at h)<;>try simp (disch:=first|exact bk rfl|omega) only [go_sem,g9,g8,g7,g0,g3,wL hlt,aGP hlt,aX hd cO gD eP hlt,aY bT hlt,bJ,Int.ofNat_lt,hlt,uM,aM,aI,kY,cM,h])
  refine fV (x:=toA l[n]) (lo:=0) jI tZ aDU (hown.frame (by first | omega | (simp (disch:=first|exact bk rfl|omega) only [go_sem]<;>omega)) fun c hc hc2=>by simp (disch:=first|exact bk rfl|omega) only [go_sem,aM]) (by omega) (by (simp (disch:=first|exact bk rfl|omega) only [go_sem,aI,aM];rfl)) (by simp;omega) fun v2 H2 ho2 hn2 hn3 hf hf2=> ?_
  simp (disch:=first|exact bk rfl|omega) only [go_sem,g9]
  refine aZ (m':=l.length - (n+1)) (by omega) ⟨n+1,v2,by omega,rfl,rfl,by rw [List.take_succ_eq_append_getElem hlt,List.map_append];exact ho2, ?_, ?_, ?_, ?_, ?_⟩<;>(first | rfl | (simp (disch:=first|exact bk rfl|omega) only [go_sem,g9,g8,g7,g0,g3]<;>rfl))
 rw [List.take_of_length_le (by omega)] at hown
 have hno:¬xV l->∀(H':Hp) (v':AV),Own 2 cV 48 0 H' v' (l.map toA)->kU (Sl 2 cV (kM l)) (.ret v') H'=true:=fun hw H' v' ho=>ho.ret jI fun r hr=>by rw [uJ hw];exact hr
 have hlm:(l.map toA).length=l.length:=List.length_map ..
 by_cases h1:1<l.length
 ·have hpos:0<l.length:=by omega
  have e1:((l.length:Int)<2)=False:=eq_false (by omega)
  by_cases h2:l[0].lo=0
  ·have e2:=eq_true h2
   by_cases h3:l[l.length - 1].hi=43199
   ·simp (disch:=first|exact bk rfl|omega) only [go_sem,g9,g8,g7,g0,g3,Int.ofNat_lt,hlt]
    have hcs:(∃x y,l=[x,y])∨∃x y z,l=[x,y,z]:=by
     exact wC h1 hl
    rcases hcs with⟨x,y,rfl⟩| ⟨x,y,z,rfl⟩
    ·exact aVE x y d hd hin h2 h3 hown (by first | rfl | (simp (disch:=first|exact bk rfl|omega) only [go_sem,g0]<;>rfl)) (by first | rfl | (simp (disch:=first|exact bk rfl|omega) only [go_sem,g3]<;>rfl)) fun r hr=>by rw [zA (x:=x) (y:=y) h2 h3];exact hr
    ·exact aWS x y z d hd hin h2 h3 hown (by first | rfl | (simp (disch:=first|exact bk rfl|omega) only [go_sem,g0]<;>rfl)) (by first | rfl | (simp (disch:=first|exact bk rfl|omega) only [go_sem,g3]<;>rfl)) fun r hr=>by rw [aFT (x:=x) (y:=y) (z:=z) h2 h3];exact hr
   ·have e3:=eq_false h3
    (try simp (disch:=first|exact bk rfl|omega) only [go_sem,g9,g8,g7,g0,g3,e1,e2,e3,Int.ofNat_lt,hlt,hown.len jL,hlm,wD hd hpos,raZ hpos,aLU hd h1,wL (show l.length - 1<l.length by omega),qB,aCD]);repeat' ((with_reducible first | apply aD | apply aE | apply aC)<;>intro h<;>(try simp only [spl] at h)<;>try simp (disch:=first|exact bk rfl|omega) only [go_sem,g9,g8,g7,g0,g3,e1,e2,e3,Int.ofNat_lt,hlt,hown.len jL,hlm,wD hd hpos,raZ hpos,aLU hd h1,wL (show l.length - 1<l.length by omega),qB,aCD,h])
    exact hno (fun⟨_,_,h⟩=>h3 h) _ _ hown
  ·have e2:=eq_false h2
   (try simp (disch:=first|exact bk rfl|omega) only [go_sem,g9,g8,g7,g0,g3,e1,e2,Int.ofNat_lt,hlt,hown.len jL,hlm,wD hd hpos,raZ hpos,aLU hd h1,qB,aCD]);repeat' ((with_reducible first | apply aD | apply aE | apply aC)<;>intro h<;>(try simp only [spl] at h)<;>try simp (disch:=first|exact bk rfl|omega) only [go_sem,g9,g8,g7,g0,g3,e1,e2,Int.ofNat_lt,hlt,hown.len jL,hlm,wD hd hpos,raZ hpos,aLU hd h1,qB,aCD,h])
   exact hno (fun⟨_,h,_⟩=>h2 h) _ _ hown
 ·have e1:((l.length:Int)<2)=True:=eq_true (by omega)
  (try simp (disch:=first|exact bk rfl|omega) only [go_sem,g9,g8,g7,g0,g3,e1,Int.ofNat_lt,hlt,hown.len jL,hlm,qB,aCD]);repeat' ((with_reducible first | apply aD | apply aE | apply aC)<;>intro h<;>(try simp only [spl] at h)<;>try simp (disch:=first|exact bk rfl|omega) only [go_sem,g9,g8,g7,g0,g3,e1,Int.ofNat_lt,hlt,hown.len jL,hlm,qB,aCD,h])
  exact hno (fun⟨h,_⟩=>h1 h) _ _ hown
end Go.S5
namespace Go.Ev
noncomputable section
section
variable {P : Program} {G : bK} {H : Hp}
def rU (P:Program) (G:bK) (nt:Nat) (b:Code) (ro:Option Nat) (k:AEx->En->Hp->Bool):Nat->En->Hp->Bool
 | 0,_,_=>false
 | n+1,e,H=>cI P G nt b ro e H (fun x e' H'=>aO x (fun _=>rU P G nt b ro k n e' H') (fun x=>k x e' H'))
theorem lU {nt:Nat} {b:Code} {ro:Option Nat} {k:AEx->En->Hp->Bool} (n:Nat) {e:En} {H:Hp} (h:rU P G nt b ro k n e H=true):cI P G nt (.loop b) ro e H k=true:=by
 refine bA (fun m e H=>rU P G nt b ro k m e H=true) (fun m e H hi=> ?_) (m:=n) h
 cases m with
 | zero=>cases hi
 | succ m=>
  refine aES (fun x e' H' hx=> ?_) (show cI P G nt b ro e H (fun x e' H'=>aO x (fun _=>rU P G nt b ro k m e' H') (fun x=>k x e' H'))=true from hi)
  cases x with
  | normal=>exact aZ (Inv:=fun m e H=>rU P G nt b ro k m e H=true) (m':=m) (Nat.lt_succ_self m) (show rU P G nt b ro k m e' H'=true from hx)
  | exit i=>exact hx
  | ret=>exact hx
  | pan v c=>exact hx
theorem cX {nt:Nat} {b:Code} {ro:Option Nat} {k:AEx->En->Hp->Bool} {n:Nat} {e:En} {H:Hp} (h:cd P G 200 nt b ro e H (fun x e' H'=>aO x (fun _=>rU P G nt b ro k n e' H') (fun x=>k x e' H'))=true):rU P G nt b ro k (n+1) e H=true:=bC 200 h
@[congr] theorem abG {nt:Nat} {b:Code} {ro:Option Nat} {k:AEx->En->Hp->Bool} {n:Nat} {e e':En} {H H':Hp} {pM:Prop} (he:e=e') (hH:H=H') (hM:Mk=pM):rU P G nt b ro k n e H=rU P G nt b ro k n e' H':=by rw [he,hH]
theorem sJ {t e:TypeId} {sz b1:Nat} {c1:Option Nat} {el1:Option TypeId} {ro1:Bool} {cs:List AV} {k:AV->Hp->Bool} (ht:ApT P t e sz) (hb:H.get b1=some (.cells el1 ro1 cs)) (hl:cs.length=sz) (hone:cs.all one=true)
  (h:k (.sl H.nx 0 1 sz none) (H.push (.cells (some e) false cs))=true):cE P H t t .nils (.sl b1 0 1 sz c1) k=true:=by
 unfold cE
 rw [ht.h1]
 dsimp only
 rw [ht.h2,ht.h3,ht.h4,ht.h5]
 dsimp only
 rw [ht.h6]
 unfold fN
 dsimp only
 rw [Nat.beq_refl,hb]
 dsimp only
 rw [Nat.one_mul,List.drop_zero,fR _ _ (by omega),List.take_of_length_le (by omega)]
 dsimp only
 rw [bY,hone]
 dsimp only
 rw [Hp.new_r]
 exact h
theorem aRW {t e:TypeId} {sz b1 b n:Nat} {c1:Option Nat} {el1:Option TypeId} {ro1:Bool} {cs old:List AV} {k:AV->Hp->Bool} (ht:ApT P t e sz) (hb:H.get b1=some (.cells el1 ro1 cs)) (hl:cs.length=sz) (hone:cs.all one=true)
  (hb2:H.get b=some (.cells (some e) false old)) (hold:old.length=n * sz) (hn:n<=1000)
  (h:k (.sl H.nx 0 (n+1) sz none) ((H.setb b none).push (.cells (some e) false (old++cs)))=true):cE P H t t (.sl b 0 n sz none) (.sl b1 0 1 sz c1) k=true:=by
 have hpos:0<sz:=by have:=ht.h4;rw [ht.h6] at this;cases sz with | zero=>cases this | succ n=>omega
 unfold cE
 rw [ht.h1]
 dsimp only
 rw [ht.h2,ht.h3,ht.h4,ht.h5]
 dsimp only
 rw [ht.h6]
 unfold fN
 dsimp only
 rw [Nat.beq_refl,hb]
 dsimp only
 rw [Nat.one_mul,List.drop_zero,fR _ _ (by omega),List.take_of_length_le (by omega)]
 dsimp only
 rw [bY,hone]
 dsimp only
 rw [show Nat.ble (n+(0+1)) 1048576=true from by simp;omega,hb2]
 dsimp only
 rw [List.drop_zero,fR _ _ (by omega),List.take_of_length_le (by omega)]
 dsimp only [xW]
 rw [show Nat.ble (0+(n+(0+1)) * sz) old.length=false from by
  rw [hold]
  cases hb:Nat.ble (0+(n+(0+1)) * sz) (n * sz) with
  | false=>rfl
  | true=>
   have:=Nat.le_of_ble_eq_true hb
   rw [Nat.zero_add,Nat.zero_add,Nat.add_mul] at this
   omega]
 dsimp only
 rw [bY,Hp.put_r,Hp.new_r,bQ]
 have hel:yC 0 none (some e) e=some e:=by simp [yC,Nat.beq_refl]
 rw [hel]
 exact h
end
end
end Go.Ev
namespace Go.S5
open Go.Ev Go.Proofs
mutual
def nO:aF->Nat
 | .mk _ names _ _ _ _ _ kids _=>names.length+nOs kids
def nOs:List aF->Nat
 | []=>0
 | o::l=>nO o+nOs l
end
theorem arQ (o:aF):nO o=o.names.length+nOs o.kids:=by cases o;rw [nO];rfl
theorem aGY:∀(a b:List aF),nOs (a++b)=nOs a+nOs b
 | [],b=>by simp [nOs]
 | o::a,b=>by
  show nOs (o::(a++b))=_
  rw [nOs,nOs,aGY a b];omega
theorem aYZ {l:List aF} {n:Nat} (h:n<l.length):nOs (l.take n)+nO l[n]<=nOs l:=by
 have h1:=aGY (l.take (n+1)) (l.drop (n+1))
 rw [List.take_append_drop,List.take_succ_eq_append_getElem h,aGY] at h1
 simp only [nOs,Nat.add_zero] at h1
 omega
theorem aOR:∀(xs:List Str) (s:Str),(jM xs s).length<=xs.length+1
 | [],s=>by simp [jM]
 | x::xs,s=>by
  have:=aOR xs s
  simp only [jM]
  split
  ·simp;omega
  ·split<;>simp
theorem aAR (names:List Str):∀xs:List Str,(names.foldl jM xs).length<=xs.length+names.length:=by
 induction names with
 | nil=>intro xs;simp
 | cons s names ih=>
  intro xs
  have h1:=ih (jM xs s)
  have h2:=aOR xs s
  simp only [List.foldl_cons,List.length_cons]
  omega
mutual
theorem aOS:∀(o:aF) (xs:List Str),(jY xs o).length<=xs.length+nO o
 | .mk _ names _ _ _ _ _ kids _,xs=>by
  rw [jY,nO]
  have h1:=aBG kids (names.foldl jM xs)
  have h2:=aAR names xs
  omega
theorem aBG:∀(os:List aF) (xs:List Str),(gQ xs os).length<=xs.length+nOs os
 | [],xs=>by rw [gQ,nOs];omega
 | o::os,xs=>by
  rw [gQ,nOs]
  have h1:=aBG os (jY xs o)
  have h2:=aOS o xs
  omega
end
def a3A (o:aF) (xs:List Str) (m:Nat) (e:En) (H:Hp):Prop:=∃(n:Nat) (d:D),n<=o.names.length/\m=o.names.length - n/\e.dm=[]/\Sl 1 fH ((o.names.take n).foldl jM xs) d/\E2.get e.t 5= .int .i64 n/\E2.get e.t 0=ofD d/\E2.get e.t 3= .ptr 0 0/\H.get 0=some (.cells (some 40) false (bP o))
def aqR (o:aF) (xs:List Str) (m:Nat) (e:En) (H:Hp):Prop:=∃(n:Nat) (d:D),n<=o.kids.length/\m=o.kids.length - n/\e.dm=[]/\Sl 1 fH (gQ (o.names.foldl jM xs) (o.kids.take n)) d/\E2.get e.t 6= .int .i64 n/\E2.get e.t 0=ofD d/\E2.get e.t 3= .ptr 0 0/\H.get 0=some (.cells (some 40) false (bP o))
theorem aLV {o:aF} (ho:dC o):∀(xs:List Str) (d:D),Sl 1 fH xs d->xs.length+nO o<=100000->CQ P G 108 [d,.agg (aV o)] (Sl 1 fH (jY xs o)):=by
 induction ho with
 | mk kind names dn gap ms lo hi kids dk hn hnl hl hk hkl ho ih=>
  have hO:dC (.mk kind names dn gap ms lo hi kids dk):= .mk kind names dn gap ms lo hi kids dk hn hnl hl hk hkl ho
  generalize hoe:aF.mk kind names dn gap ms lo hi kids dk=o at hO
  have e1:kids=o.kids:=by rw [←hoe];rfl
  subst e1
  clear hoe hn hnl hl hk hkl
  have hn:=hO.sn
  have hnl:=hO.nl
  have hl:=hO.sl
  have hk:=hO.sk
  have hkl:=hO.kl
  intro xs d hd hlen
  rw [arQ] at hlen
  refine CQ.enter hG ?_
  (try simp (disch:=first|exact bk rfl|omega) only [go_sem,aV,apF,aCL]);repeat' ((with_reducible first | apply aD | apply aE | apply aC)<;>intro h<;>(try simp only [spl] at h)<;>try simp (disch:=first|exact bk rfl|omega) only [go_sem,aV,apF,aCL,h])
  refine bA (a3A o xs) (fun m e H hi=> ?_) (m:=o.names.length) ?_
  rotate_left
  ·refine⟨0,d,Nat.zero_le _,rfl,rfl,hd, ?_, ?_, ?_, ?_⟩<;>(first | rfl | (simp (disch:=first|exact bk rfl|omega) only [go_sem,bP]<;>rfl))
  obtain⟨n,d1,hn',rfl,hdm,hd1,g5,g0,g3,hg0⟩:=hi
  obtain⟨t,dm⟩:=e
  dsimp only at hdm g5 g0 g3
  subst hdm
  refine bC 200 ?_
  rw [aiF]
  by_cases hlt:n<o.names.length
  ·have hfl:=aAR (o.names.take n) xs
   rw [List.length_take] at hfl
   (try simp (disch:=first|exact bk rfl|omega) only [go_sem,g5,g0,g3,hg0,bP,aK hn dE,aX hn dE in9 ce9 hlt,bL cC hlt (by decide:0<1),fH,Int.ofNat_lt,hlt,aCL]);repeat' ((with_reducible first | apply aD | apply aE | apply aC)<;>intro h<;>(try simp only [spl] at h)<;>try simp (disch:=first|exact bk rfl|omega) only [go_sem,g5,g0,g3,hg0,bP,aK hn dE,aX hn dE in9 ce9 hlt,bL cC hlt (by decide:0<1),fH,Int.ofNat_lt,hlt,aCL,h])
   refine cS hG [d1,.str o.names[n]] (aHQ _ d1 o.names[n] hd1 (by omega)) rfl fun d2 hd2=> ?_
   simp (disch:=first|exact bk rfl|omega) only [go_sem,g5,g0,g3]
   refine aZ (m':=o.names.length - (n+1)) (by omega) ⟨n+1,d2,by omega,rfl,rfl,by rw [aDN jM hlt];exact hd2, ?_, ?_, ?_, ?_⟩<;>(first | rfl | (simp (disch:=first|exact bk rfl|omega) only [go_sem,g5,g0,g3,hg0]<;>rfl))
  rw [List.take_of_length_le (by omega)] at hd1
  (try simp (disch:=first|exact bk rfl|omega) only [go_sem,g5,g0,g3,hg0,bP,aK hn dE,Int.ofNat_lt,hlt,aVK,aCL]);repeat' ((with_reducible first | apply aD | apply aE | apply aC)<;>intro h<;>(try simp only [spl] at h)<;>try simp (disch:=first|exact bk rfl|omega) only [go_sem,g5,g0,g3,hg0,bP,aK hn dE,Int.ofNat_lt,hlt,aVK,aCL,h])
  refine bA (aqR o xs) (fun m e H hi=> ?_) (m:=o.kids.length) ?_
  rotate_left
  ·refine⟨0,d1,Nat.zero_le _,rfl,rfl,by simpa [gQ] using hd1, ?_, ?_, ?_, ?_⟩<;>(first | rfl | (simp (disch:=first|exact bk rfl|omega) only [go_sem,g5,g0,g3,hg0,bP]<;>rfl))
  clear g5 g0 g3 hg0 hlt hn' hd1
  obtain⟨n,d1,hn',rfl,hdm,hd1,g6,g0,g3,hg0⟩:=hi
  obtain⟨t,dm⟩:=e
  dsimp only at hdm g6 g0 g3
  subst hdm
  refine bC 200 ?_
  rw [amL]
  by_cases hlt:n<o.kids.length
  ·have hm:=List.getElem_mem hlt
   have h1:=aBG (o.kids.take n) (o.names.foldl jM xs)
   have h2:=aAR o.names xs
   have h3:=aYZ hlt
   (try simp (disch:=first|exact bk rfl|omega) only [go_sem,g6,g0,g3,hg0,bP,aK hk dS,aX hk dS mM kC hlt,aY cG hlt,aV,Int.ofNat_lt,hlt,aCL]);repeat' ((with_reducible first | apply aD | apply aE | apply aC)<;>intro h<;>(try simp only [spl] at h)<;>try simp (disch:=first|exact bk rfl|omega) only [go_sem,g6,g0,g3,hg0,bP,aK hk dS,aX hk dS mM kC hlt,aY cG hlt,aV,Int.ofNat_lt,hlt,aCL,h])
   refine cS hG [d1,.agg (aV o.kids[n])] (ih _ hm _ d1 hd1 (by omega)) rfl fun d2 hd2=> ?_
   simp (disch:=first|exact bk rfl|omega) only [go_sem,g6,g0,g3]
   refine aZ (m':=o.kids.length - (n+1)) (by omega) ⟨n+1,d2,by omega,rfl,rfl,by rw [aMQ hlt];exact hd2, ?_, ?_, ?_, ?_⟩<;>(first | rfl | (simp (disch:=first|exact bk rfl|omega) only [go_sem,g6,g0,g3,hg0]<;>rfl))
  ·rw [List.take_of_length_le (by omega)] at hd1
   (try simp (disch:=first|exact bk rfl|omega) only [go_sem,g6,g0,g3,hg0,bP,aK hk dS,Int.ofNat_lt,hlt,aVU,aCL]);repeat' ((with_reducible first | apply aD | apply aE | apply aC)<;>intro h<;>(try simp only [spl] at h)<;>try simp (disch:=first|exact bk rfl|omega) only [go_sem,g6,g0,g3,hg0,bP,aK hk dS,Int.ofNat_lt,hlt,aVU,aCL,h])
   exact aG d1 (by rw [adW];exact hd1)
theorem acJ (blk off cap:Nat) (ss:List (List UInt8)) (w:World) (hH:Go.Sort.Holds encStr w blk off ss.toArray) (hb:blk<w.heap.size) (hs:ss.length<4611686018427387904):
   Calls P 225 #[.slice (some ⟨blk,off,none⟩) ss.length cap] w fun e w'=>e= .returned (.tuple #[])/\∃(n:Nat) (os:Array Obj) (S:List (List UInt8)),S.length=ss.length/\w'=Go.Sort.grow (Go.Sort.putRow encStr (Go.Sort.ahead w n) blk off S.toArray) os:=by
 refine (Tryz.slices_Sort_string blk off cap ss w hH hb hs).mono ?_
 rintro e w' ⟨h1,n,os,h2⟩
 exact⟨h1,n,os,_,List.length_mergeSort _,h2⟩
theorem ahK:mB []= .map false [] 0:=rfl
theorem aRQ {o:aF} (ho:dC o) (hne:uE [] o≠[]) (hlen:(uE [] o).length<=100000):CQ P G 96 [.agg (aV o)] (fun r=>∃l:List Str,Sl 1 fH l r/\l.length=(uE [] o).length):=by
 have n1:=ho.n1
 have k1:=ho.k1
 refine CQ.enter hG ?_
 (try simp (disch:=first|exact bk rfl|omega) only [go_sem,aV,h96]);repeat' ((with_reducible first | apply aD | apply aE | apply aC)<;>intro h<;>(try simp only [spl] at h)<;>try simp (disch:=first|exact bk rfl|omega) only [go_sem,aV,h96,h])
 have hg:=aIQ ho
 unfold aMI at hg
 simp only [aV,nS,uY,yZ] at hg
 refine hg [] 1 _ _ (by simp (disch:=first|exact bk rfl|omega) only [go_sem,ahK]) (by first | omega | (simp (disch:=first|exact bk rfl|omega) only [go_sem]<;>omega)) ?_
 intro H1 hb1 hn1 hf1
 simp only [go_sem] at hn1
 simp (disch:=first|exact bk rfl|omega) only [go_sem]
 refine dA 200 ?_
 (try simp (disch:=first|exact bk rfl|omega) only [go_sem,aqW]);repeat' ((with_reducible first | apply aD | apply aE | apply aC)<;>intro h<;>(try simp only [spl] at h)<;>try simp (disch:=first|exact bk rfl|omega) only [go_sem,aqW,h])
 refine dA 200 ?_
 (try simp (disch:=first|exact bk rfl|omega) only [go_sem,asM]);repeat' ((with_reducible first | apply aD | apply aE | apply aC)<;>intro h<;>(try simp only [spl] at h)<;>try simp (disch:=first|exact bk rfl|omega) only [go_sem,asM,h])
 refine dA 200 ?_
 (try simp (disch:=first|exact bk rfl|omega) only [go_sem,axB]);repeat' ((with_reducible first | apply aD | apply aE | apply aC)<;>intro h<;>(try simp only [spl] at h)<;>try simp (disch:=first|exact bk rfl|omega) only [go_sem,axB,h])
 refine aME (uE [] o) (by omega) H1.nx 1 _ _ (by simp (disch:=first|exact bk rfl|omega) only [go_sem]) (by simp (disch:=first|exact bk rfl|omega) only [go_sem,aM];exact hb1) (by first | omega | (simp (disch:=first|exact bk rfl|omega) only [go_sem]<;>omega)) (by first | omega | (simp (disch:=first|exact bk rfl|omega) only [go_sem]<;>omega)) ?_
 intro v xs lo H2 hown hxs hlo1 hlo2 hfr
 simp (disch:=first|exact bk rfl|omega) only [go_sem]
 have hx0:0<xs.length:=by rw [hxs];exact List.length_pos_iff.2 hne
 obtain⟨b,rfl,hb2,hb3,hgb⟩:=hown.at hx0
 refine acM hG acJ hgb (List.length_pos_iff.1 hx0) (by omega) fun ys hys=> ?_
 simp (disch:=first|exact bk rfl|omega) only [go_sem]
 have hown2:Own 1 fH 9 lo (H2.setb b (some (.cells (some 9) false (bD (cB eS ys))))) (.sl b 0 xs.length 1 none) ys:= .inr ⟨b,none,by rw [hys],.inl rfl,hb2,by simp (disch:=first|exact bk rfl|omega) only [go_sem];exact hb3,by simp (disch:=first|exact bk rfl|omega) only [go_sem];rfl⟩
 exact hown2.ret cC fun r hr=>⟨ys,hr,by omega⟩
theorem aLW (dm:List Dm) (ro:Option Nat) (H:Hp) (k:AEx->En->Hp->Bool):∀(t:E2),cd P G 188 13 (aJ 304 [1,0,1,0,0]) ro ⟨t,dm⟩ H k=
 (Hp.new H (.cells (some 28) false [(.int .i64 0),(.int .i64 0)]) fun b1 H1=>
 bB P H1 28 (.ptr b1 0) (E2.get t 7) fun H2=>
 k .normal ⟨(es t [(5,(.ptr b1 0))]),dm⟩ H2):=aL fun f=>by kernel_rfl
theorem aLT (dm:List Dm) (ro:Option Nat) (H:Hp) (k:AEx->En->Hp->Bool):∀(t:E2),cd P G 188 13 (aJ 304 [1,0,1,0,1]) ro ⟨t,dm⟩ H k=
 (aB P G H 76 (E2.get t 2) fun v1=>
 aB P G H 28 (E2.get t 5) fun v2=>
 bF P 76 1 [(0,v2)] fun k3 r3=>Hp.new H k3 fun b3 H3=>
 cE P H3 76 76 v1 (r3 b3) fun v4 H4=>
 bB P H4 76 (E2.get t 2) v4 fun H5=>
 k .normal ⟨(es t [(8,v1),(9,v2),(10,(r3 b3)),(11,v4)]),dm⟩ H5):=aL fun f=>by kernel_rfl
theorem aNV {l bs lo d:Nat} {env:E2} {H:Hp} {v:AV} {xs:List bU} {s:bU} {k:AV->Hp->Bool} {kp:AV->Hp->Bool} (hl:H.get l=some (.loop .ready none env 13 [7] (aJ 304 [1,0,1,0,0]) (aJ 304 [1,0,1,0,1]) d)) (h2:E2.get env 2= .ptr bs 0)
  (hbs:H.get bs=some (.cells (some 76) false [v])) (hown:Own 2 bJ 28 lo H v xs) (hlo:lo<=H.nx) (hl1:l<lo) (hb1:bs<lo) (hne:l≠bs) (hlen:xs.length<=1000)
  (hk:∀H' v',Own 2 bJ 28 lo H' v' (xs++[s])->H'.get bs=some (.cells (some 76) false [v'])->H.nx<=H'.nx->(∀c,c<lo->c≠bs->H'.get c=H.get c)->k (.bool true) H'=true):
  qH ⟨cd P G 188,dY P G⟩ l [.agg [.int .i64 s.lo,.int .i64 s.hi]] H k kp=true:=by
 refine sP (env':=es (E2.set env 7 (.agg [.int .i64 s.lo,.int .i64 s.hi])) [(5,.ptr H.nx 0)]) (H1:=(H.push (.cells (some 28) false [.int .i64 0,.int .i64 0])).setb H.nx (some (.cells (some 28) false [.int .i64 s.lo,.int .i64 s.hi]))) hl (by decide) (by decide) (fun K=> ?_) (by simp (disch:=first|exact bk rfl|omega) only [go_sem,aM];exact hl) (fun K hk2=> ?_)
 ·rw [aLW,E2.get_set_same _ _ _ (by decide)]
  simp (disch:=first|exact bk rfl|omega) only [go_sem,aI]
 rw [aLT]
 have e2:E2.get (es (E2.set env 7 (.agg [.int .i64 s.lo,.int .i64 s.hi])) [(5,.ptr H.nx 0)]) 2= .ptr bs 0:=by
  rw [qF _ _ _ (by decide) rfl];show E2.get (E2.set env 7 (.agg [.int .i64 s.lo,.int .i64 s.hi])) 2=_;rw [E2.get_set_ne _ _ _ _ (by decide) (by decide) (by decide)];exact h2
 have e5:E2.get (es (E2.set env 7 (.agg [.int .i64 s.lo,.int .i64 s.hi])) [(5,.ptr H.nx 0)]) 5= .ptr H.nx 0:=by
  rw [qF _ _ _ (by decide) rfl];rfl
 rw [e2,e5]
 simp (disch:=first|exact bk rfl|omega) only [go_sem,hbs,aM,aI,sK,cM]
 refine fV (x:=s) (lo:=lo) bT fW wI (hown.frame (by first | omega | (simp (disch:=first|exact bk rfl|omega) only [go_sem]<;>omega)) fun c hc hc2=>by simp (disch:=first|exact bk rfl|omega) only [go_sem,aM]) (by first | omega | (simp (disch:=first|exact bk rfl|omega) only [go_sem]<;>omega)) (by (simp (disch:=first|exact bk rfl|omega) only [go_sem,aI];rfl)) (by omega) fun v' H' hown' hn1 hn2 hf hf2=> ?_
 simp only [go_sem] at hn1
 have hf0:=hf bs hb1
 have hf1:=hf l hl1
 simp (disch:=omega) only [go_sem,aM,aI,hbs] at hf0 hf1
 simp (disch:=first|exact bk rfl|omega) only [go_sem,hf0,hown'.cells,hown'.one]
 refine hk2 _ _ (by simp (disch:=first|exact bk rfl|omega) only [go_sem,aM];exact hf1) ?_
 refine hk _ v' (hown'.frame (by first | omega | (simp (disch:=first|exact bk rfl|omega) only [go_sem]<;>omega)) fun c hc _=>by simp (disch:=first|exact bk rfl|omega) only [go_sem,aM]) (by simp (disch:=first|exact bk rfl|omega) only [go_sem,aM,aI]) (by first | omega | (simp (disch:=first|exact bk rfl|omega) only [go_sem]<;>omega)) fun c hc hcb=> ?_
 by_cases hcl:c=l
 ·subst hcl;simp (disch:=first|exact bk rfl|omega) only [go_sem,aI];exact hl.symm
 ·simp (disch:=first|exact bk rfl|omega) only [go_sem,aM]
  rw [hf c hc]
  simp (disch:=first|exact bk rfl|omega) only [go_sem,aM]
theorem aMV (dm:List Dm) (ro:Option Nat) (H:Hp) (k:AEx->En->Hp->Bool):∀(t:E2),cd P G 191 13 (aJ 304 [1,0,1,0,0]) ro ⟨t,dm⟩ H k=
 (Hp.new H (.cells (some 28) false [(.int .i64 0),(.int .i64 0)]) fun b1 H1=>
 bB P H1 28 (.ptr b1 0) (E2.get t 7) fun H2=>
 k .normal ⟨(es t [(5,(.ptr b1 0))]),dm⟩ H2):=aL fun f=>by kernel_rfl
theorem aLL (dm:List Dm) (ro:Option Nat) (H:Hp) (k:AEx->En->Hp->Bool):∀(t:E2),cd P G 191 13 (aJ 304 [1,0,1,0,1]) ro ⟨t,dm⟩ H k=
 (aB P G H 76 (E2.get t 2) fun v1=>
 aB P G H 28 (E2.get t 5) fun v2=>
 bF P 76 1 [(0,v2)] fun k3 r3=>Hp.new H k3 fun b3 H3=>
 cE P H3 76 76 v1 (r3 b3) fun v4 H4=>
 bB P H4 76 (E2.get t 2) v4 fun H5=>
 k .normal ⟨(es t [(8,v1),(9,v2),(10,(r3 b3)),(11,v4)]),dm⟩ H5):=aL fun f=>by kernel_rfl
theorem zC {l bs lo d:Nat} {env:E2} {H:Hp} {v:AV} {xs:List bU} {s:bU} {k:AV->Hp->Bool} {kp:AV->Hp->Bool} (hl:H.get l=some (.loop .ready none env 13 [7] (aJ 304 [1,0,1,0,0]) (aJ 304 [1,0,1,0,1]) d)) (h2:E2.get env 2= .ptr bs 0)
  (hbs:H.get bs=some (.cells (some 76) false [v])) (hown:Own 2 bJ 28 lo H v xs) (hlo:lo<=H.nx) (hl1:l<lo) (hb1:bs<lo) (hne:l≠bs) (hlen:xs.length<=1000)
  (hk:∀H' v',Own 2 bJ 28 lo H' v' (xs++[s])->H'.get bs=some (.cells (some 76) false [v'])->H.nx<=H'.nx->(∀c,c<lo->c≠bs->H'.get c=H.get c)->k (.bool true) H'=true):
  qH ⟨cd P G 191,dY P G⟩ l [.agg [.int .i64 s.lo,.int .i64 s.hi]] H k kp=true:=by
 refine sP (env':=es (E2.set env 7 (.agg [.int .i64 s.lo,.int .i64 s.hi])) [(5,.ptr H.nx 0)]) (H1:=(H.push (.cells (some 28) false [.int .i64 0,.int .i64 0])).setb H.nx (some (.cells (some 28) false [.int .i64 s.lo,.int .i64 s.hi]))) hl (by decide) (by decide) (fun K=> ?_) (by simp (disch:=first|exact bk rfl|omega) only [go_sem,aM];exact hl) (fun K hk2=> ?_)
 ·rw [aMV,E2.get_set_same _ _ _ (by decide)]
  simp (disch:=first|exact bk rfl|omega) only [go_sem,aI]
 rw [aLL]
 have e2:E2.get (es (E2.set env 7 (.agg [.int .i64 s.lo,.int .i64 s.hi])) [(5,.ptr H.nx 0)]) 2= .ptr bs 0:=by
  rw [qF _ _ _ (by decide) rfl];show E2.get (E2.set env 7 (.agg [.int .i64 s.lo,.int .i64 s.hi])) 2=_;rw [E2.get_set_ne _ _ _ _ (by decide) (by decide) (by decide)];exact h2
 have e5:E2.get (es (E2.set env 7 (.agg [.int .i64 s.lo,.int .i64 s.hi])) [(5,.ptr H.nx 0)]) 5= .ptr H.nx 0:=by
  rw [qF _ _ _ (by decide) rfl];rfl
 rw [e2,e5]
 simp (disch:=first|exact bk rfl|omega) only [go_sem,hbs,aM,aI,sK,cM]
 refine fV (x:=s) (lo:=lo) bT fW wI (hown.frame (by first | omega | (simp (disch:=first|exact bk rfl|omega) only [go_sem]<;>omega)) fun c hc hc2=>by simp (disch:=first|exact bk rfl|omega) only [go_sem,aM]) (by first | omega | (simp (disch:=first|exact bk rfl|omega) only [go_sem]<;>omega)) (by (simp (disch:=first|exact bk rfl|omega) only [go_sem,aI];rfl)) (by omega) fun v' H' hown' hn1 hn2 hf hf2=> ?_
 simp only [go_sem] at hn1
 have hf0:=hf bs hb1
 have hf1:=hf l hl1
 simp (disch:=omega) only [go_sem,aM,aI,hbs] at hf0 hf1
 simp (disch:=first|exact bk rfl|omega) only [go_sem,hf0,hown'.cells,hown'.one]
 refine hk2 _ _ (by simp (disch:=first|exact bk rfl|omega) only [go_sem,aM];exact hf1) ?_
 refine hk _ v' (hown'.frame (by first | omega | (simp (disch:=first|exact bk rfl|omega) only [go_sem]<;>omega)) fun c hc _=>by simp (disch:=first|exact bk rfl|omega) only [go_sem,aM]) (by simp (disch:=first|exact bk rfl|omega) only [go_sem,aM,aI]) (by first | omega | (simp (disch:=first|exact bk rfl|omega) only [go_sem]<;>omega)) fun c hc hcb=> ?_
 by_cases hcl:c=l
 ·subst hcl;simp (disch:=first|exact bk rfl|omega) only [go_sem,aI];exact hl.symm
 ·simp (disch:=first|exact bk rfl|omega) only [go_sem,aM]
  rw [hf c hc]
  simp (disch:=first|exact bk rfl|omega) only [go_sem,aM]
def wZ (x:Arc):List bU:=if x.from_+x.len<43200 then [⟨x.from_,x.from_+x.len⟩] else [⟨x.from_,43199⟩,⟨0,x.from_+x.len - 43200⟩]
theorem anD:iF P 257=true:=by kernel_rfl
theorem agE (t:E2) (H:Hp) (k:fE->Hp->Bool) (i:Evs):aS P G Tryz.f257 i k .normal ⟨t,[]⟩ H=k (.ret (.tup [])) H:=by kernel_rfl
theorem apV {d:Nat} {t:E2} {H:Hp} {k:fE->Hp->Bool} {i:Evs} (hd:H.get d=some (.dfr true)):aS P G Tryz.f304 i k .ret ⟨t,[.mark d]⟩ H=k (.ret (E2.get t 4)) (H.setb d (some (.dfr false))):=by
 have h:aS P G Tryz.f304 i k .ret ⟨t,[.mark d]⟩ H=(match H.get d with | some (.dfr true)=>H.put d (some (.dfr false)) fun H=>k (.ret (E2.get t 4)) H | _=>false):=by kernel_rfl
 rw [h,hd]
 dsimp only
 rw [Hp.put_r]
theorem aIO (x:Arc):fK 2 (bD (cB cV [x]))=some [.int .i64 x.from_,.int .i64 x.len]:=rfl
theorem aKY (x:Arc) (hx:dZ x=true) (d:D) (hd:Sl 2 cV [x] d) (bx:Nat) (H:Hp) (K:AV->Hp->Bool) (hbx:H.get bx=some (.cells (some 168) false [ofD d])) (h1:bx<H.nx)
  (hK:∀v lo H',Own 2 bJ 28 lo H' v (wZ x)->H.nx<=lo->lo<=H'.nx->(∀c,c<H.nx->H'.get c=H.get c)->K v H'=true):cl P G 304 [.nils,.fn 257 [] [.ptr bx 0]] H K=true:=by
 simp only [dZ,decide_eq_true_eq] at hx
 refine dA 200 ?_
 rw [a0X]
 simp (disch:=first|exact bk rfl|omega) only [go_sem]
 refine aQI anD ?_
 refine dA 200 ?_
 simp (disch:=first|exact bk rfl|omega) only [go_sem,List.nil_append,List.cons_append,a2N,hbx,aM,oW hd]
 refine lU 2 (cX ?_)
 rw [aOI]
 let env:E2:=es E2.empty [(0,AV.nils),(1,AV.fn 257 [] [AV.ptr bx 0]),(2,AV.ptr H.nx 0),(4,AV.nils),(6,AV.fn 257 [] [AV.ptr bx 0])]
 have henv2:E2.get env 2= .ptr H.nx 0:=by first | rfl | (simp (disch:=first|exact bk rfl|omega) only [go_sem,env]<;>rfl)
 have hend:∀(v:AV) (H1:Hp),Own 2 bJ 28 (H.nx+4) H1 v (wZ x)->H.nx+4<=H1.nx->H1.get H.nx=some (.cells (some 76) false [v])->H1.get (H.nx+1)=some (.dfr true)->H1.get (H.nx+2)=some (.loop .ready none env 13 [7] (aJ 304 [1,0,1,0,0]) (aJ 304 [1,0,1,0,1]) (H.nx+1))->(∀c,c<H.nx->H1.get c=H.get c)->
   mD (H.nx+2) ⟨env,[.mark (H.nx+1)]⟩ H1 (fun x e5 H5=>aW 0 x (fun _=>aO .normal (fun _=>cd P G 198 13 (aJ 304 [1,1]) none e5 H5 fun x e H=>aS P G Tryz.f304 ⟨cd P G 200,dY P G⟩ (fun en H=>fE.casesOn en (fun v=>K v H) fun _=>false) x e H) (fun x=>aS P G Tryz.f304 ⟨cd P G 200,dY P G⟩ (fun en H=>fE.casesOn en (fun v=>K v H) fun _=>false) x e5 H5)) (fun x=>aO x (fun _=>cd P G 198 13 (aJ 304 [1,1]) none e5 H5 fun x e H=>aS P G Tryz.f304 ⟨cd P G 200,dY P G⟩ (fun en H=>fE.casesOn en (fun v=>K v H) fun _=>false) x e H) (fun x=>aS P G Tryz.f304 ⟨cd P G 200,dY P G⟩ (fun en H=>fE.casesOn en (fun v=>K v H) fun _=>false) x e5 H5)))=true:=by
  intro v H1 hown hnx hg0 hgd hgl hfr
  rw [aHJ hgl]
  simp (disch:=first|exact bk rfl|omega) only [go_sem,aiU,henv2,hg0,aM]
  rw [apV (d:=H.nx+1) (by simp (disch:=first|exact bk rfl|omega) only [go_sem,hgd,aM])]
  simp (disch:=first|exact bk rfl|omega) only [go_sem]
  refine hK v (H.nx+4) _ (hown.frame (Nat.le_refl _) fun c hc _=>by simp (disch:=first|exact bk rfl|omega) only [go_sem,aM]) (by omega) (by first | omega | (simp (disch:=first|exact bk rfl|omega) only [go_sem]<;>omega)) (fun c hc=> ?_)
  simp (disch:=first|exact bk rfl|omega) only [go_sem,aM]
  exact hfr c hc
 by_cases hw:x.from_+x.len<43200
 ·have ew:=eq_true hw
  have hp:wZ x=[⟨x.from_,x.from_+x.len⟩]:=if_pos hw
  simp (disch:=first|exact bk rfl|omega) only [go_sem,ew,oW hd,yD hd,aIO,ra0,ra1,Int.reduceLT,jX,aM,aI]
  rw [yR]
  refine aNV (s:=⟨x.from_,x.from_+x.len⟩) (lo:=H.nx+4) (bs:=H.nx) (d:=H.nx+1) (env:=env) (v:= .nils) (xs:=[]) (by simp (disch:=first|exact bk rfl|omega) only [go_sem,aM,aI];rfl) henv2 (by simp (disch:=first|exact bk rfl|omega) only [go_sem,aM,aI]) (.inl ⟨rfl,rfl⟩) (by first | omega | (simp (disch:=first|exact bk rfl|omega) only [go_sem]<;>omega)) (by omega) (by omega) (by omega) (by simp) fun H1 v1 ho1 hb1 hn1 hf1=> ?_
  simp (disch:=first|exact bk rfl|omega) only [go_sem,aYQ,Int.reduceAdd]
  refine cX ?_
  rw [aOI]
  simp (disch:=first|exact bk rfl|omega) only [go_sem,oW hd,Int.reduceLT,agE]
  refine hend v1 _ (by rw [hp];exact ho1) (by simp only [go_sem] at hn1;omega) hb1 ?_ ?_ ?_
  ·rw [hf1 (H.nx+1) (by omega) (by omega)];simp (disch:=first|exact bk rfl|omega) only [go_sem,aM,aI]
  ·rw [hf1 (H.nx+2) (by omega) (by omega)];(simp (disch:=first|exact bk rfl|omega) only [go_sem,aM,aI];rfl)
  ·intro c hc
   rw [hf1 c (by omega) (by omega)]
   simp (disch:=first|exact bk rfl|omega) only [go_sem,aM]
 ·have ew:=eq_false hw
  have hp:wZ x=[⟨x.from_,43199⟩,⟨0,x.from_+x.len - 43200⟩]:=if_neg hw
  simp (disch:=first|exact bk rfl|omega) only [go_sem,ew,oW hd,yD hd,aIO,ra0,ra1,Int.reduceLT,jX,aM,aI]
  rw [yR]
  refine zC (s:=⟨x.from_,43199⟩) (lo:=H.nx+4) (bs:=H.nx) (d:=H.nx+1) (env:=env) (v:= .nils) (xs:=[]) (by simp (disch:=first|exact bk rfl|omega) only [go_sem,aM,aI];rfl) henv2 (by simp (disch:=first|exact bk rfl|omega) only [go_sem,aM,aI]) (.inl ⟨rfl,rfl⟩) (by first | omega | (simp (disch:=first|exact bk rfl|omega) only [go_sem]<;>omega)) (by omega) (by omega) (by omega) (by simp) fun H1 v1 ho1 hb1 hn1 hf1=> ?_
  simp only [go_sem] at hn1
  simp (disch:=first|exact bk rfl|omega) only [go_sem,jX]
  rw [yR]
  refine zC (s:=⟨0,x.from_+x.len - 43200⟩) (lo:=H.nx+4) (bs:=H.nx) (d:=H.nx+1) (env:=env) (v:=v1) (xs:=[⟨x.from_,43199⟩]) (by rw [hf1 _ (by omega) (by omega)];simp (disch:=first|exact bk rfl|omega) only [go_sem,aM,aI];rfl) henv2 hb1 ho1 (by omega) (by omega) (by omega) (by omega) (by simp) fun H2 v2 ho2 hb2 hn2 hf2=> ?_
  simp (disch:=first|exact bk rfl|omega) only [go_sem,aYQ,Int.reduceAdd]
  refine cX ?_
  rw [aOI]
  simp (disch:=first|exact bk rfl|omega) only [go_sem,oW hd,Int.reduceLT,agE]
  refine hend v2 _ (by rw [hp];exact ho2) (by omega) hb2 ?_ ?_ ?_
  ·rw [hf2 (H.nx+1) (by omega) (by omega)];(rw [hf1 (H.nx+1) (by omega) (by omega)];simp (disch:=first|exact bk rfl|omega) only [go_sem,aM,aI])
  ·rw [hf2 (H.nx+2) (by omega) (by omega)];(rw [hf1 (H.nx+2) (by omega) (by omega)];simp (disch:=first|exact bk rfl|omega) only [go_sem,aM,aI];rfl)
  ·intro c hc
   rw [hf2 c (by omega) (by omega)]
   rw [hf1 c (by omega) (by omega)];simp (disch:=first|exact bk rfl|omega) only [go_sem,aM]
theorem aYU {z:Nat->Option Obj} {ro:Bool} {k:IntKind} {n:Int} {vs:Array Value} {L:List Nat} (h:DVs z ro [.int k n] vs.toList L):vs=#[.int k n]:=by
 obtain⟨vs⟩:=vs
 cases h with
 | cons _ v _ _ vs' _ h hs=>cases hs;cases h;rfl
theorem aJX (n:Int) (h0:0<=n) (h1:n<=18446744073709551615):CQ P G 251 [.int .u64 n] (fun d=>∃m,d= .int .i64 m):=by
 intro w vs L hg hd
 rw [aYU hd]
 refine CallsIn.mono (callsIn_wide.2 (Tryz.bits_Len n w h0 h1)) fun en w' ⟨he,hw⟩=> ?_
 subst hw
 exact⟨.int .i64 _,.int .i64 _,[],he,⟨_,rfl⟩,DV.int _ _,fun j hj=>(by cases hj),Go.RowKit.Below.refl _ _⟩
theorem aUB (a b:bU) (ha:inR a) (hb:inR b):CQ P G 222 [.agg (bJ a),.agg (bJ b)] (·= .int .i64 (a.lo - b.lo)):=by
 simp only [inR] at ha hb
 refine CQ.enter hG ?_
 (try simp (disch:=first|exact bk rfl|omega) only [go_sem,bJ,arK,aM,aI]);repeat' ((with_reducible first | apply aD | apply aE | apply aC)<;>intro h<;>(try simp only [spl] at h)<;>try simp (disch:=first|exact bk rfl|omega) only [go_sem,bJ,arK,aM,aI,h])
 exact aG (.int .i64 _) rfl
theorem cv1 (k:AV->Bool):aDR P 3 372 (.int .i64 1) k=k (.int .u64 1):=by kernel_rfl
theorem cv2 (k:AV->Bool):aDR P 3 372 (.int .i64 2) k=k (.int .u64 2):=by kernel_rfl
theorem arJ:jN P 222=false:=by kernel_rfl
theorem axD:iF P 222=true:=by kernel_rfl
theorem aeR (t:E2) (H:Hp) (k:fE->Hp->Bool) (i:Evs):aS P G Tryz.f340 i k .normal ⟨t,[]⟩ H=k (.ret (.tup [])) H:=by kernel_rfl
theorem tS (b n z:Nat) (c:Option Nat) (H:Hp) (k:AV->Bool):bH P 76 (.sl b 0 n z c) H k=k (.int .i64 (n:Int)):=by
 unfold bH
 rw [cO]
 rfl
theorem aRC (s:bU) {b:Nat} {H:Hp} {K:AV->Hp->Bool} (hk:K (.tup []) H=true):cl P G 256 [.sl b 0 1 2 none,.fn 222 [] []] H K=true:=by
 have ln:∀(H:Hp) (k:AV->Bool),bH P 76 (.sl b 0 1 2 none) H k=k (.int .i64 1):=fun H k=>tS b 1 2 none H k
 refine dA 200 ?_
 simp (disch:=first|exact bk rfl|omega) only [go_sem,avT,ln,cv1]
 refine cS hG [.int .u64 1] (aJX 1 (by omega) (by omega)) rfl ?_
 rintro d ⟨m,rfl⟩
 simp (disch:=first|exact bk rfl|omega) only [go_sem]
 refine dA 200 ?_
 simp (disch:=first|exact bk rfl|omega) only [go_sem,ayA]
 refine lU 1 (cX ?_)
 rw [aXX]
 simp (disch:=first|exact bk rfl|omega) only [go_sem,Int.reduceSub,Int.reduceLE]
 refine dA 200 ?_
 simp (disch:=first|exact bk rfl|omega) only [go_sem,auI,Int.reduceAdd]
 refine lU 1 (cX ?_)
 rw [aLN]
 simp (disch:=first|exact bk rfl|omega) only [go_sem,Int.reduceLT,aeR,atZ]
 exact hk
theorem aSU (a c:bU) (hac:c.lo<a.lo) (ha:inR a) (hc:inR c) {b:Nat} {H:Hp} {K:AV->Hp->Bool} (hgb:H.get b=some (.cells (some 28) false [.int .i64 a.lo,.int .i64 a.hi,.int .i64 c.lo,.int .i64 c.hi]))
  (hk:∀H',H'.get b=some (.cells (some 28) false [.int .i64 c.lo,.int .i64 c.hi,.int .i64 a.lo,.int .i64 a.hi])->H.nx<=H'.nx->(∀e,e≠b->H'.get e=H.get e)->K (.tup []) H'=true):cl P G 256 [.sl b 0 2 2 none,.fn 222 [] []] H K=true:=by
 have ln:∀(H:Hp) (k:AV->Bool),bH P 76 (.sl b 0 2 2 none) H k=k (.int .i64 2):=fun H k=>tS b 2 2 none H k
 have i0:∀k:AV->Bool,aN P 76 (.sl b 0 2 2 none) (.int .i64 0) k=k (.ptr b 0):=fun k=>by have:=eI (k:=k) (b:=b) (off:=0) (len:=2) (c:=none) cO gD eP (n:=0) (by omega) (i:= .i64);simpa using this
 have i1:∀k:AV->Bool,aN P 76 (.sl b 0 2 2 none) (.int .i64 1) k=k (.ptr b 2):=fun k=>by have:=eI (k:=k) (b:=b) (off:=0) (len:=2) (c:=none) cO gD eP (n:=1) (by omega) (i:= .i64);simpa using this
 have hcm:=aUB c a hc ha
 have hneg:(c.lo - a.lo<0)=True:=eq_true (by omega)
 refine dA 200 ?_
 simp (disch:=first|exact bk rfl|omega) only [go_sem,avT,ln,cv2]
 refine cS hG [.int .u64 2] (aJX 2 (by omega) (by omega)) rfl ?_
 rintro d ⟨m,rfl⟩
 simp (disch:=first|exact bk rfl|omega) only [go_sem]
 refine dA 200 ?_
 simp (disch:=first|exact bk rfl|omega) only [go_sem,ayA]
 refine lU 1 (cX ?_)
 rw [aXX]
 simp (disch:=first|exact bk rfl|omega) only [go_sem,Int.reduceSub,Int.reduceLE]
 refine dA 200 ?_
 simp (disch:=first|exact bk rfl|omega) only [go_sem,auI,Int.reduceAdd]
 refine lU 2 (cX ?_)
 rw [aLN]
 simp (disch:=first|exact bk rfl|omega) only [go_sem,Int.reduceLT]
 refine lU 2 (cX ?_)
 rw [aWR]
 simp (disch:=first|exact bk rfl|omega) only [go_sem,aUJ,aZA,i0,i1,hgb,Int.reduceLT,Int.reduceSub,wQ arJ axD,List.nil_append,List.append_nil]
 refine bE hG [.agg (bJ c),.agg (bJ a)] hcm rfl ?_
 simp (disch:=first|exact bk rfl|omega) only [go_sem,hneg,hgb,aXO,ahQ,i0,i1,Int.reduceSub,Int.reduceLT,Int.reduceAdd,aI,aM]
 refine cX ?_
 rw [aWR]
 simp (disch:=first|exact bk rfl|omega) only [go_sem,aUJ,aZA,aXO,Int.reduceLT,amK,Int.reduceAdd]
 refine cX ?_
 rw [aLN]
 simp (disch:=first|exact bk rfl|omega) only [go_sem,Int.reduceLT,aeR,atZ]
 exact hk _ (by simp (disch:=first|exact bk rfl|omega) only [go_sem,aI]) (by first | omega | (simp (disch:=first|exact bk rfl|omega) only [go_sem]<;>omega)) fun e he=>by simp (disch:=first|exact bk rfl|omega) only [go_sem,aM]
theorem aRN (s:bU):bD (cB bJ [s])=[.int .i64 s.lo,.int .i64 s.hi]:=rfl
theorem aMH (s u:bU):bD (cB bJ [s,u])=[.int .i64 s.lo,.int .i64 s.hi,.int .i64 u.lo,.int .i64 u.hi]:=rfl
theorem agB (b:Nat) (k:AV->Bool):aN P 76 (.sl b 0 1 2 none) (.int .i64 0) k=k (.ptr b 0):=by have:=eI (k:=k) (b:=b) (off:=0) (len:=1) (c:=none) cO gD eP (n:=0) (by omega) (i:= .i64);simpa using this
theorem awM (b:Nat) (k:AV->Bool):aN P 76 (.sl b 0 2 2 none) (.int .i64 0) k=k (.ptr b 0):=by have:=eI (k:=k) (b:=b) (off:=0) (len:=2) (c:=none) cO gD eP (n:=0) (by omega) (i:= .i64);simpa using this
theorem auQ (b:Nat) (k:AV->Bool):aN P 76 (.sl b 0 2 2 none) (.int .i64 1) k=k (.ptr b 2):=by have:=eI (k:=k) (b:=b) (off:=0) (len:=2) (c:=none) cO gD eP (n:=1) (by omega) (i:= .i64);simpa using this
theorem aKO (b:Nat) (H:Hp) (k:AV->Bool):bH P 76 (.sl b 0 1 2 none) H k=k (.int .i64 1):=tS b 1 2 none H k
theorem aUP (b:Nat) (H:Hp) (k:AV->Bool):bH P 76 (.sl b 0 2 2 none) H k=k (.int .i64 2):=tS b 2 2 none H k
section
variable {t : E2} {H : Hp} {k : AEx -> En -> Hp -> Bool} {lo hi i m : Int} {v : AV} {b o : Nat} {ro : Option Nat}
set_option maxHeartbeats 1000000 in
theorem aWN (him:(i<m)=True) (hi0:0<=i/\i<=9) (g13:E2.get t 13= .int .i64 i) (g12:E2.get t 12= .int .i64 m) (g11:E2.get t 11=v) (g4:E2.get t 4= .nils)
  (hix:∀k,aN P 76 v (.int .i64 i) k=k (.ptr b o)) (hld:∀k,sC P 28 o k (H.get b)=k (.agg [.int .i64 lo,.int .i64 hi]))
  (hk:∀t' H' c,E2.get t' 13= .int .i64 (i+1)->E2.get t' 12= .int .i64 m->E2.get t' 11=v->E2.get t' 4= .sl c 0 1 2 none->H'.get c=some (.cells (some 28) false [.int .i64 lo,.int .i64 hi])->c<H'.nx->H.nx<=H'.nx->(∀e,e<H.nx->H'.get e=H.get e)->k .normal ⟨t',[]⟩ H'=true):
  cd P G 200 53 (aJ 163 [1,1,1,0,1,0]) ro ⟨t,[]⟩ H k=true:=by
 rw [aGV]
 simp (disch:=first|exact bk rfl|omega) only [go_sem,him,g13,g12,g11,g4,aVR,aZY,aWE,aUM,aZS,hix,hld,jQ cO,Int.reduceLT,aM,aI,sK,cM]
 refine sJ (cs:=[.int .i64 lo,.int .i64 hi]) wI (by simp (disch:=first|exact bk rfl|omega) only [go_sem,aI];rfl) rfl rfl ?_
 simp (disch:=first|exact bk rfl|omega) only [go_sem,aVO,g13,g12,g11,Int.reduceAdd]
 refine hk _ _ (H.nx+1+1) ?_ ?_ ?_ ?_ ?_ ?_ ?_ ?_
 ·first | rfl | (simp (disch:=first|exact bk rfl|omega) only [go_sem,g13]<;>rfl)
 ·first | rfl | (simp (disch:=first|exact bk rfl|omega) only [go_sem,g12]<;>rfl)
 ·first | rfl | (simp (disch:=first|exact bk rfl|omega) only [go_sem,g11]<;>rfl)
 ·first | rfl | (simp (disch:=first|exact bk rfl|omega) only [go_sem]<;>rfl)
 ·first | rfl | (simp (disch:=first|exact bk rfl|omega) only [go_sem,aI,cL]<;>rfl)
 ·first | omega | (simp (disch:=first|exact bk rfl|omega) only [go_sem]<;>omega)
 ·first | omega | (simp (disch:=first|exact bk rfl|omega) only [go_sem]<;>omega)
 ·intro e he
  have a1:=eq_false (Nat.ne_of_lt he)
  have a2:(e=H.nx+1)=False:=eq_false (by omega)
  have a3:(e=H.nx+1+1)=False:=eq_false (by omega)
  simp (disch:=first|exact bk rfl|omega) only [go_sem,a1,a2,a3,aM,aI,ite_false,if_false]
set_option maxHeartbeats 1000000 in
theorem ajD {a0 a1:Int} {c0:Nat} (him:(i<m)=True) (hi0:0<=i/\i<=9) (ha:0<=a1/\a1<=100000) (hne:(lo<=a1+1)=False) (g13:E2.get t 13= .int .i64 i) (g12:E2.get t 12= .int .i64 m) (g11:E2.get t 11=v) (g4:E2.get t 4= .sl c0 0 1 2 none)
  (hc0:c0<H.nx) (hg0:H.get c0=some (.cells (some 28) false [.int .i64 a0,.int .i64 a1]))
  (hix:∀k,aN P 76 v (.int .i64 i) k=k (.ptr b o)) (hld:∀k,sC P 28 o k (H.get b)=k (.agg [.int .i64 lo,.int .i64 hi]))
  (hk:∀t' H' c,E2.get t' 13= .int .i64 (i+1)->E2.get t' 12= .int .i64 m->E2.get t' 4= .sl c 0 2 2 none->H'.get c=some (.cells (some 28) false [.int .i64 a0,.int .i64 a1,.int .i64 lo,.int .i64 hi])->c<H'.nx->k .normal ⟨t',[]⟩ H'=true):
  cd P G 200 53 (aJ 163 [1,1,1,0,1,0]) ro ⟨t,[]⟩ H k=true:=by
 have e0:(c0=H.nx)=False:=eq_false (by omega)
 have e1:(c0=H.nx+1)=False:=eq_false (by omega)
 have e2:(H.nx=c0)=False:=eq_false (by omega)
 have e3:(H.nx+1=c0)=False:=eq_false (by omega)
 rw [aGV]
 simp (disch:=first|exact bk rfl|omega) only [go_sem,him,g13,g12,g11,g4,aVR,aZY,aWE,aUM,aZS,hix,hld,hg0,hne,e0,e1,e2,e3,agB,aKO,Int.reduceLT,Int.reduceSub,aM,aI,sK,cM]
 refine aRW (n:=1) (cs:=[.int .i64 lo,.int .i64 hi]) (old:=[.int .i64 a0,.int .i64 a1]) wI (by simp (disch:=first|exact bk rfl|omega) only [go_sem,aI,e0,e1,e2,e3];rfl) rfl rfl (by simp (disch:=first|exact bk rfl|omega) only [go_sem,aM,aI,hg0,e0,e1,e2,e3]) rfl (by omega) ?_
 simp (disch:=first|exact bk rfl|omega) only [go_sem,aVO,g13,g12,g11,Int.reduceAdd]
 refine hk _ _ (H.nx+1+1) ?_ ?_ ?_ ?_ ?_
 ·first | rfl | (simp (disch:=first|exact bk rfl|omega) only [go_sem,g13]<;>rfl)
 ·first | rfl | (simp (disch:=first|exact bk rfl|omega) only [go_sem,g12]<;>rfl)
 ·first | rfl | (simp (disch:=first|exact bk rfl|omega) only [go_sem]<;>rfl)
 ·first | rfl | (simp (disch:=first|exact bk rfl|omega) only [go_sem,aI,cL]<;>rfl)
 ·first | omega | (simp (disch:=first|exact bk rfl|omega) only [go_sem]<;>omega)
end
set_option maxHeartbeats 2000000 in
theorem sX (x:Arc) (hx:dZ x=true) (d:D) (hd:Sl 2 cV [x] d):CQ P G 163 [d] (Sl 2 bJ (fS x)):=by
 have hx':=hx
 simp only [dZ,decide_eq_true_eq] at hx'
 have h1d:=bW hd
 refine CQ.enter hG ?_
 (try simp (disch:=first|exact bk rfl|omega) only [go_sem,avA]);repeat' ((with_reducible first | apply aD | apply aE | apply aC)<;>intro h<;>(try simp only [spl] at h)<;>try simp (disch:=first|exact bk rfl|omega) only [go_sem,avA,h])
 refine dA 200 ?_
 (try simp (disch:=first|exact bk rfl|omega) only [go_sem,auH]);repeat' ((with_reducible first | apply aD | apply aE | apply aC)<;>intro h<;>(try simp only [spl] at h)<;>try simp (disch:=first|exact bk rfl|omega) only [go_sem,auH,h])
 refine dA 200 ?_
 (try simp (disch:=first|exact bk rfl|omega) only [go_sem,apS]);repeat' ((with_reducible first | apply aD | apply aE | apply aC)<;>intro h<;>(try simp only [spl] at h)<;>try simp (disch:=first|exact bk rfl|omega) only [go_sem,apS,h])
 refine dA 200 ?_
 (try simp (disch:=first|exact bk rfl|omega) only [go_sem,ayC]);repeat' ((with_reducible first | apply aD | apply aE | apply aC)<;>intro h<;>(try simp only [spl] at h)<;>try simp (disch:=first|exact bk rfl|omega) only [go_sem,ayC,h])
 refine aKY x hx d hd 0 _ _ (by simp (disch:=first|exact bk rfl|omega) only [go_sem];cases hd with | inl h=>obtain⟨rfl,_⟩:=h;rfl | inr h=>subst h;rfl) (by first | omega | (simp (disch:=first|exact bk rfl|omega) only [go_sem]<;>omega)) ?_
 intro v lo H1 hown hlo1 hlo2 hfr
 simp (disch:=first|exact bk rfl|omega) only [go_sem]
 clear h1d
 by_cases hw:x.from_+x.len<43200
 ·have hp:wZ x=[⟨x.from_,x.from_+x.len⟩]:=if_pos hw
  have hs:fS x=[⟨x.from_,x.from_+x.len⟩]:=if_pos hw
  rw [hp] at hown
  obtain⟨b,rfl,hb1,hb2,hgb⟩:=hown.at (n:=0) (by simp)
  rw [aRN] at hgb
  simp only [List.length_singleton]
  refine aRC ⟨x.from_,x.from_+x.len⟩ ?_
  simp (disch:=first|exact bk rfl|omega) only [go_sem,aKO]
  refine lU 2 (cX ?_)
  refine aWN (i:=0) (m:=1) (v:= .sl b 0 1 2 none) (b:=b) (o:=0) (lo:=x.from_) (hi:=x.from_+x.len) (eq_true (by omega)) (by omega) (eg rfl rfl) (eg rfl rfl) (eg rfl rfl) (eg rfl rfl) (fun k=>agB b k) (fun k=>by rw [hgb];simp (disch:=first|exact bk rfl|omega) only [go_sem]) fun t' H' c k13 k12 k11 k4 kc kn _ _=> ?_
  simp only [Int.reduceAdd] at k13
  simp (disch:=first|exact bk rfl|omega) only [go_sem]
  refine cX ?_
  rw [aGV]
  simp (disch:=first|exact bk rfl|omega) only [go_sem,k13,k12,k4,Int.reduceLT,aWC,aqF]
  rw [hs]
  exact Own.ret (lo:=0) (el:=28) (xs:=([⟨x.from_,x.from_+x.len⟩]:List bU)) bT (.inr ⟨c,none,rfl,.inl rfl,Nat.zero_le _,kn,kc⟩) fun r hr=>hr
 ·have hp:wZ x=[⟨x.from_,43199⟩,⟨0,x.from_+x.len - 43200⟩]:=if_neg hw
  have hs:fS x=[⟨0,x.from_+x.len - 43200⟩,⟨x.from_,43199⟩]:=if_neg hw
  rw [hp] at hown
  obtain⟨b,rfl,hb1,hb2,hgb⟩:=hown.at (n:=0) (by simp)
  rw [aMH] at hgb
  simp only [List.length_cons,List.length_nil,Nat.zero_add,Nat.reduceAdd]
  refine aSU ⟨x.from_,43199⟩ ⟨0,x.from_+x.len - 43200⟩ (by simp only;omega) (by simp only [inR];omega) (by simp only [inR];omega) hgb fun H2 hgb2 hn2 hf2=> ?_
  have ez:(x.from_<=x.from_+x.len - 43200+1)=False:=eq_false (by omega)
  have hb3:b<H2.nx:=by omega
  have hrange:0<=x.from_+x.len - 43200/\x.from_+x.len - 43200<=100000:=by omega
  clear hgb hown hfr hf2
  simp (disch:=first|exact bk rfl|omega) only [go_sem,aUP]
  refine lU 3 (cX ?_)
  refine aWN (i:=0) (m:=2) (v:= .sl b 0 2 2 none) (b:=b) (o:=0) (lo:=0) (hi:=x.from_+x.len - 43200) (eq_true (by omega)) (by omega) (eg rfl rfl) (eg rfl rfl) (eg rfl rfl) (eg rfl rfl) (fun k=>awM b k) (fun k=>by rw [hgb2];simp (disch:=first|exact bk rfl|omega) only [go_sem]) fun t' H' c k13 k12 k11 k4 kc kn kN kf=> ?_
  simp only [Int.reduceAdd] at k13
  have hgb3:=kf b hb3
  rw [hgb2] at hgb3
  simp (disch:=first|exact bk rfl|omega) only [go_sem]
  refine cX ?_
  refine ajD (i:=1) (m:=2) (v:= .sl b 0 2 2 none) (b:=b) (o:=2) (lo:=x.from_) (hi:=43199) (a0:=0) (a1:=x.from_+x.len - 43200) (eq_true (by omega)) (by omega) hrange ez k13 k12 k11 k4 kn kc (fun k=>auQ b k) (fun k=>by rw [hgb3];simp (disch:=first|exact bk rfl|omega) only [go_sem]) fun t2 H3 c2 l13 l12 l4 lc ln=> ?_
  simp only [Int.reduceAdd] at l13
  simp (disch:=first|exact bk rfl|omega) only [go_sem]
  refine cX ?_
  rw [aGV]
  simp (disch:=first|exact bk rfl|omega) only [go_sem,l13,l12,l4,Int.reduceLT,aWC,aqF]
  rw [hs]
  exact Own.ret (lo:=0) (el:=28) (xs:=([⟨0,x.from_+x.len - 43200⟩,⟨x.from_,43199⟩]:List bU)) bT (.inr ⟨c2,none,rfl,.inl rfl,Nat.zero_le _,ln,lc⟩) fun r hr=>hr
theorem zI {x y:bU} (h:x.hi<y.lo∨y.hi<x.lo):gG x y=[]:=by
 unfold gG;rw [if_neg];omega
theorem nX {x y u:bU} (h:u∈gG x y):u.lo=max x.lo y.lo/\u.hi=min x.hi y.hi/\u.lo<=u.hi:=by
 unfold gG at h
 split at h
 ·simp only [List.mem_singleton] at h;subst h;exact⟨rfl,rfl,by assumption⟩
 ·cases h
theorem Gap.tail {x:bU} {l:List bU} (h:Gap (x::l)):Gap l:=⟨(List.pairwise_cons.1 h.p).2,fun u hu=>h.a u (List.mem_cons_of_mem _ hu)⟩
theorem Gap.head {x:bU} {l:List bU} (h:Gap (x::l)):∀u∈l,x.hi+1<u.lo:=(List.pairwise_cons.1 h.p).1
theorem aWU {x:bU} {b:List bU} (h:∀y∈b,x.hi<y.lo):kV x b=[]:=by
 unfold kV
 rw [List.flatMap_eq_nil_iff]
 exact fun y hy=>zI (.inl (h y hy))
theorem aYV {a:List bU} {y:bU} {b:List bU} (h:∀x∈a,y.hi<x.lo):lG a (y::b)=lG a b:=by
 induction a with
 | nil=>rfl
 | cons x a ih=>
  have h1:kV x (y::b)=kV x b:=by
   show gG x y++kV x b=kV x b
   rw [zI (.inr (h x List.mem_cons_self))];rfl
  show kV x (y::b)++lG a (y::b)=kV x b++lG a b
  rw [h1,ih fun u hu=>h u (List.mem_cons_of_mem _ hu)]
theorem aAG:∀(A B:List bU),Gap A->Gap B->hU A B=lG A B
 | [],B,_,_=>by rw [nT];rfl
 | x::a,[],_,_=>by
  rw [mG]
  symm
  unfold lG
  rw [List.flatMap_eq_nil_iff]
  intro u _;rfl
 | x::a,y::b,hA,hB=>by
  rw [lY]
  by_cases hc:x.hi<y.hi
  ·rw [if_pos hc,aAG a (y::b) hA.tail hB]
   show _=(gG x y++kV x b)++lG a (y::b)
   rw [aWU (fun u hu=>by have:=hB.head u hu;omega),List.append_nil]
  ·rw [if_neg hc,aAG (x::a) b hA hB.tail]
   show _=(gG x y++kV x b)++lG a (y::b)
   rw [aYV (fun u hu=>by have:=hA.head u hu;omega),List.append_assoc]
   rfl
termination_by A B=>A.length+B.length
theorem nG:∀(A B:List bU) (u:bU),u∈hU A B->∃x∈A,∃y∈B,u∈gG x y
 | [],B,u,h=>by rw [nT] at h;cases h
 | x::a,[],u,h=>by rw [mG] at h;cases h
 | x::a,y::b,u,h=>by
  rw [lY] at h
  rcases List.mem_append.1 h with h | h
  ·exact⟨x,List.mem_cons_self,y,List.mem_cons_self,h⟩
  ·split at h
   ·obtain⟨x',h1,y',h2,h3⟩:=nG a (y::b) u h
    exact⟨x',List.mem_cons_of_mem _ h1,y',h2,h3⟩
   ·obtain⟨x',h1,y',h2,h3⟩:=nG (x::a) b u h
    exact⟨x',h1,y',List.mem_cons_of_mem _ h2,h3⟩
termination_by A B=>A.length+B.length
theorem xE:∀(A B:List bU),Gap A->Gap B->(hU A B).Pairwise fun u v=>u.hi+1<v.lo
 | [],B,_,_=>by rw [nT];exact .nil
 | x::a,[],_,_=>by rw [mG];exact .nil
 | x::a,y::b,hA,hB=>by
  rw [lY,List.pairwise_append]
  refine⟨by unfold gG;split<;>simp, ?_,fun u hu v hv=> ?_⟩
  ·split
   ·exact xE a (y::b) hA.tail hB
   ·exact xE (x::a) b hA hB.tail
  ·obtain⟨h1,h2,h3⟩:=nX hu
   split at hv
   ·obtain⟨x',q1,y',q2,q3⟩:=nG a (y::b) v hv
    obtain⟨p1,p2,p3⟩:=nX q3
    have:=hA.head x' q1
    omega
   ·obtain⟨x',q1,y',q2,q3⟩:=nG (x::a) b v hv
    obtain⟨p1,p2,p3⟩:=nX q3
    have:=hB.head y' q2
    omega
termination_by A B=>A.length+B.length
theorem zS {A B:List bU} (hA:Gap A) (hB:Gap B):Gap (hU A B):=by
 refine⟨xE A B hA hB,fun u hu=> ?_⟩
 obtain⟨x,hx,y,hy,h⟩:=nG A B u hu
 obtain⟨h1,h2,h3⟩:=nX h
 have q1:=(hA.a x hx).2
 have q2:=(hB.a y hy).2
 simp only [inR] at q1 q2⊢
 omega
theorem zQ:∀(A B:List bU),(hU A B).length<=A.length+B.length - 1
 | [],B=>by rw [nT];simp
 | x::a,[]=>by rw [mG];simp
 | x::a,y::b=>by
  rw [lY,List.length_append]
  have h1:=aXG x y
  have h2:=zQ a (y::b)
  have h3:=zQ (x::a) b
  simp only [List.length_cons] at h2 h3⊢
  split<;>omega
termination_by A B=>A.length+B.length
theorem iC {x:Arc} (h:dZ x=true):Gap (fS x):=by
 simp only [dZ,decide_eq_true_eq] at h
 unfold fS
 split
 ·exact⟨by simp,by simp [inR];omega⟩
 ·exact⟨by simp;omega,by simp [inR];omega⟩
theorem jK (x:Arc):(fS x).length<=2:=by unfold fS;split<;>simp
theorem aIN {x:Arc} (h:dZ x=true):∀s∈fS x,inR s:=fun s hs=>((iC h).a s hs).2
theorem yW {x y:Arc} (hx:dZ x=true) (hy:dZ y=true):∀s∈hU (fS x) (fS y),inR s:=fun s hs=>((zS (iC hx) (iC hy)).a s hs).2
theorem nH (x y:Arc):(hU (fS x) (fS y)).length<=3:=by
 have h1:=zQ (fS x) (fS y)
 have h2:=jK x
 have h3:=jK y
 omega
theorem zR {x:Arc} {b:Int} (hx:dZ x=true) (hb:0<=b/\b<=43200):dZ (fD x b)=true:=by
 simp only [dZ,decide_eq_true_eq] at hx⊢
 unfold fD
 split
 ·simp
 ·simp only;omega
theorem aDF {x:Arc} (h:dZ x=true):kM (fS x)=[x]:=by
 simp only [dZ,decide_eq_true_eq] at h
 unfold fS
 split
 ·rw [uJ (fun⟨h,_⟩=>by simp at h)]
  obtain⟨f,l⟩:=x
  simp only [List.map,toA,List.cons.injEq,Arc.mk.injEq,true_and,and_true]
  omega
 ·rw [zA rfl rfl]
  obtain⟨f,l⟩:=x
  simp only [List.cons.injEq,Arc.mk.injEq,true_and,and_true]
  omega
end Go.S5
namespace Go.Ev
noncomputable section
section
variable {P : Program} {G : bK}
def Hp.delL (H:Hp):List Nat->Hp
 | []=>H
 | b::I=>(H.setb b none).delL I
theorem Hp.get_delL:∀(I:List Nat) (H:Hp) (c:Nat),(H.delL I).get c=if c∈I then none else H.get c
 | [],H,c=>by simp [Hp.delL]
 | b::I,H,c=>by
  show ((H.setb b none).delL I).get c=_
  rw [Hp.get_delL I,Hp.get_setb]
  by_cases h1:c∈I
  ·simp [h1]
  ·by_cases h2:c=b
   ·simp [h2]
   ·simp [h1,h2]
theorem Hp.nx_delL:∀(I:List Nat) (H:Hp),(H.delL I).nx=H.nx
 | [],H=>rfl
 | b::I,H=>by
  show ((H.setb b none).delL I).nx=_
  rw [Hp.nx_delL I];rfl
theorem HR.delL {μ:Mu} {w:World}:∀(I:List Nat) {H:Hp},HR G μ H w->HR G μ (H.delL I) w
 | [],H,h=>h
 | b::I,H,h=>HR.delL I (H:=H.setb b Option.none) (h.del trivial)
theorem aSC (hG:mH G) {f:FuncId} {args:List AV} {H:Hp} {k:fE->Hp->Bool} {ds:List D} {I:List Nat} {Q:D->Prop} (hct:CQ P G f ds Q) (hr:Rds H args ds I) (hown:∀b∈I,∀y,H.get b=some y->y.own=true)
  (hk:∀d,Q d->k (.ret (ofD d)) (H.delL I)=true):dY P G f args H k=true:=by
 refine tJ fun μ w vs hh hvs=> ?_
 obtain⟨L,hL,hlies⟩:=hr.ok hh.toHRg hvs
 refine CallsIn.mono (hct w vs L (hh.globOK hG) hL) fun en w' ⟨v,d,M,he,hq,hd,hM,hb⟩=> ?_
 subst he
 have hsame:∀j,j<w.heap.size->w'.heap[j]? =w.heap[j]? :=hb.block
 have hMz:∀j∈M,w.heap.size<=j∨(∃o,μ.z j=some o)∨∃b∈I,∃p y,μ b=some p/\p.blk=j/\H.get b=some y:=fun j hj=>by
  rcases hM j hj with h | h
  ·exact .inl h
  ·exact .inr (hlies j h)
 have hget:∀b x,(H.delL I).get b=some x->b∉I/\H.get b=some x:=fun b x hbx=>by
  rw [Hp.get_delL] at hbx
  split at hbx
  ·cases hbx
  ·exact⟨‹_›,hbx⟩
 have hh1:=hh.delL I
 have hh':HR G μ (H.delL I) w':=hh1.world (fun b x p hb hp=>hsame _ (hh1.lt hb hp)) (fun g cs hg=>hsame _ (hh1.globlt hg)) fun j o hj=>hsame _ (hh1.frolt hj)
 classical
 let z':Nat->Option Obj:=fun j=>if j∈M then w'.heap[j]? else μ.z j
 have hz:∀j o,z' j=some o->w'.heap[j]? =some o:=fun j o hj=>by
  simp only [z'] at hj
  split at hj
  ·exact hj
  ·exact hh'.froz j o hj
 have hle:∀j o,μ.z j=some o->z' j=some o:=fun j o hj=>by
  simp only [z']
  split
  ·exact hh'.froz j o hj
  ·exact hj
 have hfr:∀b x p,(H.delL I).get b=some x->x.own=true->μ b=some p->z' p.blk=none:=fun b x p hb hx hp=>by
  have h0:=hh'.frof b x p hb hx hp
  simp only [z']
  split
  ·rename_i hm
   obtain⟨hbI,hb2⟩:=hget b x hb
   rcases hMz _ hm with h | ⟨o,h⟩| ⟨c,hcI,q,y,hq,hqe,hcy⟩
   ·have:=hh.lt hb2 hp;omega
   ·rw [h0] at h;cases h
   ·exact absurd (hh.own b x p c y q hb2 hp hx hcy hq hqe.symm▸hcI) hbI
  ·exact h0
 have hmu:μ.le ⟨μ.f,z'⟩:=⟨fun _ _ h=>h,hle⟩
 have hhr:HR G ⟨μ.f,z'⟩ (H.delL I) w':=⟨⟨fun b x hb=>let ⟨p,hp,hr⟩:=hh'.get b x hb;⟨p,hp,hr.mono hmu⟩,hh'.own,fun g cs hg=>let ⟨arr,el,fz,ha,hs,hv⟩:=hh'.glob g cs hg;⟨arr,el,fz,ha,hs,fun i c hc=>let ⟨v,h1,h2⟩:=hv i c hc;⟨v,h1,h2.mono hmu⟩⟩,
  hh'.globf,hz,hfr⟩,hh'.dom⟩
 refine⟨.ret (ofD d),⟨μ.f,z'⟩,H.delL I,hhr,⟨hmu,fun _ _=>rfl,fun b _ h=>by rw [Hp.get_delL];split<;>first | rfl | exact h,by rw [Hp.nx_delL];exact Nat.le_refl _,hb.size,fun j hj _=>hsame j hj,fun b x p hb hp=>.inr ⟨b,x,p,(hget b x hb).2,hp,rfl,id⟩,hb.os, ?_,fun j o hj=> ?_⟩,.ret _ _ (aHH (hd.loc fun j hj=> ?_)),hk d hq⟩
 ·show (w'.output,w'.tape)=(w.output,w.tape)
  rw [hb.output,hb.tape]
 ·simp only [z'] at hj
  split at hj
  ·rename_i hm
   rcases hMz _ hm with h | ⟨o',h⟩| ⟨c,hcI,q,y,hq,hqe,hcy⟩
   ·exact .inr (.inl h)
   ·refine .inl ?_
    rw [←hj]
    rw [hsame j (hh.frolt h),hh.froz j o' h,h]
   ·exact .inr (.inr ⟨c,y,q,hcy,hq,hqe⟩)
  ·exact .inl hj
 ·show z' j=w'.heap[j]?
  simp only [z']
  rw [if_pos hj]
theorem pU (hG:mH G) {f:FuncId} {args:List AV} {H:Hp} {k:AV->Hp->Bool} {ds:List D} {I:List Nat} {Q:D->Prop} (hct:CQ P G f ds Q) (hr:Rds H args ds I) (hown:∀b∈I,∀y,H.get b=some y->y.own=true)
  (hk:∀d,Q d->k (ofD d) (H.delL I)=true):cl P G f args H k=true:=
 aSC (k:=fun e H'=>fE.casesOn (motive:=fun _=>Bool) e (fun v=>k v H') (fun _=>false)) hG hct hr hown hk
end
end
end Go.Ev
namespace Go.S5
open Go.Ev Go.Proofs
noncomputable def iD (x y:Arc):List Arc:=kM (hU (fS x) (fS y))
theorem aDX (x y:Arc) (hx:dZ x=true) (hy:dZ y=true) (da db:D) (ha:Sl 2 cV [x] da) (hb:Sl 2 cV [y] db):CQ P G 132 [da,db] (Sl 2 cV (iD x y)):=by
 refine CQ.enter hG ?_
 (try simp (disch:=first|exact bk rfl|omega) only [go_sem,arH]);repeat' ((with_reducible first | apply aD | apply aE | apply aC)<;>intro h<;>(try simp only [spl] at h)<;>try simp (disch:=first|exact bk rfl|omega) only [go_sem,arH,h])
 refine cS hG [da] (sU x hx da ha) rfl fun d1 h1=> ?_
 refine cS hG [db] (sU y hy db hb) rfl fun d2 h2=> ?_
 have hc:=aAG _ _ (iC hx) (iC hy)
 have hl:=nH x y
 have hg:=zS (iC hx) (iC hy)
 refine cS hG [d1,d2] (aHI _ _ d1 d2 h1 h2 (by have:=jK x;omega) (by have:=jK y;omega) (by rw [←hc];omega) (by rw [←hc];exact hg)) rfl fun d3 h3=> ?_
 rw [←hc] at h3
 refine cS hG [d3] (aER _ d3 h3 (by omega) (yW hx hy)) rfl fun d4 h4=> ?_
 exact aG d4 h4
theorem qO (x:Arc):fK 2 (bD (cB cV [x]))=some [.int .i64 x.from_,.int .i64 x.len]:=rfl
theorem kI {b:Nat} {x:Arc} {el:Option TypeId} {ro:Bool} {c:Option Nat} {H:Hp} (h:H.get b=some (.cells el ro [.int .i64 x.from_,.int .i64 x.len])):Rd H (.sl b 0 1 2 c) (.sl 2 (cB cV [x]) 1) [b]:=
 .sl b 0 1 2 c el ro _ [.int .i64 x.from_,.int .i64 x.len] (cB cV [x]) [] h rfl (.fro (cB cV [x]))
theorem fP (x:Arc):Sl 2 cV [x] (.sl 2 (cB cV [x]) 1):= .inr rfl
theorem aAF (x:Arc) (k:Blk->(Nat->AV)->Bool):bF P 168 1 [(0,.agg [.int .i64 x.from_,.int .i64 x.len])] k=k (.cells (some 48) false [.int .i64 x.from_,.int .i64 x.len]) (sG 1 2):=kY _ _ _
theorem aRP (x:Arc) (hx:dZ x=true) (d:D) (hd:Sl 2 cV [x] d) (by_:Int) (hb:0<=by_/\by_<=43200):CQ P G 200 [d,.int .i64 by_] (Sl 2 cV [fD x by_]):=by
 have hw:=aSK x hx by_ hb
 have hgo:=zR hx hb
 refine CQ.enter hG ?_
 (try simp (disch:=first|exact bk rfl|omega) only [go_sem,asF,abC]);repeat' ((with_reducible first | apply aD | apply aE | apply aC)<;>intro h<;>(try simp only [spl] at h)<;>try simp (disch:=first|exact bk rfl|omega) only [go_sem,asF,abC,h])
 refine lU 2 (cX ?_)
 rw [aZX]
 simp (disch:=first|exact bk rfl|omega) only [go_sem,oW hd,yD hd,qO,Int.reduceLT,Int.reduceAdd]
 refine bE hG [.agg (cV x),.int .i64 by_] hw rfl ?_
 simp (disch:=first|exact bk rfl|omega) only [go_sem,cV,kY,cM,aM,aI]
 refine sJ (cs:=[.int .i64 (fD x by_).from_,.int .i64 (fD x by_).len]) aDU (by simp (disch:=first|exact bk rfl|omega) only [go_sem,aI];rfl) rfl rfl ?_
 simp (disch:=first|exact bk rfl|omega) only [go_sem,Int.reduceAdd]
 refine cX ?_
 rw [aZX]
 simp (disch:=first|exact bk rfl|omega) only [go_sem,oW hd,Int.reduceLT,akI,abC]
 refine pU hG (sU (fD x by_) hgo _ (fP _)) (.cons _ _ _ _ _ _ (kI (by simp (disch:=first|exact bk rfl|omega) only [go_sem,aI];rfl)) .nil) (fun b hb y hy=> ?_) fun d1 h1=> ?_
 ·simp only [List.append_nil,List.mem_singleton] at hb
  subst hb
  simp only [go_sem,Nat.reduceAdd,Nat.reduceEqDiff,reduceIte,Option.some.injEq] at hy
  subst hy;rfl
 ·simp (disch:=first|exact bk rfl|omega) only [go_sem]
  refine cS hG [d1] (aER _ d1 h1 (by have:=jK (fD x by_);omega) (aIN hgo)) rfl fun d2 h2=> ?_
  simp (disch:=first|exact bk rfl|omega) only [go_sem,abC]
  rw [aDF hgo] at h2
  exact aG d2 h2
theorem aFC (m:dO) (i:Ink) (hm:dZ m.at_=true) (hb:0<=i.slip/\i.slip<=43200):CQ P G 133 [.agg (bS m),.agg (iI i)] (Sl 2 cV [fD m.at_ i.slip]):=by
 refine CQ.enter hG ?_
 (try simp (disch:=first|exact bk rfl|omega) only [go_sem,bS,iI,aoX,aAF,cM]);repeat' ((with_reducible first | apply aD | apply aE | apply aC)<;>intro h<;>(try simp only [spl] at h)<;>try simp (disch:=first|exact bk rfl|omega) only [go_sem,bS,iI,aoX,aAF,cM,h])
 refine pU hG (aRP m.at_ hm _ (fP _) i.slip hb) (.cons _ _ _ _ _ _ (kI (by simp (disch:=first|exact bk rfl|omega) only [go_sem,aI];rfl)) (.cons _ _ [] _ _ _ (.fro (.int .i64 i.slip)) .nil)) (fun b hb y hy=> ?_) fun d1 h1=> ?_
 ·simp only [List.append_nil,List.mem_singleton] at hb
  subst hb
  simp only [go_sem,Nat.reduceAdd,Nat.reduceEqDiff,reduceIte,Option.some.injEq] at hy
  subst hy;rfl
 ·exact aG d1 h1
def jT (s:dP):Arc:=⟨s.zero.lo,s.end_.hi - s.zero.lo⟩
noncomputable def eZ (s:dP) (m:dO) (i:Ink):List Arc:=iD (fD m.at_ i.slip) (jT s)
def gV:List Arc->D
 | [z]=>if 43199<z.from_+z.len then .tup [.agg [.int .i64 0,.int .i64 0],.bool false] else .tup [.agg [.int .i64 z.from_,.int .i64 (z.from_+z.len)],.bool true]
 | _=>.tup [.agg [.int .i64 0,.int .i64 0],.bool false]
def tW (z:Arc):Prop:= -10000000<=z.from_/\z.from_<=10000000/\ -10000000<=z.len/\z.len<=10000000
theorem aVG {s:bU} (h:inR s):tW (toA s):=by simp only [inR,tW,toA] at h⊢;omega
theorem aIH {l:List bU} (hl:l.length<=3) (h:∀s∈l,inR s):∀z∈kM l,tW z:=by
 classical
 by_cases hw:xV l
 ·obtain⟨h1,h2,h3⟩:=hw
  rcases wC h1 hl with⟨x,y,rfl⟩| ⟨x,y,z,rfl⟩
  ·rw [zA (x:=x) (y:=y) h2 h3]
   have a:=h x (by simp)
   have b:=h y (by simp)
   intro q hq
   simp only [List.mem_singleton] at hq
   subst hq
   simp only [inR,tW] at a b⊢
   omega
  ·rw [aFT (x:=x) (y:=y) (z:=z) h2 h3]
   have a:=h x (by simp)
   have b:=h y (by simp)
   have c:=h z (by simp)
   intro q hq
   simp only [List.mem_cons,List.not_mem_nil,or_false] at hq
   rcases hq with rfl | rfl
   ·exact aVG b
   ·simp only [inR,tW] at a b c⊢
    omega
 ·rw [uJ hw]
  intro q hq
  obtain⟨s,hs,rfl⟩:=List.mem_map.1 hq
  exact aVG (h s hs)
structure aBI (s:dP) (m:dO) (i:Ink):Prop where
 z:0<=s.zero.lo/\s.zero.lo<=43199
 e:s.zero.lo<=s.end_.hi/\s.end_.hi<=43199
 m:dZ m.at_=true
 i:0<=i.slip/\i.slip<=600
theorem aBI.used {s:dP} {m:dO} {i:Ink} (h:aBI s m i):dZ (jT s)=true:=by
 have h1:=h.z
 have h2:=h.e
 exact decide_eq_true (by simp only [jT];omega)
theorem aBI.near {s:dP} {m:dO} {i:Ink} (h:aBI s m i):dZ (fD m.at_ i.slip)=true:=zR h.m (by have:=h.i;omega)
theorem bAL (H:Hp) (k:AV->Bool):bH P 168 AV.nils H k=k (.int .i64 0):=by
 unfold bH
 rw [jL]
 rfl
theorem aTO {l:List Arc} {d:D} (h:Sl 2 cV l d) (H:Hp) (k:AV->Bool):bH P 168 (ofD d) H k=k (.int .i64 (l.length:Int)):=aK h jL
theorem nI (H:Hp) (b c:Nat):(H.delL [b]).get c=if c=b then none else H.get c:=by rw [Hp.get_delL];simp
theorem aIL {l:List Arc} (h:¬l.length=1):gV l= .tup [.agg [.int .i64 0,.int .i64 0],.bool false]:=by
 match l,h with
 | [],_=>rfl
 | [z],h=>simp at h
 | _::_::_,_=>rfl
theorem aEH (s:dP) (m:dO) (i:Ink) (h:aBI s m i) (hs1:one (ofD s.ds)=true):CQ P G 59 [.agg (eO s),.agg (bS m),.agg (iI i)] (·=gV (eZ s m i)):=by
 have hz:=h.z
 have he:=h.e
 have hr:=aFC m i h.m (by have:=h.i;omega)
 have hM:=fun (d1:D) (h1:Sl 2 cV [fD m.at_ i.slip] d1)=>aDX (fD m.at_ i.slip) (jT s) h.near h.used d1 (.sl 2 (cB cV [jT s]) 1) h1 (fP _)
 refine CQ.enter hG ?_
 simp (disch:=first|exact bk rfl|omega) only [go_sem,eO,bS,iI,hs1,h59,uM,kY,cM,aM,aI]
 refine cS hG [.agg (bS m),.agg (iI i)] hr rfl fun d1 h1=> ?_
 simp (disch:=first|exact bk rfl|omega) only [go_sem,uM,kY,cM,aM,aI,cL]
 refine pU hG (hM d1 h1) (.cons _ _ _ _ _ _ (.fro d1) (.cons _ _ _ _ _ _ (kI (x:=jT s) (by (simp (disch:=first|exact bk rfl|omega) only [go_sem,aI,cL];rfl))) .nil)) (fun b hb y hy=> ?_) fun d2 h2=> ?_
 ·simp only [List.append_nil,List.nil_append,List.mem_singleton] at hb
  subst hb
  simp only [go_sem,Nat.reduceAdd,Nat.reduceEqDiff,reduceIte,Option.some.injEq] at hy
  subst hy;rfl
 simp (disch:=first|exact bk rfl|omega) only [go_sem,List.nil_append,List.append_nil,nI,cL,aM,aI]
 have hin:=aIH (nH (fD m.at_ i.slip) (jT s)) (yW h.near h.used)
 generalize hH:(Hp.delL _ _:Hp)=H4
 have hg3:H4.get 3=some (.cells (some 28) false [.int .i64 0,.int .i64 0]):=by subst hH;simp (disch:=first|exact bk rfl|omega) only [go_sem,List.nil_append,List.append_nil,nI,cL,aM,aI]
 have hr59:eZ s m i=iD (fD m.at_ i.slip) (jT s):=rfl
 rw [hr59]
 by_cases hl1:(iD (fD m.at_ i.slip) (jT s)).length=1
 ·obtain⟨z,hzz⟩:=List.length_eq_one_iff.1 hl1
  rw [hzz] at h2⊢
  have hzi:tW z:=hin z (by show z∈iD _ _;rw [hzz];simp)
  simp only [tW] at hzi
  have ln:=oW h2
  have ix:=yD h2
  by_cases hw:43199<z.from_+z.len
  ·have ew:=eq_true hw
   simp (disch:=first|exact bk rfl|omega) only [go_sem,aVY,aUV,ln,ix,ra0,ra1,ew,aXI,hg3,jX,r59,Int.reduceEq,aI]
   refine aG (.tup [.agg [.int .i64 0,.int .i64 0],.bool false]) ?_
   simp only [gV];rw [if_pos hw]
  ·have ew:=eq_false hw
   simp (disch:=first|exact bk rfl|omega) only [go_sem,aVY,aUV,ln,ix,ra0,ra1,ew,aXI,aqL,hg3,jX,r59,Int.reduceEq,aI]
   refine aG (.tup [.agg [.int .i64 z.from_,.int .i64 (z.from_+z.len)],.bool true]) ?_
   simp only [gV];rw [if_neg hw]
 ·have ln:=aTO h2
  have el:(((iD (fD m.at_ i.slip) (jT s)).length:Int)=1)=False:=eq_false (by omega)
  simp (disch:=first|exact bk rfl|omega) only [go_sem,aVY,aUV,ln,el,aXI,hg3,jX,r59,aI]
  refine aG (.tup [.agg [.int .i64 0,.int .i64 0],.bool false]) ?_
  rw [aIL hl1]
theorem ayE:jN P 165=false:=by kernel_rfl
theorem axT:iF P 165=true:=by kernel_rfl
theorem aiR (a b:D) (ha:AV.cells (ofD a)=[ofD a]) (hb:AV.cells (ofD b)=[ofD b]) (k:AV->Bool):bO P 337 [(0,ofD a),(1,ofD b)] k=k (.agg [ofD a,ofD b]):=by
 rw [qY (z:=[.nils,.nils]) (by kernel_rfl) arW avO,asH]
 simp only [oN,ha,hb,List.length_singleton,Nat.beq_refl]
 rfl
theorem adZ (u v:AV) (k:AV->Bool):dM P 337 (.agg [u,v]) (.int .i64 0) k=k u:=by kernel_rfl
theorem abS (u v:AV) (k:AV->Bool):dM P 337 (.agg [u,v]) (.int .i64 1) k=k v:=by kernel_rfl
theorem gC {α:Type} {sz:Nat} {enc:α->List D} {xs:List α} {d:D} (h:Sl sz enc xs d):AV.cells (ofD d)=[ofD d]:=by
 rcases h with⟨rfl,_⟩| rfl<;>rfl
theorem aQS (x y:Arc) (hx:dZ x=true) (hy:dZ y=true) (da db:D) (ha:Sl 2 cV [x] da) (hb:Sl 2 cV [y] db):CQ P G 164 [da,db,.fn 165 [] []] (fun r=>∃d,r= .tup [d,.int .i64 0]/\Sl 2 cV (iD x y) d):=by
 have a1:=aAM x hx da ha
 have a2:=aAM y hy db hb
 refine CQ.enter hG ?_
 simp (disch:=first|exact bk rfl|omega) only [go_sem,a4N,aiR da db (gC ha) (gC hb)]
 refine lU 3 (cX ?_)
 rw [aMB]
 simp (disch:=first|exact bk rfl|omega) only [go_sem,adZ,Int.reduceLT]
 refine bE hG [da] a1 rfl ?_
 simp (disch:=first|exact bk rfl|omega) only [go_sem,Int.reduceEq,Int.reduceAdd]
 refine cX ?_
 rw [aMB]
 simp (disch:=first|exact bk rfl|omega) only [go_sem,abS,Int.reduceLT]
 refine bE hG [db] a2 rfl ?_
 simp (disch:=first|exact bk rfl|omega) only [go_sem,Int.reduceEq,Int.reduceAdd]
 refine cX ?_
 rw [aMB]
 simp (disch:=first|exact bk rfl|omega) only [go_sem,Int.reduceLT,anM]
 refine cS hG [da] (sX x hx da ha) rfl fun d1 h1=> ?_
 simp (disch:=first|exact bk rfl|omega) only [go_sem]
 refine cS hG [db] (sX y hy db hb) rfl fun d2 h2=> ?_
 simp (disch:=first|exact bk rfl|omega) only [go_sem,wQ ayE axT,List.nil_append,List.append_nil]
 have l1:=jK x
 have l2:=jK y
 refine cS hG [d1,d2] (aRD _ _ d1 d2 h1 h2 (by omega) (by omega)) rfl fun d3 h3=> ?_
 simp (disch:=first|exact bk rfl|omega) only [go_sem]
 refine cS hG [d3] (aEB _ d3 h3 (nH x y) (yW hx hy)) rfl fun d4 h4=> ?_
 simp (disch:=first|exact bk rfl|omega) only [go_sem,a1V]
 exact aG (.tup [d4,.int .i64 0]) ⟨d4,rfl,h4⟩
theorem aJK (x y:Arc) (hx:dZ x=true) (hy:dZ y=true) (da db:D) (ha:Sl 2 cV [x] da) (hb:Sl 2 cV [y] db):CQ P G 93 [da,db] (fun r=>∃d,r= .tup [d,.int .i64 0]/\Sl 2 cV (iD x y) d):=by
 refine CQ.enter hG ?_
 simp (disch:=first|exact bk rfl|omega) only [go_sem,h93]
 refine cS hG [da,db,.fn 165 [] []] (aQS x y hx hy da db ha hb) rfl ?_
 rintro d ⟨d1,rfl,h1⟩
 simp (disch:=first|exact bk rfl|omega) only [go_sem]
 exact aG (.tup [d1,.int .i64 0]) ⟨d1,rfl,h1⟩
theorem aUC (x:Arc) (hx:dZ x=true) (d:D) (hd:Sl 2 cV [x] d) (by_:Int) (hb:0<=by_/\by_<=43200):CQ P G 92 [d,.int .i64 by_] (fun r=>∃d,r= .tup [d,.int .i64 0]/\Sl 2 cV [fD x by_] d):=by
 have hw:=aON x hx by_ hb
 have hgo:=zR hx hb
 have a1:=aAM x hx d hd
 have e1:(by_<0)=False:=eq_false (by omega)
 have e2:(43200<by_)=False:=eq_false (by omega)
 refine CQ.enter hG ?_
 simp (disch:=first|exact bk rfl|omega) only [go_sem,h92]
 refine bE hG [d] a1 rfl ?_
 simp (disch:=first|exact bk rfl|omega) only [go_sem,e1,e2,oW hd]
 refine lU 2 (cX ?_)
 rw [ahC]
 simp (disch:=first|exact bk rfl|omega) only [go_sem,yD hd,qO,Int.reduceLT,Int.reduceAdd,aM,aI]
 refine bE hG [.agg (cV x),.int .i64 by_] hw rfl ?_
 simp (disch:=first|exact bk rfl|omega) only [go_sem,cV,kY,cM,aM,aI]
 refine sJ (cs:=[.int .i64 (fD x by_).from_,.int .i64 (fD x by_).len]) aDU (by simp (disch:=first|exact bk rfl|omega) only [go_sem,aI];rfl) rfl rfl ?_
 simp (disch:=first|exact bk rfl|omega) only [go_sem,Int.reduceAdd]
 refine cX ?_
 rw [ahC]
 simp (disch:=first|exact bk rfl|omega) only [go_sem,Int.reduceLT,avN,r92]
 refine pU hG (sX (fD x by_) hgo _ (fP _)) (.cons _ _ _ _ _ _ (kI (by simp (disch:=first|exact bk rfl|omega) only [go_sem,aI];rfl)) .nil) (fun b hb y hy=> ?_) fun d1 h1=> ?_
 ·simp only [List.append_nil,List.mem_singleton] at hb
  subst hb
  simp only [go_sem,Nat.reduceAdd,Nat.reduceEqDiff,reduceIte,Option.some.injEq] at hy
  subst hy;rfl
 ·simp (disch:=first|exact bk rfl|omega) only [go_sem]
  refine cS hG [d1] (aEB _ d1 h1 (by have:=jK (fD x by_);omega) (aIN hgo)) rfl fun d2 h2=> ?_
  simp (disch:=first|exact bk rfl|omega) only [go_sem,r92]
  rw [aDF hgo] at h2
  exact aG (.tup [d2,.int .i64 0]) ⟨d2,rfl,h2⟩
theorem rX (c:cJ) (m:dO) (h:aBI c.session m c.ink):CQ P G 38 [.agg (bI c),.agg (bS m)] (·=gV (eZ c.session m c.ink)):=by
 have hz:=h.z
 have he:=h.e
 have hw:=aUC m.at_ h.m _ (fP m.at_) c.ink.slip (by have:=h.i;omega)
 have hM:=fun (d1:D) (h1:Sl 2 cV [fD m.at_ c.ink.slip] d1)=>aJK (fD m.at_ c.ink.slip) (jT c.session) h.near h.used d1 (.sl 2 (cB cV [jT c.session]) 1) h1 (fP _)
 refine CQ.enter hG ?_
 simp (maxSteps:=10000000) (disch:=first|exact bk rfl|omega) only [go_sem,bI,cH,eO,bS,iI,aV,List.cons_append,List.nil_append,h38,uM,aAF,cM,aM,aI]
 refine pU hG hw (.cons _ _ _ _ _ _ (kI (x:=m.at_) (by simp (maxSteps:=10000000) (disch:=first|exact bk rfl|omega) only [go_sem,aI];rfl)) (.cons _ _ [] _ _ _ (.fro (.int .i64 c.ink.slip)) .nil)) (fun b hb y hy=> ?_) ?_
 ·simp only [List.append_nil,List.mem_singleton] at hb
  subst hb
  simp only [go_sem,Nat.reduceAdd,Nat.reduceEqDiff,reduceIte,Option.some.injEq] at hy
  subst hy;rfl
 rintro d ⟨d1,rfl,h1⟩
 simp (maxSteps:=10000000) (disch:=first|exact bk rfl|omega) only [go_sem,List.nil_append,List.append_nil,nI,Hp.nx_delL,cL,uM,kY,cM,aM,aI]
 refine pU hG (hM d1 h1) (.cons _ _ _ _ _ _ (.fro d1) (.cons _ _ _ _ _ _ (kI (x:=jT c.session) (by (simp (maxSteps:=10000000) (disch:=first|exact bk rfl|omega) only [go_sem,aI,cL,Hp.nx_delL];rfl))) .nil)) (fun b hb y hy=> ?_) ?_
 ·simp only [List.append_nil,List.nil_append,List.mem_singleton] at hb
  subst hb
  simp only [go_sem,Nat.reduceAdd,Nat.reduceEqDiff,reduceIte,Option.some.injEq,Hp.nx_delL] at hy
  subst hy;rfl
 rintro d ⟨d2,rfl,h2⟩
 simp (maxSteps:=10000000) (disch:=first|exact bk rfl|omega) only [go_sem,List.nil_append,List.append_nil,nI,Hp.nx_delL,cL,aM,aI]
 have hin:=aIH (nH (fD m.at_ c.ink.slip) (jT c.session)) (yW h.near h.used)
 generalize hH:(Hp.delL _ _:Hp)=H4
 have hg3:H4.get 2=some (.cells (some 28) false [.int .i64 0,.int .i64 0]):=by subst hH;simp (maxSteps:=10000000) (disch:=first|exact bk rfl|omega) only [go_sem,List.nil_append,List.append_nil,nI,Hp.nx_delL,cL,aM,aI]
 have hr59:eZ c.session m c.ink=iD (fD m.at_ c.ink.slip) (jT c.session):=rfl
 rw [hr59]
 by_cases hl1:(iD (fD m.at_ c.ink.slip) (jT c.session)).length=1
 ·obtain⟨z,hzz⟩:=List.length_eq_one_iff.1 hl1
  rw [hzz] at h2⊢
  have hzi:tW z:=hin z (by show z∈iD _ _;rw [hzz];simp)
  simp only [tW] at hzi
  have ln:=oW h2
  have ix:=yD h2
  by_cases hw:43199<z.from_+z.len
  ·have ew:=eq_true hw
   simp (maxSteps:=10000000) (disch:=first|exact bk rfl|omega) only [go_sem,aUL,aZL,ln,ix,ra0,ra1,ew,aWQ,hg3,jX,r38,Int.reduceEq,aI]
   refine aG (.tup [.agg [.int .i64 0,.int .i64 0],.bool false]) ?_
   simp only [gV];rw [if_pos hw]
  ·have ew:=eq_false hw
   simp (maxSteps:=10000000) (disch:=first|exact bk rfl|omega) only [go_sem,aUL,aZL,ln,ix,ra0,ra1,ew,aWQ,arZ,hg3,jX,r38,Int.reduceEq,aI]
   refine aG (.tup [.agg [.int .i64 z.from_,.int .i64 (z.from_+z.len)],.bool true]) ?_
   simp only [gV];rw [if_neg hw]
 ·have ln:=aTO h2
  have el:(((iD (fD m.at_ c.ink.slip) (jT c.session)).length:Int)=1)=False:=eq_false (by omega)
  simp (maxSteps:=10000000) (disch:=first|exact bk rfl|omega) only [go_sem,aUL,aZL,ln,el,aWQ,hg3,jX,r38,aI]
  refine aG (.tup [.agg [.int .i64 0,.int .i64 0],.bool false]) ?_
  rw [aIL hl1]
def okR:D->Bool
 | .tup [_,.bool b]=>b
 | _=>false
theorem oC (l:List Arc):∃a b:Int,gV l= .tup [.agg [.int .i64 a,.int .i64 b],.bool (okR (gV l))]:=by
 unfold gV
 split
 ·split
  ·exact⟨0,0,rfl⟩
  ·exact⟨_,_,rfl⟩
 ·exact⟨0,0,rfl⟩
noncomputable def mkE (s:dP) (i:Ink):List dO->Int
 | []=>0
 | m::l=>if eH m then (if okR (gV (eZ s m i)) then mkE s i l else 3) else 1
noncomputable def fX (c:cJ):Int:=if c.marks.length>12 then 2 else mkE c.session c.ink c.marks
theorem aPJ {s:dP} {i:Ink} {l:List dO} {n:Nat} (h:n<l.length) (hb:eH l[n]=false):mkE s i (l.drop n)=1:=by
 rw [fF h];simp [mkE,hb]
theorem aOY {s:dP} {i:Ink} {l:List dO} {n:Nat} (h:n<l.length) (hb:eH l[n]=true) (hr:okR (gV (eZ s l[n] i))=false):mkE s i (l.drop n)=3:=by
 rw [fF h];simp [mkE,hb,hr]
theorem aWY {s:dP} {i:Ink} {l:List dO} {n:Nat} (h:n<l.length) (hb:eH l[n]=true) (hr:okR (gV (eZ s l[n] i))=true):mkE s i (l.drop n)=mkE s i (l.drop (n+1)):=by
 rw [fF h];simp [mkE,hb,hr]
theorem aPI {s:dP} {i:Ink} {l:List dO} {n:Nat} (h:¬n<l.length):mkE s i (l.drop n)=0:=by
 rw [List.drop_eq_nil_of_le (by omega)];rfl
structure aWO (c:cJ):Prop where
 mks:Sl 5 bS c.marks c.dm
 mksL:c.marks.length<=9223372036854775807
 one:one (ofD c.session.ds)=true
 z:0<=c.session.zero.lo/\c.session.zero.lo<=43199
 e:c.session.zero.lo<=c.session.end_.hi/\c.session.end_.hi<=43199
 i:0<=c.ink.slip/\c.ink.slip<=600
theorem aWO.rch {c:cJ} (h:aWO c) {m:dO} (hm:eH m=true):aBI c.session m c.ink:=
 ⟨h.z,h.e,by simp only [eH,Bool.and_eq_true] at hm;exact hm.1.1.1.1,h.i⟩
def I46 (c:cJ) (m:Nat) (e:En) (H:Hp):Prop:=∃(n q:Nat),n<=c.marks.length/\m=c.marks.length - n/\e.dm=[]/\H.nx=q+1/\mkE c.session c.ink c.marks=mkE c.session c.ink (c.marks.drop n)/\E2.get e.t 3= .int .i64 n/\E2.get e.t 1= .ptr 0 0/\H.get 0=some (.cells (some 42) false (bD (bI c)))
theorem aRG (c:cJ) (ho:aWO c):CQ P G 46 [.agg (bI c)] (·= .int .i64 (fX c)):=by
 have hs:=ho.mks
 have hsl:=ho.mksL
 have hone:=ho.one
 refine CQ.enter hG ?_
 (try simp (disch:=first|exact bk rfl|omega) only [go_sem,bG,h46,r46,aK hs gY]);repeat' ((with_reducible first | apply aD | apply aE | apply aC)<;>intro h<;>(try simp only [spl] at h)<;>try simp (disch:=first|exact bk rfl|omega) only [go_sem,bG,h46,r46,aK hs gY,h])
 ·refine aG (.int .i64 2) ?_
  simp only [fX];rw [if_pos (by omega)]
 have hE:∀v,v=mkE c.session c.ink c.marks->v=fX c:=fun v hv=>by
  simp only [fX];rw [if_neg (by omega)];exact hv
 refine bA (I46 c) (fun m e H hi=> ?_) (m:=c.marks.length) ?_
 rotate_left
 ·exact⟨0,0,Nat.zero_le _,rfl,rfl,rfl,rfl,eg rfl rfl,eg rfl rfl,by first | rfl | (simp (disch:=first|exact bk rfl|omega) only [go_sem,bG]<;>rfl)⟩
 ·obtain⟨n,q,hn',rfl,hdm,hnx,hst,g3,g1,hg0⟩:=hi
  obtain⟨t,dm⟩:=e
  dsimp only at hdm g3 g1
  subst hdm
  rw [bG] at hg0
  simp only [go_sem] at hg0
  refine bC 200 ?_
  rw [awF]
  by_cases hlt:n<c.marks.length
  ·have hmk:=vN c.marks[n]
   have e1:((n:Int)<(c.marks.length:Int))=True:=eq_true (by omega)
   simp (disch:=first|exact bk rfl|omega) only [go_sem,e1,g3,g1,hg0,aK hs gY,aX hs gY wU qC hlt,aY dG hlt]
   refine bE hG _ hmk rfl ?_
   cases hb:eH c.marks[n]
   ·simp (disch:=first|exact bk rfl|omega) only [go_sem,g3,g1,hg0,r46]
    refine aG (.int .i64 1) ?_
    congr 1
    exact hE _ (by rw [hst,aPJ hlt hb])
   have hrc:=aEH c.session c.marks[n] c.ink (ho.rch hb) hone
   obtain⟨ra,rb,hra⟩:=oC (eZ c.session c.marks[n] c.ink)
   have hav:aR 1000 (ofD c.dm) (ofD c.dm)=true:=dB hs 999
   simp (disch:=first|exact bk rfl|omega) only [go_sem,g3,g1,hg0,aK hs gY,aX hs gY wU qC hlt,aY dG hlt,hone,hnx]
   refine bE hG [.agg (eO c.session),.agg (bS c.marks[n]),.agg (iI c.ink)] hrc rfl ?_
   rw [hra]
   cases hr:okR (gV (eZ c.session c.marks[n] c.ink))
   ·simp (disch:=first|exact bk rfl|omega) only [go_sem,g3,g1,hg0,hav,aX hs gY wU qC hlt,aY dG hlt,hone,hnx,jX,aM,aI,r46,Bool.not_false]
    refine aG (.int .i64 3) ?_
    congr 1
    exact hE _ (by rw [hst,aOY hlt hb hr])
   ·simp (disch:=first|exact bk rfl|omega) only [go_sem,g3,g1,hg0,hav,aX hs gY wU qC hlt,aY dG hlt,hone,hnx,jX,aM,aI,Bool.not_true]
    refine aZ (m':=c.marks.length - (n+1)) (by omega) ⟨n+1,_,by omega,rfl,rfl,rfl,by rw [hst,aWY hlt hb hr], ?_, ?_, ?_⟩<;>(first | rfl | (simp (disch:=first|exact bk rfl|omega) only [go_sem,g3,g1,hg0,bG,cL,aM,aI]<;>rfl))
  ·have e1:((n:Int)<(c.marks.length:Int))=False:=eq_false (by omega)
   simp (disch:=first|exact bk rfl|omega) only [go_sem,g3,g1,hg0,aK hs gY,e1,avC,r46]
   refine aG (.int .i64 0) ?_
   congr 1
   exact hE _ (by rw [hst,aPI hlt])
def fB (o:aF):Int:=if 40<tO o∨10<hO o then 2 else if eB o then (if 8<(jY [] o).length∨30<pG o then 2 else 0) else 7
theorem acA {l:List Str} {s:Str}:vP l s≠[]:=by
 unfold vP;split
 ·rename_i h;intro e;rw [e] at h;cases h
 ·simp
theorem aIM:∀(names l:List Str),l≠[]∨names≠[]->names.foldl vP l≠[]
 | [],l,h=>by rcases h with h | h;exact h;exact absurd rfl h
 | s::names,l,_=>aIM names _ (.inl acA)
mutual
theorem aUI:∀(o:aF) (l:List Str),eB o=true∨l≠[]->uE l o≠[]
 | .mk kind names dn gap most lo hi kids dk,l,h=>by
  rw [uE]
  by_cases hl:l≠[]∨names≠[]
  ·exact aFM kids _ (.inl (aIM names l hl))
  ·have hl1:l=[]:=by
    by_cases h:l=[]
    ·exact h
    ·exact absurd (.inl h) hl
   have hn:names=[]:=by
    by_cases h:names=[]
    ·exact h
    ·exact absurd (.inr h) hl
   have hf:eB (.mk kind names dn gap most lo hi kids dk)=true:=by
    rcases h with h | h
    ·exact h
    ·exact absurd hl1 h
   rw [jV,aAS,Bool.and_eq_true,Bool.and_eq_true,decide_eq_true_eq] at hf
   obtain⟨⟨hk,_⟩,hk2⟩:=hf
   subst hn
   simp only [dH,aF.kids,aF.names,List.length_nil] at hk hk2
   cases kids with
   | nil=>simp at hk
   | cons k ks=>exact aFM (k::ks) _ (.inr ⟨by simp,fun x hx=>by exact List.all_eq_true.1 hk2 x hx⟩)
theorem aFM:∀(os:List aF) (l:List Str),l≠[]∨(os≠[]/\∀o∈os,eB o=true)->jF l os≠[]
 | [],l,h=>by rw [jF];rcases h with h | h;exact h;exact absurd rfl h.1
 | o::os,l,h=>by
  rw [jF]
  refine aFM os _ (.inl (aUI o l ?_))
  rcases h with h | h
  ·exact .inr h
  ·exact .inl (h.2 o List.mem_cons_self)
end
mutual
theorem aYF:∀(o:aF),eB o=true->nO o<=4 * tO o
 | .mk kind names dn gap most lo hi kids dk,h=>by
  rw [jV,Bool.and_eq_true] at h
  have h1:=(kL h.1).1.2.1
  have h2:=aVT kids (fun x hx=>List.all_eq_true.1 h.2 x hx)
  simp only [aF.names] at h1
  rw [nO,tO]
  omega
theorem aVT:∀(os:List aF),(∀o∈os,eB o=true)->nOs os<=4 * tOs os
 | [],_=>by rw [nOs,tOs];omega
 | o::os,h=>by
  have h1:=aYF o (h o List.mem_cons_self)
  have h2:=aVT os fun x hx=>h x (List.mem_cons_of_mem _ hx)
  rw [nOs,tOs];omega
end
theorem aTL {o:aF} (ho:dC o):CQ P G 40 [.agg (aV o)] (·= .int .i64 (fB o)):=by
 have n1:=ho.n1
 have k1:=ho.k1
 refine CQ.enter hG ?_
 (try simp (disch:=first|exact bk rfl|omega) only [go_sem,aV,h40,n1,k1]);repeat' ((with_reducible first | apply aD | apply aE | apply aC)<;>intro h<;>(try simp only [spl] at h)<;>try simp (disch:=first|exact bk rfl|omega) only [go_sem,aV,h40,n1,k1,h])
 have hs:=aRL ho
 unfold aPR at hs
 simp only [aV,nS,uY,yZ] at hs
 refine hs 0 1 1 _ _ (by omega) (by omega) (by omega) (by omega) (by simp (disch:=first|exact bk rfl|omega) only [go_sem]) (by first | omega | (simp (disch:=first|exact bk rfl|omega) only [go_sem]<;>omega)) ?_
 intro r v' H1 hb hn hf hr1 hr2
 have hf0:=hf 0 (by first | omega | (simp (disch:=first|exact bk rfl|omega) only [go_sem]<;>omega)) (by omega)
 simp (disch:=omega) only [go_sem,aM,aI] at hf0 hn
 cases r
 ·have:=hr2 rfl
  simp (disch:=first|exact bk rfl|omega) only [go_sem]
  refine aG (.int .i64 2) ?_
  rw [fB,if_pos (by omega)]
 have hsm:=hr1 rfl
 have hsm':¬(40<tO o∨10<S5.hO o):=by omega
 have hfc:=aMG ho
 cases hfo:eB o<;>rw [hfo] at hfc
 ·(try simp (disch:=first|exact bk rfl|omega) only [go_sem,hf0,aV]);repeat' (first | ((with_reducible first | apply aD | apply aE | apply aC)<;>intro h<;>(try simp only [spl] at h)<;>try simp (disch:=first|exact bk rfl|omega) only [go_sem,hf0,aV,h])| ((with_reducible refine cR ?_;refine bE hG _ (hfc) rfl ?_)<;>try simp (disch:=first|exact bk rfl|omega) only [go_sem,hf0,aV]))
  refine aG (.int .i64 7) ?_
  rw [fB,if_neg hsm',hfo];rfl
 have hne:=aUI o [] (.inl hfo)
 have hle:=aYF o hfo
 have hrl:=aOS o []
 rw [List.length_nil] at hrl
 have hgl:=aRY o
 have hsp:=aOF ho
 have hE:fB o=if 8<(jY [] o).length∨30<pG o then 2 else 0:=by rw [fB,if_neg hsm',hfo];rfl
 simp (disch:=first|exact bk rfl|omega) only [go_sem,hf0]
 refine bE hG [.agg (aV o)] hfc rfl ?_
 simp (disch:=first|exact bk rfl|omega) only [go_sem,hf0]
 refine cS hG [.agg (aV o)] (aRQ ho hne (by omega)) rfl fun d ⟨l,hd,hl⟩=> ?_
 by_cases h8:8<(jY [] o).length
 ·(try simp (disch:=first|exact bk rfl|omega) only [go_sem,hf0,aK hd dE,show ((8:Int)<(l.length:Int))=True from eq_true (by omega)]);repeat' ((with_reducible first | apply aD | apply aE | apply aC)<;>intro h<;>(try simp only [spl] at h)<;>try simp (disch:=first|exact bk rfl|omega) only [go_sem,hf0,aK hd dE,show ((8:Int)<(l.length:Int))=True from eq_true (by omega),h])
  refine aG (.int .i64 2) ?_
  rw [hE,if_pos (.inl h8)]
 ·by_cases h30:30<pG o
  ·(try simp (disch:=first|exact bk rfl|omega) only [go_sem,hf0,aK hd dE,aV,show ((8:Int)<(l.length:Int))=False from eq_false (by omega),eq_true h30]);repeat' (first | ((with_reducible first | apply aD | apply aE | apply aC)<;>intro h<;>(try simp only [spl] at h)<;>try simp (disch:=first|exact bk rfl|omega) only [go_sem,hf0,aK hd dE,aV,show ((8:Int)<(l.length:Int))=False from eq_false (by omega),eq_true h30,h])| ((with_reducible refine cR ?_;refine bE hG _ (hsp) rfl ?_)<;>try simp (disch:=first|exact bk rfl|omega) only [go_sem,hf0,aK hd dE,aV,show ((8:Int)<(l.length:Int))=False from eq_false (by omega),eq_true h30]))
   refine aG (.int .i64 2) ?_
   rw [hE,if_pos (.inr h30)]
  ·(try simp (disch:=first|exact bk rfl|omega) only [go_sem,hf0,aK hd dE,aV,show ((8:Int)<(l.length:Int))=False from eq_false (by omega),eq_false h30]);repeat' (first | ((with_reducible first | apply aD | apply aE | apply aC)<;>intro h<;>(try simp only [spl] at h)<;>try simp (disch:=first|exact bk rfl|omega) only [go_sem,hf0,aK hd dE,aV,show ((8:Int)<(l.length:Int))=False from eq_false (by omega),eq_false h30,h])| ((with_reducible refine cR ?_;refine bE hG _ (hsp) rfl ?_)<;>try simp (disch:=first|exact bk rfl|omega) only [go_sem,hf0,aK hd dE,aV,show ((8:Int)<(l.length:Int))=False from eq_false (by omega),eq_false h30]))
   refine aG (.int .i64 0) ?_
   rw [hE,if_neg (by omega)]
theorem aSZ {o:aF} (ho:dC o):CQ P G 48 [.agg (aV o)] (·= .int .i64 (fB o)):=by
 have n1:=ho.n1
 have k1:=ho.k1
 have h1:=aKG ho 41 (by omega) (by omega)
 have h2:=aRF ho 10 (by omega) (by omega)
 have hfc:=aHN ho
 have hsp:=aIT ho
 refine CQ.enter hG ?_
 by_cases ht:40<tO o
 ·(try simp (disch:=first|exact bk rfl|omega) only [go_sem,aV,h48,n1,k1,show ((40:Int)<min (tO o:Int) 41)=True from eq_true (by omega)]);repeat' (first | ((with_reducible first | apply aD | apply aE | apply aC)<;>intro h<;>(try simp only [spl] at h)<;>try simp (disch:=first|exact bk rfl|omega) only [go_sem,aV,h48,n1,k1,show ((40:Int)<min (tO o:Int) 41)=True from eq_true (by omega),h])| ((with_reducible refine cR ?_;refine bE hG _ (h1) rfl ?_)<;>try simp (disch:=first|exact bk rfl|omega) only [go_sem,aV,h48,n1,k1,show ((40:Int)<min (tO o:Int) 41)=True from eq_true (by omega)]))
  refine aG (.int .i64 2) ?_
  rw [fB,if_pos (.inl ht)]
 have ht':((40:Int)<min (tO o:Int) 41)=False:=eq_false (by omega)
 by_cases hh:S5.hO o<=10
 rotate_left
 ·(try simp (disch:=first|exact bk rfl|omega) only [go_sem,aV,h48,n1,k1,ht',show ((S5.hO o:Int)<=10)=False from eq_false (by omega)]);repeat' (first | ((with_reducible first | apply aD | apply aE | apply aC)<;>intro h<;>(try simp only [spl] at h)<;>try simp (disch:=first|exact bk rfl|omega) only [go_sem,aV,h48,n1,k1,ht',show ((S5.hO o:Int)<=10)=False from eq_false (by omega),h])| ((with_reducible refine cR ?_;first | refine bE hG _ (h1) rfl ?_ | refine bE hG _ (h2) rfl ?_)<;>try simp (disch:=first|exact bk rfl|omega) only [go_sem,aV,h48,n1,k1,ht',show ((S5.hO o:Int)<=10)=False from eq_false (by omega)]))
  refine aG (.int .i64 2) ?_
  rw [fB,if_pos (by omega)]
 have hh':((S5.hO o:Int)<=10)=True:=eq_true (by omega)
 have hsm':¬(40<tO o∨10<S5.hO o):=by omega
 cases hfo:eB o<;>rw [hfo] at hfc
 ·(try simp (disch:=first|exact bk rfl|omega) only [go_sem,aV,h48,n1,k1,ht',hh']);repeat' (first | ((with_reducible first | apply aD | apply aE | apply aC)<;>intro h<;>(try simp only [spl] at h)<;>try simp (disch:=first|exact bk rfl|omega) only [go_sem,aV,h48,n1,k1,ht',hh',h])| ((with_reducible refine cR ?_;first | refine bE hG _ (h1) rfl ?_ | refine bE hG _ (h2) rfl ?_ | refine bE hG _ (hfc) rfl ?_)<;>try simp (disch:=first|exact bk rfl|omega) only [go_sem,aV,h48,n1,k1,ht',hh']))
  refine aG (.int .i64 7) ?_
  rw [fB,if_neg hsm',hfo];rfl
 have hle:=aYF o hfo
 have hE:fB o=if 8<(jY [] o).length∨30<pG o then 2 else 0:=by rw [fB,if_neg hsm',hfo];rfl
 (try simp (disch:=first|exact bk rfl|omega) only [go_sem,aV,h48,n1,k1,ht',hh']);repeat' (first | ((with_reducible first | apply aD | apply aE | apply aC)<;>intro h<;>(try simp only [spl] at h)<;>try simp (disch:=first|exact bk rfl|omega) only [go_sem,aV,h48,n1,k1,ht',hh',h])| ((with_reducible refine cR ?_;first | refine bE hG _ (h1) rfl ?_ | refine bE hG _ (h2) rfl ?_ | refine bE hG _ (hfc) rfl ?_)<;>try simp (disch:=first|exact bk rfl|omega) only [go_sem,aV,h48,n1,k1,ht',hh']))
 refine cS hG [.nils,.agg (aV o)] (aLV ho [] .nils (.inl ⟨rfl,rfl⟩) (by simp;omega)) rfl fun d hd=> ?_
 by_cases h8:8<(jY [] o).length
 ·(try simp (disch:=first|exact bk rfl|omega) only [go_sem,aK hd dE,show ((8:Int)<((jY [] o).length:Int))=True from eq_true (by omega)]);repeat' ((with_reducible first | apply aD | apply aE | apply aC)<;>intro h<;>(try simp only [spl] at h)<;>try simp (disch:=first|exact bk rfl|omega) only [go_sem,aK hd dE,show ((8:Int)<((jY [] o).length:Int))=True from eq_true (by omega),h])
  refine aG (.int .i64 2) ?_
  rw [hE,if_pos (.inl h8)]
 ·by_cases h30:30<pG o
  ·(try simp (disch:=first|exact bk rfl|omega) only [go_sem,aK hd dE,aV,show ((8:Int)<((jY [] o).length:Int))=False from eq_false (by omega),eq_true h30]);repeat' (first | ((with_reducible first | apply aD | apply aE | apply aC)<;>intro h<;>(try simp only [spl] at h)<;>try simp (disch:=first|exact bk rfl|omega) only [go_sem,aK hd dE,aV,show ((8:Int)<((jY [] o).length:Int))=False from eq_false (by omega),eq_true h30,h])| ((with_reducible refine cR ?_;refine bE hG _ (hsp) rfl ?_)<;>try simp (disch:=first|exact bk rfl|omega) only [go_sem,aK hd dE,aV,show ((8:Int)<((jY [] o).length:Int))=False from eq_false (by omega),eq_true h30]))
   refine aG (.int .i64 2) ?_
   rw [hE,if_pos (.inr h30)]
  ·(try simp (disch:=first|exact bk rfl|omega) only [go_sem,aK hd dE,aV,show ((8:Int)<((jY [] o).length:Int))=False from eq_false (by omega),eq_false h30]);repeat' (first | ((with_reducible first | apply aD | apply aE | apply aC)<;>intro h<;>(try simp only [spl] at h)<;>try simp (disch:=first|exact bk rfl|omega) only [go_sem,aK hd dE,aV,show ((8:Int)<((jY [] o).length:Int))=False from eq_false (by omega),eq_false h30,h])| ((with_reducible refine cR ?_;refine bE hG _ (hsp) rfl ?_)<;>try simp (disch:=first|exact bk rfl|omega) only [go_sem,aK hd dE,aV,show ((8:Int)<((jY [] o).length:Int))=False from eq_false (by omega),eq_false h30]))
   refine aG (.int .i64 0) ?_
   rw [hE,if_neg (by omega)]
structure dD (c:cJ):Prop where
 house:tN c.house
 stops:Sl 3 hZ c.session.stops c.session.ds
 stopsL:c.session.stops.length<=9223372036854775807
 st:asN c
 mks:Sl 5 bS c.marks c.dm
 mksL:c.marks.length<=9223372036854775807
 order:dC c.order
noncomputable def cU (c:cJ):Int:=
 if eV c.house=0 then (if gE c.session=0 then (if (iE c.keys&&mP c.ink)=true then (if dQ c=0 then (if fX c=0 then
  (if 0<=c.start/\c.start<=(c.house.rooms.length:Int) - 1/\mQ c.since=true then fB c.order else 1) else fX c) else dQ c) else 1) else gE c.session) else eV c.house
theorem aPV {s:dP} (h:gE s=0):(0<=s.zero.lo/\s.zero.lo<=43199)/\(s.zero.lo<=s.end_.hi/\s.end_.hi<=43199):=by
 simp only [gE] at h
 split at h
 ·omega
 ·split at h
  ·rename_i hb
   simp only [uD,dW,Bool.and_eq_true,decide_eq_true_eq] at hb
   omega
  ·omega
theorem dD.mk' {c:cJ} (h:dD c) (hs:gE c.session=0) (hi:mP c.ink=true):aWO c:=
 ⟨h.mks,h.mksL,bW h.stops,(aPV hs).1,(aPV hs).2,by simp only [mP,decide_eq_true_eq] at hi;omega⟩
theorem aVA (c:cJ) (ho:dD c):CQ P G 9 [.agg (bI c)] (·= .int .i64 (cU c)):=by
 have hone:=bW ho.stops
 have hr:=ho.house.rooms
 have hrl:=ho.house.roomsL
 refine CQ.enter hG ?_
 simp (disch:=first|exact bk rfl|omega) only [go_sem,bG,h9]
 refine bE hG [.agg (cH c.house)] (aQZ c.house ho.house) rfl ?_
 by_cases h1:eV c.house=0
 rotate_left
 ·have e1:=eq_false h1
  simp (disch:=first|exact bk rfl|omega) only [go_sem,e1]
  refine aG (.int .i64 _) ?_
  simp only [cU];rw [if_neg h1]
 have e1:=eq_true h1
 simp (disch:=first|exact bk rfl|omega) only [go_sem,e1,hone,arU]
 refine bE hG [.agg (aRK c.session)] (aOK c.session ho.stops ho.stopsL) rfl ?_
 by_cases h2:gE c.session=0
 rotate_left
 ·have e2:=eq_false h2
  simp (disch:=first|exact bk rfl|omega) only [go_sem,e2]
  refine aG (.int .i64 _) ?_
  simp only [cU];rw [if_pos h1,if_neg h2]
 have e2:=eq_true h2
 simp (disch:=first|exact bk rfl|omega) only [go_sem,e2]
 refine bE hG [c.dk] (aTK c.keys c.dk ho.st.keys ho.st.keysL) rfl ?_
 simp (disch:=first|exact bk rfl|omega) only [go_sem]
 refine bE hG [.agg (iI c.ink)] (abM c.ink) rfl ?_
 cases h3:iE c.keys
 ·simp (disch:=first|exact bk rfl|omega) only [go_sem,Bool.not_false]
  refine aG (.int .i64 _) ?_
  simp only [cU];rw [if_pos h1,if_pos h2,if_neg (by rw [h3];simp)]
 cases h4:mP c.ink
 ·simp (disch:=first|exact bk rfl|omega) only [go_sem,Bool.not_false,Bool.not_true]
  refine aG (.int .i64 _) ?_
  simp only [cU];rw [if_pos h1,if_pos h2,if_neg (by rw [h4];simp)]
 have h34:(iE c.keys&&mP c.ink)=true:=by rw [h3,h4];rfl
 simp (disch:=first|exact bk rfl|omega) only [go_sem,Bool.not_false,Bool.not_true,hone]
 refine bE hG [.agg (bI c)] (aFG c ho.st) (by rw [bG];rfl) ?_
 by_cases h5:dQ c=0
 rotate_left
 ·have e5:=eq_false h5
  simp (disch:=first|exact bk rfl|omega) only [go_sem,e5]
  refine aG (.int .i64 _) ?_
  simp only [cU];rw [if_pos h1,if_pos h2,if_pos h34,if_neg h5]
 have e5:=eq_true h5
 simp (disch:=first|exact bk rfl|omega) only [go_sem,e5]
 refine bE hG [.agg (bI c)] (aRG c (ho.mk' h2 h4)) (by rw [bG];rfl) ?_
 by_cases h6:fX c=0
 rotate_left
 ·have e6:=eq_false h6
  simp (disch:=first|exact bk rfl|omega) only [go_sem,e6]
  refine aG (.int .i64 _) ?_
  simp only [cU];rw [if_pos h1,if_pos h2,if_pos h34,if_pos h5,if_neg h6]
 have e6:=eq_true h6
 simp (disch:=first|exact bk rfl|omega) only [go_sem,e6,aK hr jC]
 refine bE hG [.int .i64 c.start,.int .i64 0,.int .i64 ((c.house.rooms.length:Int) - 1)] (aNZ c.start 0 ((c.house.rooms.length:Int) - 1)) rfl ?_
 cases h7:inB c.start 0 ((c.house.rooms.length:Int) - 1)
 ·simp (disch:=first|exact bk rfl|omega) only [go_sem,Bool.not_false]
  refine aG (.int .i64 _) ?_
  simp only [inB,decide_eq_false_iff_not] at h7
  simp only [cU];rw [if_pos h1,if_pos h2,if_pos h34,if_pos h5,if_pos h6,if_neg (by omega)]
 simp (disch:=first|exact bk rfl|omega) only [go_sem,Bool.not_true]
 refine bE hG [.int .i64 c.since] (aYP c.since) rfl ?_
 simp only [inB,decide_eq_true_eq] at h7
 cases h8:mQ c.since
 ·simp (disch:=first|exact bk rfl|omega) only [go_sem,Bool.not_false]
  refine aG (.int .i64 _) ?_
  simp only [cU];rw [if_pos h1,if_pos h2,if_pos h34,if_pos h5,if_pos h6,if_neg (by simp [h8])]
 simp (disch:=first|exact bk rfl|omega) only [go_sem,Bool.not_true]
 refine bE hG [.agg (aV c.order)] (aSZ ho.order) (by rw [aCR];rfl) ?_
 refine aG (.int .i64 _) ?_
 simp only [cU];rw [if_pos h1,if_pos h2,if_pos h34,if_pos h5,if_pos h6,if_pos ⟨h7.1,h7.2,h8⟩]
noncomputable def aDS (c:cJ):Int:=if 0<=c.start/\c.start<=(c.house.rooms.length:Int) - 1/\mQ c.since=true then fB c.order else 1
noncomputable def iL (c:cJ):Int:=if fX c=0 then aDS c else fX c
noncomputable def qM (c:cJ):Int:=if dQ c=0 then iL c else dQ c
theorem aRI (c:cJ):cU c=if eV c.house=0 then (if gE c.session=0 then (if (iE c.keys&&mP c.ink)=true then qM c else 1) else gE c.session) else eV c.house:=rfl
section
variable {c : cJ} {t : E2} {H : Hp} {k : AEx -> En -> Hp -> Bool} {ro : Option Nat}
set_option maxHeartbeats 2000000 in
theorem a1Q (ho:dD c) (g1:E2.get t 1= .ptr 0 0) (hg0:H.get 0=some (.cells (some 42) false (bD (bI c)))) (hk:∀t' H',E2.get t' 2= .int .i64 (aDS c)->k .ret ⟨t',[]⟩ H'=true):
  cd P G 192 135 (aJ 8 [1,1,1,1,1,1,1,1]) ro ⟨t,[]⟩ H k=true:=by
 have hr:=ho.house.rooms
 have hrl:=ho.house.roomsL
 rw [bG] at hg0
 simp only [go_sem] at hg0
 rw [a2M]
 simp (disch:=first|exact bk rfl|omega) only [go_sem,g1,hg0,aK hr jC]
 refine bE hG [.int .i64 c.start,.int .i64 (c.house.rooms.length:Int)] (wJ c.start (c.house.rooms.length:Int)) rfl ?_
 cases h7:fC c.start (c.house.rooms.length:Int)
 ·simp (disch:=first|exact bk rfl|omega) only [go_sem,Bool.not_false]
  refine hk _ _ ?_
  simp only [fC,decide_eq_false_iff_not] at h7
  have e:aDS c=1:=if_neg (by omega)
  rw [e]
  first | rfl | (simp (disch:=first|exact bk rfl|omega) only [go_sem]<;>rfl)
 simp (disch:=first|exact bk rfl|omega) only [go_sem,Bool.not_true,g1,hg0]
 refine bE hG [.int .i64 c.since] (aZG c.since) rfl ?_
 simp only [fC,decide_eq_true_eq] at h7
 cases h8:mQ c.since
 ·simp (disch:=first|exact bk rfl|omega) only [go_sem,Bool.not_false]
  refine hk _ _ ?_
  have e:aDS c=1:=if_neg (by simp [h8])
  rw [e]
  first | rfl | (simp (disch:=first|exact bk rfl|omega) only [go_sem]<;>rfl)
 simp (disch:=first|exact bk rfl|omega) only [go_sem,Bool.not_true,g1,hg0]
 refine bE hG [.agg (aV c.order)] (aTL ho.order) (by rw [aCR];rfl) ?_
 simp (disch:=first|exact bk rfl|omega) only [go_sem]
 refine hk _ _ ?_
 have e:aDS c=fB c.order:=if_pos ⟨h7.1,by omega,h8⟩
 rw [e]
 first | rfl | (simp (disch:=first|exact bk rfl|omega) only [go_sem]<;>rfl)
def I8c (c:cJ) (m:Nat) (e:En) (H:Hp):Prop:=∃(n q:Nat),n<=c.marks.length/\m=c.marks.length - n/\e.dm=[]/\H.nx=q+1/\mkE c.session c.ink c.marks=mkE c.session c.ink (c.marks.drop n)/\E2.get e.t 102= .int .i64 n/\E2.get e.t 101= .int .i64 c.marks.length/\E2.get e.t 100=ofD c.dm/\E2.get e.t 1= .ptr 0 0/\H.get 0=some (.cells (some 42) false (bD (bI c)))
theorem a0I (ho:dD c) (hmk:aWO c) {q:Nat} (hq:H.nx=q+1) (g1:E2.get t 1= .ptr 0 0) (hg0:H.get 0=some (.cells (some 42) false (bD (bI c)))) (hk:∀t' H',E2.get t' 2= .int .i64 (iL c)->k .ret ⟨t',[]⟩ H'=true):
  cd P G 194 135 (aJ 8 [1,1,1,1,1,1]) ro ⟨t,[]⟩ H k=true:=by
 have hs:=ho.mks
 have hsl:=ho.mksL
 have hone:=hmk.one
 have hg0':=hg0
 rw [bG] at hg0'
 simp only [go_sem] at hg0'
 rw [a5J]
 by_cases h12:c.marks.length>12
 ·have e12:((12:Int)<(c.marks.length:Int))=True:=eq_true (by omega)
  simp (disch:=first|exact bk rfl|omega) only [go_sem,g1,hg0',aK hs gY,e12]
  refine hk _ _ ?_
  have e:fX c=2:=if_pos h12
  have e':iL c=2:=by unfold iL;rw [e,if_neg (by decide)]
  rw [e']
  first | rfl | (simp (disch:=first|exact bk rfl|omega) only [go_sem]<;>rfl)
 have e12:((12:Int)<(c.marks.length:Int))=False:=eq_false (by omega)
 simp (disch:=first|exact bk rfl|omega) only [go_sem,g1,hg0',aK hs gY,e12]
 have hE:fX c=mkE c.session c.ink c.marks:=if_neg h12
 refine bA (I8c c) (fun m e H hi=> ?_) (m:=c.marks.length) ?_
 rotate_left
 ·exact⟨0,q,Nat.zero_le _,rfl,rfl,hq,rfl,eg rfl rfl,eg rfl rfl,eg rfl rfl,eg rfl g1,hg0⟩
 clear hg0 hg0' g1 hq
 obtain⟨n,q,hn',rfl,hdm,hnx,hst,g3,g4,g5,g1,hg0⟩:=hi
 obtain⟨t,dm⟩:=e
 dsimp only at hdm g3 g4 g5 g1
 subst hdm
 have hg0':=hg0
 rw [bG] at hg0'
 simp only [go_sem] at hg0'
 have z1:((0:Nat)=H.nx)=False:=eq_false (by omega)
 have z2:((0:Nat)=H.nx+1)=False:=eq_false (by omega)
 refine bC 200 ?_
 rw [a5I]
 by_cases hlt:n<c.marks.length
 ·have hcm:=pN c.marks[n]
  have e1:((n:Int)<(c.marks.length:Int))=True:=eq_true (by omega)
  simp (disch:=first|exact bk rfl|omega) only [go_sem,e1,g3,g4,g5,g1,aK hs gY,aX hs gY wU qC hlt,aY dG hlt,bS,aM,aI]
  refine bE hG [.agg (bS c.marks[n])] hcm rfl ?_
  cases hb:eH c.marks[n]
  ·simp (disch:=first|exact bk rfl|omega) only [go_sem,Bool.false_eq_true,if_false,Int.reduceEq]
   refine hk _ _ ?_
   have e:fX c=1:=by rw [hE,hst,aPJ hlt hb]
   have e':iL c=1:=by unfold iL;rw [e,if_neg (by decide)]
   rw [e']
   first | rfl | (simp (disch:=first|exact bk rfl|omega) only [go_sem]<;>rfl)
  have hrc:=rX c c.marks[n] (hmk.rch hb)
  obtain⟨ra,rb,hra⟩:=oC (eZ c.session c.marks[n] c.ink)
  simp (disch:=first|exact bk rfl|omega) only [go_sem,Int.reduceEq,if_true,g1,hg0',z1,z2,aM,aI]
  refine bE hG [.agg (bI c),.agg (bS c.marks[n])] hrc (by rw [bG];rfl) ?_
  rw [hra]
  cases hr:okR (gV (eZ c.session c.marks[n] c.ink))
  ·simp (disch:=first|exact bk rfl|omega) only [go_sem,Bool.not_false,aM,aI]
   refine hk _ _ ?_
   have e:fX c=3:=by rw [hE,hst,aOY hlt hb hr]
   have e':iL c=3:=by unfold iL;rw [e,if_neg (by decide)]
   rw [e']
   first | rfl | (simp (disch:=first|exact bk rfl|omega) only [go_sem]<;>rfl)
  ·simp (disch:=first|exact bk rfl|omega) only [go_sem,Bool.not_true,g3,aM,aI]
   refine aZ (m':=c.marks.length - (n+1)) (by omega) ⟨n+1,_,by omega,rfl,rfl,rfl,by rw [hst,aWY hlt hb hr], ?_, ?_, ?_, ?_, ?_⟩
   ·first | rfl | (simp (disch:=first|exact bk rfl|omega) only [go_sem,g3]<;>rfl)
   ·first | rfl | (simp (disch:=first|exact bk rfl|omega) only [go_sem,g4]<;>rfl)
   ·first | rfl | (simp (disch:=first|exact bk rfl|omega) only [go_sem,g5]<;>rfl)
   ·first | rfl | (simp (disch:=first|exact bk rfl|omega) only [go_sem,g1]<;>rfl)
   ·rw [bG];first | rfl | (simp (disch:=first|exact bk rfl|omega) only [go_sem,hg0',z1,z2,aM,aI]<;>rfl)
 ·have e1:((n:Int)<(c.marks.length:Int))=False:=eq_false (by omega)
  simp (disch:=first|exact bk rfl|omega) only [go_sem,g3,g4,e1]
  refine a1Q ho (eg rfl g1) hg0 fun t' H' g2=> ?_
  refine hk _ _ ?_
  have e:fX c=0:=by rw [hE,hst,aPI hlt]
  have e':iL c=aDS c:=by unfold iL;rw [if_pos e]
  rw [e']
  exact g2
end
theorem aZC (c:cJ) (id:Int) (hs:Sl 3 dJ c.keys c.dk) (hl:c.keys.length<=9223372036854775807):CQ P G 34 [.agg (bI c),.int .i64 id] (fun d=>∃k:Key,d= .tup [.agg (dJ k),.bool (sM c.keys id)]):=by
 refine CQ.enter hG ?_
 (try simp (disch:=first|exact bk rfl|omega) only [go_sem,bG,h34]);repeat' ((with_reducible first | apply aD | apply aE | apply aC)<;>intro h<;>(try simp only [spl] at h)<;>try simp (disch:=first|exact bk rfl|omega) only [go_sem,bG,h34,h])
 refine aJM hG (aEC c.keys c.dk hs hl 89 [.ptr [.int .i64 id] 0] (fun k=>decide (k.id=id)) (by kernel_rfl) (by kernel_rfl) (fun x _=>aJQ x id)) (.cons _ _ [] _ _ _ (.fro c.dk) (.cons _ _ _ _ _ [] (.fn 89 [] [.ptr 1 0] [] [.ptr [.int .i64 id] 0] [] _ .nil (.cons _ _ _ _ _ [] (.ptr 1 0 _ _ _ _ _ (by first | rfl | (simp (disch:=first|exact bk rfl|omega) only [go_sem]<;>rfl)) (.fro [.int .i64 id])) .nil)) .nil)) (fun d hd=>⟨.inr (by rw [hd];rfl), ?_⟩)
 subst hd
 cases hh:sM c.keys id with
 | true=>
  have h1:0<=eA (fun k=>decide (k.id=id)) c.keys:=qQ hh
  have h2:=(wE (fun k=>decide (k.id=id)) c.keys).2
  obtain⟨n,hn⟩:∃n:Nat,eA (fun k=>decide (k.id=id)) c.keys=(n:Int):=⟨_,(Int.toNat_of_nonneg h1).symm⟩
  have hlt:n<c.keys.length:=by omega
  have h0:((n:Int)<0)=False:=by simp
  (try simp (disch:=first|exact bk rfl|omega) only [go_sem,hn,h0,aX hs gO rK oV hlt,aY dR hlt,dJ]);repeat' ((with_reducible first | apply aD | apply aE | apply aC)<;>intro h<;>(try simp only [spl] at h)<;>try simp (disch:=first|exact bk rfl|omega) only [go_sem,hn,h0,aX hs gO rK oV hlt,aY dR hlt,dJ,h])
  exact aG (.tup [.agg (dJ c.keys[n]),.bool true]) ⟨c.keys[n],rfl⟩
 | false=>
  have h1:eA (fun k=>decide (k.id=id)) c.keys= -1:=sS hh
  (try simp (disch:=first|exact bk rfl|omega) only [go_sem,h1,Int.reduceLT,Int.reduceNeg]);repeat' ((with_reducible first | apply aD | apply aE | apply aC)<;>intro h<;>(try simp only [spl] at h)<;>try simp (disch:=first|exact bk rfl|omega) only [go_sem,h1,Int.reduceLT,Int.reduceNeg,h])
  exact aG (.tup [.agg (dJ ⟨0,0,0⟩),.bool false]) ⟨⟨0,0,0⟩,rfl⟩
def I8a (c:cJ) (m:Nat) (e:En) (H:Hp):Prop:=∃(n q:Nat),n<=c.stations.length/\m=c.stations.length - n/\e.dm=[]/\H.nx=q+1/\stE c [] c.stations=stE c (c.stations.take n) (c.stations.drop n)/\E2.get e.t 42= .int .i64 n/\E2.get e.t 41= .int .i64 c.stations.length/\E2.get e.t 40=ofD c.dst/\E2.get e.t 1= .ptr 0 0/\H.get 0=some (.cells (some 42) false (bD (bI c)))
def I8b (c:cJ) (n b:Nat) (x:eC) (dp:D) (m:Nat) (e:En) (H:Hp):Prop:=∃k:Nat,k<=n/\m=n - k/\e.dm=[]/\b<H.nx/\0<b/\(∀y∈c.stations.take k,jP x y=false)/\E2.get e.t 77= .int .i64 k/\E2.get e.t 76= .int .i64 n/\E2.get e.t 75=ofD dp/\E2.get e.t 7= .ptr b 0/\H.get b=some (.cells (some 94) false (bD (cN x)))/\
 E2.get e.t 42= .int .i64 n/\E2.get e.t 41= .int .i64 c.stations.length/\E2.get e.t 40=ofD c.dst/\E2.get e.t 1= .ptr 0 0/\H.get 0=some (.cells (some 42) false (bD (bI c)))
section
variable {c : cJ} {t : E2} {H : Hp} {k : AEx -> En -> Hp -> Bool} {ro : Option Nat}
theorem a5N {n j b q:Nat} {x:eC} {dp:D} (hn:n<c.stations.length) (hx:x=c.stations[n]) (hj:j<n) (hp:Sl 3 cN (c.stations.take n) dp) (hb:b<H.nx) (hb0:0<b)
  (g77:E2.get t 77= .int .i64 j) (g76:E2.get t 76= .int .i64 n) (g75:E2.get t 75=ofD dp) (g7:E2.get t 7= .ptr b 0) (hgb:H.get b=some (.cells (some 94) false (bD (cN x))))
  (g42:E2.get t 42= .int .i64 n) (g41:E2.get t 41= .int .i64 c.stations.length) (g40:E2.get t 40=ofD c.dst) (g1:E2.get t 1= .ptr 0 0) (hg0:H.get 0=some (.cells (some 42) false (bD (bI c)))) (hnl:n<=1000000)
  (hk6:∀t' H',jP x (c.stations[j]'(by omega))=true->E2.get t' 2= .int .i64 6->k .ret ⟨t',[]⟩ H'=true)
  (hkn:∀t' H',jP x (c.stations[j]'(by omega))=false->E2.get t' 77= .int .i64 ((j+1:Nat):Int)->E2.get t' 76= .int .i64 n->E2.get t' 75=ofD dp->E2.get t' 7= .ptr b 0->E2.get t' 42= .int .i64 n->E2.get t' 41= .int .i64 c.stations.length->E2.get t' 40=ofD c.dst->E2.get t' 1= .ptr 0 0->
   (∀e,e<H.nx->H'.get e=H.get e)->H.nx<=H'.nx->k .normal ⟨t',[]⟩ H'=true):
  cd P G 200 135 (aJ 8 [1,1,1,1,1,0,1,0,0,1,1,0,0,1,1,1,0]) ro ⟨t,[]⟩ H k=true:=by
 have hjl:j<(c.stations.take n).length:=by rw [List.length_take];omega
 have hgj:(c.stations.take n)[j]=c.stations[j]'(by omega):=List.getElem_take ..
 have e1:((j:Int)<(n:Int))=True:=eq_true (by omega)
 have z1:(b=H.nx)=False:=eq_false (by omega)
 have z2:(H.nx=b)=False:=eq_false (by omega)
 have hfr:∀(B:Blk) (B':Option Blk) (e:Nat),e<H.nx->((H.push B).setb H.nx B').get e=H.get e:=fun B B' e he=>by
  have a1:(e=H.nx)=False:=eq_false (by omega)
  simp (disch:=first|exact bk rfl|omega) only [go_sem,a1,aM,aI,if_false]
 simp only [cN,go_sem] at hgb
 rw [asL]
 by_cases hN:(c.stations[j]'(by omega)).name=x.name
 ·have eN:=eq_true hN
  simp (disch:=first|exact bk rfl|omega) only [go_sem,e1,g77,g76,g75,aX hp gZ xF rM hjl,aY cF hjl,hgj,cN,aM,aI,hgb,g7,z1,z2,eN,decide_true,Bool.not_true,Bool.not_false]
  refine hk6 _ _ (by simp [jP,hN]) ?_
  first | rfl | (simp (disch:=first|exact bk rfl|omega) only [go_sem]<;>rfl)
 have eN:=eq_false hN
 by_cases hK:(c.stations[j]'(by omega)).key=x.key
 ·have eK:=eq_true hK
  simp (disch:=first|exact bk rfl|omega) only [go_sem,e1,g77,g76,g75,aX hp gZ xF rM hjl,aY cF hjl,hgj,cN,aM,aI,hgb,g7,z1,z2,eN,eK,decide_true,decide_false,Bool.not_true,Bool.not_false]
  refine hk6 _ _ (by simp [jP,hK]) ?_
  first | rfl | (simp (disch:=first|exact bk rfl|omega) only [go_sem]<;>rfl)
 have eK:=eq_false hK
 simp (disch:=first|exact bk rfl|omega) only [go_sem,e1,g77,g76,g75,aX hp gZ xF rM hjl,aY cF hjl,hgj,cN,aM,aI,hgb,g7,z1,z2,eN,eK,decide_true,decide_false,Bool.not_true,Bool.not_false]
 refine hkn _ _ (by simp [jP,hN,hK]) ?_ ?_ ?_ ?_ ?_ ?_ ?_ ?_ (hfr _ _) ?_
 ·first | rfl | (simp (disch:=first|exact bk rfl|omega) only [go_sem,g77]<;>rfl)
 ·first | rfl | (simp (disch:=first|exact bk rfl|omega) only [go_sem,g76]<;>rfl)
 ·first | rfl | (simp (disch:=first|exact bk rfl|omega) only [go_sem,g75]<;>rfl)
 ·first | rfl | (simp (disch:=first|exact bk rfl|omega) only [go_sem,g7]<;>rfl)
 ·first | rfl | (simp (disch:=first|exact bk rfl|omega) only [go_sem,g42]<;>rfl)
 ·first | rfl | (simp (disch:=first|exact bk rfl|omega) only [go_sem,g41]<;>rfl)
 ·first | rfl | (simp (disch:=first|exact bk rfl|omega) only [go_sem,g40]<;>rfl)
 ·first | rfl | (simp (disch:=first|exact bk rfl|omega) only [go_sem,g1]<;>rfl)
 ·first | omega | (simp (disch:=first|exact bk rfl|omega) only [go_sem]<;>omega)
end
theorem a1U:cK P 35=some 94:=by kernel_rfl
section
variable {c : cJ} {t : E2} {H : Hp} {k : AEx -> En -> Hp -> Bool} {ro : Option Nat}
theorem a2S (ho:dD c) {n q:Nat} (hlt:n<c.stations.length) (hl8:c.stations.length<=8) (hq:H.nx=q+1)
  (g42:E2.get t 42= .int .i64 n) (g41:E2.get t 41= .int .i64 c.stations.length) (g40:E2.get t 40=ofD c.dst) (g1:E2.get t 1= .ptr 0 0) (hg0:H.get 0=some (.cells (some 42) false (bD (bI c))))
  (hk1:∀t' H',eE c c.stations[n]=false->E2.get t' 2= .int .i64 1->k .ret ⟨t',[]⟩ H'=true)
  (hk6:∀t' H',eE c c.stations[n]=true->(c.stations.take n).any (jP c.stations[n])=true->E2.get t' 2= .int .i64 6->k .ret ⟨t',[]⟩ H'=true)
  (hkn:∀t' H' q',eE c c.stations[n]=true->(c.stations.take n).any (jP c.stations[n])=false->E2.get t' 42= .int .i64 ((n+1:Nat):Int)->E2.get t' 41= .int .i64 c.stations.length->E2.get t' 40=ofD c.dst->E2.get t' 1= .ptr 0 0->
   H'.nx=q'+1->H'.get 0=some (.cells (some 42) false (bD (bI c)))->k .normal ⟨t',[]⟩ H'=true):
  cd P G 200 135 (aJ 8 [1,1,1,1,1,0,1,0]) ro ⟨t,[]⟩ H k=true:=by
 obtain⟨hks,hkl,hr,hrl,hs,hsl,hnl⟩:=ho.st
 have hnm:=hnl _ (List.getElem_mem hlt)
 have hg0':=hg0
 rw [bG] at hg0'
 simp only [go_sem] at hg0'
 have z1:((0:Nat)=H.nx)=False:=eq_false (by omega)
 have z2:(H.nx=0)=False:=eq_false (by omega)
 have z3:((0:Nat)=H.nx+1)=False:=eq_false (by omega)
 have z4:(H.nx=H.nx+1)=False:=eq_false (by omega)
 have z5:(H.nx+1=H.nx)=False:=eq_false (by omega)
 have hpre:=hs.take cF (n:=n) (by omega)
 have hko:=aZC c c.stations[n].key hks hkl
 have hn35:=aRH c.stations[n].name hnm
 have hi36:=wJ c.stations[n].room (c.house.rooms.length:Int)
 have e1:((n:Int)<(c.stations.length:Int))=True:=eq_true (by omega)
 generalize hX:c.stations[n]=X at *
 rw [axG]
 simp (disch:=first|exact bk rfl|omega) only [go_sem,e1,g42,g41,g40,g1,hg0',aX hs gZ xF rM hlt,aY cF hlt,hX,cN,aM,aI,z1,z2]
 refine cS hG [.agg (bI c),.int .i64 X.key] hko (by rw [bG];rfl) ?_
 rintro d ⟨ky,rfl⟩
 cases hk:sM c.keys X.key
 ·simp (disch:=first|exact bk rfl|omega) only [go_sem,dJ,Bool.not_false,Bool.not_true,aM,aI]
  refine hk1 _ _ (by simp [eE,hk]) ?_
  first | rfl | (simp (disch:=first|exact bk rfl|omega) only [go_sem]<;>rfl)
 simp (disch:=first|exact bk rfl|omega) only [go_sem,dJ,Bool.not_false,Bool.not_true,aM,aI,z1,z2,z3,z4,z5]
 refine bE hG [.str X.name] hn35 rfl ?_
 cases hn:iQ X.name
 ·simp (disch:=first|exact bk rfl|omega) only [go_sem,Bool.not_false,Bool.not_true,aM,aI]
  refine hk1 _ _ (by simp [eE,hn]) ?_
  first | rfl | (simp (disch:=first|exact bk rfl|omega) only [go_sem]<;>rfl)
 simp (disch:=first|exact bk rfl|omega) only [go_sem,Bool.not_false,Bool.not_true,aM,aI,z1,z2,z3,z4,z5,g1,hg0',aK hr jC]
 refine bE hG [.int .i64 X.room,.int .i64 (c.house.rooms.length:Int)] hi36 rfl ?_
 cases hi:fC X.room (c.house.rooms.length:Int)
 ·have hi':inB X.room 0 ((c.house.rooms.length:Int) - 1)=false:=by simp only [fC,inB,decide_eq_false_iff_not] at hi⊢;omega
  simp (disch:=first|exact bk rfl|omega) only [go_sem,Bool.not_false,Bool.not_true,aM,aI]
  refine hk1 _ _ (by simp [eE,hi']) ?_
  first | rfl | (simp (disch:=first|exact bk rfl|omega) only [go_sem]<;>rfl)
 have hi':inB X.room 0 ((c.house.rooms.length:Int) - 1)=true:=by simp only [fC,inB,decide_eq_true_eq] at hi⊢;omega
 have hB:eE c X=true:=by simp [eE,hi',hn,hk]
 simp (disch:=first|exact bk rfl|omega) only [go_sem,Bool.not_false,Bool.not_true,aM,aI,z1,z2,z3,z4,z5,g1,g42,hg0',jS hs a1U rM (Nat.le_of_lt hlt),aK hpre gZ]
 have hlen:(c.stations.take n).length=n:=by rw [List.length_take];omega
 refine bA (I8b c n H.nx X (slT c.dst n)) (fun m e H' hi=> ?_) (m:=n) ?_
 rotate_left
 ·refine⟨0,Nat.zero_le _,rfl,rfl,by first | omega | (simp (disch:=first|exact bk rfl|omega) only [go_sem]<;>omega),by omega,fun y hy=>by simp at hy, ?_, ?_, ?_, ?_, ?_, ?_, ?_, ?_, ?_, ?_⟩
  ·first | rfl | (simp (disch:=first|exact bk rfl|omega) only [go_sem]<;>rfl)
  ·rw [hlen];first | rfl | (simp (disch:=first|exact bk rfl|omega) only [go_sem]<;>rfl)
  ·first | rfl | (simp (disch:=first|exact bk rfl|omega) only [go_sem]<;>rfl)
  ·first | rfl | (simp (disch:=first|exact bk rfl|omega) only [go_sem]<;>rfl)
  ·first | rfl | (simp (disch:=first|exact bk rfl|omega) only [go_sem,cN,z1,z2,z3,z4,z5,aM,aI]<;>rfl)
  ·first | rfl | (simp (disch:=first|exact bk rfl|omega) only [go_sem,g42]<;>rfl)
  ·first | rfl | (simp (disch:=first|exact bk rfl|omega) only [go_sem,g41]<;>rfl)
  ·first | rfl | (simp (disch:=first|exact bk rfl|omega) only [go_sem,g40]<;>rfl)
  ·first | rfl | (simp (disch:=first|exact bk rfl|omega) only [go_sem,g1]<;>rfl)
  ·rw [bG];first | rfl | (simp (disch:=first|exact bk rfl|omega) only [go_sem,hg0',z1,z2,z3,z4,z5,aM,aI]<;>rfl)
 clear hg0 hg0' g1 g40 g41 g42 z1 z2 z3 z4 z5
 obtain⟨j,hj',rfl,hdm,hb,hb0,ha,g77,g76,g75,g7,hgb,g42,g41,g40,g1,hg0⟩:=hi
 obtain⟨t,dm⟩:=e
 dsimp only at hdm g77 g76 g75 g7 g42 g41 g40 g1
 subst hdm
 refine bC 200 ?_
 by_cases hjn:j<n
 ·refine a5N (q:=0) hlt hX.symm hjn hpre hb hb0 g77 g76 g75 g7 hgb g42 g41 g40 g1 hg0 (by omega) (fun t' H' hsm g2=> ?_) (fun t' H' hsm k77 k76 k75 k7 k42 k41 k40 k1 hfr hnx=> ?_)
  ·refine hk6 _ _ hB ?_ g2
   exact qD (n:=j) (by rw [hlen];exact hjn) (by simpa using hsm)
  ·refine aZ (m':=n - (j+1)) (by omega) ⟨j+1,by omega,rfl,rfl,by omega,hb0,iM (by omega) ha hsm,k77,k76,k75,k7, ?_,k42,k41,k40,k1, ?_⟩
   ·rw [hfr _ hb];exact hgb
   ·rw [hfr _ (by omega)];exact hg0
 ·have hjn':j=n:=by omega
  subst hjn'
  have e2:((j:Int)<(j:Int))=False:=eq_false (by omega)
  obtain⟨q',hq'⟩:∃q',H'.nx=q'+1:=⟨H'.nx - 1,by omega⟩
  rw [asL]
  simp (disch:=first|exact bk rfl|omega) only [go_sem,g77,g76,e2,a1H,g42]
  refine hkn _ _ q' hB (iR ha) ?_ ?_ ?_ ?_ hq' hg0
  ·first | rfl | (simp (disch:=first|exact bk rfl|omega) only [go_sem]<;>rfl)
  ·first | rfl | (simp (disch:=first|exact bk rfl|omega) only [go_sem,g41]<;>rfl)
  ·first | rfl | (simp (disch:=first|exact bk rfl|omega) only [go_sem,g40]<;>rfl)
  ·first | rfl | (simp (disch:=first|exact bk rfl|omega) only [go_sem,g1]<;>rfl)
end
theorem zN (c:cJ) (ho:dD c):CQ P G 8 [.agg (bI c)] (·= .int .i64 (cU c)):=by
 have hone:=bW ho.stops
 have hs:=ho.st.sts
 rw [aRI]
 refine CQ.enter hG ?_
 simp (disch:=first|exact bk rfl|omega) only [go_sem,bG,h8]
 refine cS hG [.agg (cH c.house)] (aRT c.house ho.house) rfl ?_
 rintro d ⟨i1,rfl⟩
 by_cases h1:eV c.house=0
 rotate_left
 ·have e1:=eq_false h1
  simp (disch:=first|exact bk rfl|omega) only [go_sem,e1,r8]
  refine aG (.int .i64 _) ?_
  rw [if_neg h1]
 have e1:=eq_true h1
 simp (disch:=first|exact bk rfl|omega) only [go_sem,e1,hone,arU]
 refine bE hG [.agg (aRK c.session)] (aLF c.session ho.stops ho.stopsL) rfl ?_
 by_cases h2:gE c.session=0
 rotate_left
 ·have e2:=eq_false h2
  simp (disch:=first|exact bk rfl|omega) only [go_sem,e2,r8]
  refine aG (.int .i64 _) ?_
  rw [if_pos h1,if_neg h2]
 have e2:=eq_true h2
 simp (disch:=first|exact bk rfl|omega) only [go_sem,e2,hone]
 refine bE hG [.agg (bI c)] (aRR c ho.st.keys ho.st.keysL) (by rw [bG];rfl) ?_
 cases h34:(iE c.keys&&mP c.ink)
 ·simp (disch:=first|exact bk rfl|omega) only [go_sem,Bool.not_false,r8]
  refine aG (.int .i64 _) ?_
  rw [if_pos h1,if_pos h2,if_neg (by simp)]
 have hi:mP c.ink=true:=by rw [Bool.and_eq_true] at h34;exact h34.2
 have hmk:=ho.mk' h2 hi
 rw [if_pos h1,if_pos h2,if_pos rfl]
 by_cases h8:c.stations.length>8
 ·have e8:((8:Int)<(c.stations.length:Int))=True:=eq_true (by omega)
  simp (disch:=first|exact bk rfl|omega) only [go_sem,Bool.not_true,aK hs gZ,e8,r8]
  refine aG (.int .i64 _) ?_
  have e:dQ c=2:=if_pos h8
  have e':qM c=2:=by unfold qM;rw [e,if_neg (by decide)]
  rw [e']
 have e8:((8:Int)<(c.stations.length:Int))=False:=eq_false (by omega)
 have hE:dQ c=stE c [] c.stations:=if_neg h8
 simp (disch:=first|exact bk rfl|omega) only [go_sem,Bool.not_true,aK hs gZ,e8]
 refine bA (I8a c) (fun m e H hi=> ?_) (m:=c.stations.length) ?_
 rotate_left
 ·exact⟨0,0,Nat.zero_le _,rfl,rfl,by first | rfl | (simp (disch:=first|exact bk rfl|omega) only [go_sem]<;>rfl),rfl,eg rfl rfl,eg rfl rfl,eg rfl rfl,eg rfl rfl,by rw [bG];first | rfl | (simp (disch:=first|exact bk rfl|omega) only [go_sem]<;>rfl)⟩
 obtain⟨n,q,hn',rfl,hdm,hnx,hst,g42,g41,g40,g1,hg0⟩:=hi
 obtain⟨t,dm⟩:=e
 dsimp only at hdm g42 g41 g40 g1
 subst hdm
 refine bC 200 ?_
 have hret:∀(r:Int) (t':E2) (H':Hp),E2.get t' 2= .int .i64 r->r=qM c->aS P G Tryz.f8 {code:=cd P G 200,call:=dY P G} (kU fun x=>x=D.int IntKind.i64 (qM c)) .ret ⟨t',[]⟩ H'=true:=fun r t' H' g hr=>by
  rw [r8,g]
  exact aG (.int .i64 _) (by rw [hr])
 by_cases hlt:n<c.stations.length
 ·refine a2S ho hlt (by omega) hnx g42 g41 g40 g1 hg0 (fun t' H' hb g2=> ?_) (fun t' H' hb ha g2=> ?_) (fun t' H' q' hb ha k42 k41 k40 k1 knx kg0=> ?_)
  ·refine hret 1 _ _ g2 ?_
   have e:dQ c=1:=by rw [hE,hst,aQH hlt hb]
   unfold qM;rw [e,if_neg (by decide)]
  ·refine hret 6 _ _ g2 ?_
   have e:dQ c=6:=by rw [hE,hst,aCY hlt hb ha]
   unfold qM;rw [e,if_neg (by decide)]
  ·exact aZ (m':=c.stations.length - (n+1)) (by omega) ⟨n+1,q',by omega,rfl,rfl,knx,by rw [hst,aXW hlt hb ha],k42,k41,k40,k1,kg0⟩
 ·have e1:((n:Int)<(c.stations.length:Int))=False:=eq_false (by omega)
  rw [axG]
  simp (disch:=first|exact bk rfl|omega) only [go_sem,g42,g41,e1]
  refine a0I ho hmk hnx (eg rfl g1) hg0 fun t' H' g2=> ?_
  refine hret _ _ _ g2 ?_
  have e:dQ c=0:=by rw [hE,hst,List.drop_of_length_le (by omega)];rfl
  unfold qM;rw [if_pos e]
def iS (w:World) (ds:List D) (cs:List Value):Prop:=∃L,DVs (hpz w) true ds cs L
theorem DVs.app {z:Nat->Option Obj} {b:List D} {y:List Value} {M:List Nat} (hb:DVs z true b y M):∀{a:List D} {x:List Value} {L:List Nat},DVs z true a x L->DVs z true (a++b) (x++y) (L++M)
 | _,_,_,.nil=>hb
 | _,_,_,.cons d v L ds vs L' h hs=>by rw [List.append_assoc];exact .cons d v L _ _ _ h (DVs.app hb hs)
theorem iS.seg {w:World} {a b:List D} {cs:List Value} {o:Nat} (k:Nat) (h1:iS w a ((cs.drop o).take k)) (h2:iS w b (cs.drop (o+k))):iS w (a++b) (cs.drop o):=by
 obtain⟨L,h1⟩:=h1
 obtain⟨M,h2⟩:=h2
 refine⟨L++M, ?_⟩
 have e:cs.drop o=(cs.drop o).take k++cs.drop (o+k):=by rw [←List.drop_drop,List.take_append_drop]
 rw [e]
 exact DVs.app h2 h1
theorem iS.fin {w:World} {cs:List Value} {o:Nat} (h:cs.length=o):iS w [] (cs.drop o):=by
 rw [List.drop_of_length_le (by omega)]
 exact⟨[],.nil⟩
theorem iS.one {w:World} {d:D} {v:Value} {L:List Nat} (h:DV (hpz w) true d v L):iS w [d] [v]:=⟨L++[],.cons _ _ _ _ _ _ h .nil⟩
section
variable {H : Type} {enc : TypeId × Value -> H} {w : World} {sp : Nat -> Bool} {hd : Bool} {fuel : Nat} {cs : List Value} {x : DataW H × List MemPlace}
def shp (P:Program) (t:TypeId):List (TypeId×Nat):=match P.underlying t with
 | some (.struct fs)=>fs.toList.map fun f=>(f.type,f.offset)
 | _=>[]
theorem mT {t:TypeId} {l:List (TypeId×Nat)} (hs:shp P t=l) (hne:l≠[]) (h:DataW.trod enc P w 0 sp hd fuel t cs=some x):
  ∃n,fuel=n+1/\cs.length=P.cellsOf t/\∀(i:Nat) (p:TypeId×Nat),l[i]? =some p->∃y,DataW.trod enc P w 0 sp hd n p.1 ((cs.drop p.2).take (P.cellsOf p.1))=some y:=by
 unfold shp at hs
 split at hs
 ·rename_i fs hu
  obtain⟨xs,n,h1, -,h3,h4,h5⟩:=DataW.trod_struct hu h
  refine⟨n,h1,h3,fun i p hp=> ?_⟩
  rw [←hs,List.getElem?_map] at hp
  obtain⟨f,hf,rfl⟩:=Option.map_eq_some_iff.1 hp
  have h6:=h5 i f (by simpa using hf)
  have hi:i<xs.length:=by
   rw [h4]
   have:=(List.getElem?_eq_some_iff.1 hf).1
   simpa using this
  exact⟨xs[i],by rw [h6,List.getElem?_eq_getElem hi]⟩
 ·exact absurd hs.symm hne
theorem dT (h:DataW.trod enc P w 0 sp hd fuel 3 cs=some x):∃n:Int,iS w [.int .i64 n] cs:=by
 obtain⟨n,rfl, -, -⟩:=DataW.trod_int un3 h
 exact⟨n,.one (.int _ _)⟩
theorem aNI (h:DataW.trod enc P w 0 sp hd fuel 9 cs=some x):∃s:Str,s.length<=9223372036854775807/\iS w [.str s] cs:=by
 obtain⟨s,rfl, -,hs⟩:=DataW.trod_string un9 h
 refine⟨s.data.toList.map UInt8.toNat, ?_,.one (.str _ _ rfl)⟩
 have:s.data.toList.length=s.size:=by rw [Array.length_toList];rfl
 rw [List.length_map,this]
 exact Nat.le_trans hs (by decide)
theorem pX {α:Type} {Good:α->Prop} {enc':α->List D} {sz:Nat} {t e:TypeId} (ht:P.underlying t=some (.slice e)) (hc:P.cellsOf e=sz) (hsz:0<sz) (hlen:∀a,(enc' a).length=sz) (hblk:∃(b:Nat) (arr:Array Value) (el:TypeId) (fz:Nat×Nat),w.heap[b]? =some (Obj.cells arr el fz))
  (he:∀m,m<fuel->∀(cs:List Value) (x:DataW H×List MemPlace),DataW.trod enc P w 0 (fun _=>true) hd m e cs=some x->∃a,Good a/\iS w (enc' a) cs)
  (h:DataW.trod enc P w 0 (fun _=>true) hd fuel t cs=some x):∃(xs:List α) (d:D),Sl sz enc' xs d/\xs.length<=9223372036854775807/\(∀a∈xs,Good a)/\iS w [d] cs:=by
 classical
 rcases DataW.trod_slice ht h with⟨rfl, -⟩| ⟨a,len,cap,elems,rest,n,hfu,rfl, -, -,hlc,hcap,hel,hat,hsp, -⟩
 ·exact⟨[],.nils,.inl ⟨rfl,rfl⟩,by simp,by simp,.one .nils⟩
 rw [hc] at hat hsp
 obtain⟨hr1,hr2⟩:=hsp rfl
 have hall:∀i,i<cap->∃cs',w.cells? 0 (a.add (i * sz)) sz=some cs'/\(i<len->∃y,DataW.trod enc P w 0 (fun _=>true) hd n e cs'=some y):=by
  intro i hi
  by_cases hil:i<len
  ·have h1:=hat i hil
   rw [List.getElem?_eq_getElem (by omega)] at h1
   obtain⟨cs',h2,h3⟩:=Option.bind_eq_some_iff.1 h1
   exact⟨cs',h2,fun _=>⟨_,h3⟩⟩
  ·have h1:=(hsp rfl).2 (i - len) (by omega)
   rw [List.getElem?_eq_getElem (by rw [hr1];omega),show len+(i - len)=i by omega] at h1
   obtain⟨cs',h2,h3⟩:=Option.bind_eq_some_iff.1 h1
   exact⟨cs',h2,fun h=>absurd h hil⟩
 have hmax:len<=9223372036854775807:=Nat.le_trans hlc (Nat.le_trans hcap (by decide))
 by_cases hc0:cap=0
 ·obtain rfl:len=0:=by omega
  obtain⟨b,arr,el,fz,hb⟩:=hblk
  exact⟨[],.sl sz [] 0,.inr rfl,by simp,by simp,.one (.sl sz [] 0 a cap ⟨b,0,0⟩ arr el fz [] [] hb hlc (by rw [hc0,Nat.zero_mul]) (by simp) (by simp) (fun h=>by cases h) (fun i x hx=>by simp at hx) (fun h=>by omega) .nil)⟩
 have hcell:∀i j,i<cap->j<sz->∃v,w.cell? (a.add (i * sz+j))=some v:=by
  intro i j hi hj
  obtain⟨cs',h1, -⟩:=hall i hi
  obtain⟨-,h2,h3⟩:=World.cells?_some h1
  have h4:=h3 j hj
  rw [List.getElem?_eq_getElem (by omega)] at h4
  refine⟨cs'[j], ?_⟩
  rw [←h4]
  congr 1
  unfold Addr.add
  by_cases q1:i * sz=0
  ·simp [q1]
  ·by_cases q2:j=0
   ·simp [q2]
   ·simp [q1,q2,Nat.add_assoc]
 obtain⟨v0,hv0⟩:=hcell 0 0 (by omega) hsz
 simp only [Nat.zero_mul,Nat.add_zero] at hv0
 have ha0:a.add 0=a:=by simp [Addr.add]
 rw [ha0] at hv0
 unfold World.cell? at hv0
 split at hv0
 rotate_left
 ·cases hv0
 rename_i arr el fz hblk'
 split at hv0
 ·cases hv0
 rename_i hspot
 have hsn:a.spot=none:=by
  cases hs:a.spot with
  | none=>rfl
  | some q=>rw [hs] at hspot;simp at hspot
 have hae:a=⟨a.block,a.off,none⟩:=by obtain⟨b,o,s⟩:=a;simp only at hsn;rw [hsn]
 have hadd:∀k,a.add k=⟨a.block,a.off+k,none⟩:=fun k=>by
  unfold Addr.add
  by_cases hk:k=0
  ·rw [if_pos hk,hk];exact hae
  ·rw [if_neg hk]
 have hget:∀k,w.cell? (a.add k)=arr[a.off+k]? :=fun k=>by
  rw [hadd]
  unfold World.cell?
  simp only [hblk']
  rfl
 have htot:a.off+cap * sz<=arr.size:=by
  obtain⟨v,hv⟩:=hcell (cap - 1) (sz - 1) (by omega) (by omega)
  rw [hget] at hv
  have:=(Array.getElem?_eq_some_iff.1 hv).1
  have e1:(cap - 1) * sz+sz=cap * sz:=by rw [←Nat.succ_mul];congr 1;omega
  omega
 have hseg:∀i,i<len->∃b:α,Good b/\iS w (enc' b) (((arr.toList.drop a.off).drop (i * sz)).take sz):=by
  intro i hi
  obtain⟨cs',h1,h2⟩:=hall i (by omega)
  obtain⟨y,hy⟩:=h2 hi
  obtain⟨b,hb1,hb2⟩:=he n (by omega) cs' y hy
  refine⟨b,hb1, ?_⟩
  obtain⟨-,h3,h4⟩:=World.cells?_some h1
  have:cs'=((arr.toList.drop a.off).drop (i * sz)).take sz:=by
   apply List.ext_getElem?
   intro j
   by_cases hj:j<sz
   ·rw [←h4 j hj,List.getElem?_take_of_lt hj,List.getElem?_drop,List.getElem?_drop,Array.getElem?_toList]
    have:(a.add (i * sz)).add j=a.add (i * sz+j):=by
     rw [hadd,hadd]
     unfold Addr.add
     by_cases hj0:j=0
     ·simp [hj0]
     ·simp [hj0,Nat.add_assoc]
    rw [this,hget]
   ·rw [List.getElem?_eq_none (by omega),List.getElem?_eq_none (by rw [List.length_take];omega)]
  rw [←this];exact hb2
 have hlist:∀k,k<=len->∃xs:List α,xs.length=k/\(∀b∈xs,Good b)/\iS w (cB enc' xs) ((arr.toList.drop a.off).take (k * sz)):=by
  intro k
  induction k with
  | zero=>intro _;exact⟨[],rfl,by simp,[],by rw [Nat.zero_mul,List.take_zero];exact .nil⟩
  | succ k ih=>
   intro hk
   obtain⟨xs,h1,h2,L,h3⟩:=ih (by omega)
   obtain⟨b,h4,M,h5⟩:=hseg k (by omega)
   refine⟨xs++[b],by simp [h1],fun c hcm=> ?_,L++M, ?_⟩
   ·rcases List.mem_append.1 hcm with h | h
    ·exact h2 c h
    ·rw [List.mem_singleton] at h;subst h;exact h4
   ·have e1:(arr.toList.drop a.off).take ((k+1) * sz)=(arr.toList.drop a.off).take (k * sz)++((arr.toList.drop a.off).drop (k * sz)).take sz:=by rw [Nat.succ_mul,List.take_add]
    rw [e1,aAN]
    have:cB enc' [b]=enc' b:=by simp [cB]
    rw [this]
    exact DVs.app h5 h3
 obtain⟨xs,hx1,hx2,L,hx3⟩:=hlist len (Nat.le_refl _)
 subst hx1
 refine⟨xs,.sl sz (cB enc' xs) xs.length,.inr rfl,by omega,hx2,.one (.sl sz (cB enc' xs) xs.length a cap ⟨a.block,a.off,cap * sz⟩ arr el fz ((arr.toList.drop a.off).take (xs.length * sz)) L hblk' (by omega) rfl htot ?_ (fun h=>by cases h) (fun i v hv=> ?_) (fun _=>hae) hx3)⟩
 ·rw [eG hlen];exact Nat.mul_le_mul_right _ hlc
 ·have hi:i<xs.length * sz:=by
   have:=(List.getElem?_eq_some_iff.1 hv).1
   rw [List.length_take] at this
   omega
  rw [List.getElem?_take_of_lt hi,List.getElem?_drop,Array.getElem?_toList] at hv
  exact hv
end
theorem a2C:shp P 28=[(3,0),(3,1)]:=by kernel_rfl
theorem a1T:shp P 48=[(3,0),(3,1)]:=by kernel_rfl
theorem asZ:shp P 136=[(9,0),(3,1)]:=by kernel_rfl
theorem atX:shp P 138=[(3,0),(3,1),(3,2),(3,3),(3,4)]:=by kernel_rfl
theorem a1K:shp P 96=[(3,0),(3,1),(3,2)]:=by kernel_rfl
theorem a3C:shp P 33=[(3,0),(3,1),(3,2)]:=by kernel_rfl
theorem a1A:shp P 94=[(9,0),(3,1),(3,2)]:=by kernel_rfl
theorem atB:shp P 201=[(3,0),(28,1)]:=by kernel_rfl
theorem avK:shp P 50=[(48,0),(3,2),(3,3),(3,4)]:=by kernel_rfl
theorem a3V:shp P 78=[(76,0),(76,1)]:=by kernel_rfl
theorem a2H:shp P 26=[(22,0),(23,1),(24,2)]:=by kernel_rfl
theorem a6K:shp P 31=[(3,0),(28,1),(28,3),(28,5),(28,7),(28,9),(29,11)]:=by kernel_rfl
theorem a2G:shp P 40=[(3,0),(37,1),(28,2),(3,4),(3,5),(3,6),(38,7)]:=by kernel_rfl
theorem atI:shp P 42=[(26,0),(31,3),(33,15),(34,18),(35,19),(36,20),(3,21),(3,22),(40,23)]:=by kernel_rfl
section
variable {H : Type} {enc : TypeId × Value -> H} {w : World} {hd : Bool} {fuel : Nat} {cs : List Value} {x : DataW H × List MemPlace}
theorem aKB {sp:Nat->Bool} (h:DataW.trod enc P w 0 sp hd fuel 28 cs=some x):∃s:bU,iS w (bJ s) cs:=by
 obtain⟨n, -,hl,hf⟩:=mT a2C (by simp) h
 rw [eP] at hl
 obtain⟨_,h0⟩:=hf 0 _ rfl
 obtain⟨_,h1⟩:=hf 1 _ rfl
 rw [ce3] at h0 h1
 obtain⟨a,h0⟩:=dT h0
 obtain⟨b,h1⟩:=dT h1
 exact⟨⟨a,b⟩,by rw [←List.drop_zero (l:=cs)];exact .seg 1 h0 (.seg 1 h1 (.fin hl))⟩
theorem a0J {sp:Nat->Bool} (h:DataW.trod enc P w 0 sp hd fuel 48 cs=some x):∃s:Arc,iS w (cV s) cs:=by
 obtain⟨n, -,hl,hf⟩:=mT a1T (by simp) h
 rw [aCE] at hl
 obtain⟨_,h0⟩:=hf 0 _ rfl
 obtain⟨_,h1⟩:=hf 1 _ rfl
 rw [ce3] at h0 h1
 obtain⟨a,h0⟩:=dT h0
 obtain⟨b,h1⟩:=dT h1
 exact⟨⟨a,b⟩,by rw [←List.drop_zero (l:=cs)];exact .seg 1 h0 (.seg 1 h1 (.fin hl))⟩
theorem auJ {sp:Nat->Bool} (h:DataW.trod enc P w 0 sp hd fuel 136 cs=some x):∃s:mO,s.name.length<=9223372036854775807/\iS w (iN s) cs:=by
 obtain⟨n, -,hl,hf⟩:=mT asZ (by simp) h
 rw [xT] at hl
 obtain⟨_,h0⟩:=hf 0 _ rfl
 obtain⟨_,h1⟩:=hf 1 _ rfl
 rw [ce9] at h0
 rw [ce3] at h1
 obtain⟨a,ha,h0⟩:=aNI h0
 obtain⟨b,h1⟩:=dT h1
 exact⟨⟨a,b⟩,ha,by rw [←List.drop_zero (l:=cs)];exact .seg 1 h0 (.seg 1 h1 (.fin hl))⟩
theorem axK {sp:Nat->Bool} (h:DataW.trod enc P w 0 sp hd fuel 138 cs=some x):∃s:Way,iS w (oD s) cs:=by
 obtain⟨n, -,hl,hf⟩:=mT atX (by simp) h
 rw [aEG] at hl
 obtain⟨_,h0⟩:=hf 0 _ rfl
 obtain⟨_,h1⟩:=hf 1 _ rfl
 obtain⟨_,h2⟩:=hf 2 _ rfl
 obtain⟨_,h3⟩:=hf 3 _ rfl
 obtain⟨_,h4⟩:=hf 4 _ rfl
 rw [ce3] at h0 h1 h2 h3 h4
 obtain⟨a,h0⟩:=dT h0
 obtain⟨b,h1⟩:=dT h1
 obtain⟨c,h2⟩:=dT h2
 obtain⟨d,h3⟩:=dT h3
 obtain⟨e,h4⟩:=dT h4
 exact⟨⟨a,b,c,d,e⟩,by rw [←List.drop_zero (l:=cs)];exact .seg 1 h0 (.seg 1 h1 (.seg 1 h2 (.seg 1 h3 (.seg 1 h4 (.fin hl)))))⟩
theorem a5C {sp:Nat->Bool} (h:DataW.trod enc P w 0 sp hd fuel 96 cs=some x):∃s:Key,iS w (dJ s) cs:=by
 obtain⟨n, -,hl,hf⟩:=mT a1K (by simp) h
 rw [oV] at hl
 obtain⟨_,h0⟩:=hf 0 _ rfl
 obtain⟨_,h1⟩:=hf 1 _ rfl
 obtain⟨_,h2⟩:=hf 2 _ rfl
 rw [ce3] at h0 h1 h2
 obtain⟨a,h0⟩:=dT h0
 obtain⟨b,h1⟩:=dT h1
 obtain⟨c,h2⟩:=dT h2
 exact⟨⟨a,b,c⟩,by rw [←List.drop_zero (l:=cs)];exact .seg 1 h0 (.seg 1 h1 (.seg 1 h2 (.fin hl)))⟩
theorem a2E {sp:Nat->Bool} (h:DataW.trod enc P w 0 sp hd fuel 33 cs=some x):∃s:Ink,iS w (iI s) cs:=by
 obtain⟨n, -,hl,hf⟩:=mT a3C (by simp) h
 rw [awA] at hl
 obtain⟨_,h0⟩:=hf 0 _ rfl
 obtain⟨_,h1⟩:=hf 1 _ rfl
 obtain⟨_,h2⟩:=hf 2 _ rfl
 rw [ce3] at h0 h1 h2
 obtain⟨a,h0⟩:=dT h0
 obtain⟨b,h1⟩:=dT h1
 obtain⟨c,h2⟩:=dT h2
 exact⟨⟨a,b,c⟩,by rw [←List.drop_zero (l:=cs)];exact .seg 1 h0 (.seg 1 h1 (.seg 1 h2 (.fin hl)))⟩
theorem a2V {sp:Nat->Bool} (h:DataW.trod enc P w 0 sp hd fuel 94 cs=some x):∃s:eC,s.name.length<=9223372036854775807/\iS w (cN s) cs:=by
 obtain⟨n, -,hl,hf⟩:=mT a1A (by simp) h
 rw [rM] at hl
 obtain⟨_,h0⟩:=hf 0 _ rfl
 obtain⟨_,h1⟩:=hf 1 _ rfl
 obtain⟨_,h2⟩:=hf 2 _ rfl
 rw [ce9] at h0
 rw [ce3] at h1 h2
 obtain⟨a,ha,h0⟩:=aNI h0
 obtain⟨b,h1⟩:=dT h1
 obtain⟨c,h2⟩:=dT h2
 exact⟨⟨a,b,c⟩,ha,by rw [←List.drop_zero (l:=cs)];exact .seg 1 h0 (.seg 1 h1 (.seg 1 h2 (.fin hl)))⟩
theorem aqU {sp:Nat->Bool} (h:DataW.trod enc P w 0 sp hd fuel 201 cs=some x):∃s:Stop,iS w (hZ s) cs:=by
 obtain⟨n, -,hl,hf⟩:=mT atB (by simp) h
 rw [oQ] at hl
 obtain⟨_,h0⟩:=hf 0 _ rfl
 obtain⟨_,h1⟩:=hf 1 _ rfl
 rw [ce3] at h0
 rw [eP] at h1
 obtain⟨a,h0⟩:=dT h0
 obtain⟨b,h1⟩:=aKB h1
 exact⟨⟨a,b⟩,by rw [←List.drop_zero (l:=cs)];exact .seg 1 h0 (.seg 2 h1 (.fin hl))⟩
theorem awQ {sp:Nat->Bool} (h:DataW.trod enc P w 0 sp hd fuel 50 cs=some x):∃s:dO,iS w (bS s) cs:=by
 obtain⟨n, -,hl,hf⟩:=mT avK (by simp) h
 rw [qC] at hl
 obtain⟨_,h0⟩:=hf 0 _ rfl
 obtain⟨_,h1⟩:=hf 1 _ rfl
 obtain⟨_,h2⟩:=hf 2 _ rfl
 obtain⟨_,h3⟩:=hf 3 _ rfl
 rw [aCE] at h0
 rw [ce3] at h1 h2 h3
 obtain⟨a,h0⟩:=a0J h0
 obtain⟨b,h1⟩:=dT h1
 obtain⟨c,h2⟩:=dT h2
 obtain⟨d,h3⟩:=dT h3
 exact⟨⟨a,b,c,d⟩,by rw [←List.drop_zero (l:=cs)];exact .seg 2 h0 (.seg 1 h1 (.seg 1 h2 (.seg 1 h3 (.fin hl))))⟩
abbrev aIA (w:World):Prop:=∃(b:Nat) (arr:Array Value) (el:TypeId) (fz:Nat×Nat),w.heap[b]? =some (Obj.cells arr el fz)
abbrev aMC:Nat->Bool:=fun _=>true
theorem axI (hb:aIA w) (h:DataW.trod enc P w 0 aMC hd fuel 76 cs=some x):∃(xs:List bU) (d:D),Sl 2 bJ xs d/\xs.length<=9223372036854775807/\iS w [d] cs:=by
 obtain⟨xs,d,h1,h2, -,h3⟩:=pX (Good:=fun _=>True) (enc':=bJ) cO eP (by decide) jE hb (fun m hm cs x h=>by obtain⟨s,hs⟩:=aKB h;exact⟨s,trivial,hs⟩) h
 exact⟨xs,d,h1,h2,h3⟩
def aeP (d:mK):Prop:=(Sl 2 bJ d.hours d.dh/\d.hours.length<=9223372036854775807)/\(Sl 2 bJ d.shut d.ds/\d.shut.length<=9223372036854775807)
theorem a0P (hb:aIA w) (h:DataW.trod enc P w 0 aMC hd fuel 78 cs=some x):∃d:mK,aeP d/\iS w (eY d) cs:=by
 obtain⟨n, -,hl,hf⟩:=mT a3V (by simp) h
 rw [tB] at hl
 obtain⟨_,h0⟩:=hf 0 _ rfl
 obtain⟨_,h1⟩:=hf 1 _ rfl
 rw [a2R] at h0 h1
 obtain⟨a,da,a1,a2,h0⟩:=axI hb h0
 obtain⟨b,db,b1,b2,h1⟩:=axI hb h1
 exact⟨⟨a,da,b,db⟩,⟨⟨a1,a2⟩,b1,b2⟩,by rw [←List.drop_zero (l:=cs)];exact .seg 1 h0 (.seg 1 h1 (.fin hl))⟩
theorem a0Q (hb:aIA w) (h:DataW.trod enc P w 0 aMC hd fuel 26 cs=some x):∃s:gP,tN s/\iS w (cH s) cs:=by
 obtain⟨n, -,hl,hf⟩:=mT a2H (by simp) h
 rw [arG] at hl
 obtain⟨_,h0⟩:=hf 0 _ rfl
 obtain⟨_,h1⟩:=hf 1 _ rfl
 obtain⟨_,h2⟩:=hf 2 _ rfl
 rw [a3G] at h0
 rw [a5W] at h1
 rw [a6A] at h2
 obtain⟨r,dr,r1,r2,r3,h0⟩:=pX (Good:=fun s:mO=>s.name.length<=9223372036854775807) (enc':=iN) jC xT (by decide) kD hb (fun m hm cs x h=>auJ h) h0
 obtain⟨d,dd,d1,d2,d3,h1⟩:=pX (Good:=aeP) (enc':=eY) gR tB (by decide) cY hb (fun m hm cs x h=>a0P hb h) h1
 obtain⟨y,dy,y1,y2, -,h2⟩:=pX (Good:=fun _=>True) (enc':=oD) nY aEG (by decide) tL hb (fun m hm cs x h=>by obtain⟨s,hs⟩:=axK h;exact⟨s,trivial,hs⟩) h2
 exact⟨⟨r,dr,d,dd,y,dy⟩,⟨r1,r2,r3,d1,d2,fun q hq=>(d3 q hq).1.1,fun q hq=>(d3 q hq).1.2,fun q hq=>(d3 q hq).2.1,fun q hq=>(d3 q hq).2.2,y1,y2⟩,by rw [←List.drop_zero (l:=cs)];exact .seg 1 h0 (.seg 1 h1 (.seg 1 h2 (.fin hl)))⟩
theorem a4B (hb:aIA w) (h:DataW.trod enc P w 0 aMC hd fuel 31 cs=some x):∃s:dP,Sl 3 hZ s.stops s.ds/\s.stops.length<=9223372036854775807/\iS w (eO s) cs:=by
 obtain⟨n, -,hl,hf⟩:=mT a6K (by simp) h
 rw [atQ] at hl
 obtain⟨_,h0⟩:=hf 0 _ rfl
 obtain⟨_,h1⟩:=hf 1 _ rfl
 obtain⟨_,h2⟩:=hf 2 _ rfl
 obtain⟨_,h3⟩:=hf 3 _ rfl
 obtain⟨_,h4⟩:=hf 4 _ rfl
 obtain⟨_,h5⟩:=hf 5 _ rfl
 obtain⟨_,h6⟩:=hf 6 _ rfl
 rw [ce3] at h0
 rw [eP] at h1 h2 h3 h4 h5
 rw [a0Z] at h6
 obtain⟨a0,h0⟩:=dT h0
 obtain⟨a1,h1⟩:=aKB h1
 obtain⟨a2,h2⟩:=aKB h2
 obtain⟨a3,h3⟩:=aKB h3
 obtain⟨a4,h4⟩:=aKB h4
 obtain⟨a5,h5⟩:=aKB h5
 obtain⟨s,ds,s1,s2, -,h6⟩:=pX (Good:=fun _=>True) (enc':=hZ) kQ oQ (by decide) eJ hb (fun m hm cs x h=>by obtain⟨s,hs⟩:=aqU h;exact⟨s,trivial,hs⟩) h6
 exact⟨⟨a0,a1,a2,a3,a4,a5,s,ds⟩,s1,s2,by rw [←List.drop_zero (l:=cs)];exact .seg 1 h0 (.seg 2 h1 (.seg 2 h2 (.seg 2 h3 (.seg 2 h4 (.seg 2 h5 (.seg 1 h6 (.fin hl)))))))⟩
theorem a5U (hb:aIA w):∀(fuel:Nat) (cs:List Value) (x:DataW H×List MemPlace),DataW.trod enc P w 0 aMC hd fuel 40 cs=some x->∃o:aF,dC o/\iS w (aV o) cs:=by
 intro fuel
 induction fuel using Nat.strongRecOn with
 | ind fuel ih=>
  intro cs x h
  obtain⟨n,hn,hl,hf⟩:=mT a2G (by simp) h
  rw [kC] at hl
  obtain⟨_,h0⟩:=hf 0 _ rfl
  obtain⟨_,h1⟩:=hf 1 _ rfl
  obtain⟨_,h2⟩:=hf 2 _ rfl
  obtain⟨_,h3⟩:=hf 3 _ rfl
  obtain⟨_,h4⟩:=hf 4 _ rfl
  obtain⟨_,h5⟩:=hf 5 _ rfl
  obtain⟨_,h6⟩:=hf 6 _ rfl
  rw [ce3] at h0 h3 h4 h5
  rw [a0H] at h1
  rw [eP] at h2
  rw [a4Q] at h6
  obtain⟨a0,h0⟩:=dT h0
  obtain⟨s,ds,s1,s2,s3,h1⟩:=pX (Good:=fun s:Str=>s.length<=9223372036854775807) (enc':=fH) dE ce9 (by decide) cC hb (fun m hm cs x h=>aNI h) h1
  obtain⟨a2,h2⟩:=aKB h2
  obtain⟨a3,h3⟩:=dT h3
  obtain⟨a4,h4⟩:=dT h4
  obtain⟨a5,h5⟩:=dT h5
  obtain⟨k,dk,k1,k2,k3,h6⟩:=pX (Good:=dC) (enc':=aV) dS kC (by decide) cG hb (fun m hm cs x h=>ih m (by omega) cs x h) h6
  exact⟨.mk a0 s ds a2 a3 a4 a5 k dk,.mk _ _ _ _ _ _ _ _ _ s1 s2 s3 k1 k2 k3,by rw [←List.drop_zero (l:=cs)];exact .seg 1 h0 (.seg 1 h1 (.seg 2 h2 (.seg 1 h3 (.seg 1 h4 (.seg 1 h5 (.seg 1 h6 (.fin hl)))))))⟩
theorem a4E (hb:aIA w) (h:DataW.trod enc P w 0 aMC hd fuel 42 cs=some x):∃c:cJ,dD c/\iS w (bI c) cs:=by
 obtain⟨n, -,hl,hf⟩:=mT atI (by simp) h
 rw [a3T] at hl
 obtain⟨_,h0⟩:=hf 0 _ rfl
 obtain⟨_,h1⟩:=hf 1 _ rfl
 obtain⟨_,h2⟩:=hf 2 _ rfl
 obtain⟨_,h3⟩:=hf 3 _ rfl
 obtain⟨_,h4⟩:=hf 4 _ rfl
 obtain⟨_,h5⟩:=hf 5 _ rfl
 obtain⟨_,h6⟩:=hf 6 _ rfl
 obtain⟨_,h7⟩:=hf 7 _ rfl
 obtain⟨_,h8⟩:=hf 8 _ rfl
 rw [arG] at h0
 rw [atQ] at h1
 rw [awA] at h2
 rw [a4V] at h3
 rw [a6D] at h4
 rw [a1R] at h5
 rw [ce3] at h6 h7
 rw [kC] at h8
 obtain⟨ho,o1,h0⟩:=a0Q hb h0
 obtain⟨s,s1,s2,h1⟩:=a4B hb h1
 obtain⟨ik,h2⟩:=a2E h2
 obtain⟨k,dk,k1,k2, -,h3⟩:=pX (Good:=fun _=>True) (enc':=dJ) gO oV (by decide) dR hb (fun m hm cs x h=>by obtain⟨s,hs⟩:=a5C h;exact⟨s,trivial,hs⟩) h3
 obtain⟨t,dt,t1,t2,t3,h4⟩:=pX (Good:=fun s:eC=>s.name.length<=9223372036854775807) (enc':=cN) gZ rM (by decide) cF hb (fun m hm cs x h=>a2V h) h4
 obtain⟨m,dm,m1,m2, -,h5⟩:=pX (Good:=fun _=>True) (enc':=bS) gY qC (by decide) dG hb (fun m hm cs x h=>by obtain⟨s,hs⟩:=awQ h;exact⟨s,trivial,hs⟩) h5
 obtain⟨a,h6⟩:=dT h6
 obtain⟨b,h7⟩:=dT h7
 obtain⟨o,oo,h8⟩:=a5U hb _ _ _ h8
 refine⟨⟨ho,s,ik,k,dk,t,dt,m,dm,a,b,o⟩,⟨o1,s1,s2,⟨k1,k2,o1.rooms,o1.roomsL,t1,t2,t3⟩,m1,m2,oo⟩, ?_⟩
 have h9:=iS.seg 8 h8 (.fin hl)
 have:=iS.seg 3 h0 (.seg 12 h1 (.seg 3 h2 (.seg 1 h3 (.seg 1 h4 (.seg 1 h5 (.seg 1 h6 (.seg 1 h7 h9)))))))
 rw [List.append_nil] at this
 exact this
theorem a4M (hb:aIA w) (h:DataW.trod enc P w 0 aMC hd fuel 51 cs=some x):∃(xs:List Int) (d:D),Sl 1 tP xs d/\iS w [d] cs:=by
 obtain⟨xs,d,h1,h2, -,h3⟩:=pX (Good:=fun _=>True) (enc':=tP) aFL ce3 (by decide) aAZ hb (fun m hm cs x h=>by obtain⟨s,hs⟩:=dT h;exact⟨s,trivial,hs⟩) h
 exact⟨xs,d,h1,h3⟩
end
noncomputable def tX (c:cJ) (m:Int):Int:=if cU c=0 then (if fC m c.marks.length then 0 else 1) else cU c
theorem aQW (c:cJ) (ho:dD c) (m:Int):CQ P G 51 [.agg (bI c),.int .i64 m] (·= .int .i64 (tX c m)):=by
 have hone:=bW ho.stops
 refine CQ.enter hG ?_
 simp (disch:=first|exact bk rfl|omega) only [go_sem,bG,h51,hone]
 refine bE hG [.agg (bI c)] (zN c ho) (by rw [bG];rfl) ?_
 by_cases h1:cU c=0
 rotate_left
 ·have e1:=eq_false h1
  simp (disch:=first|exact bk rfl|omega) only [go_sem,e1]
  refine aG (.int .i64 _) ?_
  unfold tX;rw [if_neg h1]
 have e1:=eq_true h1
 simp (disch:=first|exact bk rfl|omega) only [go_sem,e1,aK ho.mks gY]
 refine bE hG [.int .i64 m,.int .i64 (c.marks.length:Int)] (wJ m (c.marks.length:Int)) rfl ?_
 cases h2:fC m (c.marks.length:Int)
 ·simp (disch:=first|exact bk rfl|omega) only [go_sem,Bool.not_false]
  refine aG (.int .i64 _) ?_
  unfold tX;rw [if_pos h1,h2];rfl
 ·simp (disch:=first|exact bk rfl|omega) only [go_sem,Bool.not_true]
  refine aG (.int .i64 _) ?_
  unfold tX;rw [if_pos h1,h2];rfl
theorem lJ (H:Hp) (a b c:Nat):(H.delL [a,b]).get c=if c=a then none else if c=b then none else H.get c:=by rw [Hp.get_delL];by_cases h1:c=a<;>by_cases h2:c=b<;>simp [h1,h2]
def oZ (e:Int):D:= .tup [.agg [.int .i64 0,.int .i64 0,.int .i64 0,.int .i64 0,.int .i64 0],.int .i64 e]
def aWP (x y:dO):List Arc->D
 | []=>oZ 5
 | [z]=>.tup [.agg (bS ⟨z,x.track,bOr x.seen y.seen,bOr x.blank y.blank⟩),.int .i64 0]
 | _=>oZ 3
noncomputable def kR (x y:dO):D:=
 if (eH x&&eH y)=true then (if x.track=y.track/\mJ (bOr x.seen y.seen) (bOr x.blank y.blank)=0 then aWP x y (iD x.at_ y.at_) else oZ 9) else oZ 1
theorem lN {m:dO} (h:eH m=true):dZ m.at_=true:=by simp only [eH,Bool.and_eq_true] at h;exact h.1.1.1.1
theorem aIP (x y:dO):CQ P G 52 [.agg (bS x),.agg (bS y)] (·=kR x y):=by
 refine CQ.enter hG ?_
 simp (disch:=first|exact bk rfl|omega) only [go_sem,bS,h52,aM,aI]
 refine bE hG [.agg (bS x)] (pN x) rfl ?_
 cases hx:eH x
 ·simp (disch:=first|exact bk rfl|omega) only [go_sem,Bool.false_eq_true,if_false,Int.reduceEq,oX,aM,aI,decide_false,Bool.not_false]
  refine aG (oZ 1) ?_
  unfold kR;rw [hx];rfl
 simp (disch:=first|exact bk rfl|omega) only [go_sem,if_true,Int.reduceEq,decide_true,Bool.not_true,aM,aI]
 refine bE hG [.agg (bS y)] (pN y) rfl ?_
 cases hy:eH y
 ·simp (disch:=first|exact bk rfl|omega) only [go_sem,Bool.false_eq_true,if_false,Int.reduceEq,oX,aM,aI,decide_false,Bool.not_false]
  refine aG (oZ 1) ?_
  unfold kR;rw [hx,hy];rfl
 have hxy:kR x y=if x.track=y.track/\mJ (bOr x.seen y.seen) (bOr x.blank y.blank)=0 then aWP x y (iD x.at_ y.at_) else oZ 9:=by unfold kR;rw [hx,hy];rfl
 rw [hxy]
 clear hxy
 by_cases ht:x.track=y.track
 rotate_left
 ·have et:=eq_false ht
  simp (disch:=first|exact bk rfl|omega) only [go_sem,if_true,Int.reduceEq,decide_true,Bool.not_true,aM,aI,oX,et,decide_false,Bool.not_false]
  refine aG (oZ 9) ?_
  rw [if_neg (fun h=>ht h.1)]
 have et:=eq_true ht
 by_cases ha:mJ (bOr x.seen y.seen) (bOr x.blank y.blank)=0
 rotate_left
 ·have ea:=eq_false ha
  simp (disch:=first|exact bk rfl|omega) only [go_sem,if_true,Int.reduceEq,decide_true,Bool.not_true,aM,aI,oX,et,ea,decide_false,Bool.not_false]
  refine aG (oZ 9) ?_
  rw [if_neg (fun h=>ha h.2)]
 have ea:=eq_true ha
 rw [if_pos ⟨ht,ha⟩]
 have hax:=lN hx
 have hay:=lN hy
 have hM:=aJK x.at_ y.at_ hax hay (.sl 2 (cB cV [x.at_]) 1) (.sl 2 (cB cV [y.at_]) 1) (fP _) (fP _)
 simp (disch:=first|exact bk rfl|omega) only [go_sem,if_true,Int.reduceEq,decide_true,Bool.not_true,aM,aI,oX,uM,kY,aAF,cM,et,ea,decide_false,Bool.not_false]
 refine pU hG hM (.cons _ _ _ _ _ _ (kI (x:=x.at_) (by (simp (disch:=first|exact bk rfl|omega) only [go_sem,aI,cL];rfl))) (.cons _ _ _ _ _ _ (kI (x:=y.at_) (by (simp (disch:=first|exact bk rfl|omega) only [go_sem,aI,cL];rfl))) .nil)) (fun b hb y hy=> ?_) ?_
 ·simp only [List.append_nil,List.cons_append,List.nil_append,List.mem_cons,List.not_mem_nil,or_false] at hb
  rcases hb with rfl | rfl<;>
  ·simp only [go_sem,Nat.reduceAdd,Nat.reduceEqDiff,reduceIte,Option.some.injEq] at hy
   subst hy;rfl
 rintro d ⟨d1,rfl,h1⟩
 simp (disch:=first|exact bk rfl|omega) only [go_sem,List.nil_append,List.append_nil,List.cons_append,lJ,Hp.nx_delL,cL,aM,aI]
 generalize hH:(Hp.delL _ _:Hp)=H4
 have hg2:H4.get 2=some (.cells (some 50) false [.int .i64 0,.int .i64 0,.int .i64 0,.int .i64 0,.int .i64 0]):=by subst hH;simp (disch:=first|exact bk rfl|omega) only [go_sem,List.nil_append,List.append_nil,List.cons_append,lJ,Hp.nx_delL,cL,aM,aI]
 have hg3:H4.get 3=some (.cells (some 50) false [.int .i64 0,.int .i64 0,.int .i64 x.track,.int .i64 (bOr x.seen y.seen),.int .i64 (bOr x.blank y.blank)]):=by subst hH;simp (disch:=first|exact bk rfl|omega) only [go_sem,List.nil_append,List.append_nil,List.cons_append,lJ,Hp.nx_delL,cL,aM,aI]
 clear hM
 rcases hm:iD x.at_ y.at_ with _ | ⟨z,_ | ⟨w,l⟩⟩<;>rw [hm] at h1
 ·have ln:=aTO h1
  simp only [List.length_nil] at ln
  simp (disch:=first|exact bk rfl|omega) only [go_sem,ln,hg2,oX,Int.reduceEq,aM,aI,Int.natCast_zero,Int.ofNat_zero]
  exact aG (oZ 5) rfl
 ·have ln:=oW h1
  have ix:=yD h1
  simp (disch:=first|exact bk rfl|omega) only [go_sem,ln,ix,qO,cV,ra0,ra1,hg2,hg3,oX,Int.reduceEq,Int.reduceLT,aM,aI]
  exact aG (.tup [.agg (bS ⟨z,x.track,bOr x.seen y.seen,bOr x.blank y.blank⟩),.int .i64 0]) rfl
 ·have ln:=aTO h1
  have e0:(((l.length+1+1:Nat):Int)=0)=False:=eq_false (by omega)
  have e1:((1:Int)<((l.length+1+1:Nat):Int))=True:=eq_true (by omega)
  simp (disch:=first|exact bk rfl|omega) only [go_sem,ln,e0,e1,hg2,oX,Int.reduceEq,aM,aI]
  exact aG (oZ 3) rfl
theorem aKE (x y:dO):CQ P G 58 [.agg (bS x),.agg (bS y)] (·=kR x y):=by
 refine CQ.enter hG ?_
 simp (disch:=first|exact bk rfl|omega) only [go_sem,bS,h58,aM,aI]
 refine bE hG [.agg (bS x)] (vN x) rfl ?_
 simp (disch:=first|exact bk rfl|omega) only [go_sem,aM,aI]
 refine bE hG [.agg (bS y)] (vN y) rfl ?_
 cases hx:eH x
 ·simp (disch:=first|exact bk rfl|omega) only [go_sem,Bool.false_eq_true,if_false,Int.reduceEq,oX,aM,aI,decide_false,Bool.not_false]
  refine aG (oZ 1) ?_
  unfold kR;rw [hx];rfl
 cases hy:eH y
 ·simp (disch:=first|exact bk rfl|omega) only [go_sem,Bool.false_eq_true,if_false,Int.reduceEq,oX,aM,aI,decide_false,Bool.not_false,Bool.not_true]
  refine aG (oZ 1) ?_
  unfold kR;rw [hx,hy];rfl
 have hxy:kR x y=if x.track=y.track/\mJ (bOr x.seen y.seen) (bOr x.blank y.blank)=0 then aWP x y (iD x.at_ y.at_) else oZ 9:=by unfold kR;rw [hx,hy];rfl
 rw [hxy]
 clear hxy
 by_cases ht:x.track=y.track
 rotate_left
 ·have et:=eq_false ht
  simp (disch:=first|exact bk rfl|omega) only [go_sem,if_true,Int.reduceEq,decide_true,Bool.not_true,aM,aI,oX,et,decide_false,Bool.not_false]
  refine aG (oZ 9) ?_
  rw [if_neg (fun h=>ht h.1)]
 have et:=eq_true ht
 by_cases ha:mJ (bOr x.seen y.seen) (bOr x.blank y.blank)=0
 rotate_left
 ·have ea:=eq_false ha
  simp (disch:=first|exact bk rfl|omega) only [go_sem,if_true,Int.reduceEq,decide_true,Bool.not_true,aM,aI,oX,et,ea,decide_false,Bool.not_false]
  refine aG (oZ 9) ?_
  rw [if_neg (fun h=>ha h.2)]
 have ea:=eq_true ha
 rw [if_pos ⟨ht,ha⟩]
 have hax:=lN hx
 have hay:=lN hy
 have hM:=aDX x.at_ y.at_ hax hay (.sl 2 (cB cV [x.at_]) 1) (.sl 2 (cB cV [y.at_]) 1) (fP _) (fP _)
 simp (disch:=first|exact bk rfl|omega) only [go_sem,if_true,Int.reduceEq,decide_true,Bool.not_true,aM,aI,oX,uM,kY,aAF,cM,et,ea,decide_false,Bool.not_false]
 refine pU hG hM (.cons _ _ _ _ _ _ (kI (x:=x.at_) (by (simp (disch:=first|exact bk rfl|omega) only [go_sem,aI,cL];rfl))) (.cons _ _ _ _ _ _ (kI (x:=y.at_) (by (simp (disch:=first|exact bk rfl|omega) only [go_sem,aI,cL];rfl))) .nil)) (fun b hb y hy=> ?_) ?_
 ·simp only [List.append_nil,List.cons_append,List.nil_append,List.mem_cons,List.not_mem_nil,or_false] at hb
  rcases hb with rfl | rfl<;>
  ·simp only [go_sem,Nat.reduceAdd,Nat.reduceEqDiff,reduceIte,Option.some.injEq] at hy
   subst hy;rfl
 intro d1 h1
 simp (disch:=first|exact bk rfl|omega) only [go_sem,List.nil_append,List.append_nil,List.cons_append,lJ,Hp.nx_delL,cL,aM,aI]
 generalize hH:(Hp.delL _ _:Hp)=H4
 have hg0:H4.get 0=some (.cells (some 50) false [.int .i64 x.at_.from_,.int .i64 x.at_.len,.int .i64 x.track,.int .i64 x.seen,.int .i64 x.blank]):=by subst hH;simp (disch:=first|exact bk rfl|omega) only [go_sem,List.nil_append,List.append_nil,List.cons_append,lJ,Hp.nx_delL,cL,aM,aI]
 have hg2:H4.get 2=some (.cells (some 50) false [.int .i64 0,.int .i64 0,.int .i64 0,.int .i64 0,.int .i64 0]):=by subst hH;simp (disch:=first|exact bk rfl|omega) only [go_sem,List.nil_append,List.append_nil,List.cons_append,lJ,Hp.nx_delL,cL,aM,aI]
 clear hM
 rcases hm:iD x.at_ y.at_ with _ | ⟨z,_ | ⟨w,l⟩⟩<;>rw [hm] at h1
 ·have ln:=aTO h1
  simp only [List.length_nil] at ln
  simp (disch:=first|exact bk rfl|omega) only [go_sem,ln,hg2,oX,Int.reduceEq,aM,aI,Int.natCast_zero,Int.ofNat_zero]
  exact aG (oZ 5) rfl
 ·have ln:=oW h1
  have ix:=yD h1
  simp (disch:=first|exact bk rfl|omega) only [go_sem,ln,ix,qO,cV,ra0,ra1,hg0,hg2,oX,Int.reduceEq,Int.reduceLT,aM,aI]
  exact aG (.tup [.agg (bS ⟨z,x.track,bOr x.seen y.seen,bOr x.blank y.blank⟩),.int .i64 0]) rfl
 ·have ln:=aTO h1
  have e0:(((l.length+1+1:Nat):Int)=0)=False:=eq_false (by omega)
  have e1:((1:Int)<((l.length+1+1:Nat):Int))=True:=eq_true (by omega)
  simp (disch:=first|exact bk rfl|omega) only [go_sem,ln,e0,e1,hg2,oX,Int.reduceEq,aM,aI]
  exact aG (oZ 3) rfl
structure ClT (T e:TypeId) (sz:Nat):Prop where
 ap:ApT P T e sz
 eqz:∀k,aH P .eql T true .nils .nils k=k (.bool true)
 eqn:∀cs n (k:AV->Bool),aH P .eql T true (ofD (.sl sz cs n)) .nils k=k (.bool false)
 bs:∀k,bF P T 0 [] k=k (.cells (some e) false []) (sG 0 sz)
section
variable {α : Type} {sz : Nat} {enc : α -> List D} {xs : List α} {d : D} {T e : TypeId} {H : Hp} {k : AV -> Hp -> Bool}
theorem dK (ht:ClT T e sz) (hs:∀x,(enc x).length=sz) (hone:∀x,(bD (enc x)).all one=true) (hd:Sl sz enc xs d) (hlen:xs.length<=1048576)
  (hk:∀v H',Own sz enc e H.nx H' v xs->H.nx<=H'.nx->(∀c,c<H.nx->H'.get c=H.get c)->k v H'=true):
  (aH P .eql T true (ofD d) .nils fun v3=>aQ v3 (fun _=>k .nils H) (fun _=>bF P T 0 [] fun k5 r5=>Hp.new H k5 fun b5 H5=>cE P H5 T T (r5 b5) (ofD d) fun v7 H7=>k v7 H7))=true:=by
 have hd':=hd
 rcases hd with⟨rfl,rfl⟩| rfl
 ·show (aH P .eql T true .nils .nils _)=true
  rw [ht.eqz]
  simp (disch:=first|exact bk rfl|omega) only [go_sem]
  exact hk _ _ (.inl ⟨rfl,rfl⟩) (Nat.le_refl _) fun c _=>rfl
 ·rw [ht.eqn]
  simp (disch:=first|exact bk rfl|omega) only [go_sem,ht.bs,cM]
  refine qU (lo:=H.nx) (xs:=([]:List α)) (enc:=enc) hs hone ht.ap (.inr ⟨H.nx,some 0,rfl,.inr ⟨rfl,rfl⟩,Nat.le_refl _,by simp (disch:=first|exact bk rfl|omega) only [go_sem];omega,by simp (disch:=first|exact bk rfl|omega) only [go_sem];rfl⟩) (by simp (disch:=first|exact bk rfl|omega) only [go_sem];omega) hd' (by simp;omega) fun v1 H1 gr1=> ?_
  have h1:=gr1.nx1
  refine hk _ _ (by simpa using gr1.own) (by simp only [go_sem] at h1;omega) fun c hc=> ?_
  rw [gr1.keep c hc]
  have a1:(c=H.nx)=False:=eq_false (by omega)
  simp (disch:=first|exact bk rfl|omega) only [go_sem,a1,if_false]
end
theorem afZ:ClT 22 136 2:=⟨⟨by kernel_rfl,by kernel_rfl,by kernel_rfl,by kernel_rfl,by kernel_rfl,by kernel_rfl⟩,fun k=>by kernel_rfl,fun cs n k=>by kernel_rfl,fun k=>by kernel_rfl⟩
theorem aeK:ClT 24 138 5:=⟨⟨by kernel_rfl,by kernel_rfl,by kernel_rfl,by kernel_rfl,by kernel_rfl,by kernel_rfl⟩,fun k=>by kernel_rfl,fun cs n k=>by kernel_rfl,fun k=>by kernel_rfl⟩
theorem aeN:ClT 76 28 2:=⟨⟨by kernel_rfl,by kernel_rfl,by kernel_rfl,by kernel_rfl,by kernel_rfl,by kernel_rfl⟩,fun k=>by kernel_rfl,fun cs n k=>by kernel_rfl,fun k=>by kernel_rfl⟩
theorem ahF:ClT 29 201 3:=⟨⟨by kernel_rfl,by kernel_rfl,by kernel_rfl,by kernel_rfl,by kernel_rfl,by kernel_rfl⟩,fun k=>by kernel_rfl,fun cs n k=>by kernel_rfl,fun k=>by kernel_rfl⟩
theorem agL:ClT 34 96 3:=⟨⟨by kernel_rfl,by kernel_rfl,by kernel_rfl,by kernel_rfl,by kernel_rfl,by kernel_rfl⟩,fun k=>by kernel_rfl,fun cs n k=>by kernel_rfl,fun k=>by kernel_rfl⟩
theorem ahI:ClT 35 94 3:=⟨⟨by kernel_rfl,by kernel_rfl,by kernel_rfl,by kernel_rfl,by kernel_rfl,by kernel_rfl⟩,fun k=>by kernel_rfl,fun cs n k=>by kernel_rfl,fun k=>by kernel_rfl⟩
theorem aEO:ClT 36 50 5:=⟨⟨by kernel_rfl,by kernel_rfl,by kernel_rfl,by kernel_rfl,by kernel_rfl,by kernel_rfl⟩,fun k=>by kernel_rfl,fun cs n k=>by kernel_rfl,fun k=>by kernel_rfl⟩
theorem afQ:ClT 37 9 1:=⟨⟨by kernel_rfl,by kernel_rfl,by kernel_rfl,by kernel_rfl,by kernel_rfl,by kernel_rfl⟩,fun k=>by kernel_rfl,fun cs n k=>by kernel_rfl,fun k=>by kernel_rfl⟩
theorem avS:ClT 23 78 2:=⟨⟨by kernel_rfl,by kernel_rfl,by kernel_rfl,by kernel_rfl,by kernel_rfl,by kernel_rfl⟩,fun k=>by kernel_rfl,fun cs n k=>by kernel_rfl,fun k=>by kernel_rfl⟩
theorem awL:ClT 38 40 8:=⟨⟨by kernel_rfl,by kernel_rfl,by kernel_rfl,by kernel_rfl,by kernel_rfl,by kernel_rfl⟩,fun k=>by kernel_rfl,fun cs n k=>by kernel_rfl,fun k=>by kernel_rfl⟩
theorem aDP (x:mO):(bD (iN x)).all one=true:=rfl
theorem ajO {xs:List mO} {d:D} (hd:Sl 2 iN xs d) (hlen:xs.length<=1048576) {H:Hp} {k:AV->Hp->Bool} (hk:∀v H',Own 2 iN 136 H.nx H' v xs->H.nx<=H'.nx->(∀c,c<H.nx->H'.get c=H.get c)->k v H'=true):cl P G 119 [ofD d] H k=true:=by
 refine dA 200 ?_
 rw [asX]
 exact dK afZ (fun _=>rfl) aDP hd hlen hk
theorem aNO {xs:List mO} {d:D} (hd:Sl 2 iN xs d) (hlen:xs.length<=1048576):CQ P G 119 [d] (Sl 2 iN xs):=by
 refine CQ.enter hG ?_
 rw [show bD [d]=[ofD d] from rfl,asX]
 refine dK afZ (fun _=>rfl) aDP hd hlen fun v H' ho _ _=> ?_
 exact Own.ret (sz:=2) (enc:=iN) (fun _=>rfl) ho fun r hr=>hr
theorem aJZ (x:Way):(bD (oD x)).all one=true:=rfl
theorem ajW {xs:List Way} {d:D} (hd:Sl 5 oD xs d) (hlen:xs.length<=1048576) {H:Hp} {k:AV->Hp->Bool} (hk:∀v H',Own 5 oD 138 H.nx H' v xs->H.nx<=H'.nx->(∀c,c<H.nx->H'.get c=H.get c)->k v H'=true):cl P G 120 [ofD d] H k=true:=by
 refine dA 200 ?_
 rw [apT]
 exact dK aeK (fun _=>rfl) aJZ hd hlen hk
theorem aML {xs:List Way} {d:D} (hd:Sl 5 oD xs d) (hlen:xs.length<=1048576):CQ P G 120 [d] (Sl 5 oD xs):=by
 refine CQ.enter hG ?_
 rw [show bD [d]=[ofD d] from rfl,apT]
 refine dK aeK (fun _=>rfl) aJZ hd hlen fun v H' ho _ _=> ?_
 exact Own.ret (sz:=5) (enc:=oD) (fun _=>rfl) ho fun r hr=>hr
theorem aDE (x:bU):(bD (bJ x)).all one=true:=rfl
theorem akH {xs:List bU} {d:D} (hd:Sl 2 bJ xs d) (hlen:xs.length<=1048576) {H:Hp} {k:AV->Hp->Bool} (hk:∀v H',Own 2 bJ 28 H.nx H' v xs->H.nx<=H'.nx->(∀c,c<H.nx->H'.get c=H.get c)->k v H'=true):cl P G 122 [ofD d] H k=true:=by
 refine dA 200 ?_
 rw [auF]
 exact dK aeN (fun _=>rfl) aDE hd hlen hk
theorem aBB {xs:List bU} {d:D} (hd:Sl 2 bJ xs d) (hlen:xs.length<=1048576):CQ P G 122 [d] (Sl 2 bJ xs):=by
 refine CQ.enter hG ?_
 rw [show bD [d]=[ofD d] from rfl,auF]
 refine dK aeN (fun _=>rfl) aDE hd hlen fun v H' ho _ _=> ?_
 exact Own.ret (sz:=2) (enc:=bJ) (fun _=>rfl) ho fun r hr=>hr
theorem aEQ (x:Stop):(bD (hZ x)).all one=true:=rfl
theorem akQ {xs:List Stop} {d:D} (hd:Sl 3 hZ xs d) (hlen:xs.length<=1048576) {H:Hp} {k:AV->Hp->Bool} (hk:∀v H',Own 3 hZ 201 H.nx H' v xs->H.nx<=H'.nx->(∀c,c<H.nx->H'.get c=H.get c)->k v H'=true):cl P G 123 [ofD d] H k=true:=by
 refine dA 200 ?_
 rw [auD]
 exact dK ahF (fun _=>rfl) aEQ hd hlen hk
theorem aMA {xs:List Stop} {d:D} (hd:Sl 3 hZ xs d) (hlen:xs.length<=1048576):CQ P G 123 [d] (Sl 3 hZ xs):=by
 refine CQ.enter hG ?_
 rw [show bD [d]=[ofD d] from rfl,auD]
 refine dK ahF (fun _=>rfl) aEQ hd hlen fun v H' ho _ _=> ?_
 exact Own.ret (sz:=3) (enc:=hZ) (fun _=>rfl) ho fun r hr=>hr
theorem aKN (x:Key):(bD (dJ x)).all one=true:=rfl
theorem anU {xs:List Key} {d:D} (hd:Sl 3 dJ xs d) (hlen:xs.length<=1048576) {H:Hp} {k:AV->Hp->Bool} (hk:∀v H',Own 3 dJ 96 H.nx H' v xs->H.nx<=H'.nx->(∀c,c<H.nx->H'.get c=H.get c)->k v H'=true):cl P G 124 [ofD d] H k=true:=by
 refine dA 200 ?_
 rw [aoZ]
 exact dK agL (fun _=>rfl) aKN hd hlen hk
theorem aLM {xs:List Key} {d:D} (hd:Sl 3 dJ xs d) (hlen:xs.length<=1048576):CQ P G 124 [d] (Sl 3 dJ xs):=by
 refine CQ.enter hG ?_
 rw [show bD [d]=[ofD d] from rfl,aoZ]
 refine dK agL (fun _=>rfl) aKN hd hlen fun v H' ho _ _=> ?_
 exact Own.ret (sz:=3) (enc:=dJ) (fun _=>rfl) ho fun r hr=>hr
theorem vA (x:eC):(bD (cN x)).all one=true:=rfl
theorem amE {xs:List eC} {d:D} (hd:Sl 3 cN xs d) (hlen:xs.length<=1048576) {H:Hp} {k:AV->Hp->Bool} (hk:∀v H',Own 3 cN 94 H.nx H' v xs->H.nx<=H'.nx->(∀c,c<H.nx->H'.get c=H.get c)->k v H'=true):cl P G 125 [ofD d] H k=true:=by
 refine dA 200 ?_
 rw [asY]
 exact dK ahI (fun _=>rfl) vA hd hlen hk
theorem aOA {xs:List eC} {d:D} (hd:Sl 3 cN xs d) (hlen:xs.length<=1048576):CQ P G 125 [d] (Sl 3 cN xs):=by
 refine CQ.enter hG ?_
 rw [show bD [d]=[ofD d] from rfl,asY]
 refine dK ahI (fun _=>rfl) vA hd hlen fun v H' ho _ _=> ?_
 exact Own.ret (sz:=3) (enc:=cN) (fun _=>rfl) ho fun r hr=>hr
theorem aDL (x:dO):(bD (bS x)).all one=true:=rfl
theorem aLH {xs:List dO} {d:D} (hd:Sl 5 bS xs d) (hlen:xs.length<=1048576) {H:Hp} {k:AV->Hp->Bool} (hk:∀v H',Own 5 bS 50 H.nx H' v xs->H.nx<=H'.nx->(∀c,c<H.nx->H'.get c=H.get c)->k v H'=true):cl P G 126 [ofD d] H k=true:=by
 refine dA 200 ?_
 rw [avL]
 exact dK aEO (fun _=>rfl) aDL hd hlen hk
theorem akC {xs:List dO} {d:D} (hd:Sl 5 bS xs d) (hlen:xs.length<=1048576):CQ P G 126 [d] (Sl 5 bS xs):=by
 refine CQ.enter hG ?_
 rw [show bD [d]=[ofD d] from rfl,avL]
 refine dK aEO (fun _=>rfl) aDL hd hlen fun v H' ho _ _=> ?_
 exact Own.ret (sz:=5) (enc:=bS) (fun _=>rfl) ho fun r hr=>hr
theorem aJE (x:Str):(bD (fH x)).all one=true:=rfl
theorem aiH {xs:List Str} {d:D} (hd:Sl 1 fH xs d) (hlen:xs.length<=1048576) {H:Hp} {k:AV->Hp->Bool} (hk:∀v H',Own 1 fH 9 H.nx H' v xs->H.nx<=H'.nx->(∀c,c<H.nx->H'.get c=H.get c)->k v H'=true):cl P G 194 [ofD d] H k=true:=by
 refine dA 200 ?_
 rw [axP]
 exact dK afQ (fun _=>rfl) aJE hd hlen hk
theorem aOD {xs:List Str} {d:D} (hd:Sl 1 fH xs d) (hlen:xs.length<=1048576):CQ P G 194 [d] (Sl 1 fH xs):=by
 refine CQ.enter hG ?_
 rw [show bD [d]=[ofD d] from rfl,axP]
 refine dK afQ (fun _=>rfl) aJE hd hlen fun v H' ho _ _=> ?_
 exact Own.ret (sz:=1) (enc:=fH) (fun _=>rfl) ho fun r hr=>hr
section
variable {α : Type} {sz : Nat} {enc : α -> List D} {xs : List α} {d : D} {H : Hp} {el : TypeId} {lo : Nat} {v : AV}
theorem aCW:∀(xs:List α) (n:Nat) (y:α),(∀x,(enc x).length=sz)->n<xs.length->fI (bD (cB enc xs)) (n * sz) (bD (enc y))=some (bD (cB enc (xs.set n y))):=by
 have hW:∀(a b c:List AV),a.length=b.length->aCI (a++c) b=some (b++c):=by
  intro a
  induction a with
  | nil=>intro b c h;cases b with | nil=>simp [aZJ]| cons x b=>simp at h
  | cons x a ih=>intro b c h;cases b with | nil=>simp at h | cons y b=>simp only [List.cons_append,aRS,ih b c (by simpa using h)];rfl
 have hS:∀(a c b:List AV) (j:Nat),fI (a++c) (a.length+j) b=(fI c j b).map (a++·):=by
  intro a
  induction a with
  | nil=>intro c b j;simp
  | cons x a ih=>intro c b j;rw [List.length_cons,show a.length+1+j=(a.length+j)+1 by omega,List.cons_append,adT,ih c b j];cases fI c j b<;>rfl
 intro xs n y hs
 induction xs generalizing n with
 | nil=>intro h;simp at h
 | cons x xs ih=>
  intro h
  show fI (bD (enc x++cB enc xs)) _ _=_
  rw [eF]
  cases n with
  | zero=>
   rw [Nat.zero_mul,abV,hW _ _ _ (by rw [cT,cT,hs,hs])]
   show _=some (bD (enc y++cB enc xs))
   rw [eF]
  | succ n=>
   have e:(n+1) * sz=(bD (enc x)).length+n * sz:=by rw [cT,hs,Nat.succ_mul];omega
   rw [e,hS,ih n (by simpa using h)]
   show _=some (bD (enc x++cB enc (xs.set n y)))
   rw [eF];rfl
theorem abO {p:α->Prop} {xs:List {x//p x}} (h:Own sz (fun o:{x//p x}=>enc o.1) el lo H v xs):Own sz enc el lo H v (xs.map (·.1)):=by
 have e:cB (fun o:{x//p x}=>enc o.1) xs=cB enc (xs.map (·.1)):=by unfold cB;rw [List.map_map];rfl
 rcases h with⟨h1,rfl⟩| ⟨b,c,h1,hc,h2,h3,h5⟩
 ·exact .inl ⟨h1,rfl⟩
 ·refine .inr ⟨b,c,by rw [List.length_map];exact h1, ?_,h2,h3,by rw [←e];exact h5⟩
  rcases hc with h | ⟨h,rfl⟩
  ·exact .inl h
  ·exact .inr ⟨h,rfl⟩
theorem ajY {p:α->Prop} (h:Sl sz enc xs d) (hp:∀x∈xs,p x):Sl sz (fun o:{x//p x}=>enc o.1) (xs.attachWith p hp) d:=by
 have e:cB (fun o:{x//p x}=>enc o.1) (xs.attachWith p hp)=cB enc xs:=by
  unfold cB
  rw [show (fun o:{x//p x}=>enc o.1)=enc∘(·.1) from rfl,←List.map_map,List.attachWith_map_subtype_val]
 rcases h with⟨h1,rfl⟩| h1
 ·exact .inl ⟨h1,rfl⟩
 ·exact .inr (by rw [e,List.length_attachWith];exact h1)
theorem aOG {p:α->Prop} (hp:∀x∈xs,p x):(xs.attachWith p hp).map (·.1)=xs:=List.attachWith_map_subtype_val ..
theorem aDB {T e:TypeId} {k:AV->Hp->Bool} (p:α->Prop) (hp:∀x∈xs,p x) (hp1:∀x,p x->(bD (enc x)).all one=true) (ht:ClT T e sz) (hs:∀x,(enc x).length=sz) (hd:Sl sz enc xs d) (hlen:xs.length<=1048576)
  (hk:∀v H',Own sz enc e H.nx H' v xs->H.nx<=H'.nx->(∀c,c<H.nx->H'.get c=H.get c)->k v H'=true):
  (aH P .eql T true (ofD d) .nils fun v3=>aQ v3 (fun _=>k .nils H) (fun _=>bF P T 0 [] fun k5 r5=>Hp.new H k5 fun b5 H5=>cE P H5 T T (r5 b5) (ofD d) fun v7 H7=>k v7 H7))=true:=by
 refine dK (enc:=fun o:{x//p x}=>enc o.1) ht (fun x=>hs x.1) (fun x=>hp1 x.1 x.2) (ajY hd hp) (by rw [List.length_attachWith];exact hlen) fun v H' ho h1 h2=>hk v H' ?_ h1 h2
 have:=abO ho
 rwa [aOG hp] at this
theorem abI {t:TypeId} {b n:Nat} {el:Option TypeId} {ro:Bool} {k:AV->Bool} (hs:∀x,(enc x).length=sz) (hag:dI P t=some true) (hc:P.cellsOf t=sz) (hb:H.get b=some (.cells el ro (bD (cB enc xs)))) (hn:n<xs.length):
  aB P G H t (.ptr b (0+n * sz)) k=k (.agg (bD (enc xs[n]))):=by
 rw [aWZ,hb,aKM,hag,hc,acN,Nat.zero_add,aY hs hn];rfl
theorem aHC {t:TypeId} {b n:Nat} {el:Option TypeId} {y:α} {k:Hp->Bool} (hs:∀x,(enc x).length=sz) (hag:dI P t=some true) (hc:P.cellsOf t=sz) (hb:H.get b=some (.cells el false (bD (cB enc xs)))) (hn:n<xs.length) (hy:(bD (enc y)).all one=true):
  bB P H t (.ptr b (0+n * sz)) (.agg (bD (enc y))) k=k (H.setb b (some (.cells el false (bD (cB enc (xs.set n y)))))):=by
 rw [aSV,hb,hag,aSB,aHG,Nat.zero_add,aCW xs n y hs hn,hc,cT,hs,Nat.beq_refl,hy];rfl
end
theorem aLO {xs:List aF} {d:D} (hd:Sl 8 aV xs d) (ho:∀o∈xs,dC o) (hlen:xs.length<=1048576) {H:Hp} {k:AV->Hp->Bool} (hk:∀v H',Own 8 aV 40 H.nx H' v xs->H.nx<=H'.nx->(∀c,c<H.nx->H'.get c=H.get c)->k v H'=true):cl P G 195 [ofD d] H k=true:=by
 refine dA 200 ?_
 rw [a0C]
 refine aDB dC ho (fun x hx=> ?_) awL (fun _=>rfl) hd hlen hk
 cases hx with
 | mk kind names dn gap most lo hi kids dk hn hnl hl hk hkl ho=>
  have e1:=bW hn
  have e2:=bW hk
  simp only [aV,aF.dn,aF.dk,bD,List.all_cons,List.all_nil,e1,e2,Bool.and_true,Bool.true_and];rfl
theorem aLD {xs:List mK} {d:D} (hd:Sl 2 eY xs d) (ho:∀o∈xs,one (ofD o.dh)=true/\one (ofD o.ds)=true) (hlen:xs.length<=1048576) {H:Hp} {k:AV->Hp->Bool} (hk:∀v H',Own 2 eY 78 H.nx H' v xs->H.nx<=H'.nx->(∀c,c<H.nx->H'.get c=H.get c)->k v H'=true):cl P G 121 [ofD d] H k=true:=by
 refine dA 200 ?_
 rw [a6C]
 refine aDB (fun o:mK=>one (ofD o.dh)=true/\one (ofD o.ds)=true) ho (fun x hx=> ?_) avS (fun _=>rfl) hd hlen hk
 simp [eY,bD,hx.1,hx.2]
end Go.S5
