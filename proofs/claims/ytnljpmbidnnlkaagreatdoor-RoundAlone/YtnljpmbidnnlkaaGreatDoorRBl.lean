/- A part of the proof of RoundAlone. -/
import Derived.Test.YtnljpmbidnnlkaaGreatDoorRAp
import Derived.Test.YtnljpmbidnnlkaaGreatDoorRAl
import Derived.Test.YtnljpmbidnnlkaaGreatDoorRAi
import Derived.Test.YtnljpmbidnnlkaaGreatDoorRBk
import Derived.ChangeArms
import Derived.DataReads
import Derived.ProofKit
set_option maxRecDepth 1000000
set_option linter.unusedVariables false
set_option linter.unusedSimpArgs false
set_option maxHeartbeats 8000000
namespace Go.S5
open Go.Ev Go.Proofs
def I10 (s:bo) (lo L1 rc gc pc b5:Nat) (dps:D) (y:AV) (Y:Nat->List BF.Lk->Hp->Prop) (T:List BF.Lk) (m:Nat) (e:En) (H:Hp):Prop:=
 ∃i D bK,m=(plc s).length - i/\i<=(plc s).length/\e.dm=[]/\D++prs s i ((plc s).drop i)=T/\KP s lo L1 rc gc pc b5 dps y Y D bK H e.t/\e.t 166=ofD dps/\e.t 167= O ((plc s).length:Int)/\e.t 168= O (i:Int)
theorem Ec {s:bo} {lo L1 rc gc pc b5 bK:Nat} {dps:D} {H:Hp} {y:AV} {Y:Nat->List BF.Lk->Hp->Prop} {done:List BF.Lk} {t:E2} {k:AEx->En->Hp->Bool} (hy:YR lo L1 y Y) (hL:rc<L1/\gc<L1/\pc<L1/\lo<L1/\rc≠lo+1/\gc≠lo+1/\pc≠lo+1) (hb:L1<b5/\L1<H.nx/\lo+1<L1) (ho:SOK s) (hst:Sl 3 dx s.stops s.ds) (hps:Sl 1 iw (plc s) dps)
  (h:KP s lo L1 rc gc pc b5 dps y Y done bK H t) (hlen:(done++prs s 0 (plc s)).length<=90)
  (hk:∀t' H' bK',KP s lo L1 rc gc pc b5 dps y Y (done++prs s 0 (plc s)) bK' H' t'->k .normal ⟨t',[]⟩ H'=true):
  az 185 232 205 65535 none ⟨t,[]⟩ H k=true:=by
 have hpl:=(m8 s).2.2
 have hpne:plc s≠[]:=by intro hh;rw [hh] at hpl;simp at hpl
 obtain⟨cx,⟨v0,v1,v2,v3,v5,v5'⟩,hY,k5⟩:=h
 rw [LZ,v3,cf (v:=ofD dps) cx.pc.2 B4 rfl,aF hps kQ]
 refine aZ (fun m e H1=>L1<H1.nx/\I10 s lo L1 rc gc pc b5 dps y Y (done++prs s 0 (plc s)) m e H1) (fun m e H1 hi'=> ?_) (m:=(plc s).length) ⟨hb.2.1,0,done,bK,rfl,bN _,rfl,rfl,⟨cx,⟨?_, ?_, ?_, ?_, ?_,v5'⟩,hY,k5⟩, ?_, ?_, ?_⟩
 rotate_left
 ·simp (disch:=omega) only [go_sem,v0]
 ·simp (disch:=omega) only [go_sem,v1]
 ·simp (disch:=omega) only [go_sem,v2]
 ·simp (disch:=omega) only [go_sem,v3]
 ·simp (disch:=omega) only [go_sem,v5]
 ·simp (disch:=omega) only [go_sem]
 ·simp (disch:=omega) only [go_sem]
 ·simp (disch:=omega) only [go_sem];rfl
 obtain⟨hL1,i,D,bk1,rfl,hi,hdm,hD,⟨cx,⟨v0,v1,v2,v3,v5,v5'⟩,hY,k5⟩,u166,u167,u168⟩:=hi'
 obtain⟨t1,dm⟩:=e
 dsimp only at hdm u166 u167 u168 v0 v1 v2 v3 v5
 subst hdm
 refine aV 200 ?_
 by_cases hil:i<(plc s).length
 ·have hlt:((i:Int)<((plc s).length:Int))=True:=by simp;omega
  obtain⟨q,hq1,hq2⟩:=ldZ hps hil
  have hdr:(plc s).drop i=(plc s)[i]::(plc s).drop (i+1):=List.drop_eq_getElem_cons hil
  obtain⟨dz,hdz,hsl⟩:=slZ (H:=H1) hps (n:=i+1) (by omega) hpne
  have hDl:(D++prw s i (plc s)[i] (i+1) ((plc s).drop (i+1))).length<=90:=by
   rw [←hD,hdr,prs,←ki,gZ] at hlen;omega
  rw [Gj,u166,u167,u168,cB]
  simp only [hlt,dL,dH]
  rw [hq1,hq2,aI,ex (H:=H1.push (ae 3 [O 0])) (b:=H1.nx) (by rw [af,if_pos rfl]) ag3 ce3 rfl rfl (by simp)]
  have hA:=mA H1 (ae 3 [O 0]) (ae 3 [O (plc s)[i]])
  have hS:=ii H1 (ae 3 [O 0]) (ae 3 [O (plc s)[i]])
  rw [show ([AV.int .i64 0]:List AV).set 0 (O (plc s)[i])=[O (plc s)[i]] from rfl]
  generalize hH2:Hp.setb (H1.push (ae 3 [O 0])) H1.nx (some (ae 3 [O (plc s)[i]]))=H2 at hA hS
  obtain⟨dz,hdz,hsl⟩:=slZ (H:=H2) hps (n:=i+1) (by omega) hpne
  have cx2:=cx.stay hS
  have hY2:=hy.st _ _ _ _ hY hS
  have hbk:=hy.bK _ _ _ hY
  rw [v3,cf (v:=ofD dps) cx2.pc.2 B4 rfl,kn _ _ _ _ (by omega),show (i:Int)+1=((i+1:Nat):Int) from rfl,hsl,aF hdz kQ]
  have k24:H1.nx≠bk1:=fun hh=>by
   subst hh
   exact absurd (hy.lt _ _ _ hY) (Nat.lt_irrefl _)
  refine E' (x:=(plc s)[i]) (i:=i) (zs:=(plc s).drop (i+1)) (b24:=H1.nx) (done:=D) hy hL ⟨hb.1,hL1,hb.2.2⟩ ho hst ⟨cx2,⟨?_, ?_, ?_, ?_, ?_,v5'.stay hS⟩,hY2,k5⟩ hDl hA k24 hdz (dW hil) rfl ?_ ?_ ?_ ?_ fun t3 H3 bk3 h3 w166 w167 w168=> ?_
  ·simp (disch:=omega) only [go_sem,v0]
  ·simp (disch:=omega) only [go_sem,v1]
  ·simp (disch:=omega) only [go_sem,v2]
  ·simp (disch:=omega) only [go_sem,v3]
  ·simp (disch:=omega) only [go_sem,v5]
  ·simp (disch:=omega) only [go_sem]
  ·simp (disch:=omega) only [go_sem]
  ·simp (disch:=omega) only [go_sem]
  ·simp (disch:=omega) only [go_sem]
  ·obtain⟨cx3,⟨x0,x1,x2,x3,x5,x5'⟩,hY3,k53⟩:=h3
   have a168:t3 168= O (i:Int):=by rw [w168];simp (disch:=omega) only [go_sem,u168]
   have a166:t3 166=ofD dps:=by rw [w166];simp (disch:=omega) only [go_sem,u166]
   have a167:t3 167= O ((plc s).length:Int):=by rw [w167];simp (disch:=omega) only [go_sem,u167]
   have hn3:=x5'.1
   simp (disch:=omega) only [go_sem,SS,a168]
   refine bd (m':=(plc s).length - (i+1)) (by omega) ⟨by omega,i+1,_,bk3,rfl,by omega,rfl, ?_,⟨cx3,⟨?_, ?_, ?_, ?_, ?_,x5'⟩,hY3,k53⟩, ?_, ?_, ?_⟩
   ·rw [←hD,hdr,prs,ki]
   all_goals dsimp only
   all_goals simp (disch:=omega) only [go_sem,x0,x1,x2,x3,x5,a166,a167]
   rfl
 ·have hie:i=(plc s).length:=by omega
  rw [hie,List.drop_length,prs,List.append_nil] at hD
  subst hD
  rw [Gj,u167,u168,cB]
  have hlt:((i:Int)<((plc s).length:Int))=False:=by simp;omega
  simp (disch:=omega) only [go_sem,hlt]
  refine hk _ H1 bk1 ⟨cx,⟨?_, ?_, ?_, ?_, ?_,v5'⟩,hY,k5⟩
  all_goals simp (disch:=omega) only [go_sem,v0,v1,v2,v3,v5]
theorem Vr (t:E2) (H:Hp) (k:fk->Hp->Bool) (i:Evs):ac Tryz.f205 i k .normal ⟨t,[]⟩ H=k (.ret (.tup [])) H:=by kernel_rfl
theorem tf (s:bo):(l9 s).length=9:=rfl
def I5 (s:bo) (lo L1 rc gc pc b5 bl:Nat) (dps:D) (y:AV) (Y:Nat->List BF.Lk->Hp->Prop) (m:Nat) (e:En) (H:Hp):Prop:=
 ∃i bK,m=9 - i/\i<=9/\e.dm=[]/\KP s lo L1 rc gc pc b5 dps y Y ((l9 s).take i) bK H e.t/\At H bl (ae 133 (aq (cC eLk (l9 s))))/\bl≠bK/\e.t 155= .sl bl 0 (l9 s).length 3 none/\e.t 156= O ((l9 s).length:Int)/\e.t 157= O (i:Int)
theorem Qr {s:bo} {lo L1 rc gc pc b5 b8 bl bK:Nat} {dps:D} {H:Hp} {y v:AV} {Y:Nat->List BF.Lk->Hp->Prop} {t:E2} {k:AEx->En->Hp->Bool} (hy:YR lo L1 y Y) (hL:rc<L1/\gc<L1/\pc<L1/\lo<L1/\rc≠lo+1/\gc≠lo+1/\pc≠lo+1) (hb:L1<b5/\L1<bl/\lo+1<L1)
  (h:KP s lo L1 rc gc pc b5 dps y Y [] bK H t) (h8:At H b8 (ae 129 [v])) (hl:LA bl v (l9 s) H) (hkl:bl≠bK) (t8:t 8= .ptr b8 0)
  (hk:∀t' H' bK',KP s lo L1 rc gc pc b5 dps y Y (l9 s) bK' H' t'->az 185 232 205 65535 none ⟨t',[]⟩ H' k=true):
  az 186 232 205 32767 none ⟨t,[]⟩ H k=true:=by
 obtain⟨cx,⟨v0,v1,v2,v3,v5,v5'⟩,hY,k5⟩:=h
 obtain⟨rfl,hbl,hg⟩:v= .sl bl 0 (l9 s).length 3 none/\bl<H.nx/\H.get bl=some (ae 133 (aq (cC eLk (l9 s)))):=by
  rcases hl with⟨_,h⟩| h
  ·cases h
  ·exact h
 have hlen:∀k:AV->Bool,ak 129 (.sl bl 0 (l9 s).length 3 none) H k=k (O ((l9 s).length:Int)):=fun k=>by unfold kJ;rw [xc];rfl
 rw [K0,t8,cf (v:= .sl bl 0 (l9 s).length 3 none) h8.2 lR rfl,hlen]
 refine aZ (I5 s lo L1 rc gc pc b5 bl dps y Y) (fun m e H1 hi'=> ?_) (m:=9) ⟨0,bK,rfl,bN _,rfl,⟨cx,⟨?_, ?_, ?_, ?_, ?_,v5'⟩,hY,k5⟩,⟨hbl,hg⟩,hkl, ?_, ?_, ?_⟩
 rotate_left
 ·simp (disch:=omega) only [go_sem,v0]
 ·simp (disch:=omega) only [go_sem,v1]
 ·simp (disch:=omega) only [go_sem,v2]
 ·simp (disch:=omega) only [go_sem,v3]
 ·simp (disch:=omega) only [go_sem,v5]
 ·simp (disch:=omega) only [go_sem]
 ·simp (disch:=omega) only [go_sem]
 ·simp (disch:=omega) only [go_sem];rfl
 obtain⟨i,bk1,rfl,hi,hdm,⟨cx,sb,hY,k5⟩,hl1,hkl1,u155,u156,u157⟩:=hi'
 obtain⟨t1,dm⟩:=e
 dsimp only at hdm u155 u156 u157 sb
 subst hdm
 refine aV 200 ?_
 by_cases hil:i<9
 ·refine Qw (ls:=l9 s) hy hL hb cx sb hY (by rw [gW];omega) hl1 k5 hkl1 (by rw [tf];exact hil) (by rw [tf];omega) u155 u156 u157 fun t2 H2 bk2 cx2 sb2 hY2 hl2 k52 kl2 w155 w156 w157=> ?_
  rw [eU]
  have hti:(l9 s).take i++[(l9 s)[i]'(by rw [tf];exact hil)]=(l9 s).take (i+1):=by
   rw [List.take_add_one,dW (by rw [tf];exact hil)];rfl
  rw [hti] at hY2
  exact bd (m':=9 - (i+1)) (by omega) ⟨i+1,bk2,rfl,by omega,rfl,⟨cx2,sb2,hY2,k52⟩,hl2,kl2,w155,w156,w157⟩
 ·have hie:i=9:=by omega
  subst hie
  rw [FB,u156,u157,cB]
  have hlt:(((9:Nat):Int)<((l9 s).length:Int))=False:=by rw [tf];simp
  obtain⟨v0,v1,v2,v3,v5,v5'⟩:=sb
  rw [cN (by rw [tf];exact bh _)] at hY
  simp (disch:=omega) only [go_sem,hlt]
  refine hk _ H1 bk1 ⟨cx,⟨?_, ?_, ?_, ?_, ?_,v5'⟩,hY,k5⟩
  all_goals simp (disch:=omega) only [go_sem,v0,v1,v2,v3,v5]
theorem O0 {s:bo} {lo L1 rc gc pc bK:Nat} {dps:D} {H:Hp} {y:AV} {Y:Nat->List BF.Lk->Hp->Prop} {K:AV->Hp->Bool} (hy:YR lo L1 y Y) (hL:rc<L1/\gc<L1/\pc<L1/\lo<L1/\rc≠lo+1/\gc≠lo+1/\pc≠lo+1) (hb:L1<H.nx/\lo+1<L1) (ho:SOK s) (hst:Sl 3 dx s.stops s.ds) (hps:Sl 1 iw (plc s) dps)
  (hx:CX s lo rc gc pc dps H) (hY:Y bK [] H) (hK:∀H' bK',Y bK' (bls s) H'->K (.tup []) H'=true):ay 205 [y,.ptr rc 0,.ptr gc 0,.ptr pc 0] H K=true:=by
 have hbk:=hy.lt _ _ _ hY
 refine O5 hst ho hx fun t1 H1 b5 b8 bl br bs v h1=> ?_
 refine Qz hx (by simp) h1 fun t2 H2 br2 bs2 h2=> ?_
 refine SV (by simp) (by simp) h2 fun t3 H3 bl3 v3 h3=> ?_
 refine Tc ho hx (by simp) (by simp) h3 fun t4 H4 bl4 v4 h4=> ?_
 have hls:([⟨0,1,s.in_.hi⟩,⟨1,0, -s.in_.lo⟩,⟨0,2,s.out.hi⟩,⟨2,0, -s.out.lo⟩]++[⟨2,1,0⟩]++[⟨1,pA s s.zero.lo,0⟩,⟨pA s (s.zero.hi+1),1,0⟩,⟨2,pA s s.end_.lo,0⟩,⟨pA s (s.end_.hi+1),2,0⟩]:List BF.Lk)=l9 s:=rfl
 rw [hls] at h4
 obtain⟨st,u0,u1,u2,u3,u5,u8,u7,u11,u12,h5,h8,hl,hr,hs,d1,d2,d3,d4,d5,d6,d7,d8,d9,d10,d11,d12⟩:=h4
 have hn4:=st.1
 refine Qr hy hL ⟨by omega,by omega,by omega⟩ ⟨hx.stay st,⟨u0,u1,u2,u3,u5,h5⟩,hy.st _ _ _ _ hY st,by omega⟩ h8 hl (by omega) u8 fun t5 H5 bk5 h5=> ?_
 have hbl:(bls s).length<=90:=by have:=(HK ho).1;omega
 have hn5:=h5.sb.h5.1
 refine Ec hy hL ⟨by omega,by omega,by omega⟩ ho hst hps h5 hbl fun t6 H6 bk6 h6=> ?_
 show Qa K .normal ⟨t6,[]⟩ H6=true
 unfold Qa
 rw [Vr]
 exact hK H6 bk6 h6.y
theorem GN (dm:List Dm) (ro:Option Nat) (H:Hp) (k:AEx->En->Hp->Bool):∀(t:E2),az 193 66 66 16372 ro ⟨t,dm⟩ H k=
 (Hp.new H (ae 133 [(O 0),(O 0),(O 0)]) fun b1 H1=>
 aA H1 133 (.ptr b1 0) (t 54) fun H2=>
 k .normal ⟨(es t [(11,.ptr b1 0)]),dm⟩ H2):=aj fun f=>by kernel_rfl
theorem IW (dm:List Dm) (ro:Option Nat) (H:Hp) (k:AEx->En->Hp->Bool):∀(t:E2),az 193 66 66 16373 ro ⟨t,dm⟩ H k=
 (E H 123 (t 5) fun v1=>
 E H 123 (t 5) fun v2=>
 bw v2 fun v3=>
 U v3 2 fun v4=>
 E H 129 v4 fun v5=>
 E H 133 (t 11) fun v6=>
 aO 129 1 [(0,v6)] fun k7 r7=>Hp.reserve H fun b7 H7=>
 bF 126 ((6,b7,k7)::[]) H7 fun Q9 H9=>bu H9 129 129 v5 (r7 b7) fun v8 H8=>
 Bool.casesOn (bf 126 ((5,fun H'=>E H' 133 (t 11) fun v'=>av 1000 v6 v')::((4,fun H'=>E H' 129 v4 fun v'=>av 1000 v5 v')::((1,fun H'=>E H' 123 (t 5) fun v'=>av 1000 v2 v')::((0,fun H'=>E H' 123 (t 5) fun v'=>av 1000 v1 v')::[])))) H8) false (bw v1 fun v10=>
 U v10 2 fun v11=>
 bF 1023 Q9 H8 fun Q13 H13=>aA H13 129 v11 v8 fun H12=>
 Bool.casesOn (bf 1023 ((5,fun H'=>E H' 133 (t 11) fun v'=>av 1000 v6 v')::((4,fun H'=>E H' 129 v4 fun v'=>av 1000 v5 v')::((1,fun H'=>E H' 123 (t 5) fun v'=>av 1000 v2 v')::((0,fun H'=>E H' 123 (t 5) fun v'=>av 1000 v1 v')::[])))) H12) false (cG Q13 H12 fun H14=>
 k .normal ⟨(es t (ao 55 [v1,v2,v3,v4,v5,v6,r7 b7,v8,v10,v11] [])),dm⟩ H14))):=aj fun f=>by kernel_rfl
theorem F9 (dm:List Dm) (ro:Option Nat) (H:Hp) (k:AEx->En->Hp->Bool):∀(t:E2),az 188 66 66 16372 ro ⟨t,dm⟩ H k=
 (Hp.new H (ae 133 [(O 0),(O 0),(O 0)]) fun b1 H1=>
 aA H1 133 (.ptr b1 0) (t 54) fun H2=>
 k .normal ⟨(es t [(11,.ptr b1 0)]),dm⟩ H2):=aj fun f=>by kernel_rfl
theorem IC (dm:List Dm) (ro:Option Nat) (H:Hp) (k:AEx->En->Hp->Bool):∀(t:E2),az 188 66 66 16373 ro ⟨t,dm⟩ H k=
 (E H 123 (t 5) fun v1=>
 E H 123 (t 5) fun v2=>
 bw v2 fun v3=>
 U v3 2 fun v4=>
 E H 129 v4 fun v5=>
 E H 133 (t 11) fun v6=>
 aO 129 1 [(0,v6)] fun k7 r7=>Hp.reserve H fun b7 H7=>
 bF 126 ((6,b7,k7)::[]) H7 fun Q9 H9=>bu H9 129 129 v5 (r7 b7) fun v8 H8=>
 Bool.casesOn (bf 126 ((5,fun H'=>E H' 133 (t 11) fun v'=>av 1000 v6 v')::((4,fun H'=>E H' 129 v4 fun v'=>av 1000 v5 v')::((1,fun H'=>E H' 123 (t 5) fun v'=>av 1000 v2 v')::((0,fun H'=>E H' 123 (t 5) fun v'=>av 1000 v1 v')::[])))) H8) false (bw v1 fun v10=>
 U v10 2 fun v11=>
 bF 1023 Q9 H8 fun Q13 H13=>aA H13 129 v11 v8 fun H12=>
 Bool.casesOn (bf 1023 ((5,fun H'=>E H' 133 (t 11) fun v'=>av 1000 v6 v')::((4,fun H'=>E H' 129 v4 fun v'=>av 1000 v5 v')::((1,fun H'=>E H' 123 (t 5) fun v'=>av 1000 v2 v')::((0,fun H'=>E H' 123 (t 5) fun v'=>av 1000 v1 v')::[])))) H12) false (cG Q13 H12 fun H14=>
 k .normal ⟨(es t (ao 55 [v1,v2,v3,v4,v5,v6,r7 b7,v8,v10,v11] [])),dm⟩ H14))):=aj fun f=>by kernel_rfl
noncomputable def Fp:Code:=fH 66 16372
noncomputable def D4:Code:=fH 66 16373
noncomputable def lpB (env:E2) (L0:Nat) (st:LoopState):Blk:= .loop st none env 66 [54] Fp D4 L0
theorem Ub {n lo bK b11:Nat} {vn vl:AV} {ls:List BF.Lk} {x:BF.Lk} {H:Hp} {ro:Option Nat} {t:E2} {K:AEx->En->Hp->Bool} (hn:n=193∨n=188) (t5:t 5= .ptr (lo+2) 0) (t11:t 11= .ptr b11 0) (hc:At H (lo+2) (ae 123 [.ptr (lo+1) 0])) (hg:At H (lo+1) (ae 131 [vn,.map lo,vl])) (hl:LA bK vl ls H) (hlen:ls.length<=100) (hbk:lo+2<bK) (hx:At H b11 (ae 133 (aq (eLk x))))
  (hK:∀t' bK' v' H',H.nx<=bK'->At H' (lo+1) (ae 131 [vn,.map lo,v'])->LA bK' v' (ls++[x]) H'->bK'<H'.nx->(∀c,c<H.nx->c≠lo+1->c≠bK->H'.get c=H.get c)->K .normal ⟨t',[]⟩ H'=true):gK n 66 D4 ro ⟨t,[]⟩ H K=true:=by
 have e1:=((kH (H:=H) (n:=H.nx+1) (by omega)).setb (b:=H.nx) (x:=some (ae 133 [O (x.u:Int), O (x.v:Int), O x.w])) (bh _))
 have e2:At (Hp.setb ⟨H.t,H.nx+1⟩ H.nx (some (ae 133 [O (x.u:Int), O (x.v:Int), O x.w]))) H.nx _:=At.set (by show H.nx<H.nx+1;omega)
 unfold D4
 rcases hn with rfl | rfl
 ·rw [IW]
  generalize hH1:Hp.setb ⟨H.t,H.nx+1⟩ H.nx (some (ae 133 [O (x.u:Int), O (x.v:Int), O x.w]))=H1 at e1 e2
  rw [t5,cf (v:= .ptr (lo+1) 0) hc.2 mg rfl,cf (v:= .ptr (lo+1) 0) hc.2 mg rfl,fS,bL,cf (v:=vl) hg.2 lR rfl,t11,iR xd (by rw [rB];rfl) hx.2,show (AV.agg (aq (eLk x)))= .agg [O (x.u:Int), O (x.v:Int), O x.w] from rfl,Bv,dM,im (by decide),bq,dq,hH1]
  refine JJ (hl.stay e1) (xs:=[x]) (jl e2.2 rfl) (by simp) (by simp;omega) fun v' H3 hl3 hx3 hf3=> ?_
  have hc3:H3.get (lo+2)=some (ae 123 [.ptr (lo+1) 0]):=(hf3 _ (by have:=hc.1;have:=e1.1;omega) (by omega)).trans (hc.stay e1).2
  have hg3:H3.get (lo+1)=some (ae 131 [vn,.map lo,vl]):=(hf3 _ (by have:=hg.1;have:=e1.1;omega) (by omega)).trans (hg.stay e1).2
  have hle:=fun k=>cf (P:=P) (G:=G) (H:=H3) (t:=123) (n:=0) (k:=k) (v:= .ptr (lo+1) 0) hc3 mg rfl
  with_reducible refine rk (by simp (disch:=exact bk rfl) only [bI,ct,bP,dE,hle,m7]) ?_
  rw [fS,bL,bq,ex hg3 lR zp hl3.cells hl3.one (by simp)]
  with_reducible refine rk (by simp (disch:=exact bk rfl) only [bI,ct,bP,dE]) ?_
  rw [cQ]
  have hn1:=hg.1
  have hn2:=e1.1
  refine hK _ H1.nx v' _ hn2 ⟨by rw [au];omega,by rw [V,if_pos rfl];rfl⟩ (hl3.frame (by rw [au];exact bh _) fun _=>by rw [V,if_neg (by omega)]) (by rw [au];omega) fun c hc1 hc2 hc3=> ?_
  rw [V,if_neg hc2,hf3 c (by omega) hc3,e1.2 c hc1]
 ·rw [IC]
  generalize hH1:Hp.setb ⟨H.t,H.nx+1⟩ H.nx (some (ae 133 [O (x.u:Int), O (x.v:Int), O x.w]))=H1 at e1 e2
  rw [t5,cf (v:= .ptr (lo+1) 0) hc.2 mg rfl,cf (v:= .ptr (lo+1) 0) hc.2 mg rfl,fS,bL,cf (v:=vl) hg.2 lR rfl,t11,iR xd (by rw [rB];rfl) hx.2,show (AV.agg (aq (eLk x)))= .agg [O (x.u:Int), O (x.v:Int), O x.w] from rfl,Bv,dM,im (by decide),bq,dq,hH1]
  refine JJ (hl.stay e1) (xs:=[x]) (jl e2.2 rfl) (by simp) (by simp;omega) fun v' H3 hl3 hx3 hf3=> ?_
  have hc3:H3.get (lo+2)=some (ae 123 [.ptr (lo+1) 0]):=(hf3 _ (by have:=hc.1;have:=e1.1;omega) (by omega)).trans (hc.stay e1).2
  have hg3:H3.get (lo+1)=some (ae 131 [vn,.map lo,vl]):=(hf3 _ (by have:=hg.1;have:=e1.1;omega) (by omega)).trans (hg.stay e1).2
  have hle:=fun k=>cf (P:=P) (G:=G) (H:=H3) (t:=123) (n:=0) (k:=k) (v:= .ptr (lo+1) 0) hc3 mg rfl
  with_reducible refine rk (by simp (disch:=exact bk rfl) only [bI,ct,bP,dE,hle,m7]) ?_
  rw [fS,bL,bq,ex hg3 lR zp hl3.cells hl3.one (by simp)]
  with_reducible refine rk (by simp (disch:=exact bk rfl) only [bI,ct,bP,dE]) ?_
  rw [cQ]
  have hn1:=hg.1
  have hn2:=e1.1
  refine hK _ H1.nx v' _ hn2 ⟨by rw [au];omega,by rw [V,if_pos rfl];rfl⟩ (hl3.frame (by rw [au];exact bh _) fun _=>by rw [V,if_neg (by omega)]) (by rw [au];omega) fun c hc1 hc2 hc3=> ?_
  rw [V,if_neg hc2,hf3 c (by omega) hc3,e1.2 c hc1]
structure YB (lo L0:Nat) (vn:AV) (env:E2) (HH:Hp) (bK:Nat) (ls:List BF.Lk) (H:Hp):Prop where
 g:∃vl,At H (lo+1) (ae 131 [vn,.map lo,vl])/\LA bK vl ls H
 b:L0+1<=bK
 lt:bK<H.nx
 lp:At H (L0+1) (lpB env L0 .ready)
 fr:∀c,c<L0+1->c≠lo+1->H.get c=HH.get c
theorem YB.stay {lo L0:Nat} {vn:AV} {env:E2} {HH:Hp} {bK:Nat} {ls:List BF.Lk} {H H':Hp} (h:YB lo L0 vn env HH bK ls H) (hs:dV H H'):YB lo L0 vn env HH bK ls H':=by
 obtain⟨⟨vl,h1,h2⟩,h3,h4,h5,h6⟩:=h
 have:=h5.1
 have:=hs.1
 exact⟨⟨vl,h1.stay hs,h2.stay hs⟩,h3,by omega,h5.stay hs,fun c hc hne=>(hs.2 c (by omega)).trans (h6 c hc hne)⟩
theorem Hw {lo L0:Nat} {vn:AV} {env:E2} {HH:Hp} (hL:lo+2<L0) (hc:HH.get (lo+2)=some (ae 123 [.ptr (lo+1) 0])) (he:env 5= .ptr (lo+2) 0):YR lo (L0+1) (.yld (L0+1)) (YB lo L0 vn env HH):=by
 refine⟨fun bK ls H H' h hs=>h.stay hs,fun n hn bK ls x H K h hlen hK=> ?_,fun bK ls H h=> ?_,fun bK ls H h=>h.b,fun bK ls H h=>h.lt⟩
 ·obtain⟨⟨vl,h1,h2⟩,h3,h4,h5,h6⟩:=h
  have hl:=h5.1
  have h1n:=h1.1
  rw [pW]
  have H3:∀K:AEx->En->Hp->Bool,gK n 66 Fp (some (L0+1)) ⟨E2.set env 54 (.agg (aq (eLk x))),[]⟩ H K=K .normal ⟨es (E2.set env 54 (.agg (aq (eLk x)))) [(11,.ptr H.nx 0)],[]⟩ (Hp.setb (H.push (ae 133 [O 0, O 0, O 0])) H.nx (some (ae 133 (aq (eLk x))))):=fun K=>by
   have e54:(E2.set env 54 (.agg (aq (eLk x)))) 54= .agg (aq (eLk x)):=cY _ _ _ (by decide)
   unfold Fp
   rcases hn with rfl | rfl
   ·rw [GN,aI,e54,zu (el:=some 133) (by rw [af,if_pos rfl])]
   ·rw [F9,aI,e54,zu (el:=some 133) (by rw [af,if_pos rfl])]
  have hA:=mA H (ae 133 [O 0, O 0, O 0]) (ae 133 (aq (eLk x)))
  have hS:=ii H (ae 133 [O 0, O 0, O 0]) (ae 133 (aq (eLk x)))
  generalize Hp.setb (H.push (ae 133 [O 0, O 0, O 0])) H.nx (some (ae 133 (aq (eLk x))))=H1 at hA hS H3
  have hn1:=hA.1
  refine jW h5.2 (by decide) (by decide) H3 (h5.stay hS).2 fun KK hKK=> ?_
  have e5:(es (E2.set env 54 (.agg (aq (eLk x)))) [(11,.ptr H.nx 0)]) 5= .ptr (lo+2) 0:=by
   rw [hU _ _ _ (by decide) rfl];show (E2.set env 54 (.agg (aq (eLk x)))) 5=_;rw [cM _ _ _ _ (by decide) (by decide) (by decide)];exact he
  have e11:(es (E2.set env 54 (.agg (aq (eLk x)))) [(11,.ptr H.nx 0)]) 11= .ptr H.nx 0:=by
   rw [hU _ _ _ (by decide) rfl];rfl
  have hcH:At H (lo+2) (ae 123 [.ptr (lo+1) 0]):=⟨by omega,(h6 _ (by omega) (by omega)).trans hc⟩
  have pB:∀{b:Nat} {z:Blk},At H1 b z->b≠L0+1->At (H1.setb (L0+1) (some (lpB env L0 .busy))) b z:=fun {b z} ha h1=>⟨by rw [au];exact ha.1,by rw [V,if_neg h1];exact ha.2⟩
  obtain⟨b0,hlB,hb0,hfb⟩:∃b0,LA b0 vl ls (H1.setb (L0+1) (some (lpB env L0 .busy)))/\L0+1<b0/\∀c,c<H.nx->c≠bK->c≠b0:=by
   rcases h2 with h | ⟨ha,hb1,hb2⟩
   ·exact⟨H1.nx,.inl h,by omega,fun c hc _=>by omega⟩
   ·have hne:bK≠L0+1:=fun hh=>by
     rw [hh,h5.2] at hb2
     cases hb2
    exact⟨bK,.inr ⟨ha,by rw [au];omega,by rw [V,if_neg hne];exact (hS.2 _ hb1).trans hb2⟩,by omega,fun _ _ h=>h⟩
  refine Ub hn e5 e11 (pB (hcH.stay hS) (by omega)) (pB (h1.stay hS) (by omega)) hlB hlen (by omega) (pB hA (by omega)) fun t' bK' v' H4 hbk4 hg4 hl4 hlt4 hf4=> ?_
  rw [au] at hbk4 hf4
  have hL4:H4.get (L0+1)=some (lpB env L0 .busy):=by
   rw [hf4 _ (by omega) (by omega) (by omega),V,if_pos rfl];rfl
  refine hKK t' H4 hL4 ?_
  have hnH:=hg4.1
  refine hK bK' _ (by omega) ⟨⟨v',⟨by rw [au];exact hnH,by rw [V,if_neg (by omega)];exact hg4.2⟩,hl4.frame (by rw [au];exact bh _) fun _=>by rw [V,if_neg (by omega)]⟩,by omega,by rw [au];exact hlt4,⟨by rw [au];omega,by rw [V,if_pos rfl];rfl⟩,fun c hc1 hc2=> ?_⟩ (by rw [au];omega) fun c hc1 hc2 hc3 hc4=> ?_
  ·rw [V,if_neg (by omega),hf4 c (by omega) hc2 (by omega),V,if_neg (by omega),hS.2 c (by omega),h6 c hc1 hc2]
  ·rw [V,if_neg hc3,hf4 c (by omega) hc2 (hfb c hc1 hc4),V,if_neg hc3,hS.2 c hc1]
 ·obtain⟨⟨vl,h1,h2⟩,_⟩:=h
  exact⟨vn,vl,h1⟩
theorem V6 (b:Nat) (k:AV->Bool):aU 131 [(1,.map b)] k=k (.agg [.nils,.map b,.nils]):=by kernel_rfl
theorem OX (a:Int) (k:AV->Bool):aU 222 [(0, O a)] k=k (.agg [O a, O 0]):=by kernel_rfl
theorem KL (n:Nat) (b:Nat) (xs:List AV) (H:Hp) (k:AV->Hp->Bool):eC n (.fn 142 [] [.ptr b 0]) xs H k=ay 142 (xs++[.ptr b 0]) H k:=by
 rw [o4 (by kernel_rfl) (by kernel_rfl)];rfl
theorem R7:iz P 205=true:=by kernel_rfl
theorem aAO {d:Nat} {t:E2} {H:Hp} {k:fk->Hp->Bool} {i:Evs} (hd:H.get d=some (.dfr true)):ac Tryz.f66 i k .ret ⟨t,[.mark d]⟩ H=k (.ret (t 4)) (H.setb d (some (.dfr false))):=by
 have h:ac Tryz.f66 i k .ret ⟨t,[.mark d]⟩ H=(match H.get d with | some (.dfr true)=>H.put d (some (.dfr false)) fun H=>k (.ret (t 4)) H | _=>false):=by kernel_rfl
 rw [h,hd]
 dsimp only
 rw [cJ]
def n3:List (Int×Int):=[(0,0),(1,0),(2,0)]
theorem Fm (ns:List (Int×Int)):∀i:Nat,mn (nE ns i) i=true:=by
 induction ns with
 | nil=>intro i;rfl
 | cons p ns ih=>
  intro i
  show (match Nat.beq i i with | true=>mn (nE ns (i+1)) (i+1)| false=>false)=true
  rw [bW]
  exact ih (i+1)
theorem RQ (ns:List (Int×Int)):∀i:Nat,(nE ns i).length=ns.length:=by
 induction ns with
 | nil=>intro i;rfl
 | cons p ns ih=>intro i;show (_::nE ns (i+1)).length=_;simp [ih]
theorem KU (ns:List (Int×Int)):∀i:Nat,(nE ns i).map (·.1)=aq (ns.map fun p=>D.agg [aS p.1, aS p.2]):=by
 induction ns with
 | nil=>intro i;rfl
 | cons p ns ih=>intro i;show (_::(nE ns (i+1)).map (·.1))=_;rw [ih];rfl
theorem Jo (ns:List (Int×Int)):∀i:Nat,∃vs:List D,(nE ns i).map (·.2.1)=aq vs:=by
 induction ns with
 | nil=>intro i;exact⟨[],rfl⟩
 | cons p ns ih=>
  intro i
  obtain⟨vs,h⟩:=ih (i+1)
  exact⟨aS (i:Int)::vs,by show (_::(nE ns (i+1)).map (·.2.1))=_;rw [h];rfl⟩
def IP (s:bo) (dps:D) (t0:E2) (H0:Hp) (m:Nat) (e:En) (H:Hp):Prop:=∃i,m=(plc s).length - i/\i<=(plc s).length/\e.dm=[]/\SB 1 H (n3++((plc s).take i).map fun x=>(4,x))/\H.get 0=H0.get 0/\e.t 2=t0 2/\e.t 5=t0 5/\e.t 6=t0 6/\e.t 8=t0 8/\e.t 39=ofD dps/\e.t 40= O ((plc s).length:Int)/\e.t 41= O (i:Int)
theorem aCU {s:bo} {dps:D} {t:E2} {H:Hp} {k:AEx->En->Hp->Bool} (hps:Sl 1 iw (plc s) dps) (h:SB 1 H n3) (t6:t 6= .fn 142 [] [.ptr 3 0]) (t39:t 39=ofD dps) (t40:t 40= O ((plc s).length:Int)) (t41:t 41= O 0)
  (hk:∀t' H',SB 1 H' (kN s)->H'.get 0=H.get 0->t' 2=t 2->t' 5=t 5->t' 8=t 8->k (.exit 2) ⟨t',[]⟩ H'=true):kS 66 (.loop (fH 66 4090)) none ⟨t,[]⟩ H k=true:=by
 have hpl:=(m8 s).2.2
 have hnd:(plc s).Nodup:=((m8 s).1).imp fun h=>by omega
 refine aZ (IP s dps t H) (fun m e H1 hi=> ?_) (m:=(plc s).length) ⟨0,rfl,bN _,rfl,by simpa using h,rfl,rfl,rfl,rfl,rfl,t39,t40,t41⟩
 obtain⟨i,rfl,hi,hdm,hsb,h0,u2,u5,u6,u8,u39,u40,u41⟩:=hi
 obtain⟨t1,dm⟩:=e
 dsimp only at hdm u2 u5 u6 u8 u39 u40 u41
 subst hdm
 refine aV 200 ?_
 by_cases hil:i<(plc s).length
 ·have hlt:((i:Int)<((plc s).length:Int))=True:=by simp;omega
  obtain⟨q,hq1,hq2⟩:=ldZ hps hil
  rw [Ou,u39,u40,u41,u6,t6,cB]
  simp only [hlt,dL,dH]
  rw [hq1,hq2,Mb,KL]
  have hta:(plc s).take (i+1)=(plc s).take i++[(plc s)[i]]:=by rw [List.take_add_one,dW hil];rfl
  have hni:(plc s)[i]∉(plc s).take i:=fun hm=>by
   have h2:=nW.1 (by rw [←hta];exact hnd.sublist (List.take_sublist _ _))
   exact (h2.2.2 _ hm _ (by simp)) rfl
  refine yx (lo:=1) (p:=(4,(plc s)[i])) hsb ?_ (by simp [n3];omega) fun H2 hsb2 hx2 hf2=> ?_
  ·intro hm
   rcases dF.1 hm with hm | hm
   ·simp [n3] at hm
   ·obtain⟨x,hx,hxe⟩:=lF.1 hm
    have:=(Prod.mk.inj hxe).2
    subst this
    exact hni hx
  ·simp (disch:=omega) only [go_sem,u41]
   refine bd (m':=(plc s).length - (i+1)) (by omega) ⟨i+1,rfl,by omega,rfl, ?_,(hf2 0 (by omega)).trans h0, ?_, ?_, ?_, ?_, ?_, ?_, ?_⟩
   ·rw [hta,List.map_append,←ki];exact hsb2
   all_goals dsimp only
   all_goals simp (disch:=omega) only [go_sem,u2,u5,u6,u8,u39,u40]
   rfl
 ·have hie:i=(plc s).length:=by omega
  subst hie
  rw [lE] at hsb
  rw [Ou,u40,u41,cB]
  have hlt:(((plc s).length:Int)<((plc s).length:Int))=False:=by simp
  simp (disch:=omega) only [go_sem,hlt]
  refine hk _ H1 hsb h0 ?_ ?_ ?_
  all_goals simp (disch:=omega) only [go_sem,u2,u5,u8]
theorem SB.push {lo:Nat} {H:Hp} {ns:List (Int×Int)} {x:Blk} (h:SB lo H ns):SB lo (H.push x) ns:=by
 obtain⟨hm,⟨vn,hg,ho⟩,hc,hx⟩:=h
 have hS:=dV.push H x
 exact⟨(hS.2 _ (by omega)).trans hm,⟨vn,(hS.2 _ (by omega)).trans hg,ho.frame hS.1 fun c _ h=>hS.2 c h⟩,(hS.2 _ (by omega)).trans hc,by have:=hS.1;omega⟩
theorem SU {s:bo} {H:Hp} {vn vl:AV} {bK:Nat} (ho:SOK s) (hn:Own 2 eN 222 4 H vn (kN s)) (hm:H.get 1=some (.map false (nE (kN s) 0) (kN s).length)) (hg:H.get 2=some (ae 131 [vn,.map 1,vl])) (hl:LA bK vl (bls s) H):
  mG (fun d=>∃dn di dl,d= .ptr [dn,di,dl] 0/\Sys (bn s) (bls s) dn di dl) (.ret (.ptr 2 0)) H=true:=by
 obtain⟨dn,I,h1,h2⟩:=hn.rd Ge
 obtain⟨vs,hvs⟩:=Jo (kN s) 0
 have hmr:Rd H (.map 1) (.map ((kN s).map fun p=>D.agg [aS p.1, aS p.2]) vs) (1::([]++[])):= .map 1 false (nE (kN s) 0) _ _ [] [] (by rw [hm,RQ]) (Fm _ _) (by rw [KU];exact .fro _) (by rw [hvs];exact .fro _)
 obtain⟨dl,J,h3,h4⟩:∃dl J,Rd H vl dl J/\Sl 3 eLk (bls s) dl:=by
  rcases hl with⟨rfl,h⟩| ⟨rfl,_,h⟩
  ·exact⟨.nils,[],.fro .nils,.inl ⟨rfl,h⟩⟩
  ·refine⟨.sl 3 (cC eLk (bls s)) (bls s).length,[bK],.sl bK 0 (bls s).length 3 none _ _ _ (aq (cC eLk (bls s))) (cC eLk (bls s)) [] h ?_ (.fro _),.inr rfl⟩
   have:=uW (bls s)
   rw [fi,dP _ _ (by omega),cN (by omega)]
 obtain⟨b1,b2,b3⟩:=HK ho
 have b4:(bn s+1) * (bls s).length<=8 * 21:=mY (by omega) b1
 exact iy (d:= .ptr [dn,_,dl] 0) ⟨dn,_,dl,rfl,⟨_,_,_,_,h2,QD s⟩,h4,by omega,by omega,by omega,fun l hl=>⟨(b3 l hl).1,(b3 l hl).2.1,(b3 l hl).2.2.1,(b3 l hl).2.2.2.1⟩,fun l hl=>(b3 l hl).2.2.2.2⟩ (.ptr 2 0 _ _ _ _ _ hg (.cons _ _ _ _ _ _ h1 (.cons _ _ _ _ _ _ hmr (.cons _ _ _ _ _ _ h3 .nil))))
theorem xH (s:bo) (hs:Sl 3 dx s.stops s.ds) (ho:SOK s):bc 66 [.agg (ek s),.nils] (fun d=>∃dn di dl,d= .ptr [dn,di,dl] 0/\Sys (bn s) (bls s) dn di dl):=by
 refine aH hG ?_
 rw [show aq [D.agg (ek s),.nils]=[.agg (aq (ek s)),.nils] from rfl,h66]
 simp only [aI,bJ,V6,OX,am,show Hp.empty.nx=0 from rfl,ca,Nat.reduceAdd]
 have hrec:(Hp.empty.push (ae 74 (aq (ek s)))).get 0=some (ae 74 (aq (ek s))):=by rw [af];rfl
 have g0:((((Hp.empty.push (ae 74 (aq (ek s)))).push (.map false [] 0)).push (ae 131 [.nils,.map 1,.nils])).push (ae 123 [.nilp])).get 0=some (ae 74 (aq (ek s))):=by simp [af,am,show Hp.empty.nx=0 from rfl]
 have g1:((((Hp.empty.push (ae 74 (aq (ek s)))).push (.map false [] 0)).push (ae 131 [.nils,.map 1,.nils])).push (ae 123 [.nilp])).get 1=some (.map false [] 0):=by simp [af,am,show Hp.empty.nx=0 from rfl]
 have g2:((((Hp.empty.push (ae 74 (aq (ek s)))).push (.map false [] 0)).push (ae 131 [.nils,.map 1,.nils])).push (ae 123 [.nilp])).get 2=some (ae 131 [.nils,.map 1,.nils]):=by simp [af,am,show Hp.empty.nx=0 from rfl]
 have g3:((((Hp.empty.push (ae 74 (aq (ek s)))).push (.map false [] 0)).push (ae 131 [.nils,.map 1,.nils])).push (ae 123 [.nilp])).get 3=some (ae 123 [.nilp]):=by simp [af,am,show Hp.empty.nx=0 from rfl]
 have g4:((((Hp.empty.push (ae 74 (aq (ek s)))).push (.map false [] 0)).push (ae 131 [.nils,.map 1,.nils])).push (ae 123 [.nilp])).nx=4:=rfl
 generalize (((Hp.empty.push (ae 74 (aq (ek s)))).push (.map false [] 0)).push (ae 131 [.nils,.map 1,.nils])).push (ae 123 [.nilp])=H0 at g0 g1 g2 g3 g4
 rw [ex g3 mg VI rfl rfl (by simp),show ([AV.nilp]:List AV).set 0 (.ptr 2 0)=[.ptr 2 0] from rfl]
 have sb0:SB 1 (H0.setb 3 (some (ae 123 [.ptr 2 0]))) []:=⟨by rw [V,if_neg (by decide)];exact g1,⟨.nils,by rw [V,if_neg (by decide)];exact g2,.inl ⟨rfl,rfl⟩⟩,by rw [V,if_pos rfl],by rw [au,g4];omega⟩
 have r0:(H0.setb 3 (some (ae 123 [.ptr 2 0]))).get 0=some (ae 74 (aq (ek s))):=by rw [V,if_neg (by decide)];exact g0
 generalize H0.setb 3 (some (ae 123 [.ptr 2 0]))=H1 at sb0 r0
 rw [KL]
 refine yx (p:=(0,0)) sb0 (by simp) (by simp) fun H2 sb2 hx2 hf2=> ?_
 rw [KL]
 refine yx (p:=(1,0)) sb2 (by simp) (by simp) fun H3 sb3 hx3 hf3=> ?_
 rw [KL]
 refine yx (p:=(2,0)) sb3 (by simp) (by simp) fun H4 sb4 hx4 hf4=> ?_
 have r4:H4.get 0=some (ae 74 (aq (ek s))):=by rw [hf4 0 (by omega),hf3 0 (by omega),hf2 0 (by omega)];exact r0
 rw [bL,cf (v:= .nils) r4 XY rfl,ey zt]
 refine dB (aV 200 ?_)
 rw [Uh]
 simp (disch:=omega) only [go_sem,lD]
 generalize hE:es (es E2.empty _) _=t1
 have u1:t1 1= .nils:=by rw [←hE];simp (disch:=omega) only [go_sem]
 have u2:t1 2= .ptr 0 0:=by rw [←hE];simp (disch:=omega) only [go_sem]
 have u5:t1 5= .ptr 3 0:=by rw [←hE];simp (disch:=omega) only [go_sem]
 have u6:t1 6= .fn 142 [] [.ptr 3 0]:=by rw [←hE];simp (disch:=omega) only [go_sem]
 clear hE
 rw [Xb,u2,u1,iR se (by rw [ug];rfl) r4,show AV.agg (aq (ek s))=ofD (.agg (ek s)) from rfl]
 refine ei hG [.agg (ek s),.nils] (A3 s hs ho) rfl ?_
 intro dps hps
 rw [aF hps kQ]
 refine aCU hps sb4 (by simp (disch:=omega) only [go_sem,u6]) (by simp (disch:=omega) only [go_sem]) (by simp (disch:=omega) only [go_sem]) (by simp (disch:=omega) only [go_sem]) fun t5 H5 sb5 r5 w2 w5 w8=> ?_
 have r6:H5.get 0=some (ae 74 (aq (ek s))):=r5.trans r4
 have z2:t5 2= .ptr 0 0:=by rw [w2];simp (disch:=omega) only [go_sem,u2]
 have z5:t5 5= .ptr 3 0:=by rw [w5];simp (disch:=omega) only [go_sem,u5]
 have z8:t5 8=ofD dps:=by rw [w8];simp (disch:=omega) only [go_sem]
 obtain⟨hm5,⟨vn,hg5,ho5⟩,hc5,hx5⟩:=sb5
 rw [pj]
 dsimp only
 rw [eU,Xp,z5,z2,z8,cf (v:= .ptr 2 0) hc5 mg rfl,iR se (by rw [ug];rfl) r6]
 refine cb 200 ?_
 have hcl:AV.cells (ofD dps)=[ofD dps]:=by rcases hps with⟨rfl,_⟩| rfl<;>rfl
 rw [aCH,aI,aI,aI,bJ,hcl,show AV.cells (.ptr 2 0)=[.ptr 2 0] from rfl]
 have aG:=(At.push H5 (ae 123 [.ptr 2 0]))
 have sG:=dV.push H5 (ae 123 [.ptr 2 0])
 have nG:(H5.push (ae 123 [.ptr 2 0])).nx=H5.nx+1:=am _ _
 generalize H5.push (ae 123 [.ptr 2 0])=H6 at aG sG nG
 have aR:=At.push H6 (ae 74 (aq (ek s)))
 have sR:=dV.push H6 (ae 74 (aq (ek s)))
 have nR:(H6.push (ae 74 (aq (ek s)))).nx=H6.nx+1:=am _ _
 generalize H6.push (ae 74 (aq (ek s)))=H7 at aR sR nR
 have aP:=At.push H7 (ae 51 [ofD dps])
 have sP:=dV.push H7 (ae 51 [ofD dps])
 have nP:(H7.push (ae 51 [ofD dps])).nx=H7.nx+1:=am _ _
 generalize H7.push (ae 51 [ofD dps])=H8 at aP sP nP
 dsimp only
 generalize hE:es t5 _=env
 have v5:env 5= .ptr 3 0:=by rw [←hE];simp (disch:=omega) only [go_sem,z5]
 clear hE
 refine pV R7 ?_
 have sD:=dV.push H8 (.dfr true)
 have aD:=At.push H8 (.dfr true)
 have nD:(H8.push (.dfr true)).nx=H8.nx+1:=am _ _
 generalize H8.push (.dfr true)=H9 at sD aD nD
 have sL:=dV.push H9 (lpB env H8.nx .ready)
 have aL:=At.push H9 (lpB env H8.nx .ready)
 have nL:(H9.push (lpB env H8.nx .ready)).nx=H9.nx+1:=am _ _
 show ay 205 [.yld (H8.nx+1),.ptr H6.nx 0,.ptr H5.nx 0,.ptr H7.nx 0] (H9.push (lpB env H8.nx .ready)) _=true
 generalize H9.push (lpB env H8.nx .ready)=H10 at sL aL nL
 have s5:=(((sG.trans sR).trans sP).trans sD).trans sL
 have m5:H5.get 1=_:=hm5
 have hYR:=Hw (lo:=1) (L0:=H8.nx) (vn:=vn) (env:=env) (HH:=H10) (by omega) ((s5.2 3 (by omega)).trans hc5) v5
 rw [nD] at aL
 refine O0 (s:=s) (lo:=1) (L1:=H8.nx+1) (bK:=H8.nx+1) (dps:=dps) hYR ⟨by omega,by omega,by omega,by omega,by omega,by omega,by omega⟩ ⟨by omega,by omega⟩ ho hs hps ⟨((aR.stay sP).stay sD).stay sL,(((aG.stay sR).stay sP).stay sD).stay sL,(aP.stay sD).stay sL,⟨vn,.nils,At.stay (H:=H5) ⟨by omega,hg5⟩ s5⟩,At.stay (H:=H5) ⟨by omega,hm5⟩ s5⟩ ⟨⟨.nils,At.stay (H:=H5) ⟨by omega,hg5⟩ s5,.inl ⟨rfl,rfl⟩⟩,bh _,by omega,aL,fun _ _ _=>rfl⟩ fun H' bK' hY=> ?_
 obtain⟨⟨vl,hg,hl⟩,hb,hlt,hlp,hfr⟩:=hY
 rw [nr hlp.2,G6,eU]
 have hc':H'.get 3=some (ae 123 [.ptr 2 0]):=(hfr 3 (by omega) (by omega)).trans ((s5.2 3 (by omega)).trans hc5)
 have hd':H'.get H8.nx=some (.dfr true):=(hfr _ (by omega) (by omega)).trans ((aD.stay sL).2)
 rw [UV,v5,cf (v:= .ptr 2 0) (by rw [V,if_neg (by omega)];exact hc') mg rfl,aAO (by rw [V,if_neg (by omega)];exact hd')]
 simp (disch:=omega) only [go_sem]
 have hget:∀c,c≠H8.nx->c≠H8.nx+1->Hp.get (Hp.setb (H'.setb (H8.nx+1) (some (.loop .exhausted none env 66 [54] Fp D4 H8.nx))) H8.nx (some (.dfr false))) c=H'.get c:=fun c h1 h2=>by rw [V,if_neg h1,V,if_neg h2]
 have hnx:(Hp.setb (H'.setb (H8.nx+1) (some (.loop .exhausted none env 66 [54] Fp D4 H8.nx))) H8.nx (some (.dfr false))).nx=H'.nx:=by rw [au,au]
 generalize Hp.setb (H'.setb (H8.nx+1) (some (.loop .exhausted none env 66 [54] Fp D4 H8.nx))) H8.nx (some (.dfr false))=HF at hget hnx
 refine SU (vn:=vn) (vl:=vl) (bK:=bK') ho (ho5.frame (by have:=hlp.1;omega) fun c h1 h2=> ?_) ?_ ?_ ?_
 ·rw [hget c (by omega) (by omega),hfr c (by omega) (by omega),s5.2 c h2]
 ·rw [hget 1 (by omega) (by omega),hfr 1 (by omega) (by omega),s5.2 1 (by omega)];exact hm5
 ·rw [hget 2 (by omega) (by omega)];exact hg.2
 ·rcases hl with h | ⟨h1,h2,h3⟩
  ·exact .inl h
  ·have hne:bK'≠H8.nx+1:=fun hh=>by
    rw [hh,hlp.2] at h3
    cases h3
   exact .inr ⟨h1,by omega,by rw [hget _ (by omega) hne];exact h3⟩
noncomputable def tc (c:eu):Int:=0
theorem Js (H:Hp) (k:AV->Bool):ak 36 .nils H k=k (O 0):=ey EP H k
theorem DZ (c:eu) (hm:c.dm= .nils):bc 46 [.agg (aM c)] (·= .int .i64 (tc c)):=by
 refine aH hG ?_
 have h12:((12:Int)<0)=False:=by simp
 simp (disch:=omega) only [go_sem,cV,h46,hm,gM,Js,h12]
 refine dB (aV 200 ?_)
 rw [UQ]
 simp (disch:=omega) only [go_sem,lD,gM,Js,Ul,r46]
 exact ax (aS 0) rfl
structure jk (c:eu):Prop where
 house:rq c.house
 stops:Sl 3 dx c.session.stops c.session.ds
 stopsL:c.session.stops.length<=9223372036854775807
 st:Xi c
 mks:Sl 5 wo c.marks c.dm
 mksL:c.marks.length<=9223372036854775807
 order:cZ c.order
noncomputable def gJ (c:eu):Int:=
 if iq c.house=0 then (if fQ c.session=0 then (if (iN c.keys&&oi c.ink)=true then (if fD c=0 then (if tc c=0 then
  (if 0<=c.start/\c.start<=(c.house.rooms.length:Int) - 1/\mK c.since=true then fu c.order else 1) else tc c) else fD c) else 1) else fQ c.session) else iq c.house
theorem GP (c:eu) (ho:jk c) (hm:c.dm= .nils):bc 9 [.agg (aM c)] (·= .int .i64 (gJ c)):=by
 have hone:=eT ho.stops
 have hr:=ho.house.rooms
 have hrl:=ho.house.roomsL
 refine aH hG ?_
 simp (disch:=omega) only [go_sem,cV,h9]
 refine bB hG [.agg (dC c.house)] (D6 c.house ho.house) rfl ?_
 by_cases h1:iq c.house=0
 rotate_left
 ·have e1:=cm h1
  simp (disch:=omega) only [go_sem,e1]
  refine ax (aS _) ?_
  simp only [gJ];rw [if_neg h1]
 have e1:=du h1
 simp (disch:=omega) only [go_sem,e1,hone,R8]
 refine bB hG [.agg (ek c.session)] (Ca c.session ho.stops ho.stopsL) rfl ?_
 by_cases h2:fQ c.session=0
 rotate_left
 ·have e2:=cm h2
  simp (disch:=omega) only [go_sem,e2]
  refine ax (aS _) ?_
  simp only [gJ];rw [if_pos h1,if_neg h2]
 have e2:=du h2
 simp (disch:=omega) only [go_sem,e2]
 refine bB hG [c.dk] (D8 c.keys c.dk ho.st.keys ho.st.keysL) rfl ?_
 simp (disch:=omega) only [go_sem]
 refine bB hG [.agg (lY c.ink)] (LY c.ink) rfl ?_
 cases h3:iN c.keys
 ·simp (disch:=omega) only [go_sem,eP]
  refine ax (aS _) ?_
  simp only [gJ];rw [if_pos h1,if_pos h2,if_neg (by rw [h3];simp)]
 cases h4:oi c.ink
 ·simp (disch:=omega) only [go_sem,eP,fq]
  refine ax (aS _) ?_
  simp only [gJ];rw [if_pos h1,if_pos h2,if_neg (by rw [h4];simp)]
 have h34:(iN c.keys&&oi c.ink)=true:=by rw [h3,h4];rfl
 simp (disch:=omega) only [go_sem,eP,fq,hone]
 refine bB hG [.agg (aM c)] (yu c ho.st) (by rw [cV];rfl) ?_
 by_cases h5:fD c=0
 rotate_left
 ·have e5:=cm h5
  simp (disch:=omega) only [go_sem,e5]
  refine ax (aS _) ?_
  simp only [gJ];rw [if_pos h1,if_pos h2,if_pos h34,if_neg h5]
 have e5:=du h5
 simp (disch:=omega) only [go_sem,e5]
 refine bB hG [.agg (aM c)] (DZ c hm) (by rw [cV];rfl) ?_
 by_cases h6:tc c=0
 rotate_left
 ·have e6:=cm h6
  simp (disch:=omega) only [go_sem,e6]
  refine ax (aS _) ?_
  simp only [gJ];rw [if_pos h1,if_pos h2,if_pos h34,if_pos h5,if_neg h6]
 have e6:=du h6
 simp (disch:=omega) only [go_sem,e6,aF hr lC]
 refine bB hG [aS c.start, aS 0, aS ((c.house.rooms.length:Int) - 1)] (Iz c.start 0 ((c.house.rooms.length:Int) - 1)) rfl ?_
 cases h7:inB c.start 0 ((c.house.rooms.length:Int) - 1)
 ·simp (disch:=omega) only [go_sem,eP]
  refine ax (aS _) ?_
  simp only [inB,cU] at h7
  simp only [gJ];rw [if_pos h1,if_pos h2,if_pos h34,if_pos h5,if_pos h6,if_neg (by omega)]
 simp (disch:=omega) only [go_sem,fq]
 refine bB hG [aS c.since] (HV c.since) rfl ?_
 simp only [inB,bU] at h7
 cases h8:mK c.since
 ·simp (disch:=omega) only [go_sem,eP]
  refine ax (aS _) ?_
  simp only [gJ];rw [if_pos h1,if_pos h2,if_pos h34,if_pos h5,if_pos h6,if_neg (by simp [h8])]
 simp (disch:=omega) only [go_sem,fq]
 refine bB hG [.agg (aC c.order)] (ES ho.order) (by rw [xh];rfl) ?_
 refine ax (aS _) ?_
 simp only [gJ];rw [if_pos h1,if_pos h2,if_pos h34,if_pos h5,if_pos h6,if_pos ⟨h7.1,h7.2,h8⟩]
noncomputable def wY (c:eu):Int:=if 0<=c.start/\c.start<=(c.house.rooms.length:Int) - 1/\mK c.since=true then fu c.order else 1
noncomputable def vM (c:eu):Int:=if tc c=0 then wY c else tc c
noncomputable def oX (c:eu):Int:=if fD c=0 then vM c else fD c
theorem Ei (c:eu):gJ c=if iq c.house=0 then (if fQ c.session=0 then (if (iN c.keys&&oi c.ink)=true then oX c else 1) else fQ c.session) else iq c.house:=rfl
theorem RM {H:Hp} {t:TypeId} {b n:Nat} {el:Option TypeId} {ro:Bool} {cs:List AV} {v:AV} {k:AV->Bool} (hb:H.get b=some (.cells el ro cs)) (hi:aN t=some false) (hn:cs[n]? =some v):E H t (.ptr b n) k=k v:=by
 rw [iE,hb,fy,hi,pU,hn,qt]
section
variable {c : eu} {t : E2} {H : Hp} {k : AEx -> En -> Hp -> Bool} {ro : Option Nat}
theorem Zt (ho:jk c) (g1:t 1= .ptr 0 0) (hg0:H.get 0=some (ae 42 (aq (aM c)))) (hk:∀t' H',t' 2= O (wY c)->k .ret ⟨t',[]⟩ H'=true):
  az 192 135 8 511 ro ⟨t,[]⟩ H k=true:=by
 have hr:=ho.house.rooms
 have hrl:=ho.house.roomsL
 rw [cV] at hg0
 simp only [go_sem] at hg0
 rw [aAT]
 simp (disch:=omega) only [go_sem,g1,hg0,aF hr lC]
 refine bB hG [aS c.start, aS (c.house.rooms.length:Int)] (xR c.start (c.house.rooms.length:Int)) rfl ?_
 cases h7:iC c.start (c.house.rooms.length:Int)
 ·simp (disch:=omega) only [go_sem,eP]
  refine hk _ _ ?_
  simp only [iC,cU] at h7
  have e:wY c=1:=if_neg (by omega)
  rw [e]
  first | rfl | (simp (disch:=omega) only [go_sem]<;>rfl)
 simp (disch:=omega) only [go_sem,fq,g1,hg0]
 refine bB hG [aS c.since] (FV c.since) rfl ?_
 simp only [iC,bU] at h7
 cases h8:mK c.since
 ·simp (disch:=omega) only [go_sem,eP]
  refine hk _ _ ?_
  have e:wY c=1:=if_neg (by simp [h8])
  rw [e]
  first | rfl | (simp (disch:=omega) only [go_sem]<;>rfl)
 simp (disch:=omega) only [go_sem,fq,g1,hg0]
 refine bB hG [.agg (aC c.order)] (xM ho.order) (by rw [xh];rfl) ?_
 simp (disch:=omega) only [go_sem]
 refine hk _ _ ?_
 have e:wY c=fu c.order:=if_pos ⟨h7.1,by omega,h8⟩
 rw [e]
 first | rfl | (simp (disch:=omega) only [go_sem]<;>rfl)
theorem aBA (ho:jk c) (hm:c.dm= .nils) (g1:t 1= .ptr 0 0) (hg0:H.get 0=some (ae 42 (aq (aM c)))) (hk:∀t' H',t' 2= O (vM c)->k .ret ⟨t',[]⟩ H'=true):
  az 194 135 8 127 ro ⟨t,[]⟩ H k=true:=by
 have L:∀k:AV->Bool,E H 36 (.ptr 0 (0+20)) k=k .nils:=fun k=>RM hg0 LK (by show (aq (aM c))[20]? =_;rw [show (aq (aM c))[20]? =some (ofD c.dm) from rfl,hm];rfl)
 rw [aEP,g1,bL,L,Js,qX,show decide ((0:Int)>12)=false from rfl,eV,bL,L,Js]
 refine dB (aV 200 ?_)
 rw [aCM]
 simp (disch:=omega) only [go_sem,lD]
 refine Zt ho (by first | rfl | (simp (disch:=omega) only [go_sem,g1]<;>rfl)) hg0 fun t' H' g2=>hk t' H' ?_
 rw [g2]
 have e:vM c=wY c:=if_pos rfl
 rw [e]
end
theorem GA (c:eu) (id:Int) (hs:Sl 3 fe c.keys c.dk) (hl:c.keys.length<=9223372036854775807):bc 34 [.agg (aM c), aS id] (fun d=>∃k:Key,d= .tup [.agg (fe k),.bool (uR c.keys id)]):=by
 refine aH hG ?_
 (try simp (disch:=omega) only [go_sem,cV,h34]);repeat' ((with_reducible first | apply aa | apply ab | apply Z)<;>intro h<;>(try simp only [spl] at h)<;>try simp (disch:=omega) only [go_sem,cV,h34,h])
 refine CR hG (D2 c.keys c.dk hs hl 89 [.ptr [aS id] 0] (fun k=>decide (k.id=id)) (by kernel_rfl) (by kernel_rfl) (fun x _=>Hf x id)) (.cons _ _ [] _ _ _ (.fro c.dk) (.cons _ _ _ _ _ [] (.fn 89 [] [.ptr 1 0] [] [.ptr [aS id] 0] [] _ .nil (.cons _ _ _ _ _ [] (.ptr 1 0 _ _ _ _ _ (by first | rfl | (simp (disch:=omega) only [go_sem]<;>rfl)) (.fro [aS id])) .nil)) .nil)) (fun d hd=>⟨.inr (by rw [hd];rfl), ?_⟩)
 subst hd
 cases hh:uR c.keys id with
 | true=>
  have h1:0<=gQ (fun k=>decide (k.id=id)) c.keys:=sK hh
  have h2:=(xC (fun k=>decide (k.id=id)) c.keys).2
  obtain⟨n,hn⟩:∃n:Nat,gQ (fun k=>decide (k.id=id)) c.keys=(n:Int):=⟨_,(Int.toNat_of_nonneg h1).symm⟩
  have hlt:n<c.keys.length:=by omega
  have h0:((n:Int)<0)=False:=by simp
  (try simp (disch:=omega) only [go_sem,hn,h0,bC hs jE ur rE hlt,bv fA hlt,fe]);repeat' ((with_reducible first | apply aa | apply ab | apply Z)<;>intro h<;>(try simp only [spl] at h)<;>try simp (disch:=omega) only [go_sem,hn,h0,bC hs jE ur rE hlt,bv fA hlt,fe,h])
  exact ax (.tup [.agg (fe c.keys[n]),.bool true]) ⟨c.keys[n],rfl⟩
 | false=>
  have h1:gQ (fun k=>decide (k.id=id)) c.keys= -1:=vJ hh
  (try simp (disch:=omega) only [go_sem,h1,Int.reduceLT,Int.reduceNeg]);repeat' ((with_reducible first | apply aa | apply ab | apply Z)<;>intro h<;>(try simp only [spl] at h)<;>try simp (disch:=omega) only [go_sem,h1,Int.reduceLT,Int.reduceNeg,h])
  exact ax (.tup [.agg (fe ⟨0,0,0⟩),.bool false]) ⟨⟨0,0,0⟩,rfl⟩
def I8a (c:eu) (m:Nat) (e:En) (H:Hp):Prop:=∃(n q:Nat),n<=c.stations.length/\m=c.stations.length - n/\e.dm=[]/\H.nx=q+1/\stE c [] c.stations=stE c (c.stations.take n) (c.stations.drop n)/\e.t 42= O n/\e.t 41= O c.stations.length/\e.t 40=ofD c.dst/\e.t 1= .ptr 0 0/\H.get 0=some (ae 42 (aq (aM c)))
def I8b (c:eu) (n b:Nat) (x:gk) (dp:D) (m:Nat) (e:En) (H:Hp):Prop:=∃k:Nat,k<=n/\m=n - k/\e.dm=[]/\b<H.nx/\0<b/\(∀y∈c.stations.take k,jP x y=false)/\e.t 77= O k/\e.t 76= O n/\e.t 75=ofD dp/\e.t 7= .ptr b 0/\H.get b=some (ae 94 (aq (dT x)))/\
 e.t 42= O n/\e.t 41= O c.stations.length/\e.t 40=ofD c.dst/\e.t 1= .ptr 0 0/\H.get 0=some (ae 42 (aq (aM c)))
section
variable {c : eu} {t : E2} {H : Hp} {k : AEx -> En -> Hp -> Bool} {ro : Option Nat}
theorem aDN {n j b q:Nat} {x:gk} {dp:D} (hn:n<c.stations.length) (hx:x=c.stations[n]) (hj:j<n) (hp:Sl 3 dT (c.stations.take n) dp) (hb:b<H.nx) (hb0:0<b)
  (g77:t 77= O j) (g76:t 76= O n) (g75:t 75=ofD dp) (g7:t 7= .ptr b 0) (hgb:H.get b=some (ae 94 (aq (dT x))))
  (g42:t 42= O n) (g41:t 41= O c.stations.length) (g40:t 40=ofD c.dst) (g1:t 1= .ptr 0 0) (hg0:H.get 0=some (ae 42 (aq (aM c)))) (hnl:n<=1000000)
  (hk6:∀t' H',jP x (c.stations[j]'(by omega))=true->t' 2= O 6->k .ret ⟨t',[]⟩ H'=true)
  (hkn:∀t' H',jP x (c.stations[j]'(by omega))=false->t' 77= O ((j+1:Nat):Int)->t' 76= O n->t' 75=ofD dp->t' 7= .ptr b 0->t' 42= O n->t' 41= O c.stations.length->t' 40=ofD c.dst->t' 1= .ptr 0 0->
   (∀e,e<H.nx->H'.get e=H.get e)->H.nx<=H'.nx->k .normal ⟨t',[]⟩ H'=true):
  az 200 135 8 259278 ro ⟨t,[]⟩ H k=true:=by
 have hjl:j<(c.stations.take n).length:=by rw [gW];omega
 have hgj:(c.stations.take n)[j]=c.stations[j]'(by omega):=List.getElem_take ..
 have e1:((j:Int)<(n:Int))=True:=du (by omega)
 have z1:(b=H.nx)=False:=cm (by omega)
 have z2:(H.nx=b)=False:=cm (by omega)
 have hfr:∀(B:Blk) (B':Option Blk) (e:Nat),e<H.nx->((H.push B).setb H.nx B').get e=H.get e:=fun B B' e he=>by
  have a1:(e=H.nx)=False:=cm (by omega)
  simp (disch:=omega) only [go_sem,a1,bD,bZ,eE]
 simp only [dT,go_sem] at hgb
 rw [US]
 by_cases hN:(c.stations[j]'(by omega)).name=x.name
 ·have eN:=du hN
  simp (disch:=omega) only [go_sem,e1,g77,g76,g75,bC hp jR uQ qR hjl,bv cH hjl,hgj,dT,bD,bZ,hgb,g7,z1,z2,eN,dL,fq,eP]
  refine hk6 _ _ (by simp [jP,hN]) ?_
  first | rfl | (simp (disch:=omega) only [go_sem]<;>rfl)
 have eN:=cm hN
 by_cases hK:(c.stations[j]'(by omega)).key=x.key
 ·have eK:=du hK
  simp (disch:=omega) only [go_sem,e1,g77,g76,g75,bC hp jR uQ qR hjl,bv cH hjl,hgj,dT,bD,bZ,hgb,g7,z1,z2,eN,eK,dL,i9,fq,eP]
  refine hk6 _ _ (by simp [jP,hK]) ?_
  first | rfl | (simp (disch:=omega) only [go_sem]<;>rfl)
 have eK:=cm hK
 simp (disch:=omega) only [go_sem,e1,g77,g76,g75,bC hp jR uQ qR hjl,bv cH hjl,hgj,dT,bD,bZ,hgb,g7,z1,z2,eN,eK,dL,i9,fq,eP]
 refine hkn _ _ (by simp [jP,hN,hK]) ?_ ?_ ?_ ?_ ?_ ?_ ?_ ?_ (hfr _ _) ?_
 ·first | rfl | (simp (disch:=omega) only [go_sem,g77]<;>rfl)
 ·first | rfl | (simp (disch:=omega) only [go_sem,g76]<;>rfl)
 ·first | rfl | (simp (disch:=omega) only [go_sem,g75]<;>rfl)
 ·first | rfl | (simp (disch:=omega) only [go_sem,g7]<;>rfl)
 ·first | rfl | (simp (disch:=omega) only [go_sem,g42]<;>rfl)
 ·first | rfl | (simp (disch:=omega) only [go_sem,g41]<;>rfl)
 ·first | rfl | (simp (disch:=omega) only [go_sem,g40]<;>rfl)
 ·first | rfl | (simp (disch:=omega) only [go_sem,g1]<;>rfl)
 ·first | omega | (simp (disch:=omega) only [go_sem]<;>omega)
end
theorem aEI:bS P 35=some 94:=by kernel_rfl
section
variable {c : eu} {t : E2} {H : Hp} {k : AEx -> En -> Hp -> Bool} {ro : Option Nat}
theorem aDL (ho:jk c) {n q:Nat} (hlt:n<c.stations.length) (hl8:c.stations.length<=8) (hq:H.nx=q+1)
  (g42:t 42= O n) (g41:t 41= O c.stations.length) (g40:t 40=ofD c.dst) (g1:t 1= .ptr 0 0) (hg0:H.get 0=some (ae 42 (aq (aM c))))
  (hk1:∀t' H',fI c c.stations[n]=false->t' 2= O 1->k .ret ⟨t',[]⟩ H'=true)
  (hk6:∀t' H',fI c c.stations[n]=true->(c.stations.take n).any (jP c.stations[n])=true->t' 2= O 6->k .ret ⟨t',[]⟩ H'=true)
  (hkn:∀t' H' q',fI c c.stations[n]=true->(c.stations.take n).any (jP c.stations[n])=false->t' 42= O ((n+1:Nat):Int)->t' 41= O c.stations.length->t' 40=ofD c.dst->t' 1= .ptr 0 0->
   H'.nx=q'+1->H'.get 0=some (ae 42 (aq (aM c)))->k .normal ⟨t',[]⟩ H'=true):
  az 200 135 8 506 ro ⟨t,[]⟩ H k=true:=by
 obtain⟨hks,hkl,hr,hrl,hs,hsl,hnl⟩:=ho.st
 have hnm:=hnl _ (cO hlt)
 have hg0':=hg0
 rw [cV] at hg0'
 simp only [go_sem] at hg0'
 have z1:((0:Nat)=H.nx)=False:=cm (by omega)
 have z2:(H.nx=0)=False:=cm (by omega)
 have z3:((0:Nat)=H.nx+1)=False:=cm (by omega)
 have z4:(H.nx=H.nx+1)=False:=cm (by omega)
 have z5:(H.nx+1=H.nx)=False:=cm (by omega)
 have hpre:=hs.take cH (n:=n) (by omega)
 have hko:=GA c c.stations[n].key hks hkl
 have hn35:=D1 c.stations[n].name hnm
 have hi36:=xR c.stations[n].room (c.house.rooms.length:Int)
 have e1:((n:Int)<(c.stations.length:Int))=True:=du (by omega)
 generalize hX:c.stations[n]=X at *
 rw [WN]
 simp (disch:=omega) only [go_sem,e1,g42,g41,g40,g1,hg0',bC hs jR uQ qR hlt,bv cH hlt,hX,dT,bD,bZ,z1,z2]
 refine ei hG [.agg (aM c), aS X.key] hko (by rw [cV];rfl) ?_
 rintro d ⟨ky,rfl⟩
 cases hk:uR c.keys X.key
 ·simp (disch:=omega) only [go_sem,fe,eP,fq,bD,bZ]
  refine hk1 _ _ (by simp [fI,hk]) ?_
  first | rfl | (simp (disch:=omega) only [go_sem]<;>rfl)
 simp (disch:=omega) only [go_sem,fe,eP,fq,bD,bZ,z1,z2,z3,z4,z5]
 refine bB hG [.str X.name] hn35 rfl ?_
 cases hn:iX X.name
 ·simp (disch:=omega) only [go_sem,eP,fq,bD,bZ]
  refine hk1 _ _ (by simp [fI,hn]) ?_
  first | rfl | (simp (disch:=omega) only [go_sem]<;>rfl)
 simp (disch:=omega) only [go_sem,eP,fq,bD,bZ,z1,z2,z3,z4,z5,g1,hg0',aF hr lC]
 refine bB hG [aS X.room, aS (c.house.rooms.length:Int)] hi36 rfl ?_
 cases hi:iC X.room (c.house.rooms.length:Int)
 ·have hi':inB X.room 0 ((c.house.rooms.length:Int) - 1)=false:=by simp only [iC,inB,cU] at hi⊢;omega
  simp (disch:=omega) only [go_sem,eP,fq,bD,bZ]
  refine hk1 _ _ (by simp [fI,hi']) ?_
  first | rfl | (simp (disch:=omega) only [go_sem]<;>rfl)
 have hi':inB X.room 0 ((c.house.rooms.length:Int) - 1)=true:=by simp only [iC,inB,bU] at hi⊢;omega
 have hB:fI c X=true:=by simp [fI,hi',hn,hk]
 simp (disch:=omega) only [go_sem,eP,fq,bD,bZ,z1,z2,z3,z4,z5,g1,g42,hg0',jI hs aEI qR (mj hlt),aF hpre jR]
 have hlen:(c.stations.take n).length=n:=by rw [gW];omega
 refine aZ (I8b c n H.nx X (slT c.dst n)) (fun m e H' hi=> ?_) (m:=n) ?_
 rotate_left
 ·refine⟨0,bN _,rfl,rfl,by first | omega | (simp (disch:=omega) only [go_sem]<;>omega),by omega,fun y hy=>by simp at hy, ?_, ?_, ?_, ?_, ?_, ?_, ?_, ?_, ?_, ?_⟩
  ·first | rfl | (simp (disch:=omega) only [go_sem]<;>rfl)
  ·rw [hlen];first | rfl | (simp (disch:=omega) only [go_sem]<;>rfl)
  ·first | rfl | (simp (disch:=omega) only [go_sem]<;>rfl)
  ·first | rfl | (simp (disch:=omega) only [go_sem]<;>rfl)
  ·first | rfl | (simp (disch:=omega) only [go_sem,dT,z1,z2,z3,z4,z5,bD,bZ]<;>rfl)
  ·first | rfl | (simp (disch:=omega) only [go_sem,g42]<;>rfl)
  ·first | rfl | (simp (disch:=omega) only [go_sem,g41]<;>rfl)
  ·first | rfl | (simp (disch:=omega) only [go_sem,g40]<;>rfl)
  ·first | rfl | (simp (disch:=omega) only [go_sem,g1]<;>rfl)
  ·rw [cV];first | rfl | (simp (disch:=omega) only [go_sem,hg0',z1,z2,z3,z4,z5,bD,bZ]<;>rfl)
 clear hg0 hg0' g1 g40 g41 g42 z1 z2 z3 z4 z5
 obtain⟨j,hj',rfl,hdm,hb,hb0,ha,g77,g76,g75,g7,hgb,g42,g41,g40,g1,hg0⟩:=hi
 obtain⟨t,dm⟩:=e
 dsimp only at hdm g77 g76 g75 g7 g42 g41 g40 g1
 subst hdm
 refine aV 200 ?_
 by_cases hjn:j<n
 ·refine aDN (q:=0) hlt hX.symm hjn hpre hb hb0 g77 g76 g75 g7 hgb g42 g41 g40 g1 hg0 (by omega) (fun t' H' hsm g2=> ?_) (fun t' H' hsm k77 k76 k75 k7 k42 k41 k40 k1 hfr hnx=> ?_)
  ·refine hk6 _ _ hB ?_ g2
   exact o7 (n:=j) (by rw [hlen];exact hjn) (by simpa using hsm)
  ·refine bd (m':=n - (j+1)) (by omega) ⟨j+1,by omega,rfl,rfl,by omega,hb0,mE (by omega) ha hsm,k77,k76,k75,k7, ?_,k42,k41,k40,k1, ?_⟩
   ·rw [hfr _ hb];exact hgb
   ·rw [hfr _ (by omega)];exact hg0
 ·have hjn':j=n:=by omega
  subst hjn'
  have e2:((j:Int)<(j:Int))=False:=cm (by omega)
  obtain⟨q',hq'⟩:∃q',H'.nx=q'+1:=⟨H'.nx - 1,by omega⟩
  rw [US]
  simp (disch:=omega) only [go_sem,g77,g76,e2,aBH,g42]
  refine hkn _ _ q' hB (i0 ha) ?_ ?_ ?_ ?_ hq' hg0
  ·first | rfl | (simp (disch:=omega) only [go_sem]<;>rfl)
  ·first | rfl | (simp (disch:=omega) only [go_sem,g41]<;>rfl)
  ·first | rfl | (simp (disch:=omega) only [go_sem,g40]<;>rfl)
  ·first | rfl | (simp (disch:=omega) only [go_sem,g1]<;>rfl)
end
theorem Hy (c:eu) (ho:jk c) (hm:c.dm= .nils):bc 8 [.agg (aM c)] (·= .int .i64 (gJ c)):=by
 have hone:=eT ho.stops
 have hs:=ho.st.sts
 rw [Ei]
 refine aH hG ?_
 simp (disch:=omega) only [go_sem,cV,h8]
 refine ei hG [.agg (dC c.house)] (Eb c.house ho.house) rfl ?_
 rintro d ⟨i1,rfl⟩
 by_cases h1:iq c.house=0
 rotate_left
 ·have e1:=cm h1
  simp (disch:=omega) only [go_sem,e1,r8]
  refine ax (aS _) ?_
  rw [if_neg h1]
 have e1:=du h1
 simp (disch:=omega) only [go_sem,e1,hone,R8]
 refine bB hG [.agg (ek c.session)] (qu c.session ho.stops ho.stopsL) rfl ?_
 by_cases h2:fQ c.session=0
 rotate_left
 ·have e2:=cm h2
  simp (disch:=omega) only [go_sem,e2,r8]
  refine ax (aS _) ?_
  rw [if_pos h1,if_neg h2]
 have e2:=du h2
 simp (disch:=omega) only [go_sem,e2,hone]
 refine bB hG [.agg (aM c)] (El c ho.st.keys ho.st.keysL) (by rw [cV];rfl) ?_
 cases h34:(iN c.keys&&oi c.ink)
 ·simp (disch:=omega) only [go_sem,eP,r8]
  refine ax (aS _) ?_
  rw [if_pos h1,if_pos h2,if_neg (by simp)]
 have hi:oi c.ink=true:=by rw [bX] at h34;exact h34.2
 rw [if_pos h1,if_pos h2,if_pos rfl]
 by_cases h8:c.stations.length>8
 ·have e8:((8:Int)<(c.stations.length:Int))=True:=du (by omega)
  simp (disch:=omega) only [go_sem,fq,aF hs jR,e8,r8]
  refine ax (aS _) ?_
  have e:fD c=2:=if_pos h8
  have e':oX c=2:=by unfold oX;rw [e,if_neg (by decide)]
  rw [e']
 have e8:((8:Int)<(c.stations.length:Int))=False:=cm (by omega)
 have hE:fD c=stE c [] c.stations:=if_neg h8
 simp (disch:=omega) only [go_sem,fq,aF hs jR,e8]
 refine aZ (I8a c) (fun m e H hi=> ?_) (m:=c.stations.length) ?_
 rotate_left
 ·exact⟨0,0,bN _,rfl,rfl,by first | rfl | (simp (disch:=omega) only [go_sem]<;>rfl),rfl,by first | rfl | (simp (disch:=omega) only [go_sem]<;>rfl),by first | rfl | (simp (disch:=omega) only [go_sem]<;>rfl),by first | rfl | (simp (disch:=omega) only [go_sem]<;>rfl),by first | rfl | (simp (disch:=omega) only [go_sem]<;>rfl),by rw [cV];first | rfl | (simp (disch:=omega) only [go_sem]<;>rfl)⟩
 obtain⟨n,q,hn',rfl,hdm,hnx,hst,g42,g41,g40,g1,hg0⟩:=hi
 obtain⟨t,dm⟩:=e
 dsimp only at hdm g42 g41 g40 g1
 subst hdm
 refine aV 200 ?_
 have hret:∀(r:Int) (t':E2) (H':Hp),t' 2= O r->r=oX c->ac Tryz.f8 {code:=gK 200,call:=ff P G} (mG fun x=>x=D.int IntKind.i64 (oX c)) .ret ⟨t',[]⟩ H'=true:=fun r t' H' g hr=>by
  rw [r8,g]
  exact ax (aS _) (by rw [hr])
 by_cases hlt:n<c.stations.length
 ·refine aDL ho hlt (by omega) hnx g42 g41 g40 g1 hg0 (fun t' H' hb g2=> ?_) (fun t' H' hb ha g2=> ?_) (fun t' H' q' hb ha k42 k41 k40 k1 knx kg0=> ?_)
  ·refine hret 1 _ _ g2 ?_
   have e:fD c=1:=by rw [hE,hst,Dj hlt hb]
   unfold oX;rw [e,if_neg (by decide)]
  ·refine hret 6 _ _ g2 ?_
   have e:fD c=6:=by rw [hE,hst,xL hlt hb ha]
   unfold oX;rw [e,if_neg (by decide)]
  ·exact bd (m':=c.stations.length - (n+1)) (by omega) ⟨n+1,q',by omega,rfl,rfl,knx,by rw [hst,Gn hlt hb ha],k42,k41,k40,k1,kg0⟩
 ·have e1:((n:Int)<(c.stations.length:Int))=False:=cm (by omega)
  rw [WN]
  simp (disch:=omega) only [go_sem,g42,g41,e1]
  refine aBA ho hm (by first | rfl | (simp (disch:=omega) only [go_sem,g1]<;>rfl)) hg0 fun t' H' g2=> ?_
  refine hret _ _ _ g2 ?_
  have e:fD c=0:=by rw [hE,hst,iu (by omega)];rfl
  unfold oX;rw [if_pos e]
@[go_sem ↓] theorem VW (ps:List (Nat×AV)) (k:AV->Bool):aU 66 ps k=mc [(0,1),(1,1)] ps [.nils,.nils] k:=gV (by kernel_rfl) (by kernel_rfl) ps
@[go_sem ↓] theorem Xj (ps:List (Nat×AV)) (k:AV->Bool):aU 234 ps k=mc [(0,31),(31,1),(32,1),(33,1),(34,1)] ps [.nils,.nils,.nils, O 0, O 0, O 0, O 0, O 0, O 0, O 0, O 0, O 0, O 0, O 0,.nils, O 0, O 0, O 0,.nils,.nils,.nils, O 0, O 0, O 0,.nils, O 0, O 0, O 0, O 0, O 0,.nils,.nils,.nils,.bool false,.nilm] k:=gV (by kernel_rfl) (by kernel_rfl) ps
structure ClT (T e:TypeId) (sz:Nat):Prop where
 ap:ApT P T e sz
 eqz:∀k,aw .eql T true .nils .nils k=k (.bool true)
 eqn:∀cs n (k:AV->Bool),aw .eql T true (ofD (.sl sz cs n)) .nils k=k (.bool false)
 bs:∀k,aO T 0 [] k=k (ae e []) (jr 0 sz)
section
variable {α : Type} {sz : Nat} {enc : α -> List D} {xs : List α} {d : D} {T e : TypeId} {H : Hp} {k : AV -> Hp -> Bool}
theorem Cb (ht:ClT T e sz) (hs:∀x,(enc x).length=sz) (hone:∀x,(aq (enc x)).all one=true) (hd:Sl sz enc xs d) (hlen:xs.length<=1048576)
  (hk:∀v H',Own sz enc e H.nx H' v xs->H.nx<=H'.nx->(∀c,c<H.nx->H'.get c=H.get c)->k v H'=true):
  (aw .eql T true (ofD d) .nils fun v3=>aE v3 (fun _=>k .nils H) (fun _=>aO T 0 [] fun k5 r5=>Hp.new H k5 fun b5 H5=>bu H5 T T (r5 b5) (ofD d) fun v7 H7=>k v7 H7))=true:=by
 have hd':=hd
 rcases hd with⟨rfl,rfl⟩| rfl
 ·show (aw .eql T true .nils .nils _)=true
  rw [ht.eqz]
  simp (disch:=omega) only [go_sem]
  exact hk _ _ (.inl ⟨rfl,rfl⟩) (bh _) fun c _=>rfl
 ·rw [ht.eqn]
  simp (disch:=omega) only [go_sem,ht.bs,dq]
  refine rI (lo:=H.nx) (xs:=([]:List α)) (enc:=enc) hs hone ht.ap (.inr ⟨H.nx,some 0,rfl,.inr ⟨rfl,rfl⟩,bh _,by simp (disch:=omega) only [go_sem];omega,by simp (disch:=omega) only [go_sem];rfl⟩) (by simp (disch:=omega) only [go_sem];omega) hd' (by simp;omega) fun v1 H1 gr1=> ?_
  have h1:=gr1.nx1
  refine hk _ _ (by simpa using gr1.own) (by simp only [go_sem] at h1;omega) fun c hc=> ?_
  rw [gr1.keep c hc]
  have a1:(c=H.nx)=False:=cm (by omega)
  simp (disch:=omega) only [go_sem,a1,eE]
end
theorem Ui:ClT 29 201 3:=⟨⟨by kernel_rfl,by kernel_rfl,by kernel_rfl,by kernel_rfl,by kernel_rfl,by kernel_rfl⟩,fun k=>by kernel_rfl,fun cs n k=>by kernel_rfl,fun k=>by kernel_rfl⟩
theorem DS (x:Stop):(aq (dx x)).all one=true:=rfl
theorem BQ {xs:List Stop} {d:D} (hd:Sl 3 dx xs d) (hlen:xs.length<=1048576) {H:Hp} {k:AV->Hp->Bool} (hk:∀v H',Own 3 dx 201 H.nx H' v xs->H.nx<=H'.nx->(∀c,c<H.nx->H'.get c=H.get c)->k v H'=true):ay 123 [ofD d] H k=true:=by
 refine cb 200 ?_
 rw [Y9]
 exact Cb Ui (fun _=>rfl) DS hd hlen hk
theorem rK {H:Hp} {b:Nat} {t:TypeId} {el:Option TypeId} {old new:List AV} {k:Hp->Bool} (ht:aN t=some true) (hc:P.cellsOf t=new.length) (hl:new.length=old.length) (ho:new.all Go.Ev.one=true) (hb:H.get b=some (.cells el false old)):
  aA H t (.ptr b 0) (.agg new) k=k (H.setb b (some (.cells el false new))):=by
 rw [jv,hb,ht,gr,bJ,yL,wj _ _ hl,hc,show (Nat.beq new.length new.length&&new.all Go.Ev.one)=true from by rw [bW,ho];rfl,qE]
theorem Rds.app {H:Hp}:∀{xs ys:List AV} {ds es:List D} {I J:List Nat},Rds H xs ds I->Rds H ys es J->Rds H (xs++ys) (ds++es) (I++J)
 | _,_,_,_,_,_,.nil,h=>h
 | _,_,_,_,_,_,.cons v d I vs ds J h hs,h2=>by
  rw [ki]
  exact .cons _ _ _ _ _ _ h (Rds.app hs h2)
theorem xF (c:eu):(aM c).length=31:=rfl
theorem W9 (s:bo) (k:AV->Bool):aU 74 [(0,.agg (aq (cD s)))] k=k (.agg (aq (ek s))):=by
 rw [R8];rfl
theorem Uj {cs:List AV} (hl:cs.length=31) (b:Nat) (k:AV->Bool):aU 234 [(0,.agg cs),(4,.map b)] k=k (.agg (cs++[.nils,.nils,.bool false,.map b])):=by
 match cs,hl with
 | [x0,x1,x2,x3,x4,x5,x6,x7,x8,x9,x10,x11,x12,x13,x14,x15,x16,x17,x18,x19,x20,x21,x22,x23,x24,x25,x26,x27,x28,x29,x30],_=>rw [Xj];rfl
theorem na {c:eu} {H:Hp} {b:Nat} {el:Option TypeId} {ro:Bool} {k:AV->Bool} (hb:H.get b=some (.cells el ro (aq (aM c)))):E H 42 (.ptr b 0) k=k (.agg (aq (aM c))):=iR ZS (by rw [XP];rfl) hb
theorem ID {c:eu} {H:Hp} {b:Nat} {el:Option TypeId} {ro:Bool} {k:AV->Bool} (hb:H.get b=some (.cells el ro (aq (aM c)))):E H 31 (.ptr b (0+3)) k=k (.agg (aq (cD c.session))):=by
 rw [iE,hb,fy,QG,jc,Gv,show ew 12 ((aq (aM c)).drop (0+3))=some (aq (cD c.session)) from rfl,fX]
def z74:List AV:=[O 0, O 0, O 0, O 0, O 0, O 0, O 0, O 0, O 0, O 0, O 0,.nils,.nils,.nils]
theorem zQ {s:bo} (ho:Ev.one (ofD s.ds)=true):(aq (ek s)).all Go.Ev.one=true:=by
 show (aq (cD s++[.nils,.nils])).all Go.Ev.one=true
 have AH:Ev.one .nils=true:=rfl
 simp [cD,aq,ofD,ho,ym,AH]
def qF (s:bo):List D:=[aS s.id, aS s.in_.lo, aS s.in_.hi, aS s.out.lo, aS s.out.hi, aS s.zero.lo, aS s.zero.hi, aS s.end_.lo, aS s.end_.hi, aS s.rate.lo, aS s.rate.hi]
def jA (s:bo) (d:D):bo:=⟨s.id,s.in_,s.out,s.zero,s.end_,s.rate,s.stops,d⟩
theorem tT (c:eu) (hs:Sl 3 dx c.session.stops c.session.ds) (hl:c.session.stops.length<=4):bc 114 [.agg (aM c),.nils] (fun d=>∃d',Sl 3 dx c.session.stops d'/\d= .agg (ek (jA c.session d'))):=by
 have hone:=eT hs
 refine aH hG ?_
 rw [show aq [D.agg (aM c),.nils]=[.agg (aq (aM c)),.nils] from rfl,Y2]
 simp only [aI,bJ,am,show Hp.empty.nx=0 from rfl,ca,Nat.reduceAdd]
 have g0:((Hp.empty.push (ae 42 (aq (aM c)))).push (ae 74 z74)).get 0=some (ae 42 (aq (aM c))):=by simp [af,am,show Hp.empty.nx=0 from rfl]
 have g1:((Hp.empty.push (ae 42 (aq (aM c)))).push (ae 74 z74)).get 1=some (ae 74 z74):=by simp [af,am,show Hp.empty.nx=0 from rfl]
 have gn:((Hp.empty.push (ae 42 (aq (aM c)))).push (ae 74 z74)).nx=2:=rfl
 rw [show (Hp.empty.push (ae 42 (aq (aM c)))).push (ae 74 [O 0, O 0, O 0, O 0, O 0, O 0, O 0, O 0, O 0, O 0, O 0,.nils,.nils,.nils])=(Hp.empty.push (ae 42 (aq (aM c)))).push (ae 74 z74) from rfl]
 generalize (Hp.empty.push (ae 42 (aq (aM c)))).push (ae 74 z74)=H1 at g0 g1 gn
 rw [bL,ID g0,W9]
 rw [show (ae 74 [O 0, O 0, O 0, O 0, O 0, O 0, O 0, O 0, O 0, O 0, O 0,.nils,.nils,.nils]:Blk)= ae 74 z74 from rfl]
 have p2:(H1.push (ae 74 z74)).get 2=some (ae 74 z74):=by rw [af,gn,if_pos rfl]
 have p0:(H1.push (ae 74 z74)).get 0=some (ae 42 (aq (aM c))):=by rw [af,gn,if_neg (by decide)];exact g0
 have p1:(H1.push (ae 74 z74)).get 1=some (ae 74 z74):=by rw [af,gn,if_neg (by decide)];exact g1
 have pn:(H1.push (ae 74 z74)).nx=3:=by rw [am,gn]
 generalize H1.push (ae 74 z74)=H2 at p0 p1 p2 pn
 rw [rK (old:=z74) (new:=aq (ek c.session)) se (by rw [ug];rfl) rfl (zQ hone) p2]
 have q0:(H2.setb 2 (some (ae 74 (aq (ek c.session))))).get 0=some (ae 42 (aq (aM c))):=by rw [V,if_neg (by decide)];exact p0
 have q1:(H2.setb 2 (some (ae 74 (aq (ek c.session))))).get 1=some (ae 74 z74):=by rw [V,if_neg (by decide)];exact p1
 have q2:(H2.setb 2 (some (ae 74 (aq (ek c.session))))).get 2=some (ae 74 (aq (ek c.session))):=by rw [V,if_pos rfl]
 have qn:(H2.setb 2 (some (ae 74 (aq (ek c.session))))).nx=3:=by rw [au,pn]
 generalize H2.setb 2 (some (ae 74 (aq (ek c.session))))=H3 at q0 q1 q2 qn
 rw [bL,bL,cf (v:=ofD c.session.ds) q0 O7 rfl]
 refine BQ hs (by omega) fun v H4 hv hx4 hf4=> ?_
 have r1:H4.get 1=_:=(hf4 1 (by omega)).trans q1
 have r2:H4.get 2=_:=(hf4 2 (by omega)).trans q2
 rw [bL,bL,ex r2 O7 Vb hv.cells hv.one (by simp [ek,cD,aq]),tb]
 refine dB (aV 200 ?_)
 rw [Sh]
 simp (disch:=omega) only [go_sem,lD]
 rw [RE]
 generalize hE:es (es E2.empty _) _=t1
 have u4:t1 4= .ptr 1 0:=by rw [←hE];simp (disch:=omega) only [go_sem]
 have u5:t1 5= .ptr 2 0:=by rw [←hE];simp (disch:=omega) only [go_sem]
 clear hE
 have hset:(aq (ek c.session)).set 11 v=aq (qF c.session)++[v,.nils,.nils]:=rfl
 rw [hset]
 have hall:(aq (qF c.session)++[v,.nils,.nils]).all Go.Ev.one=true:=by
  rw [List.all_append,show (aq (qF c.session)).all Go.Ev.one=true from rfl]
  simp only [kM,mh,hv.one]
  rfl
 have w2:(H4.setb 2 (some (ae 74 (aq (qF c.session)++[v,.nils,.nils])))).get 2=some (ae 74 (aq (qF c.session)++[v,.nils,.nils])):=by rw [V,if_pos rfl]
 have w1:(H4.setb 2 (some (ae 74 (aq (qF c.session)++[v,.nils,.nils])))).get 1=some (ae 74 z74):=by rw [V,if_neg (by decide)];exact r1
 have wv:=hv.frame (H':=H4.setb 2 (some (ae 74 (aq (qF c.session)++[v,.nils,.nils])))) (by rw [au];exact bh _) fun c h _=>by rw [V,if_neg (by omega)]
 generalize H4.setb 2 (some (ae 74 (aq (qF c.session)++[v,.nils,.nils])))=H5 at w1 w2 wv
 rw [u5,iR se (by rw [ug];rfl) w2,u4,rK (old:=z74) (new:=aq (qF c.session)++[v,.nils,.nils]) se (by rw [ug];rfl) rfl hall w1,ZP,hU _ _ _ (by decide) rfl]
 have y1:(H5.setb 1 (some (ae 74 (aq (qF c.session)++[v,.nils,.nils])))).get 1=some (ae 74 (aq (qF c.session)++[v,.nils,.nils])):=by rw [V,if_pos rfl]
 have yv:=wv.frame (H':=H5.setb 1 (some (ae 74 (aq (qF c.session)++[v,.nils,.nils])))) (by rw [au];exact bh _) fun c h _=>by rw [V,if_neg (by omega)]
 generalize H5.setb 1 (some (ae 74 (aq (qF c.session)++[v,.nils,.nils])))=H6 at y1 yv
 rw [show lk [(47,AV.agg (aq (qF c.session)++[v,.nils,.nils]))] 4 (t1 4)=t1 4 from rfl,u4,iR se (by rw [ug];rfl) y1]
 obtain⟨d',I,h1,h2⟩:=yv.rd eY
 refine iy (d:= .agg (qF c.session++[d',.nils,.nils])) ⟨d',h2,rfl⟩ (.agg _ _ _ (Rds.app (.fro _) (.cons _ _ _ _ _ _ h1 (.fro [.nils,.nils]))))
theorem Kc (s:bo) (d:D):bn (jA s d)=bn s:=rfl
theorem Am (s:bo) (d:D) (i:Nat) (x:Int):∀(ys:List Int) (j:Nat),prw (jA s d) i x j ys=prw s i x j ys
 | [],_=>rfl
 | y::ys,j=>by rw [prw,prw,Am s d i x ys (j+1)];rfl
theorem AD (s:bo) (d:D):∀(xs:List Int) (i:Nat),prs (jA s d) i xs=prs s i xs
 | [],_=>rfl
 | x::xs,i=>by rw [prs,prs,Am,AD s d xs (i+1)]
theorem FH (s:bo) (d:D):bls (jA s d)=bls s:=by
 show l9 (jA s d)++prs (jA s d) 0 (plc s)=l9 s++prs s 0 (plc s)
 rw [AD];rfl
open Classical in
theorem Xf {s:bo} (h0:fQ s=0) {d':D} (hd:Sl 3 dx s.stops d'):bc 186 [.agg (ek (jA s d')),.nils] (Qs (bn s) (bls s)):=by
 have ho:=wu h0
 refine AZ (by rw [ug];rfl) ?_ ?_
 ·have:=qu (jA s d') hd (by have:=ho.n;show s.stops.length<=_;omega)
  rw [show fQ (jA s d')=fQ s from rfl,h0] at this
  exact this
 ·have hb:=xH (jA s d') hd (wu (s:=jA s d') h0)
  rw [Kc,FH] at hb
  exact hb
open Classical in
theorem spF {s:bo} (h0:fQ s=0) {d':D} (hd:Sl 3 dx s.stops d'):bc 113 [.agg (ek (jA s d'))] (·= .tup [.nils,.int .i64 (if iL (bls s) (bn s) then 9 else 0)]):=Cg (by rw [ug];rfl) rfl (Xf h0 hd)
open Classical in
theorem tiF {s:bo} (h0:fQ s=0) {d':D} (hd:Sl 3 dx s.stops d'):bc 148 [.agg (ek (jA s d'))] (fun d=>∃x e,d= .tup [x, aS e]):=BN (by rw [ug];rfl) (Xf h0 hd)
open Classical in
theorem clF {s:bo} (h0:fQ s=0) (hs:Sl 3 dx s.stops s.ds):bc 21 [.agg (ek s)] (fun d=>∃x,d= .tup [x,.bool (decide (iL (bls s) (bn s))), aS 0]):=by
 have ho:=wu h0
 refine EL (by rw [ug];rfl) ?_ (xH s hs ho)
 have:=qu s hs (by have:=ho.n;omega)
 rw [h0] at this
 exact this
noncomputable def HN (c:eu) (b:Bool):D:= .ptr (aM c++[.nils,.nils,.bool b,.map [] []]) 0
open Classical in
theorem zU (c:eu) (hs:Sl 3 dx c.session.stops c.session.ds) (h0:fQ c.session=0) (hone:(aq (aM c)).all Go.Ev.one=true):bc 76 [.agg (aM c),.nils] (·=HN c (decide (iL (bls c.session) (bn c.session)))):=by
 have ho:=wu h0
 refine aH hG ?_
 rw [show aq [D.agg (aM c),.nils]=[.agg (aq (aM c)),.nils] from rfl,h76]
 have e0:Hp.empty.nx=0:=rfl
 simp only [aI,bJ,am,e0,ca,Nat.reduceAdd]
 have a0:(Hp.empty.push (ae 42 (aq (aM c)))).get 0=some (ae 42 (aq (aM c))):=by simp [af,e0]
 rw [na a0,Uj (by rw [cL];rfl),bJ]
 generalize hcs:aq (aM c)++[AV.nils,.nils,.bool false,.map 1]=pcs
 have b0:(((Hp.empty.push (ae 42 (aq (aM c)))).push (.map false [] 0)).push (ae 234 pcs)).get 0=some (ae 42 (aq (aM c))):=by simp [af,am,e0]
 have b1:(((Hp.empty.push (ae 42 (aq (aM c)))).push (.map false [] 0)).push (ae 234 pcs)).get 1=some (.map false [] 0):=by simp [af,am,e0]
 have b2:(((Hp.empty.push (ae 42 (aq (aM c)))).push (.map false [] 0)).push (ae 234 pcs)).get 2=some (ae 234 pcs):=by simp [af,am,e0]
 have bn':(((Hp.empty.push (ae 42 (aq (aM c)))).push (.map false [] 0)).push (ae 234 pcs)).nx=3:=rfl
 generalize ((Hp.empty.push (ae 42 (aq (aM c)))).push (.map false [] 0)).push (ae 234 pcs)=H1 at b0 b1 b2 bn'
 rw [na b0,show AV.agg (aq (aM c))=ofD (.agg (aM c)) from rfl]
 refine ei hG [.agg (aM c),.nils] (tT c hs ho.n) rfl ?_
 rintro d ⟨d',hd',rfl⟩
 have hone':(aq (ek (jA c.session d'))).all Go.Ev.one=true:=zQ (s:=jA c.session d') (eT hd')
 rw [bn']
 rw [show (ae 74 [O 0, O 0, O 0, O 0, O 0, O 0, O 0, O 0, O 0, O 0, O 0,.nils,.nils,.nils]:Blk)= ae 74 z74 from rfl,show ofD (.agg (ek (jA c.session d')))= .agg (aq (ek (jA c.session d'))) from rfl]
 have c3:(H1.push (ae 74 z74)).get 3=some (ae 74 z74):=by rw [af,bn',if_pos rfl]
 have cS:=dV.push H1 (ae 74 z74)
 generalize H1.push (ae 74 z74)=H2 at c3 cS
 rw [rK (old:=z74) (new:=aq (ek (jA c.session d'))) se (by rw [ug];rfl) rfl hone' c3]
 have d3:(H2.setb 3 (some (ae 74 (aq (ek (jA c.session d')))))).get 3=some (ae 74 (aq (ek (jA c.session d')))):=by rw [V,if_pos rfl]
 have dS:=cS.setb (b:=3) (x:=some (ae 74 (aq (ek (jA c.session d'))))) (by omega)
 generalize H2.setb 3 (some (ae 74 (aq (ek (jA c.session d')))))=H3 at d3 dS
 have f1:H3.get 1=some (.map false [] 0):=(dS.2 1 (by omega)).trans b1
 have f2:H3.get 2=some (ae 234 pcs):=(dS.2 2 (by omega)).trans b2
 have hld:=fun k=>iR (H:=H3) (k:=k) se (by rw [ug];rfl) d3
 rw [hld,show AV.agg (aq (ek (jA c.session d')))=ofD (.agg (ek (jA c.session d'))) from rfl]
 refine bB hG [.agg (ek (jA c.session d'))] (spF h0 hd') rfl ?_
 have hfin:∀(H:Hp) (b:Bool),H.get 1=some (.map false [] 0)->H.get 2=some (ae 234 (aq (aM c)++[AV.nils,.nils,.bool b,.map 1]))->mG (·=HN c b) (.ret (.ptr 2 0)) H=true:=fun H b h1 h2=>
  iy rfl (.ptr 2 0 _ _ _ _ _ h2 (Rds.app (.fro (aM c)) (.cons _ _ _ _ _ _ (.fro .nils) (.cons _ _ _ _ _ _ (.fro .nils) (.cons _ _ _ _ _ _ (.fro (.bool b)) (.cons _ _ _ _ _ _ (.map 1 false [] [] [] [] [] h1 rfl .nil .nil) .nil))))))
 by_cases hv:iL (bls c.session) (bn c.session)
 ·rw [if_pos hv,fM hv]
  rw [show ofD (.tup [.nils, aS 9])= .tup [.nils, O 9] from rfl]
  subst hcs
  rw [lc,lf,mT,show (!decide ((9:Int)=0))=true from rfl,dH,fS,bL,ex f2 ag4 ce4 rfl rfl (by rw [gZ,cL,xF];simp),r76]
  simp (disch:=omega) only [go_sem]
  refine hfin _ true ?_ ?_
  ·rw [V,if_neg (by decide)];exact f1
  ·rw [V,if_pos rfl];rfl
 ·rw [if_neg hv,fK hv]
  rw [show ofD (.tup [.nils, aS 0])= .tup [.nils, O 0] from rfl]
  subst hcs
  rw [lc,lf,mT,show (!decide ((0:Int)=0))=false from rfl,eV,hld,show AV.agg (aq (ek (jA c.session d')))=ofD (.agg (ek (jA c.session d'))) from rfl]
  refine ei hG [.agg (ek (jA c.session d'))] (tiF h0 hd') rfl ?_
  rintro d ⟨x,e,rfl⟩
  rw [show ofD (.tup [x, aS e])= .tup [ofD x, O e] from rfl,lc,lf,tb]
  refine dB (aV 200 ?_)
  rw [Xy]
  simp (disch:=omega) only [go_sem,lD]
  rw [Uw]
  simp (disch:=omega) only [go_sem,tb]
  refine dB (aV 200 ?_)
  rw [UK]
  simp (disch:=omega) only [go_sem,lD,Uo,r76]
  exact hfin H3 false f1 f2
theorem Sr (c:eu) (b:Bool):(aq (aM c++[.nils,.nils,.bool b,.map [] []]))[33]? =some (.bool b)/\(aq (aM c++[.nils,.nils,.bool b,.map [] []]))[31]? =some .nils/\(aq (aM c++[.nils,.nils,.bool b,.map [] []]))[32]? =some .nils:=⟨rfl,rfl,rfl⟩
theorem KX (H:Hp) (k:AV->Bool):ak 232 .nils H k=k (O 0):=ey X7 H k
theorem Lw (H:Hp) (k:AV->Bool):ak 218 .nils H k=k (O 0):=ey Uf H k
theorem RT (k:AV->Bool):aw .eql 218 true .nils .nils k=k (.bool true):=by kernel_rfl
theorem Kl (H:Hp) (k:AV->Hp->Bool):bu H 218 218 .nils .nils k=k .nils H:=by kernel_rfl
theorem Nb (k:Blk->(Nat->AV)->Bool):gw 3 (P.cellsOf 3) (P.bytesOf 3) (EA P 3) (O 0) (O 0) k=k (ae 3 []) (jr 0 1):=by kernel_rfl
theorem Ij {H:Hp} {K:AV->Hp->Bool} (hK:K .nils H=true):ay 149 [.nils] H K=true:=by
 refine cb 200 ?_
 rw [aCF,RT,dH]
 exact hK
theorem D5 (c:eu) (b:Bool):bc 77 [HN c b,.nils] (fun d=>∃x,d= .tup [x,.nils,.bool (!b)]/\Sl 1 iw [] x):=by
 obtain⟨p33,p31,p32⟩:=Sr c b
 refine aH hG ?_
 rw [show aq [HN c b,.nils]=[.dat (.ptr (aM c++[.nils,.nils,.bool b,.map [] []]) 0),.nils] from rfl,h77,kY,jZ,ldD ag4 (by rw [ca];exact p33)]
 cases b with
 | true=>
  simp (disch:=omega) only [go_sem,r77]
  exact ax (.tup [.nils,.nils,.bool false]) ⟨.nils,rfl,.inl ⟨rfl,rfl⟩⟩
 | false=>
  rw [eV,kY,jZ,ldD UE (by rw [ca];exact p31),KX,Nb,aI,kY,jZ,ldD Wl (by rw [ca];exact p32)]
  refine Ij ?_
  rw [Kl]
  refine lV 2 (er ?_)
  rw [Om]
  simp (disch:=omega) only [go_sem,Lw]
  refine dB (aV 200 ?_)
  rw [V']
  simp (disch:=omega) only [go_sem,lD]
  refine er ?_
  rw [Om]
  simp (disch:=omega) only [go_sem,Wy,r77,dq]
  have g0:(Hp.empty.push (ae 3 [])).get 0=some (ae 3 []):=by simp [af,show Hp.empty.nx=0 from rfl]
  exact iy (d:= .tup [.sl 1 [] 0,.nils,.bool true]) ⟨_,rfl,.inr rfl⟩ (.tup _ _ _ (.cons _ _ _ _ _ _ (.sl 0 0 0 1 (some 0) _ _ _ [] [] [] g0 rfl .nil) (.fro [.nils,.bool true])))
theorem DQ {o:ai} (ho:cZ o):av 1000 (.agg (aq (aC o))) (.agg (aq (aC o)))=true:=by
 obtain⟨kind,names,dn,gap,most,lo,hi,kids,dk,hn,_,_,hk,_,_⟩:=ho
 show av 1000 (.agg [O kind,ofD dn, O gap.lo, O gap.hi, O most, O lo, O hi,ofD dk]) (.agg [O kind,ofD dn, O gap.lo, O gap.hi, O most, O lo, O hi,ofD dk])=true
 have h1:=eG hn
 have h2:=eG hk
 simp (disch:=omega) only [go_sem,h1,h2,dE]
theorem Nm {c:eu} {H:Hp} {b:Nat} {el:Option TypeId} {ro:Bool} {k:AV->Bool} (hb:H.get b=some (.cells el ro (aq (aM c)))):E H 40 (.ptr b (0+23)) k=k (.agg (aq (aC c.order))):=by
 rw [iE,hb,fy,KG,jc,jS,show ew 8 ((aq (aM c)).drop (0+23))=some (aq (aC c.order)) from rfl,fX]
theorem rF (c:eu) (ho:cZ c.order) (h0:fu c.order=0):bc 139 [.agg (aM c),.nils] (·= .nils):=by
 refine aH hG ?_
 rw [show aq [D.agg (aM c),.nils]=[.agg (aq (aM c)),.nils] from rfl,aER,aI,bJ,show Hp.empty.nx=0 from rfl]
 have g0:(Hp.empty.push (ae 42 (aq (aM c)))).get 0=some (ae 42 (aq (aM c))):=by simp [af,show Hp.empty.nx=0 from rfl]
 generalize Hp.empty.push (ae 42 (aq (aM c)))=H1 at g0
 have L:=fun k=>Nm (k:=k) g0
 have A:=DQ ho
 rw [bL,L,na g0,bq,show AV.agg (aq (aM c))=ofD (.agg (aM c)) from rfl]
 refine bB hG [.agg (aM c),.nils] (wl (aM c)) rfl ?_
 with_reducible refine rk (by simp (disch:=exact bk rfl) only [bI,ct,bP,dE,L,A]) ?_
 rw [bq,show AV.agg (aq (aC c.order))=ofD (.agg (aC c.order)) from rfl]
 refine bB hG [.agg (aC c.order),.nils] (sy ho h0) rfl ?_
 with_reducible refine rk (by simp (disch:=exact bk rfl) only [bI,ct,bP,dE,L,A]) ?_
 rw [show ofD (.tup [.nils, aS 0])= .tup [.nils, O 0] from rfl,lc,lf,cQ]
 exact ax .nils rfl
theorem uE (H:Hp) (k:AV->Bool):ak 183 .nils H k=k (O 0):=ey Vo H k
open Classical in
theorem EQ (c:eu) (hs:Sl 3 dx c.session.stops c.session.ds) (h0:fQ c.session=0) (hone:(aq (aM c)).all Go.Ev.one=true) (ho:cZ c.order) (hord:fu c.order=0):bc 138 [.agg (aM c),.nils] (·= .tup [.nils,.bool false]):=by
 refine aH hG ?_
 rw [show aq [D.agg (aM c),.nils]=[.agg (aq (aM c)),.nils] from rfl,YX,aI,bJ,show Hp.empty.nx=0 from rfl]
 have g0:(Hp.empty.push (ae 42 (aq (aM c)))).get 0=some (ae 42 (aq (aM c))):=by simp [af,show Hp.empty.nx=0 from rfl]
 generalize Hp.empty.push (ae 42 (aq (aM c)))=H1 at g0
 rw [na g0,show AV.agg (aq (aM c))=ofD (.agg (aM c)) from rfl]
 refine bB hG [.agg (aM c),.nils] (zU c hs h0 hone) rfl ?_
 rw [na g0,show AV.agg (aq (aM c))=ofD (.agg (aM c)) from rfl]
 refine bB hG [.agg (aM c),.nils] (rF c ho hord) rfl ?_
 rw [gM,uE]
 refine dB (aV 200 ?_)
 rw [Qb]
 simp (disch:=omega) only [go_sem,lD,Te,aDW]
 exact ax (.tup [.nils,.bool false]) rfl
theorem Ju {H:Hp} {K:AV->Hp->Bool} (hK:K (.bool false) H=true):ay 140 [.nils,.fn 141 [] []] H K=true:=by
 refine cb 200 ?_
 rw [aAA]
 refine cb 200 ?_
 rw [aEJ,uE]
 refine dB (aV 200 ?_)
 rw [Qf]
 have hge:((-1:Int)≥0)=False:=by simp
 simp (disch:=omega) only [go_sem,lD,Sz,aAD,hge]
 exact hK
open Classical in
theorem Fj (c:eu) (hs:Sl 3 dx c.session.stops c.session.ds) (h0:fQ c.session=0) (hone:(aq (aM c)).all Go.Ev.one=true) (ho:cZ c.order) (hord:fu c.order=0):bc 65 [.agg (aM c),.nils] (fun d=>∃x,d= .tup [x,.bool (decide (¬iL (bls c.session) (bn c.session)))]/\Sl 1 iw [] x):=by
 refine aH hG ?_
 rw [show aq [D.agg (aM c),.nils]=[.agg (aq (aM c)),.nils] from rfl,h65,aI,bJ,show Hp.empty.nx=0 from rfl]
 have g0:(Hp.empty.push (ae 42 (aq (aM c)))).get 0=some (ae 42 (aq (aM c))):=by simp [af,show Hp.empty.nx=0 from rfl]
 generalize Hp.empty.push (ae 42 (aq (aM c)))=H1 at g0
 rw [na g0,show AV.agg (aq (aM c))=ofD (.agg (aM c)) from rfl]
 refine bB hG [.agg (aM c),.nils] (zU c hs h0 hone) rfl ?_
 rw [na g0,show AV.agg (aq (aM c))=ofD (.agg (aM c)) from rfl]
 refine bB hG [.agg (aM c),.nils] (rF c ho hord) rfl ?_
 rw [gM,uE,Nb,aI]
 refine Ju ?_
 generalize hb:decide (iL (bls c.session) (bn c.session))=b
 have hnb:decide (¬iL (bls c.session) (bn c.session))= !b:=by rw [←hb];simp
 rw [hnb,eV]
 have hlen:∀(H:Hp) (k:AV->Bool),ak 51 (.sl H1.nx 0 0 1 (some 0)) H k=k (O 0):=fun H k=>by rw [C0];rfl
 refine dB (aV 200 ?_)
 rw [WP]
 simp (disch:=omega) only [go_sem,dq,hlen]
 refine dB (aV 200 ?_)
 rw [TV]
 simp (disch:=omega) only [go_sem,lD]
 rw [UB]
 simp (disch:=omega) only [go_sem]
 refine ei hG [HN c b,.nils] (D5 c b) rfl ?_
 rintro d ⟨x,rfl,hx⟩
 rw [show ofD (.tup [x,.nils,.bool (!b)])= .tup [ofD x,.nils,.bool (!b)] from rfl,lc,lf,N6]
 cases b with
 | false=>
  simp (disch:=omega) only [go_sem,r65,eP]
  exact ax (.tup [x,.bool true]) ⟨x,rfl,hx⟩
 | true=>
  simp (disch:=omega) only [go_sem,fq,hlen]
  refine dB (aV 200 ?_)
  rw [VT]
  simp (disch:=omega) only [go_sem,lD,Wv,r65]
  exact ax (.tup [.nils,.bool false]) ⟨.nils,rfl,.inl ⟨rfl,rfl⟩⟩
theorem I3 (H:Hp) (k:AV->Bool):ak 36 .nils H k=k (O 0):=ey EP H k
theorem LQ (H:Hp) (k:AV->Bool):ak 211 .nils H k=k (O 0):=ey W7 H k
theorem VL (k:AV->Bool):aw .eql 64 true .nils .nils k=k (.bool true):=by kernel_rfl
theorem Xg (t:E2) (H:Hp) (k:fk->Hp->Bool) (i:Evs):ac Tryz.f135 i k .normal ⟨t,[]⟩ H=k (.ret (.tup [])) H:=by kernel_rfl
theorem f136 (n:Nat) (as_ xs:List AV) (H:Hp) (k:AV->Hp->Bool):eC n (.fn 136 [] as_) xs H k=ay 136 (xs++as_) H k:=by
 rw [o4 (by kernel_rfl) (by kernel_rfl)];rfl
theorem JN (n l:Nat):av (n+1) (.yld l) (.yld l)=true:=by simp [av]
theorem B7 {H:Hp} {b l:Nat} {el:Option TypeId} {ro:Bool} {cs:List AV} {F:AV->Hp->Prop} {K:AV->Hp->Bool} (hb:At H b (.cells el ro cs)) (h20:cs[20]? =some .nils)
  (hy:∀H1 (K':AV->Hp->Bool),dV H H1->(∀v H2,F v H2->K' v H2=true)->eC 194 (.yld l) [.nils] H1 K'=true) (hK:∀v H2,F v H2->K (.tup []) H2=true):ay 135 [.yld l,.ptr b 0] H K=true:=by
 refine cb 200 ?_
 rw [Y4,aI,aI,show AV.cells (.yld l)=[.yld l] from rfl]
 have a1:=At.push H (ae 143 [.yld l])
 have s1:=dV.push H (ae 143 [.yld l])
 generalize H.push (ae 143 [.yld l])=H1 at a1 s1
 have a2:=At.push H1 (ae 211 [.nils])
 have s2:=dV.push H1 (ae 211 [.nils])
 generalize H1.push (ae 211 [.nils])=H2 at a2 s2
 have s12:=s1.trans s2
 rw [bL,cf (v:= .nils) (hb.stay s12).2 LK (by rw [ca];exact h20),I3]
 refine dB (aV 200 ?_)
 rw [Sb]
 simp (disch:=omega) only [go_sem,lD]
 generalize hE:es (es E2.empty _) _=t
 have u2:t 2= .ptr H.nx 0:=by rw [←hE];simp (disch:=omega) only [go_sem]
 have u3:t 3= .ptr H1.nx 0:=by rw [←hE];simp (disch:=omega) only [go_sem]
 clear hE
 rw [P1,u2,u3,aI,ex (b:=H2.nx) (H:=H2.push (ae 212 [.nilf])) (by rw [af,if_pos rfl]) Oy Uq rfl rfl (by simp)]
 have a3:=mA H2 (ae 212 [.nilf]) (ae 212 [.fn 136 [] [.ptr H1.nx 0,.ptr H.nx 0,.ptr H2.nx 0]])
 have s3:=ii H2 (ae 212 [.nilf]) (ae 212 [.fn 136 [] [.ptr H1.nx 0,.ptr H.nx 0,.ptr H2.nx 0]])
 rw [show ([AV.nilf]:List AV).set 0 (.fn 136 [] [.ptr H1.nx 0,.ptr H.nx 0,.ptr H2.nx 0])=[.fn 136 [] [.ptr H1.nx 0,.ptr H.nx 0,.ptr H2.nx 0]] from rfl]
 generalize Hp.setb (H2.push (ae 212 [.nilf])) H2.nx (some (ae 212 [.fn 136 [] [.ptr H1.nx 0,.ptr H.nx 0,.ptr H2.nx 0]]))=H3 at a3 s3
 have ly:=fun k=>cf (P:=P) (G:=G) (t:=143) (n:=0) (k:=k) (v:= .yld l) ((a1.stay s2).stay s3).2 WM rfl
 rw [cf (v:= .fn 136 [] [.ptr H1.nx 0,.ptr H.nx 0,.ptr H2.nx 0]) a3.2 Oy rfl,f136]
 refine cb 200 ?_
 show rR ⟨gK 200,ff P G⟩ 136 [O 0,.nils,.ptr H1.nx 0,.ptr H.nx 0,.ptr H2.nx 0] H3 _=true
 rw [ZN,cf (v:= .nils) (a2.stay s3).2 Us rfl,LQ,ij,show decide ((0:Int)=0)=true from rfl,dH,ly,bq]
 refine cb 200 ?_
 rw [aCL,VL,dH]
 with_reducible refine rk (by simp (disch:=exact bk rfl) only [bI,ct,bP,dE,ly,JN]) ?_
 rw [bq]
 refine hy H3 _ (s12.trans s3) fun v H4 hF=> ?_
 with_reducible refine rk (by simp (disch:=exact bk rfl) only [bI,ct,bP,dE]) ?_
 rw [cQ]
 simp (disch:=omega) only [go_sem,aCV,Xg]
 exact hK v H4 hF
theorem Qc (dm:List Dm) (ro:Option Nat) (H:Hp) (k:AEx->En->Hp->Bool):∀(t:E2),az 194 13 134 52 ro ⟨t,dm⟩ H k=
 (k .normal ⟨(es t [(5,t 7)]),dm⟩ H):=aj fun f=>by kernel_rfl
theorem SW (dm:List Dm) (ro:Option Nat) (H:Hp) (k:AEx->En->Hp->Bool):∀(t:E2),az 194 13 134 53 ro ⟨t,dm⟩ H k=
 (E H 59 (t 2) fun v1=>
 aO 59 1 [(0,(t 5))] fun k3 r3=>Hp.new H k3 fun b3 H3=>
 bu H3 59 59 v1 (r3 b3) fun v4 H4=>
 aA H4 59 (t 2) v4 fun H5=>
 k .normal ⟨(es t (ao 8 [v1,t 5,r3 b3,v4] [])),dm⟩ H5):=aj fun f=>by kernel_rfl
theorem Bh:iz P 135=true:=by kernel_rfl
theorem Va {d:Nat} {t:E2} {H:Hp} {k:fk->Hp->Bool} {i:Evs} (hd:H.get d=some (.dfr true)):ac Tryz.f134 i k .ret ⟨t,[.mark d]⟩ H=k (.ret (t 4)) (H.setb d (some (.dfr false))):=by
 have h:ac Tryz.f134 i k .ret ⟨t,[.mark d]⟩ H=(match H.get d with | some (.dfr true)=>H.put d (some (.dfr false)) fun H=>k (.ret (t 4)) H | _=>false):=by kernel_rfl
 rw [h,hd]
 dsimp only
 rw [cJ]
theorem Z8:ApT P 59 64 1:=⟨by kernel_rfl,by kernel_rfl,by kernel_rfl,by kernel_rfl,by kernel_rfl,by kernel_rfl⟩
theorem aDU (k:Blk->(Nat->AV)->Bool):aO 59 1 [(0,.nils)] k=k (ae 64 [.nils]) (jr 1 1):=by kernel_rfl
def FC (H0:Hp) (lp:Blk) (v:AV) (H:Hp):Prop:=v= .bool true/\∃b,H.get (H0.nx)=some (ae 59 [.sl b 0 1 1 none])/\H.get (H0.nx+1)=some (.dfr true)/\H.get (H0.nx+2)=some lp/\H.get b=some (ae 64 [.nils])/\H0.nx+2<b
theorem LG {H:Hp} {b:Nat} {el:Option TypeId} {ro:Bool} {cs:List AV} {K:AV->Hp->Bool} (hb:At H b (.cells el ro cs)) (h20:cs[20]? =some .nils) (hK:∀c H',H'.get c=some (ae 64 [.nils])->K (.sl c 0 1 1 none) H'=true):ay 134 [.nils,.fn 135 [] [.ptr b 0]] H K=true:=by
 refine cb 200 ?_
 rw [Zb,aI,show AV.cells .nils=[.nils] from rfl]
 have a1:=At.push H (ae 59 [.nils])
 have s1:=dV.push H (ae 59 [.nils])
 have n1:(H.push (ae 59 [.nils])).nx=H.nx+1:=am _ _
 generalize H.push (ae 59 [.nils])=H1 at a1 s1 n1
 generalize hE:es E2.empty _=env
 have v2:env 2= .ptr H.nx 0:=by rw [←hE];simp (disch:=omega) only [go_sem]
 clear hE
 refine pV Bh ?_
 have aD:=At.push H1 (.dfr true)
 have sD:=dV.push H1 (.dfr true)
 have nD:(H1.push (.dfr true)).nx=H1.nx+1:=am _ _
 generalize H1.push (.dfr true)=H2 at aD sD nD
 generalize hlp:Blk.loop .ready none env 13 [7] (fH 134 52) (fH 134 53) H1.nx=lp
 have aL:=At.push H2 lp
 have sL:=dV.push H2 lp
 have nL:(H2.push lp).nx=H2.nx+1:=am _ _
 generalize H2.push lp=H3 at aL sL nL
 rw [n1] at aD
 rw [nD,n1] at aL
 rw [n1]
 have b3:=((hb.stay s1).stay sD).stay sL
 refine B7 (F:=FC H lp) b3 h20 (fun H4 K' s4 hK'=> ?_) fun v H4 hF=> ?_
 ·rw [pW]
  subst hlp
  have e2:(es (E2.set env 7 .nils) [(5,.nils)]) 2= .ptr H.nx 0:=by
   rw [hU _ _ _ (by decide) rfl];show (E2.set env 7 .nils) 2=_;rw [cM _ _ _ _ (by decide) (by decide) (by decide)];exact v2
  have e5:(es (E2.set env 7 .nils) [(5,.nils)]) 5= .nils:=by
   rw [hU _ _ _ (by decide) rfl];rfl
  have l4:=(aL.stay s4).2
  have hn4:=s4.1
  have hr4:=(((a1.stay sD).stay sL).stay s4)
  have hd4:=((aD.stay sL).stay s4)
  rw [n1] at l4
  refine jW (env':=es (E2.set env 7 .nils) [(5,.nils)]) l4 (by decide) (by decide) (fun K=>by rw [Qc,cY _ _ _ (by decide)]) l4 (fun KK hk2=> ?_)
  rw [SW,e2,e5]
  generalize hH5:H4.setb (H.nx+1+1) (some (.loop .busy none env 13 [7] (fH 134 52) (fH 134 53) (H.nx+1)))=H5
  have hn5:H5.nx=H4.nx:=by rw [←hH5];rfl
  have h5:∀c,c≠H.nx+2->H5.get c=H4.get c:=fun c hc=>by rw [←hH5,V,if_neg (by omega)]
  have hb5:H5.get (H.nx+1+1)=some (.loop .busy none env 13 [7] (fH 134 52) (fH 134 53) (H.nx+1)):=by rw [←hH5,V,if_pos rfl]
  have hr5:H5.get H.nx=_:=(h5 _ (by omega)).trans hr4.2
  rw [cf (v:= .nils) hr5 Pv rfl,aDU,aI,dq]
  have a6:=At.push H5 (ae 64 [.nils])
  have s6:=dV.push H5 (ae 64 [.nils])
  generalize H5.push (ae 64 [.nils])=H6 at a6 s6
  refine vU (cs:=[.nils]) Z8 (el1:=some 64) (ro1:=false) a6.2 rfl rfl ?_
  have a7:=At.push H6 (ae 64 [.nils])
  have s7:=dV.push H6 (ae 64 [.nils])
  have hn6:=s6.1
  generalize H6.push (ae 64 [.nils])=H7 at a7 s7
  have s57:=s6.trans s7
  have hn7:=s7.1
  rw [ex (v:= .sl H6.nx 0 1 1 none) ((s57.2 _ (by omega)).trans hr5) Pv aAR rfl rfl (by simp)]
  refine hk2 _ _ (by rw [V,if_neg (by omega),s57.2 _ (by omega)];exact hb5) ?_
  refine hK' _ _ ⟨rfl,H6.nx, ?_, ?_, ?_, ?_,by omega⟩
  ·rw [V,if_neg (by omega),V,if_pos rfl];rfl
  ·rw [V,if_neg (by omega),V,if_neg (by omega),s57.2 _ (by omega),h5 _ (by omega)];exact hd4.2
  ·rw [V,if_pos rfl,n1]
  ·rw [V,if_neg (by omega),V,if_neg (by omega)];exact a7.2
 ·obtain⟨_,c,f1,f2,f3,f4,f5⟩:=hF
  subst hlp
  rw [nr f3]
  simp (disch:=omega) only [go_sem]
  rw [QA,v2,cf (v:= .sl c 0 1 1 none) (by rw [V,if_neg (by omega)];exact f1) Pv rfl]
  dsimp only
  rw [Va (d:=H.nx+1) (by rw [V,if_neg (by omega)];exact f2)]
  simp (disch:=omega) only [go_sem]
  refine hK c _ ?_
  rw [V,if_neg (by omega),V,if_neg (by omega)];exact f4
theorem UG (dm:List Dm) (ro:Option Nat) (H:Hp) (k:AEx->En->Hp->Bool):∀(t:E2),az 194 87 49 1012 ro ⟨t,dm⟩ H k=
 (k .normal ⟨(es t [(6,t 34)]),dm⟩ H):=aj fun f=>by kernel_rfl
theorem Ug (dm:List Dm) (ro:Option Nat) (H:Hp) (k:AEx->En->Hp->Bool):∀(t:E2),az 194 87 49 1013 ro ⟨t,dm⟩ H k=
 (ak 64 (t 6) H fun v2=>
 ba v2 (O 12) fun v3=>
 aE v3 (fun _=>
 aA H 45 (t 2) (O 2) fun H4=>
 k .ret ⟨(es t (ao 35 [t 6,v2,v3] [])),dm⟩ H4) (fun _=>
 U (t 1) 23 fun v5=>
 E H 40 v5 fun v6=>
 E H 42 (t 1) fun v7=>
 bF 12 [] H fun Q10 H10=>ay 112 [v7,(t 6)] H10 fun v9 H9=>
 Bool.casesOn (bf 12 ((2,fun H'=>E H' 42 (t 1) fun v'=>av 1000 v7 v')::((1,fun H'=>E H' 40 v5 fun v'=>av 1000 v6 v')::[])) H9) false (bF 31 Q10 H9 fun Q12 H12=>ay 111 [v6,v9] H12 fun v11 H11=>
 Bool.casesOn (bf 31 ((2,fun H'=>E H' 42 (t 1) fun v'=>av 1000 v7 v')::((1,fun H'=>E H' 40 v5 fun v'=>av 1000 v6 v')::[])) H11) false (aX v11 0 fun v14=>
 aX v11 1 fun v15=>
 cG Q12 H11 fun H18=>
 let n20:AEx->En->Hp->Bool:=fun x e H=>aY x (fun _=>az 189 87 49 32431 ro e H fun x e H=>bz 3 x (fun _=>k .normal e H) (fun x=>k x e H)) (fun x=>bz 3 x (fun _=>k .normal e H) (fun x=>k x e H));
 ak 183 v14 H18 fun v22=>
 kS 87 (.loop (fH 49 129722)) ro ⟨(es t (ao 7 [v14,v15,O 1] (ao 35 [t 6,v2,v3,v11,v5,v6,v7,t 6,v9,v11,v14,v15,v14,v22,O 0] []))),dm⟩ H18 fun x e24 H24=>bz 4 x (fun _=>n20 .normal e24 H24) (fun x=>n20 x e24 H24))))):=aj fun f=>by kernel_rfl
theorem Vc (dm:List Dm) (ro:Option Nat) (H:Hp) (k:AEx->En->Hp->Bool):∀(t:E2),az 189 87 49 32431 ro ⟨t,dm⟩ H k=
 (az 188 87 49 64862 ro ⟨t,dm⟩ H fun x e H=>aY x (fun _=>az 188 87 49 64863 ro e H fun x e H=>k x e H) (fun x=>k x e H)):=aj fun f=>by kernel_rfl
theorem Wj (dm:List Dm) (ro:Option Nat) (H:Hp) (k:AEx->En->Hp->Bool):∀(t:E2),az 188 87 49 64862 ro ⟨t,dm⟩ H k=
 (az 187 87 49 129724 ro ⟨t,dm⟩ H fun x e H=>aY x (fun _=>az 187 87 49 129725 ro e H fun x e H=>k x e H) (fun x=>k x e H)):=aj fun f=>by kernel_rfl
theorem Tg (dm:List Dm) (ro:Option Nat) (H:Hp) (k:AEx->En->Hp->Bool):∀(t:E2),az 188 87 49 64863 ro ⟨t,dm⟩ H k=
 (E H 42 (t 1) fun v1=>
 ay 114 [v1,(t 6)] H fun v3 H3=>
 ay 113 [v3] H3 fun v4 H4=>
 aX v4 0 fun v6=>
 aX v4 1 fun v7=>
 ak 76 v6 H4 fun v11=>
 kS 87 (.loop (fH 49 518910)) ro ⟨(es t (ao 66 [v4,v1,t 6,v3,v4,v6,v7,v6,v11,O 0] [(12,v6),(13,v7)])),dm⟩ H4 fun x e13 H13=>bz 6 x (fun _=>k .normal e13 H13) (fun x=>k x e13 H13)):=aj fun f=>by kernel_rfl
theorem SY (dm:List Dm) (ro:Option Nat) (H:Hp) (k:AEx->En->Hp->Bool):∀(t:E2),az 187 87 49 129724 ro ⟨t,dm⟩ H k=
 (bR (t 8) (O 0) fun v2=>
 lh (gD false v2) (fun v4 H4=>
 lh (gD false v2) (fun v5 H5=>
 aT v2 (.bool true) v5 fun v6=>
 k .normal ⟨(es t (ao 60 [t 8,v2,v2,v4,v5,v6] [])),dm⟩ H5) (fun r5=>ba v4 (O 64) fun v7=>
 r5 v7 H4) H4) (fun r4=>r4 (t 9) H) H):=aj fun f=>by kernel_rfl
theorem Sq (dm:List Dm) (ro:Option Nat) (H:Hp) (k:AEx->En->Hp->Bool):∀(t:E2),az 187 87 49 129725 ro ⟨t,dm⟩ H k=
 (aE (t 65) (fun _=>
 aA H 45 (t 2) (O 2) fun H1=>
 k .ret ⟨t,dm⟩ H1) (fun _=>
 k .normal ⟨t,dm⟩ H)):=aj fun f=>by kernel_rfl
structure COK (c:eu):Prop where
 hs:Sl 3 dx c.session.stops c.session.ds
 h0:fQ c.session=0
 one:(aq (aM c)).all Go.Ev.one=true
 ord:cZ c.order
 o0:fu c.order=0
 nm:c.dm= .nils
theorem COK.m20 {c:eu} (h:COK c):(aq (aM c))[20]? =some .nils:=by
 have:(aq (aM c))[20]? =some (ofD c.dm):=rfl
 rw [this,h.nm];rfl
theorem Zu {d:Nat} {H:Hp} {k:fk->Hp->Bool} {i:Evs} (hd:H.get d=some (.dfr true)):∀(t:E2),ac Tryz.f49 i k .ret ⟨t,[.mark d]⟩ H=E (H.setb d (some (.dfr false))) 45 (t 2) fun v=>k (.ret v) (H.setb d (some (.dfr false))):=fun t=>by
 have h:∀t:E2,ac Tryz.f49 i k .ret ⟨t,[.mark d]⟩ H=(match H.get d with | some (.dfr true)=>H.put d (some (.dfr false)) fun H=>E H 45 (t 2) fun v=>k (.ret v) H | _=>false):=aj fun f=>by kernel_rfl
 rw [h,hd]
 try dsimp only
 rw [cJ]
theorem I8 {c:eu} {H:Hp} {K:AV->Hp->Bool} (hK:∀H' b,dV H H'->At H' b (ae 42 (aq (aM c)))->H'.nx=H.nx+1->K (.fn 135 [] [.ptr b 0]) H'=true):ay 62 [.agg (aq (aM c))] H K=true:=by
 refine cb 200 ?_
 rw [h62,aI,bJ]
 exact hK _ H.nx (dV.push H _) (At.push H _) (am _ _)
theorem QP (H:Hp) (k:AV->Bool):ak 76 .nils H k=k (O 0):=ey oF H k
open Classical in
theorem Xn {c:eu} {H:Hp} {ro:Option Nat} {t:E2} {k:AEx->En->Hp->Bool} (hc:COK c) (g0:H.get 0=some (ae 42 (aq (aM c)))) (t1:t 1= .ptr 0 0) (t6:t 6= .nils) (hk:∀t',k .normal ⟨t',[]⟩ H=true):az 194 87 49 1013 ro ⟨t,[]⟩ H k=true:=by
 have L:=fun k=>Nm (k:=k) g0
 have A:=DQ hc.ord
 have C:=fun k=>na (k:=k) g0
 have hso:=wu hc.h0
 rw [Ug,t6,t1,tb,qX,show decide ((0:Int)>12)=false from rfl,eV,bL,L,C,bq,show AV.agg (aq (aM c))=ofD (.agg (aM c)) from rfl]
 refine bB hG [.agg (aM c),.nils] (wl (aM c)) rfl ?_
 with_reducible refine rk (by simp (disch:=exact bk rfl) only [bI,ct,bP,dE,L,A]) ?_
 rw [bq,show AV.agg (aq (aC c.order))=ofD (.agg (aC c.order)) from rfl]
 refine bB hG [.agg (aC c.order),.nils] (sy hc.ord hc.o0) rfl ?_
 with_reducible refine rk (by simp (disch:=exact bk rfl) only [bI,ct,bP,dE,L,A]) ?_
 rw [show ofD (.tup [.nils, aS 0])= .tup [.nils, O 0] from rfl,lc,lf,cQ,uE]
 refine dB (aV 200 ?_)
 rw [WQ]
 simp (disch:=omega) only [go_sem,lD]
 generalize hE:es (es t _) _=t1'
 have u1:t1' 1= .ptr 0 0:=by rw [←hE];simp (disch:=omega) only [go_sem,t1]
 have u6:t1' 6= .nils:=by rw [←hE];simp (disch:=omega) only [go_sem,t6]
 have u8:t1' 8= O 0:=by rw [←hE];simp (disch:=omega) only [go_sem]
 have u9:t1' 9= O 1:=by rw [←hE];simp (disch:=omega) only [go_sem]
 clear hE
 rw [Vc,Wj,SY,u8,u9]
 have h00:((0:Int)=0)=True:=by simp
 have Yl:((1:Int)>64)=False:=by simp
 simp (disch:=omega) only [go_sem,h00,Yl,Sq]
 generalize hE:es t1' _=t2'
 have w1:t2' 1= .ptr 0 0:=by rw [←hE];simp (disch:=omega) only [go_sem,u1]
 have w6:t2' 6= .nils:=by rw [←hE];simp (disch:=omega) only [go_sem,u6]
 clear hE
 rw [Tg,w1,w6,C,show AV.agg (aq (aM c))=ofD (.agg (aM c)) from rfl]
 refine ei hG [.agg (aM c),.nils] (tT c hc.hs hso.n) rfl ?_
 rintro d ⟨d',hd',rfl⟩
 refine bB hG [.agg (ek (jA c.session d'))] (spF hc.h0 hd') rfl ?_
 generalize (if iL (bls c.session) (bn c.session) then (9:Int) else 0)=e
 rw [show ofD (.tup [.nils, aS e])= .tup [.nils, O e] from rfl,lc,lf,QP]
 refine dB (aV 200 ?_)
 rw [Vf]
 simp (disch:=omega) only [go_sem,lD]
 exact hk _
def FM (lp:Blk) (v:AV) (H:Hp):Prop:=v= .bool true/\H.get 1=some (ae 45 [O 0])/\H.get 2=some (ae 45 [O 0])/\H.get 4=some (.dfr true)/\H.get 5=some lp
theorem Al (c:eu) (hc:COK c):bc 49 [.agg (aM c)] (·= .int .i64 0):=by
 refine aH hG ?_
 have e0:Hp.empty.nx=0:=rfl
 rw [show aq [D.agg (aM c)]=[.agg (aq (aM c))] from rfl,h49,aI,aI,bJ,am,e0]
 have g0:((Hp.empty.push (ae 42 (aq (aM c)))).push (ae 45 [O 0])).get 0=some (ae 42 (aq (aM c))):=by simp [af,am,e0]
 have g1:((Hp.empty.push (ae 42 (aq (aM c)))).push (ae 45 [O 0])).get 1=some (ae 45 [O 0]):=by simp [af,am,e0]
 have gn:((Hp.empty.push (ae 42 (aq (aM c)))).push (ae 45 [O 0])).nx=2:=rfl
 generalize (Hp.empty.push (ae 42 (aq (aM c)))).push (ae 45 [O 0])=H1 at g0 g1 gn
 rw [bL,cf (v:= .nils) g0 LK (by rw [ca];exact hc.m20),I3]
 refine dB (aV 200 ?_)
 rw [VE]
 simp (disch:=omega) only [go_sem,lD]
 generalize hE:es (es E2.empty _) _=t1
 have u1:t1 1= .ptr 0 0:=by rw [←hE];simp (disch:=omega) only [go_sem]
 have u2:t1 2= .ptr 1 0:=by rw [←hE];simp (disch:=omega) only [go_sem]
 have u3:t1 3= O 1:=by rw [←hE];simp (disch:=omega) only [go_sem]
 clear hE
 rw [VC,u3,u1,qX,show decide ((1:Int)>32)=false from rfl,eV,aI,gn]
 have p2:(H1.push (ae 45 [O 0])).get 2=some (ae 45 [O 0]):=by rw [af,gn,if_pos rfl]
 have ps:=dV.push H1 (ae 45 [O 0])
 have pn:(H1.push (ae 45 [O 0])).nx=3:=by rw [am,gn]
 generalize H1.push (ae 45 [O 0])=H2 at p2 ps pn
 rw [ex p2 Ak Lp rfl rfl (by simp),show ([AV.int .i64 0]:List AV).set 0 (O 0)=[O 0] from rfl]
 have q0:(H2.setb 2 (some (ae 45 [O 0]))).get 0=some (ae 42 (aq (aM c))):=by rw [V,if_neg (by decide),ps.2 0 (by omega)];exact g0
 have q1:(H2.setb 2 (some (ae 45 [O 0]))).get 1=some (ae 45 [O 0]):=by rw [V,if_neg (by decide),ps.2 1 (by omega)];exact g1
 have q2:(H2.setb 2 (some (ae 45 [O 0]))).get 2=some (ae 45 [O 0]):=by rw [V,if_pos rfl]
 have qn:(H2.setb 2 (some (ae 45 [O 0]))).nx=3:=by rw [au,pn]
 generalize H2.setb 2 (some (ae 45 [O 0]))=H3 at q0 q1 q2 qn
 rw [na q0]
 refine I8 fun H4 b s4 hb4 n4=> ?_
 rw [qn] at n4
 generalize hE:es t1 _=env
 have v1:env 1= .ptr 0 0:=by rw [←hE];simp (disch:=omega) only [go_sem,u1]
 have v2:env 2= .ptr 1 0:=by rw [←hE];simp (disch:=omega) only [go_sem,u2]
 have v5:env 5= .ptr 2 0:=by rw [←hE];simp (disch:=omega) only [go_sem]
 clear hE
 refine pV Bh ?_
 have aD:=At.push H4 (.dfr true)
 have sD:=dV.push H4 (.dfr true)
 have nD:(H4.push (.dfr true)).nx=H4.nx+1:=am _ _
 generalize H4.push (.dfr true)=H5 at aD sD nD
 generalize hlp:Blk.loop .ready none env 87 [34] (fH 49 1012) (fH 49 1013) H4.nx=lp
 have aL:=At.push H5 lp
 have sL:=dV.push H5 lp
 generalize H5.push lp=H6 at aL sL
 rw [n4] at aD
 rw [nD,n4] at aL
 rw [n4]
 have s46:=sD.trans sL
 have s36:=s4.trans s46
 refine B7 (F:=FM lp) (hb4.stay s46) hc.m20 (fun H7 K' s7 hK'=> ?_) fun v H7 hF=> ?_
 ·rw [pW]
  subst hlp
  have e1:(es (E2.set env 34 .nils) [(6,.nils)]) 1= .ptr 0 0:=by
   rw [hU _ _ _ (by decide) rfl];show (E2.set env 34 .nils) 1=_;rw [cM _ _ _ _ (by decide) (by decide) (by decide)];exact v1
  have e6:(es (E2.set env 34 .nils) [(6,.nils)]) 6= .nils:=by
   rw [hU _ _ _ (by decide) rfl];rfl
  have s37:=s36.trans s7
  have l7:=(aL.stay s7).2
  have d7:=((aD.stay sL).stay s7).2
  rw [n4] at l7
  refine jW (env':=es (E2.set env 34 .nils) [(6,.nils)]) l7 (by decide) (by decide) (fun K=>by rw [UG,cY _ _ _ (by decide)]) l7 (fun KK hk2=> ?_)
  refine Xn hc (by rw [V,if_neg (by decide),s37.2 0 (by omega)];exact q0) e1 e6 fun t'=> ?_
  refine hk2 _ _ (by rw [V,if_pos rfl]) ?_
  have hg:∀c:Nat,c≠4+1->∀X Y,Hp.get (Hp.setb (H7.setb (4+1) X) (4+1) Y) c=H7.get c:=fun c hc X Y=>by rw [V,if_neg hc,V,if_neg hc]
  refine hK' _ _ ⟨rfl, ?_, ?_, ?_, ?_⟩
  ·rw [hg 1 (by decide),s37.2 1 (by omega)];exact q1
  ·rw [hg 2 (by decide),s37.2 2 (by omega)];exact q2
  ·rw [hg 4 (by decide)];exact d7
  ·rw [V,if_pos rfl,n4]
 ·obtain⟨_,f1,f2,f3,f4⟩:=hF
  subst hlp
  rw [nr f4]
  simp (disch:=omega) only [go_sem]
  rw [U9,v5,v2,cf (v:= O 0) (by rw [V,if_neg (by decide)];exact f2) Ak rfl,ex (by rw [V,if_neg (by decide)];exact f1) Ak Lp rfl rfl (by simp)]
  try dsimp only
  have hd:Hp.get (Hp.setb (H7.setb 5 (some (Blk.loop .exhausted none env 87 [34] (fH 49 1012) (fH 49 1013) H4.nx))) 1 (some (ae 45 (([AV.int .i64 0]:List AV).set 0 (O 0))))) 4=some (.dfr true):=by rw [V,if_neg (by decide),V,if_neg (by decide)];exact f3
  rw [Zu hd,hU _ _ _ (by decide) rfl,show lk [(86,AV.int .i64 0)] 2 (env 2)=env 2 from rfl,v2,cf (v:= O 0) (by rw [V,if_neg (by decide),V,if_pos rfl]) Ak rfl]
  exact ax (aS 0) rfl
theorem th (c:eu) (hc:COK c) (h8:bc 8 [.agg (aM c)] (·= .int .i64 0)):bc 60 [.agg (aM c)] (·= .int .i64 0):=by
 refine aH hG ?_
 rw [show aq [D.agg (aM c)]=[.agg (aq (aM c))] from rfl,h60,aI,bJ,show Hp.empty.nx=0 from rfl]
 have g0:(Hp.empty.push (ae 42 (aq (aM c)))).get 0=some (ae 42 (aq (aM c))):=by simp [af,show Hp.empty.nx=0 from rfl]
 generalize Hp.empty.push (ae 42 (aq (aM c)))=H1 at g0
 rw [na g0,show AV.agg (aq (aM c))=ofD (.agg (aM c)) from rfl]
 refine bB hG [.agg (aM c)] h8 rfl ?_
 rw [show ofD (aS 0)= O 0 from rfl,mT,show (!decide ((0:Int)=0))=false from rfl,eV,na g0,show AV.agg (aq (aM c))=ofD (.agg (aM c)) from rfl]
 refine bB hG [.agg (aM c)] (Al c hc) rfl ?_
 exact ax (aS 0) rfl
theorem Gx (c:eu) (hc:COK c) (h8:bc 8 [.agg (aM c)] (·= .int .i64 0)):bc 18 [.agg (aM c)] (·= .tup [.sl 1 [.nils] 1,.int .i64 0]):=by
 refine aH hG ?_
 rw [show aq [D.agg (aM c)]=[.agg (aq (aM c))] from rfl,h18,aI,bJ,show Hp.empty.nx=0 from rfl]
 have g0:(Hp.empty.push (ae 42 (aq (aM c)))).get 0=some (ae 42 (aq (aM c))):=by simp [af,show Hp.empty.nx=0 from rfl]
 generalize Hp.empty.push (ae 42 (aq (aM c)))=H1 at g0
 rw [na g0,show AV.agg (aq (aM c))=ofD (.agg (aM c)) from rfl]
 refine bB hG [.agg (aM c)] (th c hc h8) rfl ?_
 rw [show ofD (aS 0)= O 0 from rfl,mT,show (!decide ((0:Int)=0))=false from rfl,eV,na g0]
 refine I8 fun H4 b s4 hb4 n4=> ?_
 refine cb 200 ?_
 rw [h61]
 refine LG hb4 hc.m20 fun e H5 hg=> ?_
 exact iy (d:= .tup [.sl 1 [.nils] 1, aS 0]) rfl (.tup _ _ _ (.cons _ _ _ _ _ _ (.sl e 0 1 1 none _ _ _ [.nils] [.nils] [] hg rfl (.fro [.nils])) (.fro [aS 0])))
theorem Mg (dm:List Dm) (ro:Option Nat) (H:Hp) (k:AEx->En->Hp->Bool):∀(t:E2),az 194 31 64 116 ro ⟨t,dm⟩ H k=
 (k .normal ⟨(es t [(7,t 18)]),dm⟩ H):=aj fun f=>by kernel_rfl
theorem N0 (dm:List Dm) (ro:Option Nat) (H:Hp) (k:AEx->En->Hp->Bool):∀(t:E2),az 194 31 64 117 ro ⟨t,dm⟩ H k=
 (E H 122 (t 3) fun v1=>
 E H 42 (t 2) fun v2=>
 eC 191 v1 [v2,(t 7)] H fun v4 H4=>
 aX v4 0 fun v6=>
 aX v4 1 fun v7=>
 aE v7 (fun _=>
 aU 66 [(0,(t 7)),(1,v6)] fun v13=>
 aA H4 66 (t 4) v13 fun H14=>
 aA H14 45 (t 5) (O 0) fun H15=>
 k .ret ⟨(es t (ao 19 [v4,v1,v2,t 7,v4,v6,v7,v7,t 7,v6,v13] [(8,v6),(9,v7)])),dm⟩ H15) (fun _=>
 k .normal ⟨(es t (ao 19 [v4,v1,v2,t 7,v4,v6,v7,v7] [(8,v6),(9,v7)])),dm⟩ H4)):=aj fun f=>by kernel_rfl
section
variable {H : Hp}
theorem K3 {l d nt:Nat} {env:E2} {ps:List Nat} {asg body:Code} {e:En} {k:AEx->En->Hp->Bool} (hl:H.get l=some (.loop .done (some .ret) env nt ps asg body d)):
  kE l e H k=k .ret e (H.setb l (some (.loop .exhausted (some .ret) env nt ps asg body d))):=by
 unfold kE
 rw [hl]
 dsimp only
 rw [cJ]
theorem Ea {n l d nt p:Nat} {env env':E2} {asg body:Code} {v:AV} {k:AV->Hp->Bool} {kp:AV->Hp->Bool} {H1:Hp} (hl:H.get l=some (.loop .ready none env nt [p] asg body d)) (hp:p<nt) (hp2:p<256)
  (hasg:∀K,gK n nt asg (some l) ⟨E2.set env p v,[]⟩ H K=K .normal ⟨env',[]⟩ H1) (hl1:H1.get l=some (.loop .ready none env nt [p] asg body d))
  (hbody:∀K,(∀(e:E2) (H2:Hp),H2.get l=some (.loop .busy none env nt [p] asg body d)->k (.bool false) (H2.setb l (some (.loop .done (some .ret) env nt [p] asg body d)))=true->K .ret ⟨e,[]⟩ H2=true)->
   gK n nt body (some l) ⟨env',[]⟩ (H1.setb l (some (.loop .busy none env nt [p] asg body d))) K=true):
  oV ⟨gK n,ff P G⟩ l [v] H k kp=true:=by
 unfold oV
 rw [hl]
 dsimp only
 unfold jD
 rw [show Nat.blt p nt=true from by simpa [cT] using hp,show Nat.blt p 256=true from by simpa [cT] using hp2]
 dsimp only
 refine Eq.trans (gH env p v _ hp2) ?_
 unfold jD
 dsimp only
 rw [hasg]
 dsimp only
 rw [hl1]
 dsimp only
 rw [cJ]
 refine hbody _ fun e H2 h2 hk=> ?_
 dsimp only
 rw [h2]
 dsimp only
 rw [cJ]
 exact hk
end
theorem Wf {d:Nat} {H:Hp} {k:fk->Hp->Bool} {i:Evs} (hd:H.get d=some (.dfr true)):∀(t:E2),ac Tryz.f64 i k .ret ⟨t,[.mark d]⟩ H=E (H.setb d (some (.dfr false))) 66 (t 4) fun v=>E (H.setb d (some (.dfr false))) 45 (t 5) fun w=>k (.ret (.tup [v,w])) (H.setb d (some (.dfr false))):=fun t=>by
 have h:∀t:E2,ac Tryz.f64 i k .ret ⟨t,[.mark d]⟩ H=(match H.get d with | some (.dfr true)=>H.put d (some (.dfr false)) fun H=>E H 66 (t 4) fun v=>E H 45 (t 5) fun w=>k (.ret (.tup [v,w])) H | _=>false):=aj fun f=>by kernel_rfl
 rw [h,hd]
 dsimp only
 rw [cJ]
theorem aDP {x:AV} (hx:AV.cells x=[x]) (k:AV->Bool):aU 66 [(0,.nils),(1,x)] k=k (.agg [.nils,x]):=by
 rw [VW]
 unfold mc
 rw [show qj [(0,1),(1,1)] [(0,.nils),(1,x)] [AV.nils,.nils]=some [.nils,x] from by simp only [qj];rw [hx];rfl,fX]
theorem Xq (k:AV->Bool):aU 66 [] k=k (.agg [.nils,.nils]):=by rw [VW];rfl
theorem QU {α:Type} {sz:Nat} {enc:α->List D} {xs:List α} {d:D} (h:Sl sz enc xs d):AV.cells (ofD d)=[ofD d]:=by rcases h with⟨rfl,_⟩| rfl<;>rfl
def FF (ok:Bool) (env:E2) (v:AV) (H:Hp):Prop:=H.get 5=some (.dfr true)/\
 ((ok=true/\∃x,Sl 1 iw [] x/\H.get 2=some (ae 66 [.nils,ofD x])/\H.get 3=some (ae 45 [O 0])/\H.get 6=some (.loop .done (some .ret) env 31 [18] (fH 64 116) (fH 64 117) 5))∨
   (ok=false/\H.get 2=some (ae 66 [.nils,.nils])/\H.get 3=some (ae 45 [O 0])/\H.get 6=some (.loop .ready none env 31 [18] (fH 64 116) (fH 64 117) 5)))
theorem wS (c:eu) (hc:COK c) (h8:bc 8 [.agg (aM c)] (·= .int .i64 0)) {f:FuncId} {ok:Bool} (e1:kf P f=false) (e2:iz P f=true) (hf:bc f [.agg (aM c),.nils] (fun d=>∃x,d= .tup [x,.bool ok]/\Sl 1 iw [] x)):
  bc 64 [.agg (aM c),.fn f [] []] (fun d=>∃x,d= .tup [.agg [.nils,x], aS (if ok then 0 else 5)]/\Sl 1 iw [] x):=by
 refine aH hG ?_
 have e0:Hp.empty.nx=0:=rfl
 rw [show aq [D.agg (aM c),.fn f [] []]=[.agg (aq (aM c)),.fn f [] []] from rfl,h64]
 simp only [aI,bJ,am,e0,ca,Nat.reduceAdd]
 rw [show AV.cells (.fn f [] [])=[.fn f [] []] from rfl]
 have g0:((((Hp.empty.push (ae 42 (aq (aM c)))).push (ae 122 [.fn f [] []])).push (ae 66 [.nils,.nils])).push (ae 45 [O 0])).get 0=some (ae 42 (aq (aM c))):=by simp [af,am,e0]
 have g1:((((Hp.empty.push (ae 42 (aq (aM c)))).push (ae 122 [.fn f [] []])).push (ae 66 [.nils,.nils])).push (ae 45 [O 0])).get 1=some (ae 122 [.fn f [] []]):=by simp [af,am,e0]
 have g2:((((Hp.empty.push (ae 42 (aq (aM c)))).push (ae 122 [.fn f [] []])).push (ae 66 [.nils,.nils])).push (ae 45 [O 0])).get 2=some (ae 66 [.nils,.nils]):=by simp [af,am,e0]
 have g3:((((Hp.empty.push (ae 42 (aq (aM c)))).push (ae 122 [.fn f [] []])).push (ae 66 [.nils,.nils])).push (ae 45 [O 0])).get 3=some (ae 45 [O 0]):=by simp [af,am,e0]
 have gn:((((Hp.empty.push (ae 42 (aq (aM c)))).push (ae 122 [.fn f [] []])).push (ae 66 [.nils,.nils])).push (ae 45 [O 0])).nx=4:=rfl
 generalize (((Hp.empty.push (ae 42 (aq (aM c)))).push (ae 122 [.fn f [] []])).push (ae 66 [.nils,.nils])).push (ae 45 [O 0])=H1 at g0 g1 g2 g3 gn
 rw [na g0,show AV.agg (aq (aM c))=ofD (.agg (aM c)) from rfl]
 refine bB hG [.agg (aM c)] (th c hc h8) rfl ?_
 rw [show ofD (aS 0)= O 0 from rfl,mT,show (!decide ((0:Int)=0))=false from rfl,eV,na g0]
 refine I8 fun H4 b s4 hb4 n4=> ?_
 rw [gn] at n4
 generalize hE:es E2.empty _=env
 have v2:env 2= .ptr 0 0:=by rw [←hE];simp (disch:=omega) only [go_sem]
 have v3:env 3= .ptr 1 0:=by rw [←hE];simp (disch:=omega) only [go_sem]
 have v4:env 4= .ptr 2 0:=by rw [←hE];simp (disch:=omega) only [go_sem]
 have v5:env 5= .ptr 3 0:=by rw [←hE];simp (disch:=omega) only [go_sem]
 clear hE
 refine pV Bh ?_
 have aD:=At.push H4 (.dfr true)
 have sD:=dV.push H4 (.dfr true)
 have nD:(H4.push (.dfr true)).nx=H4.nx+1:=am _ _
 generalize H4.push (.dfr true)=H5 at aD sD nD
 rw [n4]
 have aL:=At.push H5 (.loop .ready none env 31 [18] (fH 64 116) (fH 64 117) (4+1))
 have sL:=dV.push H5 (.loop .ready none env 31 [18] (fH 64 116) (fH 64 117) (4+1))
 generalize H5.push (.loop .ready none env 31 [18] (fH 64 116) (fH 64 117) (4+1))=H6 at aL sL
 rw [n4] at aD
 rw [nD,n4] at aL
 have s46:=sD.trans sL
 have s16:=s4.trans s46
 refine B7 (F:=FF ok env) (hb4.stay s46) hc.m20 (fun H7 K' s7 hK'=> ?_) fun v H7 hF=> ?_
 ·rw [pW]
  have e2':(es (E2.set env 18 .nils) [(7,.nils)]) 2= .ptr 0 0:=by
   rw [hU _ _ _ (by decide) rfl];show (E2.set env 18 .nils) 2=_;rw [cM _ _ _ _ (by decide) (by decide) (by decide)];exact v2
  have e3':(es (E2.set env 18 .nils) [(7,.nils)]) 3= .ptr 1 0:=by
   rw [hU _ _ _ (by decide) rfl];show (E2.set env 18 .nils) 3=_;rw [cM _ _ _ _ (by decide) (by decide) (by decide)];exact v3
  have e4':(es (E2.set env 18 .nils) [(7,.nils)]) 4= .ptr 2 0:=by
   rw [hU _ _ _ (by decide) rfl];show (E2.set env 18 .nils) 4=_;rw [cM _ _ _ _ (by decide) (by decide) (by decide)];exact v4
  have e5':(es (E2.set env 18 .nils) [(7,.nils)]) 5= .ptr 3 0:=by
   rw [hU _ _ _ (by decide) rfl];show (E2.set env 18 .nils) 5=_;rw [cM _ _ _ _ (by decide) (by decide) (by decide)];exact v5
  have e7':(es (E2.set env 18 .nils) [(7,.nils)]) 7= .nils:=by
   rw [hU _ _ _ (by decide) rfl];rfl
  have s17:=s16.trans s7
  have l7:=(aL.stay s7).2
  have d7:=((aD.stay sL).stay s7).2
  have hx:∀(X:Option Blk) (i:Nat),i<4->Hp.get (H7.setb (4+1+1) X) i=H1.get i:=fun X i hi=>by rw [V,if_neg (by omega),s17.2 i (by omega)]
  cases ok with
  | true=>
   refine Ea (env':=es (E2.set env 18 .nils) [(7,.nils)]) l7 (by decide) (by decide) (fun K=>by rw [Mg,cY _ _ _ (by decide)]) l7 (fun KK hk2=> ?_)
   rw [N0,e3',cf (v:= .fn f [] []) ((hx _ 1 (by decide)).trans g1) Oc rfl,e2',na ((hx _ 0 (by decide)).trans g0),o4 e1 e2,e7',show (([]:List AV)++[.agg (aq (aM c)),.nils]++[])=aq [.agg (aM c),.nils] from rfl]
   refine ei hG [.agg (aM c),.nils] hf rfl ?_
   rintro d ⟨x,rfl,hxx⟩
   rw [show ofD (.tup [x,.bool true])= .tup [ofD x,.bool true] from rfl,lc,lf,dH,aDP (QU hxx),e4',rK (old:=[.nils,.nils]) (new:=[.nils,ofD x]) ye (by rw [yC];rfl) rfl (by simp only [kM,mh,eT hxx];rfl) ((hx _ 2 (by decide)).trans g2),e5',ex (cs:=[O 0]) (by rw [V,if_neg (by decide)];exact (hx _ 3 (by decide)).trans g3) Ak Lp rfl rfl (by simp)]
   refine hk2 _ _ (by rw [V,if_neg (by decide),V,if_neg (by decide),V,if_pos rfl]) ?_
   refine hK' _ _ ⟨?_,.inl ⟨rfl,x,hxx, ?_, ?_, ?_⟩⟩
   ·rw [V,if_neg (by decide),V,if_neg (by decide),V,if_neg (by decide),V,if_neg (by decide)];exact d7
   ·rw [V,if_neg (by decide),V,if_neg (by decide),V,if_pos rfl]
   ·rw [V,if_neg (by decide),V,if_pos rfl];rfl
   ·rw [V,if_pos rfl]
  | false=>
   refine jW (env':=es (E2.set env 18 .nils) [(7,.nils)]) l7 (by decide) (by decide) (fun K=>by rw [Mg,cY _ _ _ (by decide)]) l7 (fun KK hk2=> ?_)
   rw [N0,e3',cf (v:= .fn f [] []) ((hx _ 1 (by decide)).trans g1) Oc rfl,e2',na ((hx _ 0 (by decide)).trans g0),o4 e1 e2,e7',show (([]:List AV)++[.agg (aq (aM c)),.nils]++[])=aq [.agg (aM c),.nils] from rfl]
   refine ei hG [.agg (aM c),.nils] hf rfl ?_
   rintro d ⟨x,rfl,hxx⟩
   rw [show ofD (.tup [x,.bool false])= .tup [ofD x,.bool false] from rfl,lc,lf,eV]
   refine hk2 _ _ (by rw [V,if_pos rfl]) ?_
   refine hK' _ _ ⟨?_,.inr ⟨rfl, ?_, ?_, ?_⟩⟩
   ·rw [V,if_neg (by decide),V,if_neg (by decide)];exact d7
   ·rw [V,if_neg (by decide)];exact (hx _ 2 (by decide)).trans g2
   ·rw [V,if_neg (by decide)];exact (hx _ 3 (by decide)).trans g3
   ·rw [V,if_pos rfl]
 ·obtain⟨f5,⟨rfl,x,hxx,f2,f3,f6⟩| ⟨rfl,f2,f3,f6⟩⟩:=hF
  ·rw [K3 f6]
   simp (disch:=omega) only [go_sem]
   rw [Wf (d:=5) (by rw [V,if_neg (by decide)];exact f5),v4,v5,iR ye (cs:=[.nils,ofD x]) (by rw [yC];rfl) (by rw [V,if_neg (by decide),V,if_neg (by decide)];exact f2),cf (v:= O 0) (by rw [V,if_neg (by decide),V,if_neg (by decide)];exact f3) Ak rfl]
   exact ax (.tup [.agg [.nils,x], aS 0]) ⟨x,rfl,hxx⟩
  ·rw [nr f6]
   simp (disch:=omega) only [go_sem]
   rw [V3,Xq,v4,rK (old:=[.nils,.nils]) (new:=[.nils,.nils]) ye (by rw [yC];rfl) rfl rfl (by rw [V,if_neg (by decide)];exact f2),v5,ex (cs:=[O 0]) (by rw [V,if_neg (by decide),V,if_neg (by decide)];exact f3) Ak Lp rfl rfl (by simp)]
   rw [Wf (d:=5) (by rw [V,if_neg (by decide),V,if_neg (by decide),V,if_neg (by decide)];exact f5)]
   rw [hU _ _ _ (by decide) rfl,hU _ _ _ (by decide) rfl,show lk [(30,AV.agg [.nils,.nils])] 4 (env 4)=env 4 from rfl,show lk [(30,AV.agg [.nils,.nils])] 5 (env 5)=env 5 from rfl,v4,v5,iR ye (cs:=[.nils,.nils]) (by rw [yC];rfl) (by rw [V,if_neg (by decide),V,if_neg (by decide),V,if_pos rfl]),cf (v:= O 5) (by rw [V,if_neg (by decide),V,if_pos rfl]) Ak rfl]
   exact ax (.tup [.agg [.nils,.nils], aS 5]) ⟨.nils,rfl,.inl ⟨rfl,rfl⟩⟩
section
variable {c : eu}
theorem V2 {H:Hp} {f:FuncId} {e:Int} {K:AV->Hp->Bool} {b1 b2:Nat} (hb1:H.get b1=some (ae 42 (aq (aM c)))) (hb2:H.get b2=some (ae 66 [.nils,.nils])) (hf:bc 64 [.agg (aM c),.fn f [] []] (fun d=>∃x,d= .tup [.agg [.nils,x], aS e]/\Sl 1 iw [] x))
  (hK:∀x H',Sl 1 iw [] x->K (.tup [.agg [.nils,ofD x], O e]) H'=true):
  (E H 42 (.ptr b1 0) fun v4=>ay 64 [v4,(.fn f [] [])] H fun v5 H5=>aX v5 0 fun v6=>aX v5 1 fun v7=>aA H5 66 (.ptr b2 0) v6 fun H8=>E H8 66 (.ptr b2 0) fun v10=>K (.tup [v10,v7]) H8)=true:=by
 rw [na hb1,show [AV.agg (aq (aM c)),.fn f [] []]=aq [.agg (aM c),.fn f [] []] from rfl]
 refine ei hG [.agg (aM c),.fn f [] []] hf rfl ?_
 rintro d ⟨x,rfl,hx⟩
 rw [show ofD (.tup [.agg [.nils,x], aS e])= .tup [.agg [.nils,ofD x], O e] from rfl,lc,lf,rK (old:=[.nils,.nils]) (new:=[.nils,ofD x]) ye (by rw [yC];rfl) rfl (by simp only [kM,mh,eT hx];rfl) hb2,iR ye (cs:=[.nils,ofD x]) (by rw [yC];rfl) (by rw [V,if_pos rfl])]
 exact hK x _ hx
open Classical in
theorem GZ (hc:COK c) (h8:bc 8 [.agg (aM c)] (·= .int .i64 0)):bc 63 [.agg (aM c)] (fun d=>∃x,d= .tup [.agg [.nils,x], aS 5]/\Sl 1 iw [] x):=by
 have hf:=wS c hc h8 (f:=138) (ok:=false) (by kernel_rfl) (by kernel_rfl) (by
  intro w vs L hg hd
  exact CallsIn.mono (EQ c hc.hs hc.h0 hc.one hc.ord hc.o0 w vs L hg hd) fun en w' ⟨v,d,M,h1,h2,h3⟩=>⟨v,d,M,h1,⟨.nils,h2,.inl ⟨rfl,rfl⟩⟩,h3⟩)
 refine aH hG ?_
 rw [show aq [D.agg (aM c)]=[.agg (aq (aM c))] from rfl,h63,aI,aI,bJ,am,show Hp.empty.nx=0 from rfl]
 have g0:((Hp.empty.push (ae 42 (aq (aM c)))).push (ae 66 [.nils,.nils])).get 0=some (ae 42 (aq (aM c))):=by simp [af,am,show Hp.empty.nx=0 from rfl]
 have g1:((Hp.empty.push (ae 42 (aq (aM c)))).push (ae 66 [.nils,.nils])).get (0+1)=some (ae 66 [.nils,.nils]):=by simp [af,am,show Hp.empty.nx=0 from rfl]
 exact V2 (K:=fun v H=>mG (fun d=>∃x,d= .tup [.agg [.nils,x], aS 5]/\Sl 1 iw [] x) (.ret v) H) g0 g1 hf fun x H' hx=>ax (.tup [.agg [.nils,x], aS 5]) ⟨x,rfl,hx⟩
open Classical in
theorem wL (hc:COK c) (h8:bc 8 [.agg (aM c)] (·= .int .i64 0)):bc 20 [.agg (aM c)] (fun d=>∃x,d= .tup [.agg [.nils,x], aS (if iL (bls c.session) (bn c.session) then 5 else 0)]/\Sl 1 iw [] x):=by
 have hf:=wS c hc h8 (f:=65) (ok:=decide (¬iL (bls c.session) (bn c.session))) (by kernel_rfl) (by kernel_rfl) (Fj c hc.hs hc.h0 hc.one hc.ord hc.o0)
 have he:(if decide (¬iL (bls c.session) (bn c.session))=true then (0:Int) else 5)=if iL (bls c.session) (bn c.session) then 5 else 0:=by
  by_cases h:iL (bls c.session) (bn c.session)<;>simp [h]
 rw [he] at hf
 refine aH hG ?_
 rw [show aq [D.agg (aM c)]=[.agg (aq (aM c))] from rfl,h20,aI,aI,bJ,am,show Hp.empty.nx=0 from rfl]
 have g0:((Hp.empty.push (ae 42 (aq (aM c)))).push (ae 66 [.nils,.nils])).get 0=some (ae 42 (aq (aM c))):=by simp [af,am,show Hp.empty.nx=0 from rfl]
 have g1:((Hp.empty.push (ae 42 (aq (aM c)))).push (ae 66 [.nils,.nils])).get (0+1)=some (ae 66 [.nils,.nils]):=by simp [af,am,show Hp.empty.nx=0 from rfl]
 exact V2 (K:=fun v H=>mG (fun d=>∃x,d= .tup [.agg [.nils,x], aS (if iL (bls c.session) (bn c.session) then 5 else 0)]/\Sl 1 iw [] x) (.ret v) H) g0 g1 hf fun x H' hx=>ax (.tup [.agg [.nils,x], aS _]) ⟨x,rfl,hx⟩
open Classical in
theorem zV (hc:COK c) (h8:bc 8 [.agg (aM c)] (·= .int .i64 0)):bc 19 [.agg (aM c)] (·= .tup [.int .i64 (if iL (bls c.session) (bn c.session) then 4 else 3),.int .i64 0]):=by
 refine aH hG ?_
 rw [show aq [D.agg (aM c)]=[.agg (aq (aM c))] from rfl,h19,aI,bJ,show Hp.empty.nx=0 from rfl]
 have g0:(Hp.empty.push (ae 42 (aq (aM c)))).get 0=some (ae 42 (aq (aM c))):=by simp [af,show Hp.empty.nx=0 from rfl]
 have gn:(Hp.empty.push (ae 42 (aq (aM c)))).nx=1:=rfl
 generalize Hp.empty.push (ae 42 (aq (aM c)))=H1 at g0 gn
 rw [na g0,show AV.agg (aq (aM c))=ofD (.agg (aM c)) from rfl]
 refine ei hG [.agg (aM c)] (GZ hc h8) rfl ?_
 rintro d ⟨x,rfl,hx⟩
 rw [show ofD (.tup [.agg [.nils,x], aS 5])= .tup [.agg [.nils,ofD x], O 5] from rfl,lc,lf,aI,rK (old:=[.nils,.nils]) (new:=[.nils,ofD x]) (b:=H1.nx) (H:=H1.push (ae 66 [.nils,.nils])) ye (by rw [yC];rfl) rfl (by simp only [kM,mh,eT hx];rfl) (by rw [af,if_pos rfl])]
 have s2:=ii H1 (ae 66 [.nils,.nils]) (ae 66 [.nils,ofD x])
 generalize Hp.setb (H1.push (ae 66 [.nils,.nils])) H1.nx (some (ae 66 [.nils,ofD x]))=H2 at s2
 have q0:H2.get 0=some (ae 42 (aq (aM c))):=(s2.2 0 (by omega)).trans g0
 rw [na q0,show AV.agg (aq (aM c))=ofD (.agg (aM c)) from rfl]
 refine ei hG [.agg (aM c)] (wL hc h8) rfl ?_
 rintro d ⟨x2,rfl,hx2⟩
 generalize he:(if iL (bls c.session) (bn c.session) then (5:Int) else 0)=e2
 rw [show ofD (.tup [.agg [.nils,x2], aS e2])= .tup [.agg [.nils,ofD x2], O e2] from rfl,lc,lf,aI,rK (old:=[.nils,.nils]) (new:=[.nils,ofD x2]) (b:=H2.nx) (H:=H2.push (ae 66 [.nils,.nils])) ye (by rw [yC];rfl) rfl (by simp only [kM,mh,eT hx2];rfl) (by rw [af,if_pos rfl])]
 have s3:=ii H2 (ae 66 [.nils,.nils]) (ae 66 [.nils,ofD x2])
 generalize Hp.setb (H2.push (ae 66 [.nils,.nils])) H2.nx (some (ae 66 [.nils,ofD x2]))=H3 at s3
 have r0:H3.get 0=some (ae 42 (aq (aM c))):=(s3.2 0 (by have:=s2.1;omega)).trans q0
 generalize hE:es E2.empty _=t1
 have u1:t1 1= .ptr 0 0:=by rw [←hE];simp (disch:=omega) only [go_sem]
 have u5:t1 5= O 5:=by rw [←hE];simp (disch:=omega) only [go_sem]
 have u7:t1 7= O e2:=by rw [←hE];simp (disch:=omega) only [go_sem]
 clear hE
 have h50:((5:Int)=0)=False:=by simp
 have h55:((5:Int)=5)=True:=by simp
 have h05:((0:Int)=5)=False:=by simp
 have h00:((0:Int)=0)=True:=by simp
 by_cases hv:iL (bls c.session) (bn c.session)
 ·rw [if_pos hv] at he⊢
  subst he
  simp (disch:=omega) only [go_sem,N1,Mn,u5,u7,h50,h55,h05,h00,Mv,OH,Og,N7,N4,UH,u1,r0]
  rw [show ew 31 (aq (aM c))=some (aq (aM c)) from rfl,fX,show AV.agg (aq (aM c))=ofD (.agg (aM c)) from rfl]
  refine bB hG [.agg (aM c)] (th c hc h8) rfl ?_
  rw [show ofD (aS 0)= O 0 from rfl]
  simp (disch:=omega) only [go_sem,h55,h00,WA,r19]
  exact ax (.tup [aS 4, aS 0]) rfl
 ·rw [if_neg hv] at he⊢
  subst he
  simp (disch:=omega) only [go_sem,N1,Mn,u5,u7,h50,h55,h05,h00,Mv,OH,Og,N7,N4,r19]
  exact ax (.tup [aS 3, aS 0]) rfl
end
def I6 (c:eu) (m:Nat) (e:En) (H:Hp):Prop:=∃n:Nat,n<=c.house.doors.length/\m=c.house.doors.length - n/\e.dm=[]/\e.t 3= O n/\e.t 1= .ptr 0 0/\H.get 0=some (ae 42 (aq (aM c)))
theorem RP {c:eu} (ho:jk c):bc 6 [.agg (aM c)] (fun d=>∃b:Bool,d= .bool b):=by
 have hno:∀H,mG (fun d=>∃b:Bool,d= .bool b) (.ret (.bool false)) H=true:=fun H=>ax (.bool false) ⟨false,rfl⟩
 have l1:=ho.house.roomsL
 have l2:=ho.house.doorsL
 have l3:=ho.house.waysL
 have l4:=ho.st.keysL
 have l5:=ho.st.stsL
 have l6:=ho.mksL
 have l7:=ho.stopsL
 have hd:=ho.house.doors
 refine aH hG ?_
 rw [show aq [D.agg (aM c)]=[.agg (aq (aM c))] from rfl,cV,h6]
 by_cases q1:c.house.rooms.length<=8
 rotate_left
 ·have e1:((8:Int)<(c.house.rooms.length:Int))=True:=du (by omega)
  simp (disch:=omega) only [go_sem,aF ho.house.rooms lC,e1,r6]
  exact hno _
 have e1:((8:Int)<(c.house.rooms.length:Int))=False:=cm (by omega)
 by_cases q2:c.house.doors.length<=4
 rotate_left
 ·have e2:((4:Int)<(c.house.doors.length:Int))=True:=du (by omega)
  simp (disch:=omega) only [go_sem,aF ho.house.rooms lC,aF hd mH,e1,e2,r6]
  exact hno _
 have e2:((4:Int)<(c.house.doors.length:Int))=False:=cm (by omega)
 by_cases q3:c.house.ways.length<=20
 rotate_left
 ·have e3:((20:Int)<(c.house.ways.length:Int))=True:=du (by omega)
  simp (disch:=omega) only [go_sem,aF ho.house.rooms lC,aF hd mH,aF ho.house.ways ru,e1,e2,e3,r6]
  exact hno _
 have e3:((20:Int)<(c.house.ways.length:Int))=False:=cm (by omega)
 by_cases q4:c.keys.length<=12
 rotate_left
 ·have e4:((12:Int)<(c.keys.length:Int))=True:=du (by omega)
  simp (disch:=omega) only [go_sem,aF ho.house.rooms lC,aF hd mH,aF ho.house.ways ru,aF ho.st.keys jE,e1,e2,e3,e4,r6]
  exact hno _
 have e4:((12:Int)<(c.keys.length:Int))=False:=cm (by omega)
 by_cases q5:c.stations.length<=10
 rotate_left
 ·have e5:((10:Int)<(c.stations.length:Int))=True:=du (by omega)
  simp (disch:=omega) only [go_sem,aF ho.house.rooms lC,aF hd mH,aF ho.house.ways ru,aF ho.st.keys jE,aF ho.st.sts jR,e1,e2,e3,e4,e5,r6]
  exact hno _
 have e5:((10:Int)<(c.stations.length:Int))=False:=cm (by omega)
 by_cases q6:c.marks.length<=14
 rotate_left
 ·have e6:((14:Int)<(c.marks.length:Int))=True:=du (by omega)
  simp (disch:=omega) only [go_sem,aF ho.house.rooms lC,aF hd mH,aF ho.house.ways ru,aF ho.st.keys jE,aF ho.st.sts jR,aF ho.mks EP,e1,e2,e3,e4,e5,e6,r6]
  exact hno _
 have e6:((14:Int)<(c.marks.length:Int))=False:=cm (by omega)
 by_cases q7:c.session.stops.length<=6
 rotate_left
 ·have e7:((6:Int)<(c.session.stops.length:Int))=True:=du (by omega)
  simp (disch:=omega) only [go_sem,aF ho.house.rooms lC,aF hd mH,aF ho.house.ways ru,aF ho.st.keys jE,aF ho.st.sts jR,aF ho.mks EP,aF ho.stops jX,e1,e2,e3,e4,e5,e6,e7,r6]
  exact hno _
 have e7:((6:Int)<(c.session.stops.length:Int))=False:=cm (by omega)
 simp (disch:=omega) only [go_sem,aF ho.house.rooms lC,aF hd mH,aF ho.house.ways ru,aF ho.st.keys jE,aF ho.st.sts jR,aF ho.mks EP,aF ho.stops jX,e1,e2,e3,e4,e5,e6,e7]
 refine bB hG [.agg (aC c.order), aS 60] (AJ ho.order 60 (by decide) (by decide)) rfl ?_
 by_cases q8:tO c.order<=50
 rotate_left
 ·have e8:((50:Int)<min (tO c.order:Int) 60)=True:=du (by omega)
  simp (disch:=omega) only [go_sem,e1,e2,e3,e4,e5,e6,e7,e8,r6]
  exact hno _
 have e8:((50:Int)<min (tO c.order:Int) 60)=False:=cm (by omega)
 simp (disch:=omega) only [go_sem,e1,e2,e3,e4,e5,e6,e7,e8]
 refine aZ (I6 c) (fun m e H hi=> ?_) (m:=c.house.doors.length) ?_
 rotate_left
 ·exact⟨0,bN _,rfl,rfl,by first | rfl | (simp (disch:=omega) only [go_sem]<;>rfl),by first | rfl | (simp (disch:=omega) only [go_sem]<;>rfl),by rw [cV];simp (disch:=omega) only [go_sem,bZ]⟩
 obtain⟨n,hn',rfl,hdm,g3,g1,hg0⟩:=hi
 obtain⟨t,dm⟩:=e
 dsimp only at hdm g3 g1
 subst hdm
 have hg0':=hg0
 rw [cV] at hg0
 simp only [go_sem] at hg0
 refine aV 200 ?_
 rw [aCE]
 by_cases hlt:n<c.house.doors.length
 ·have hmem:=cO hlt
  have z1:((n:Int)<(c.house.doors.length:Int))=True:=du (by omega)
  by_cases q9:(10:Int)<BX (c.house.doors[n].hours.length:Int) (c.house.doors[n].shut.length:Int)
  ·have z2:=du q9
   simp (disch:=omega) only [go_sem,g3,g1,hg0,z1,z2,DC,aF hd mH,bC hd mH Ks DT hlt,bG jx hlt (by decide:0<2),gt jx c.house.doors n 1 hlt (by decide),rm,aF (ho.house.hours _ hmem) oF,aF (ho.house.shut _ hmem) oF,r6]
   exact hno _
  ·have z2:=cm q9
   simp (disch:=omega) only [go_sem,g3,g1,hg0,z1,z2,DC,aF hd mH,bC hd mH Ks DT hlt,bG jx hlt (by decide:0<2),gt jx c.house.doors n 1 hlt (by decide),rm,aF (ho.house.hours _ hmem) oF,aF (ho.house.shut _ hmem) oF]
   exact bd (m':=c.house.doors.length - (n+1)) (by omega) ⟨n+1,by omega,rfl,rfl,by simp (disch:=omega) only [go_sem];congr 1,by first | rfl | (simp (disch:=omega) only [go_sem,g1]<;>rfl),hg0'⟩
 ·have z1:((n:Int)<(c.house.doors.length:Int))=False:=cm (by omega)
  simp (disch:=omega) only [go_sem,g3,g1,hg0,z1,aF hd mH,aEF,r6]
  exact ax (.bool true) ⟨true,rfl⟩
def noM (c:eu):eu:=⟨c.house,c.session,c.ink,c.keys,c.dk,c.stations,c.dst,[],.nils,c.start,c.since,c.order⟩
theorem jk.noM {c:eu} (h:jk c):jk (noM c):=⟨h.house,h.stops,h.stopsL,⟨h.st.keys,h.st.keysL,h.st.rooms,h.st.roomsL,h.st.sts,h.st.stsL,h.st.names⟩,.inl ⟨rfl,rfl⟩,by simp [Go.S5.noM],h.order⟩
theorem cZ.a1 {o:ai} (h:cZ o):Ev.one (ofD o.dn)=true:=by cases h with | mk _ _ _ _ _ _ _ _ _ h=>exact eT h
theorem cZ.a2 {o:ai} (h:cZ o):Ev.one (ofD o.dk)=true:=by cases h with | mk _ _ _ _ _ _ _ _ _ _ _ _ h=>exact eT h
theorem jk.one1 {x:eu} (h:jk x):(aq (aM x)).all Ev.one=true:=by
 rw [cV]
 simp only [aq,kM,mh,eT h.house.rooms,eT h.house.doors,eT h.house.ways,eT h.stops,eT h.st.keys,eT h.st.sts,eT h.mks,h.order.a1,h.order.a2,nq,kb]
 rfl
theorem wT {c:eu} (h:gJ c=0):fQ c.session=0/\fu c.order=0:=by
 unfold gJ at h
 split at h
 ·split at h
  ·rename_i h2
   refine⟨h2, ?_⟩
   split at h
   ·split at h
    ·split at h
     ·split at h
      ·exact h
      ·cases h
     ·exact absurd h (by assumption)
    ·exact absurd h (by assumption)
   ·cases h
  ·exact absurd h (by assumption)
 ·exact absurd h (by assumption)
theorem jk.cok {c:eu} (h:jk c) (h0:gJ (Go.S5.noM c)=0):COK (Go.S5.noM c):=⟨h.stops,(wT h0).1,h.noM.one1,h.order,(wT h0).2,rfl⟩
section
variable {c : eu}
theorem W8 (H:Hp) (k:AV->Bool):ak 59 (ofD (.sl 1 [.nils] 1)) H k=k (O 1):=by kernel_rfl
theorem Wk (k:AV->Bool):ah 59 (ofD (.sl 1 [.nils] 1)) (O 0) k=k (.dat (.ptr [.nils] 0)):=by kernel_rfl
theorem aBB (H:Hp) (k:AV->Bool):E H 64 (.dat (.ptr [.nils] 0)) k=k .nils:=ldD aBC rfl
theorem aCG {H:Hp} {t:E2} {x:D} {k:AEx->En->Hp->Bool} (hx:Sl 1 iw [] x) (h1:H.get 1=some (ae 66 [.nils,ofD x])) (t3:t 3=ofD (.sl 1 [.nils] 1)) (t4:t 4= O 0) (t6:t 6= O 0) (t7:t 7= .ptr 1 0) (t11:t 11= O 0)
  (hk:∀t',t' 74= .bool false->t' 5=t 5->t' 8=t 8->t' 10=t 10->k .normal ⟨t',[]⟩ H=true):az 191 99 5 1020 none ⟨t,[]⟩ H k=true:=by
 have h00:((0:Int)=0)=True:=by simp
 have h11:((1:Int)=1)=True:=by simp
 have hlx:=fun (H:Hp) (k:AV->Bool)=>aF (k:=k) (H:=H) hx kQ
 have hgt:((0:Int)<0+0+((0:Nat):Int))=False:=by simp
 rw [ZO,t3,t4,t6,t7,t11]
 simp (disch:=omega) only [go_sem,h00,h11,W8,Wk,aBB,tb,gM,h1,hlx,hgt,jG]
 refine hk _ ?_ ?_ ?_ ?_
 all_goals simp (disch:=omega) only [go_sem,hgt,i9]
theorem Zj {H:Hp} {t:E2} {b:Bool} {k:AEx->En->Hp->Bool} (hsan:bc 7 [] (·= .bool true)) (t5:t 5= O (if b then 4 else 3)) (t8:t 8= O (if b then 5 else 0)) (t10:t 10= .bool b)
  (hk:∀t',t' 2= .bool true->k .normal ⟨t',[]⟩ H=true):az 191 99 5 1022 none ⟨t,[]⟩ H k=true:=by
 rw [aCT,t5,t8,t10]
 refine bB hG [] hsan rfl ?_
 rw [show ofD (.bool true)= .bool true from rfl]
 have h44:((4:Int)=4)=True:=by simp
 have h55:((5:Int)=5)=True:=by simp
 have h33:((3:Int)=3)=True:=by simp
 have h00:((0:Int)=0)=True:=by simp
 cases b with
 | true=>
  simp (disch:=omega) only [go_sem,h44,h55,h33,h00,fq,eP]
  refine hk _ ?_
  simp (disch:=omega) only [go_sem,h44,h55,dL]
 | false=>
  simp (disch:=omega) only [go_sem,h44,h55,h33,h00,fq,eP]
  refine hk _ ?_
  simp (disch:=omega) only [go_sem,h33,h00,dL]
end
theorem aGL:P.cellsOf 22=1:=by kernel_rfl
theorem aGH:P.cellsOf 23=1:=by kernel_rfl
theorem aGE:P.cellsOf 24=1:=by kernel_rfl
theorem aGB:P.cellsOf 26=3:=by kernel_rfl
theorem aGC:P.cellsOf 33=3:=by kernel_rfl
theorem aGM:P.cellsOf 34=1:=by kernel_rfl
theorem aGF:P.cellsOf 35=1:=by kernel_rfl
theorem aGK:P.cellsOf 37=1:=by kernel_rfl
theorem aGG:P.cellsOf 38=1:=by kernel_rfl
theorem aGD:P.cellsOf 48=2:=by kernel_rfl
theorem aGA:P.cellsOf 50=5:=by kernel_rfl
theorem aGJ:P.cellsOf 76=1:=by kernel_rfl
theorem aFY (s:Ko):(wo s).length=5:=rfl
def aGI (s:Arc):List D:=[.int .i64 s.from_,.int .i64 s.len]
theorem aFZ:P.cellsOf 36=1:=by kernel_rfl
theorem un3:P.underlying 3=some (.int .i64):=by kernel_rfl
theorem tq:CQ P G 7 [] (·= .bool true):=by
 intro w vs L hg hd
 have hv:vs=#[]:=by obtain⟨vs⟩:=vs;cases hd;rfl
 subst hv
 have h:=Go.Q5.sanity w hg
 refine CallsIn.mono (callsIn_wide.2 h) fun en w' ⟨he,hb⟩=> ?_
 exact⟨.bool true,.bool true,[],he,rfl,.bool _,by simp,hb⟩
theorem Jx (c:eu):(aq (aM c)).set (0+20) .nils=aq (aM (noM c)):=by rw [cV,cV];rfl
open Classical in
theorem RB {c:eu} (ho:jk c):CQ P G 5 [.agg (aM c)] (·= .bool true):=by
 have hn:=ho.noM
 refine aH hG ?_
 have e0:Hp.empty.nx=0:=rfl
 rw [show aq [D.agg (aM c)]=[.agg (aq (aM c))] from rfl,h5,aI,bJ,e0]
 have a0:(Hp.empty.push (.cells (some 42) false (aq (aM c)))).get 0=some (.cells (some 42) false (aq (aM c))):=by simp [af,e0]
 have an:(Hp.empty.push (.cells (some 42) false (aq (aM c)))).nx=1:=rfl
 generalize Hp.empty.push (.cells (some 42) false (aq (aM c)))=H0 at a0 an
 rw [bL,ex a0 LK aFZ rfl rfl (by rw [cL,xF];decide),Jx]
 have g0:(H0.setb 0 (some (.cells (some 42) false (aq (aM (noM c)))))).get 0=some (.cells (some 42) false (aq (aM (noM c)))):=by rw [V,if_pos rfl]
 have gn:(H0.setb 0 (some (.cells (some 42) false (aq (aM (noM c)))))).nx=1:=by rw [au,an]
 generalize H0.setb 0 (some (.cells (some 42) false (aq (aM (noM c)))))=H1 at g0 gn
 have C:=fun k=>na (k:=k) g0
 generalize hE:es E2.empty _=t1
 have u1:E2.get t1 1= .ptr 0 0:=by rw [←hE];simp (disch:=first|exact bk rfl|omega) only [go_sem]
 clear hE
 have aD:AV.agg (aq (aM (noM c)))=ofD (.agg (aM (noM c))):=rfl
 have hret:∀(t:E2) (H:Hp),E2.get t 2= .bool true->lr P G Tryz.f5 ⟨cd P G 200,ff P G⟩ (mG fun x=>x=D.bool true) .ret ⟨t,[]⟩ H=true:=fun t H g=>by rw [r5,g];exact ax (.bool true) rfl
 rw [Zd,ZC,u1,C,aD]
 refine ei hG [.agg (aM (noM c))] (RP hn) rfl ?_
 rintro d ⟨fb,rfl⟩
 rw [show ofD (.bool fb)= .bool fb from rfl]
 cases fb with
 | false=>
  simp (disch:=first|exact bk rfl|omega) only [go_sem,Bool.not_false,QM]
  refine bB hG [] tq rfl ?_
  rw [show ofD (.bool true)= .bool true from rfl]
  simp (disch:=first|exact bk rfl|omega) only [go_sem]
  exact hret _ _ (by simp (disch:=first|exact bk rfl|omega) only [go_sem])
 | true=>
  simp (disch:=first|exact bk rfl|omega) only [go_sem,Bool.not_true,u1,g0]
  rw [show ew 31 (aq (aM (noM c)))=some (aq (aM (noM c))) from rfl,fX,aD]
  simp (disch:=first|exact bk rfl|omega) only [go_sem,Bool.not_true]
  refine bB hG [.agg (aM (noM c))] (GP (noM c) hn rfl) rfl ?_
  rw [show ofD (.int .i64 (gJ (noM c)))= .int .i64 (gJ (noM c)) from rfl]
  by_cases hc:gJ (noM c)=0
  rotate_left
  ·have hcF:(gJ (noM c)=0)=False:=eq_false hc
   simp (disch:=first|exact bk rfl|omega) only [go_sem,Bool.not_true,Bool.not_false,hcF,QM]
   refine bB hG [] tq rfl ?_
   rw [show ofD (.bool true)= .bool true from rfl]
   simp (disch:=first|exact bk rfl|omega) only [go_sem]
   exact hret _ _ (by simp (disch:=first|exact bk rfl|omega) only [go_sem])
  ·have hcT:(gJ (noM c)=0)=True:=eq_true hc
   simp (disch:=first|exact bk rfl|omega) only [go_sem,Bool.not_true,Bool.not_false,hcT,QM]
   have hk:=ho.cok hc
   have h8:=Hy (noM c) hn rfl
   rw [hc] at h8
   generalize hE:es t1 _=t2
   have w1:E2.get t2 1= .ptr 0 0:=by rw [←hE];simp (disch:=first|exact bk rfl|omega) only [go_sem,u1]
   clear hE
   rw [Z0,w1,C,aD]
   refine bB hG [.agg (aM (noM c))] (Gx (noM c) hk h8) rfl ?_
   rw [show ofD (.tup [.sl 1 [.nils] 1,.int .i64 0])= .tup [ofD (.sl 1 [.nils] 1),.int .i64 0] from rfl,lc,lf,C,aD]
   refine bB hG [.agg (aM (noM c))] (zV hk h8) rfl ?_
   generalize hv:decide (iL (bls (noM c).session) (bn (noM c).session))=b
   have hkd:(if iL (bls (noM c).session) (bn (noM c).session) then (4:Int) else 3)=if b then 4 else 3:=by subst hv;by_cases h:iL (bls (noM c).session) (bn (noM c).session)<;>simp [h]
   have hke:(if iL (bls (noM c).session) (bn (noM c).session) then (5:Int) else 0)=if b then 5 else 0:=by subst hv;by_cases h:iL (bls (noM c).session) (bn (noM c).session)<;>simp [h]
   rw [hkd]
   generalize hek:(if b=true then (4:Int) else 3)=kd
   rw [show ofD (.tup [.int .i64 kd,.int .i64 0])= .tup [.int .i64 kd,.int .i64 0] from rfl,lc,lf,C,aD]
   refine ei hG [.agg (aM (noM c))] (wL hk h8) rfl ?_
   rintro d ⟨x,rfl,hx⟩
   rw [hke]
   generalize hee:(if b=true then (5:Int) else 0)=e2
   rw [show ofD (.tup [.agg [.nils,x],.int .i64 e2])= .tup [.agg [.nils,ofD x],.int .i64 e2] from rfl,lc,lf,aI,gn,rK (old:=[.nils,.nils]) (new:=[.nils,ofD x]) (b:=1) (H:=H1.push (.cells (some 66) false [.nils,.nils])) ye (by rw [yC];rfl) rfl (by simp only [List.all_cons,List.all_nil,eT hx];rfl) (by rw [af,gn,if_pos rfl])]
   have q1:(Hp.setb (H1.push (.cells (some 66) false [.nils,.nils])) 1 (some (.cells (some 66) false [.nils,ofD x]))).get 1=some (.cells (some 66) false [.nils,ofD x]):=by rw [V,if_pos rfl]
   have q0:(Hp.setb (H1.push (.cells (some 66) false [.nils,.nils])) 1 (some (.cells (some 66) false [.nils,ofD x]))).get 0=some (.cells (some 42) false (aq (aM (noM c)))):=by rw [V,if_neg (by decide),af,gn,if_neg (by decide)];exact g0
   generalize Hp.setb (H1.push (.cells (some 66) false [.nils,.nils])) 1 (some (.cells (some 66) false [.nils,ofD x]))=H2 at q0 q1
   rw [bL,ID q0,W9,show AV.agg (aq (ek (noM c).session))=ofD (.agg (ek (noM c).session)) from rfl]
   refine ei hG [.agg (ek (noM c).session)] (clF hk.h0 hk.hs) rfl ?_
   rintro d ⟨y,rfl⟩
   rw [hv,show ofD (.tup [y,.bool b,.int .i64 0])= .tup [ofD y,.bool b,.int .i64 0] from rfl,lc,lf,N6]
   generalize hE:es t2 _=t3
   have z3:E2.get t3 3=ofD (.sl 1 [.nils] 1):=by rw [←hE];simp (disch:=first|exact bk rfl|omega) only [go_sem]
   have z4:E2.get t3 4= .int .i64 0:=by rw [←hE];simp (disch:=first|exact bk rfl|omega) only [go_sem]
   have z5:E2.get t3 5= .int .i64 kd:=by rw [←hE];simp (disch:=first|exact bk rfl|omega) only [go_sem]
   have z6:E2.get t3 6= .int .i64 0:=by rw [←hE];simp (disch:=first|exact bk rfl|omega) only [go_sem]
   have z7:E2.get t3 7= .ptr 1 0:=by rw [←hE];simp (disch:=first|exact bk rfl|omega) only [go_sem]
   have z8:E2.get t3 8= .int .i64 e2:=by rw [←hE];simp (disch:=first|exact bk rfl|omega) only [go_sem]
   have z10:E2.get t3 10= .bool b:=by rw [←hE];simp (disch:=first|exact bk rfl|omega) only [go_sem]
   have z11:E2.get t3 11= .int .i64 0:=by rw [←hE];simp (disch:=first|exact bk rfl|omega) only [go_sem]
   clear hE
   rw [aDX]
   refine aCG hx q1 z3 z4 z6 z7 z11 fun t4 y74 y5 y8 y10=> ?_
   rw [eU,aAE,y74,eV]
   simp (disch:=first|exact bk rfl|omega) only [go_sem]
   rw [aDK]
   refine Zj (b:=b) tq (by rw [y5,z5,hek]) (by rw [y8,z8,hee]) (by rw [y10,z10]) fun t5 y2=> ?_
   simp (disch:=first|exact bk rfl|omega) only [go_sem,ZA]
   exact hret t5 H2 y2
def jh (w:World) (ds:List D) (cs:List Value):Prop:=∃L,DVs (hpz w) true ds cs L
theorem DVs.app {z:Nat->Option Obj} {b:List D} {y:List Value} {M:List Nat} (hb:DVs z true b y M):∀{a:List D} {x:List Value} {L:List Nat},DVs z true a x L->DVs z true (a++b) (x++y) (L++M)
 | _,_,_,.nil=>hb
 | _,_,_,.cons d v L ds vs L' h hs=>by rw [List.append_assoc];exact .cons d v L _ _ _ h (DVs.app hb hs)
theorem jh.seg {w:World} {a b:List D} {cs:List Value} {o:Nat} (k:Nat) (h1:jh w a ((cs.drop o).take k)) (h2:jh w b (cs.drop (o+k))):jh w (a++b) (cs.drop o):=by
 obtain⟨L,h1⟩:=h1
 obtain⟨M,h2⟩:=h2
 refine⟨L++M, ?_⟩
 have e:cs.drop o=(cs.drop o).take k++cs.drop (o+k):=by rw [←List.drop_drop,List.take_append_drop]
 rw [e]
 exact DVs.app h2 h1
theorem jh.fin {w:World} {cs:List Value} {o:Nat} (h:cs.length=o):jh w [] (cs.drop o):=by
 rw [List.drop_of_length_le (by omega)]
 exact⟨[],.nil⟩
theorem jh.one {w:World} {d:D} {v:Value} {L:List Nat} (h:DV (hpz w) true d v L):jh w [d] [v]:=⟨L++[],.cons _ _ _ _ _ _ h .nil⟩
section
variable {H : Type} {enc : TypeId × Value -> H} {w : World} {sp : Nat -> Bool} {hd : Bool} {fuel : Nat} {cs : List Value} {x : DataW H × List MemPlace}
def shp (P:Program) (t:TypeId):List (TypeId×Nat):=match P.underlying t with
 | some (.struct fs)=>fs.toList.map fun f=>(f.type,f.offset)
 | _=>[]
theorem mW {t:TypeId} {l:List (TypeId×Nat)} (hs:shp P t=l) (hne:l≠[]) (h:DataW.trod enc P w 0 sp hd fuel t cs=some x):
  ∃n,fuel=n+1/\cs.length=P.cellsOf t/\∀(i:Nat) (p:TypeId×Nat),l[i]? =some p->∃y,DataW.trod enc P w 0 sp hd n p.1 ((cs.drop p.2).take (P.cellsOf p.1))=some y:=by
 unfold shp at hs
 split at hs
 ·rename_i fs hu
  obtain⟨xs,n,h1, -,h3,h4,h5⟩:=DataW.trod_struct hu h
  refine⟨n,h1,h3,fun i p hp=> ?_⟩
  rw [←hs,List.getElem?_map] at hp
  obtain⟨f,hf,rfl⟩:=Option.map_eq_some_iff.1 hp
  have h6:=h5 i f (by simpa using hf)
  have hi:i<xs.length:=by
   rw [h4]
   have:=(List.getElem?_eq_some_iff.1 hf).1
   simpa using this
  exact⟨xs[i],by rw [h6,List.getElem?_eq_getElem hi]⟩
 ·exact absurd hs.symm hne
theorem eX (h:DataW.trod enc P w 0 sp hd fuel 3 cs=some x):∃n:Int,jh w [.int .i64 n] cs:=by
 obtain⟨n,rfl, -, -⟩:=DataW.trod_int un3 h
 exact⟨n,.one (.int _ _)⟩
theorem Cz (h:DataW.trod enc P w 0 sp hd fuel 9 cs=some x):∃s:Str,s.length<=9223372036854775807/\jh w [.str s] cs:=by
 obtain⟨s,rfl, -,hs⟩:=DataW.trod_string un9 h
 refine⟨s.data.toList.map UInt8.toNat, ?_,.one (.str _ _ rfl)⟩
 have:s.data.toList.length=s.size:=by rw [Array.length_toList];rfl
 rw [List.length_map,this]
 exact Nat.le_trans hs (by decide)
theorem qp {α:Type} {Good:α->Prop} {enc':α->List D} {sz:Nat} {t e:TypeId} (ht:P.underlying t=some (.slice e)) (hc:P.cellsOf e=sz) (hsz:0<sz) (hlen:∀a,(enc' a).length=sz) (hblk:∃(b:Nat) (arr:Array Value) (el:TypeId) (fz:Nat×Nat),w.heap[b]? =some (Obj.cells arr el fz))
  (he:∀m,m<fuel->∀(cs:List Value) (x:DataW H×List MemPlace),DataW.trod enc P w 0 (fun _=>true) hd m e cs=some x->∃a,Good a/\jh w (enc' a) cs)
  (h:DataW.trod enc P w 0 (fun _=>true) hd fuel t cs=some x):∃(xs:List α) (d:D),Sl sz enc' xs d/\xs.length<=9223372036854775807/\(∀a∈xs,Good a)/\jh w [d] cs:=by
 classical
 rcases DataW.trod_slice ht h with⟨rfl, -⟩| ⟨a,len,cap,elems,rest,n,hfu,rfl, -, -,hlc,hcap,hel,hat,hsp, -⟩
 ·exact⟨[],.nils,.inl ⟨rfl,rfl⟩,by simp,by simp,.one .nils⟩
 rw [hc] at hat hsp
 obtain⟨hr1,hr2⟩:=hsp rfl
 have hall:∀i,i<cap->∃cs',w.cells? 0 (a.add (i * sz)) sz=some cs'/\(i<len->∃y,DataW.trod enc P w 0 (fun _=>true) hd n e cs'=some y):=by
  intro i hi
  by_cases hil:i<len
  ·have h1:=hat i hil
   rw [List.getElem?_eq_getElem (by omega)] at h1
   obtain⟨cs',h2,h3⟩:=Option.bind_eq_some_iff.1 h1
   exact⟨cs',h2,fun _=>⟨_,h3⟩⟩
  ·have h1:=(hsp rfl).2 (i - len) (by omega)
   rw [List.getElem?_eq_getElem (by rw [hr1];omega),show len+(i - len)=i by omega] at h1
   obtain⟨cs',h2,h3⟩:=Option.bind_eq_some_iff.1 h1
   exact⟨cs',h2,fun h=>absurd h hil⟩
 have hmax:len<=9223372036854775807:=Nat.le_trans hlc (Nat.le_trans hcap (by decide))
 by_cases hc0:cap=0
 ·obtain rfl:len=0:=by omega
  obtain⟨b,arr,el,fz,hb⟩:=hblk
  exact⟨[],.sl sz [] 0,.inr rfl,by simp,by simp,.one (.sl sz [] 0 a cap ⟨b,0,0⟩ arr el fz [] [] hb hlc (by rw [hc0,Nat.zero_mul]) (by simp) (by simp) (fun h=>by cases h) (fun i x hx=>by simp at hx) (fun h=>by omega) .nil)⟩
 have hcell:∀i j,i<cap->j<sz->∃v,w.cell? (a.add (i * sz+j))=some v:=by
  intro i j hi hj
  obtain⟨cs',h1, -⟩:=hall i hi
  obtain⟨-,h2,h3⟩:=World.cells?_some h1
  have h4:=h3 j hj
  rw [List.getElem?_eq_getElem (by omega)] at h4
  refine⟨cs'[j], ?_⟩
  rw [←h4]
  congr 1
  unfold Addr.add
  by_cases q1:i * sz=0
  ·simp [q1]
  ·by_cases q2:j=0
   ·simp [q2]
   ·simp [q1,q2,Nat.add_assoc]
 obtain⟨v0,hv0⟩:=hcell 0 0 (by omega) hsz
 simp only [Nat.zero_mul,Nat.add_zero] at hv0
 have ha0:a.add 0=a:=by simp [Addr.add]
 rw [ha0] at hv0
 unfold World.cell? at hv0
 split at hv0
 rotate_left
 ·cases hv0
 rename_i arr el fz hblk'
 split at hv0
 ·cases hv0
 rename_i hspot
 have hsn:a.spot=none:=by
  cases hs:a.spot with
  | none=>rfl
  | some q=>rw [hs] at hspot;simp at hspot
 have hae:a=⟨a.block,a.off,none⟩:=by obtain⟨b,o,s⟩:=a;simp only at hsn;rw [hsn]
 have hadd:∀k,a.add k=⟨a.block,a.off+k,none⟩:=fun k=>by
  unfold Addr.add
  by_cases hk:k=0
  ·rw [if_pos hk,hk];exact hae
  ·rw [if_neg hk]
 have hget:∀k,w.cell? (a.add k)=arr[a.off+k]? :=fun k=>by
  rw [hadd]
  unfold World.cell?
  simp only [hblk']
  rfl
 have htot:a.off+cap * sz<=arr.size:=by
  obtain⟨v,hv⟩:=hcell (cap - 1) (sz - 1) (by omega) (by omega)
  rw [hget] at hv
  have:=(Array.getElem?_eq_some_iff.1 hv).1
  have e1:(cap - 1) * sz+sz=cap * sz:=by rw [←Nat.succ_mul];congr 1;omega
  omega
 have hseg:∀i,i<len->∃b:α,Good b/\jh w (enc' b) (((arr.toList.drop a.off).drop (i * sz)).take sz):=by
  intro i hi
  obtain⟨cs',h1,h2⟩:=hall i (by omega)
  obtain⟨y,hy⟩:=h2 hi
  obtain⟨b,hb1,hb2⟩:=he n (by omega) cs' y hy
  refine⟨b,hb1, ?_⟩
  obtain⟨-,h3,h4⟩:=World.cells?_some h1
  have:cs'=((arr.toList.drop a.off).drop (i * sz)).take sz:=by
   apply List.ext_getElem?
   intro j
   by_cases hj:j<sz
   ·rw [←h4 j hj,List.getElem?_take_of_lt hj,List.getElem?_drop,List.getElem?_drop,Array.getElem?_toList]
    have:(a.add (i * sz)).add j=a.add (i * sz+j):=by
     rw [hadd,hadd]
     unfold Addr.add
     by_cases hj0:j=0
     ·simp [hj0]
     ·simp [hj0,Nat.add_assoc]
    rw [this,hget]
   ·rw [List.getElem?_eq_none (by omega),List.getElem?_eq_none (by rw [List.length_take];omega)]
  rw [←this];exact hb2
 have hlist:∀k,k<=len->∃xs:List α,xs.length=k/\(∀b∈xs,Good b)/\jh w (cC enc' xs) ((arr.toList.drop a.off).take (k * sz)):=by
  intro k
  induction k with
  | zero=>intro _;exact⟨[],rfl,by simp,[],by rw [Nat.zero_mul,List.take_zero];exact .nil⟩
  | succ k ih=>
   intro hk
   obtain⟨xs,h1,h2,L,h3⟩:=ih (by omega)
   obtain⟨b,h4,M,h5⟩:=hseg k (by omega)
   refine⟨xs++[b],by simp [h1],fun c hcm=> ?_,L++M, ?_⟩
   ·rcases List.mem_append.1 hcm with h | h
    ·exact h2 c h
    ·rw [List.mem_singleton] at h;subst h;exact h4
   ·have e1:(arr.toList.drop a.off).take ((k+1) * sz)=(arr.toList.drop a.off).take (k * sz)++((arr.toList.drop a.off).drop (k * sz)).take sz:=by rw [Nat.succ_mul,List.take_add]
    rw [e1,ri]
    have:cC enc' [b]=enc' b:=by simp [cC]
    rw [this]
    exact DVs.app h5 h3
 obtain⟨xs,hx1,hx2,L,hx3⟩:=hlist len (Nat.le_refl _)
 subst hx1
 refine⟨xs,.sl sz (cC enc' xs) xs.length,.inr rfl,by omega,hx2,.one (.sl sz (cC enc' xs) xs.length a cap ⟨a.block,a.off,cap * sz⟩ arr el fz ((arr.toList.drop a.off).take (xs.length * sz)) L hblk' (by omega) rfl htot ?_ (fun h=>by cases h) (fun i v hv=> ?_) (fun _=>hae) hx3)⟩
 ·rw [fB hlen];exact Nat.mul_le_mul_right _ hlc
 ·have hi:i<xs.length * sz:=by
   have:=(List.getElem?_eq_some_iff.1 hv).1
   rw [List.length_take] at this
   omega
  rw [List.getElem?_take_of_lt hi,List.getElem?_drop,Array.getElem?_toList] at hv
  exact hv
end
end Go.S5
