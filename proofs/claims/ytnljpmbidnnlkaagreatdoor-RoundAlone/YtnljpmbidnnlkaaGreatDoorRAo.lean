/- A part of the proof of RoundAlone. -/
import Derived.Test.YtnljpmbidnnlkaaGreatDoorRAl
import Derived.Test.YtnljpmbidnnlkaaGreatDoorRAm
import Derived.Test.YtnljpmbidnnlkaaGreatDoorRAn
set_option maxRecDepth 1000000
set_option linter.unusedVariables false
set_option linter.unusedSimpArgs false
set_option maxHeartbeats 8000000
namespace Go.S5
open Go.Ev Go.Proofs
theorem OK:ApT P 350 382 1:=⟨by kernel_rfl,by kernel_rfl,by kernel_rfl,by kernel_rfl,by kernel_rfl,by kernel_rfl⟩
theorem Ie:ApT P 181 51 1:=⟨by kernel_rfl,by kernel_rfl,by kernel_rfl,by kernel_rfl,by kernel_rfl,by kernel_rfl⟩
theorem fZ:ApT P 51 3 1:=⟨by kernel_rfl,by kernel_rfl,by kernel_rfl,by kernel_rfl,by kernel_rfl,by kernel_rfl⟩
theorem M2:ApT P 382 384 2:=⟨by kernel_rfl,by kernel_rfl,by kernel_rfl,by kernel_rfl,by kernel_rfl,by kernel_rfl⟩
theorem VO (k:Blk->(Nat->AV)->Bool):aO 350 1 [(0,.nils)] k=k (ae 382 [.nils]) (jr 1 1):=by kernel_rfl
theorem Xa (k:Blk->(Nat->AV)->Bool):aO 181 1 [(0,.nils)] k=k (ae 51 [.nils]) (jr 1 1):=by kernel_rfl
theorem rQ (n:Int) (k:Blk->(Nat->AV)->Bool):aO 51 1 [(0, O n)] k=k (ae 3 [O n]) (jr 1 1):=by kernel_rfl
theorem rY {ρ:Nat->ep} {H:Hp} {bm n c:Nat} {K:AV->Hp->Bool} (hm:iM ρ H bm n c) (hn:n<=100000) (hK:∀ρ' H',iM ρ' H' bm (n+1) c->Fr ρ H ρ' H'->K (O n) H'=true):ay 261 [.ptr bm 0] H K=true:=by
 obtain⟨ev,fv,la,es,fs,h1,h2,h3,h4⟩:=hm
 refine cb 200 ?_
 rw [Zi]
 simp (disch:=omega) only [go_sem,fS,h1,VO,dq]
 have h5:=Go.Ev.MC.push h4 (ae 382 [.nils])
 refine h5.he.app (m:=0) (new:=[.nils]) OK OK.h2 (by decide) (jo rfl) rfl rfl (by have:=h4.el;simp;omega) fun v' H' ha hx hf=> ?_
 have h6:=h5.growE ha hx hf
 rw [am] at hx hf h6
 have g1:H'.get bm=some (ae 352 [ev,fv, O la]):=by
  rw [hf bm (by omega) (by rw [h2];nofun),af,if_neg (by omega)];exact h1
 simp (disch:=omega) only [go_sem,fS,g1,ha.cells,ha.one,Xa,dq,bZ]
 have h7:=(h6.setm (b:=bm) (by rw [dQ (by omega)];exact h2) (some (ae 352 [v',fv, O la])))
 have h8:=Go.Ev.MC.push h7 (ae 51 [.nils])
 refine h8.hf.app (m:=0) (new:=[.nils]) Ie Ie.h2 (by decide) (jo rfl) rfl rfl (by have:=h4.fl;simp;omega) fun w' H2 ha2 hx2 hf2=> ?_
 have h9:=h8.growF ha2 hx2 hf2
 rw [am,au] at hx2 hf2 h9
 have g2:H2.get bm=some (ae 352 [v',fv, O la]):=by
  rw [hf2 bm (by omega) (by rw [dQ (by omega),h2];nofun),af,au,if_neg (by omega),V,if_pos rfl]
 have hl:=h9.he.len (P:=P) (t:=350) (e:=382) rfl OO
 have hel:(es++[AV.nils]).length=n+1:=by simp [h4.el]
 rw [hel] at hl
 have h10:=h9.setm (b:=bm) (by rw [dQ (by omega),dQ (by omega)];exact h2) (some (ae 352 [v',w', O la]))
 simp (disch:=omega) only [go_sem,fS,g2,ha2.cells,ha2.one,bZ,hl]
 rw [show ((n+1:Nat):Int) - 1=n by omega]
 refine hK _ _ ⟨v',w',la,_,_,by rw [V,if_pos rfl], ?_, ?_,h10.mono (by omega) (bh _)⟩ ⟨?_,fun b hb hr=> ?_⟩
 ·rw [dQ (by omega),dQ (by omega)];exact h2
 ·rw [au];omega
 ·rw [au];omega
 ·have hbm:b≠bm:=by rintro rfl;rw [h2] at hr;cases hr
  refine⟨by rw [dQ (by omega),dQ (by omega)];exact hr, ?_⟩
  rw [V,if_neg hbm,hf2 b (by omega) (by rw [dQ (by omega),hr];nofun),af,au,if_neg (by omega),V,if_neg hbm,hf b (by omega) (by rw [hr];nofun),af,if_neg (by omega)]
section
variable {k : AV -> Bool}
theorem Cd (x:BitVec 64):IntKind.u64.wrap ((x.toNat:Nat):Int)=((x.toNat:Nat):Int):=IntWalk.u64_in _ (by have:=x.isLt;omega)
theorem uw (x:BitVec 64):BitVec.ofInt 64 ((x.toNat:Nat):Int)=x:=by
 rw [BitVec.ofInt_natCast,BitVec.ofNat_toNat,BitVec.setWidth_eq]
theorem aCQ (t:TypeId) (nc:Bool) (x y:BitVec 64):aw .or t nc (.int .u64 ((x.toNat:Nat):Int)) (.int .u64 ((y.toNat:Nat):Int)) k=k (.int .u64 (((x||| y).toNat:Nat):Int)):=by
 have h:IntKind.u64.wrap ((BitVec.ofInt IntKind.u64.bits ((x.toNat:Nat):Int))||| (BitVec.ofInt IntKind.u64.bits ((y.toNat:Nat):Int))).toNat=(((x||| y).toNat:Nat):Int):=by
  show IntKind.u64.wrap ((BitVec.ofInt 64 ((x.toNat:Nat):Int))||| (BitVec.ofInt 64 ((y.toNat:Nat):Int))).toNat=_
  rw [uw,uw,Cd]
 show gE (IntKind.u64.wrap ((BitVec.ofInt IntKind.u64.bits ((x.toNat:Nat):Int))||| (BitVec.ofInt IntKind.u64.bits ((y.toNat:Nat):Int))).toNat) (fun n=>k (.int .u64 n))=_
 rw [h];exact cA _ fun n=>k (.int .u64 n)
theorem XE (t:TypeId) (nc:Bool) (x y:BitVec 64):aw .and t nc (.int .u64 ((x.toNat:Nat):Int)) (.int .u64 ((y.toNat:Nat):Int)) k=k (.int .u64 (((x&&& y).toNat:Nat):Int)):=by
 have h:IntKind.u64.wrap ((BitVec.ofInt IntKind.u64.bits ((x.toNat:Nat):Int))&&& (BitVec.ofInt IntKind.u64.bits ((y.toNat:Nat):Int))).toNat=(((x&&& y).toNat:Nat):Int):=by
  show IntKind.u64.wrap ((BitVec.ofInt 64 ((x.toNat:Nat):Int))&&& (BitVec.ofInt 64 ((y.toNat:Nat):Int))).toNat=_
  rw [uw,uw,Cd]
 show gE (IntKind.u64.wrap ((BitVec.ofInt IntKind.u64.bits ((x.toNat:Nat):Int))&&& (BitVec.ofInt IntKind.u64.bits ((y.toNat:Nat):Int))).toNat) (fun n=>k (.int .u64 n))=_
 rw [h];exact cA _ fun n=>k (.int .u64 n)
theorem U0 (t:TypeId) (nc:Bool) (x:BitVec 64) {r:Nat} (hr:r<64):aw .shr t nc (.int .u64 ((x.toNat:Nat):Int)) (O (r:Int)) k=k (.int .u64 (((x >>> r).toNat:Nat):Int)):=by
 have h:((x.toNat:Nat):Int).fdiv (2 ^(min (r:Int).toNat IntKind.u64.bits))=(((x >>> r).toNat:Nat):Int):=by
  rw [BitVec.toNat_ushiftRight,Nat.shiftRight_eq_div_pow,pa,show min r IntKind.u64.bits=r from lI (by show r<=64;omega)]
  rw [Int.fdiv_eq_ediv_of_nonneg _ (by exact_mod_cast bN _)]
  push_cast;rfl
 show (match ilt (r:Int) 0 with | true=>false | false=>gE (((x.toNat:Nat):Int).fdiv (2 ^(min (r:Int).toNat IntKind.u64.bits))) fun n=>k (.int .u64 n))=_
 rw [jm,show decide ((r:Int)<0)=false from by simp]
 dsimp only
 rw [h];exact cA _ fun n=>k (.int .u64 n)
theorem Yi (t:TypeId) (nc:Bool) {r:Nat} (hr:r<64):aw .shl t nc (.int .u64 1) (O (r:Int)) k=k (.int .u64 (((BitVec.twoPow 64 r).toNat:Nat):Int)):=by
 have h2:(BitVec.twoPow 64 r).toNat=2 ^r:=by rw [BitVec.toNat_twoPow];exact Nat.mod_eq_of_lt (Nat.pow_lt_pow_right (by omega) hr)
 have h:IntKind.u64.wrap (1 * 2 ^(min (r:Int).toNat IntKind.u64.bits))=(((BitVec.twoPow 64 r).toNat:Nat):Int):=by
  rw [pa,show min r IntKind.u64.bits=r from lI (by show r<=64;omega),←Cd,h2]
  congr 1;push_cast;omega
 show (match ilt (r:Int) 0 with | true=>false | false=>gE (IntKind.u64.wrap (1 * 2 ^(min (r:Int).toNat IntKind.u64.bits))) fun n=>k (.int .u64 n))=_
 rw [jm,show decide ((r:Int)<0)=false from by simp]
 dsimp only
 rw [h];exact cA _ fun n=>k (.int .u64 n)
theorem Mq (t:TypeId) (nc:Bool) {n:Nat} (h:n<=1000000):aw .quo t nc (O (n:Int)) (O 64) k=k (O ((n/64:Nat):Int)):=by
 have h2:wrp .i64 (((n:Int)).tdiv 64)=((n/64:Nat):Int):=by
  rw [Int.tdiv_eq_ediv_of_nonneg (by omega),om (by omega)];omega
 show (match ieq 64 0 with | true=>false | false=>gE (wrp .i64 ((n:Int).tdiv 64)) fun n=>k (O n))=_
 rw [show ieq 64 0=false from by rw [vG];rfl]
 dsimp only
 rw [h2];exact cA _ fun n=>k (O n)
theorem Nl (t:TypeId) (nc:Bool) {n:Nat} (h:n<=1000000):aw .rem t nc (O (n:Int)) (O 64) k=k (O ((n%64:Nat):Int)):=by
 rw [Lz _ _ _ _ _ (by omega),Int.tmod_eq_emod_of_nonneg (by omega)]
 rw [show ((n:Int)%64)=((n%64:Nat):Int) by omega]
end
def scD (W:Nat->BitVec 64):List D:=[.int .u64 ((W 0).toNat:Int),.int .u64 ((W 1).toNat:Int),.int .u64 ((W 2).toNat:Int),.int .u64 ((W 3).toNat:Int),.int .u64 ((W 4).toNat:Int),.int .u64 ((W 5).toNat:Int),.int .u64 ((W 6).toNat:Int),.int .u64 ((W 7).toNat:Int)]
def yc (W:Nat->BitVec 64) (n:Nat):Bool:=(W (n/64)).getLsbD (n%64)
def tU (W:Nat->BitVec 64) (n:Nat):Nat->BitVec 64:=fun i=>if i=n/64 then W i||| BitVec.twoPow 64 (n%64) else W i
theorem GW (W:Nat->BitVec 64) (n m:Nat):yc (tU W n) m=(decide (m=n)||yc W m):=by
 unfold yc tU
 by_cases h:m/64=n/64
 ·rw [if_pos h,BitVec.getLsbD_or,BitVec.getLsbD_twoPow,Bool.or_comm]
  congr 1
  have h1:n%64<64:=kI _ (by omega)
  rw [fM h1,kb]
  rw [cg];simp;omega
 ·rw [if_neg h,show decide (m=n)=false from by simp;rintro rfl;exact h rfl,lT]
theorem FD (W:Nat->BitVec 64) {q:Nat} (h:q<8):(aq (scD W))[q]? =some (.int .u64 ((W q).toNat:Int)):=by
 match q,h with
 | 0,_=>rfl
 | 1,_=>rfl
 | 2,_=>rfl
 | 3,_=>rfl
 | 4,_=>rfl
 | 5,_=>rfl
 | 6,_=>rfl
 | 7,_=>rfl
theorem SG (W:Nat->BitVec 64) {q:Nat} (h:q<8) (x:BitVec 64):(aq (scD W)).set q (.int .u64 (x.toNat:Int))=aq (scD fun i=>if i=q then x else W i):=by
 match q,h with
 | 0,_=>rfl
 | 1,_=>rfl
 | 2,_=>rfl
 | 3,_=>rfl
 | 4,_=>rfl
 | 5,_=>rfl
 | 6,_=>rfl
 | 7,_=>rfl
theorem Cs {b off n:Nat} {i:IntKind} {k:AV->Bool} (hn:n<8):ah 346 (.ptr b off) (.int i (n:Int)) k=k (.ptr b (off+n)):=by
 unfold gu
 have h1:Nat.blt n 8=true:=by simpa [cT] using hn
 have h2:(AV.int i (n:Int))= .int i (.ofNat n):=rfl
 rw [h2]
 simp only [Na,Oo,Iu,h1]
 rw [dZ]
 exact bA (off+n) fun o=>k (.ptr b o)
theorem AN (W:Nat->BitVec 64) {n:Nat} (hn:n<512):bc 233 [.agg (scD W), aS (n:Int)] (·= .bool (yc W n)):=by
 refine aH hG ?_
 rw [show aq [D.agg (scD W), aS (n:Int)]=[.agg (aq (scD W)), O (n:Int)] from rfl,Z6]
 simp only [aI,bJ]
 rw [Mq _ _ (by omega),Cs (by omega),ca,cf (cs:=aq (scD W)) (by rw [af,if_pos rfl]) CU (FD W (by omega)),Nl _ _ (by omega),U0 _ _ _ (by omega)]
 rw [show (1:Int)=(((1#64).toNat:Nat):Int) from rfl,XE,ij]
 refine ax (.bool _) ?_
 congr 1
 unfold yc
 rw [cg,bU,Int.natCast_inj,BitVec.toNat_inj]
 constructor
 ·intro h
  have:=congrArg (fun x=>x.getLsbD 0) h
  simpa using this
 ·intro h
  apply BitVec.eq_of_getLsbD_eq
  intro i hi
  rw [BitVec.getLsbD_and,BitVec.getLsbD_ushiftRight,BitVec.getLsbD_one]
  by_cases h0:i=0
  ·subst h0;simp [h]
  ·simp [h0]
theorem Gi {H:Hp} {b:Nat} {el:Option TypeId} {W:Nat->BitVec 64} {n:Nat} {K:AV->Hp->Bool} (hb:H.get b=some (.cells el false (aq (scD W)))) (hn:n<512)
  (hK:K (.tup []) (H.setb b (some (.cells el false (aq (scD (tU W n))))))=true):ay 262 [.ptr b 0, O (n:Int)] H K=true:=by
 refine cb 200 ?_
 rw [Zx]
 have hst:∀k:Hp->Bool,aA H 344 (.ptr b (n/64)) (.int .u64 (((W (n/64)||| BitVec.twoPow 64 (n%64)).toNat:Nat):Int)) k=k (H.setb b (some (.cells el false (aq (scD (tU W n)))))):=fun k=>by
  rw [ex hb CU Iu rfl rfl (by show n/64<8;omega),SG W (by omega)]
  have he:(fun i=>if i=n/64 then W (n/64)||| BitVec.twoPow 64 (n%64) else W i)=tU W n:=by
   funext i
   unfold tU
   split
   ·rename_i h;rw [h]
   ·rfl
  rw [he]
 rw [Mq _ _ (by omega),fS,Cs (by omega),ca,cf hb CU (FD W (by omega)),Nl _ _ (by omega),Yi _ _ (by omega),aCQ,fS,Cs (by omega),ca]
 rw [bq,hst]
 simp (disch:=omega) only [go_sem,lv,hb]
 exact hK
theorem tz1 (H:Hp) (k:fk->Hp->Bool):rR ⟨gK 200,ff P G⟩ 317 [.int .u64 1] H k=k (.ret (O 0)) H:=by kernel_rfl
theorem X8:bc 317 [.int .u64 1] (·= .int .i64 0):=by
 refine aH hG ?_
 rw [show aq [D.int .u64 1]=[.int .u64 1] from rfl,tz1]
 exact ax (aS 0) rfl
theorem QC:iz P 264=true:=by kernel_rfl
theorem Vv (t:E2) (H:Hp) (k:fk->Hp->Bool) (i:Evs):ac Tryz.f264 i k .normal ⟨t,[]⟩ H=k (.ret (.tup [])) H:=by kernel_rfl
theorem Oe {ws:List AV} {i:Nat} {x:AV} {k:AV->Bool} (hi:i<8) (hx:ws[i]? =some x):ej P 346 (.agg ws) (O (i:Int)) k=k x:=by
 show (match P.underlying 346 with
  | some (.array len el)=>match Nat.blt i len,(P.info? el).isSome with
   | true,true=>qf P el ws (i * P.cellsOf el) k
   | _,_=>false
  | _=>false)=_
 rw [Na]
 dsimp only
 rw [Oo,Iu,show Nat.blt i 8=true from by simpa [cT] using hi]
 dsimp only
 rw [y6,CU,pU,dZ,hx,qt]
theorem aBW {t:E2} {H:Hp} {i:Nat} {ws:List AV} {k:AEx->En->Hp->Bool} (h7:t 7= O i) (h6:t 6= .agg ws) (hw:ws[i]? =some (.int .u64 0)) (hi:i<8)
  (hk:∀t',t' 7= O ((i+1:Nat):Int)->t' 6= .agg ws->t' 1=t 1->k .normal ⟨t',[]⟩ H=true):az 200 26 264 14 none ⟨t,[]⟩ H k=true:=by
 rw [A8,h7,h6]
 have hlt:((i:Int)<8):=by omega
 simp (disch:=omega) only [go_sem,hlt]
 rw [Oe hi hw]
 refine lV 1 (er ?_)
 rw [Cn]
 simp (disch:=omega) only [go_sem,Gt,h7]
 refine hk _ ?_ ?_ ?_
 ·simp (disch:=omega) only [go_sem,h7];rfl
 ·simp (disch:=omega) only [go_sem,h6]
 ·simp (disch:=omega) only [go_sem]
theorem O' (dm:List Dm) (ro:Option Nat) (H:Hp) (k:AEx->En->Hp->Bool):∀(t:E2),az 195 13 352 52 ro ⟨t,dm⟩ H k=k .normal ⟨(es t [(5,t 7)]),dm⟩ H:=aj fun f=>by kernel_rfl
theorem Pu (dm:List Dm) (ro:Option Nat) (H:Hp) (k:AEx->En->Hp->Bool):∀(t:E2),az 195 13 352 53 ro ⟨t,dm⟩ H k=
 (E H 51 (t 2) fun v1=>
 aO 51 1 [(0,(t 5))] fun k3 r3=>Hp.new H k3 fun b3 H3=>
 bu H3 51 51 v1 (r3 b3) fun v4 H4=>
 aA H4 51 (t 2) v4 fun H5=>
 k .normal ⟨(es t (ao 8 [v1,t 5,r3 b3,v4] [])),dm⟩ H5):=aj fun f=>by kernel_rfl
theorem U2 {d:Nat} {t:E2} {H:Hp} {k:fk->Hp->Bool} {i:Evs} (hd:H.get d=some (.dfr true)):ac Tryz.f352 i k .ret ⟨t,[.mark d]⟩ H=k (.ret (t 4)) (H.setb d (some (.dfr false))):=by
 have h:ac Tryz.f352 i k .ret ⟨t,[.mark d]⟩ H=(match H.get d with | some (.dfr true)=>H.put d (some (.dfr false)) fun H=>k (.ret (t 4)) H | _=>false):=by kernel_rfl
 rw [h,hd]
 dsimp only
 rw [cJ]
def W1:Nat->BitVec 64:=tU (fun _=>0) 0
theorem VZ:aq (scD W1)=[.int .u64 1,.int .u64 0,.int .u64 0,.int .u64 0,.int .u64 0,.int .u64 0,.int .u64 0,.int .u64 0]:=rfl
theorem Tf (k:AV->Bool):aw .sub 344 true (.int .u64 1) (.int .u64 1) k=k (.int .u64 0):=by kernel_rfl
theorem P3 (k:AV->Bool):aw .and 344 false (.int .u64 1) (.int .u64 0) k=k (.int .u64 0):=by kernel_rfl
def ws1:List AV:=[.int .u64 1,.int .u64 0,.int .u64 0,.int .u64 0,.int .u64 0,.int .u64 0,.int .u64 0,.int .u64 0]
theorem Xh:∀i,1<=i->i<8->ws1[i]? =some (.int .u64 0)
 | 1,_,_=>rfl
 | 2,_,_=>rfl
 | 3,_,_=>rfl
 | 4,_,_=>rfl
 | 5,_,_=>rfl
 | 6,_,_=>rfl
 | 7,_,_=>rfl
 | n+8,_,h=>by omega
theorem IS {t:E2} {H:Hp} {l:Nat} {k:AEx->En->Hp->Bool} {F:Hp->Prop} (h7:t 7= O (0:Nat)) (h6:t 6= .agg ws1) (h1:t 1= .yld l)
  (hr:∀K:AV->Hp->Bool,(∀H',F H'->K (.bool true) H'=true)->eC 195 (.yld l) [O 0] H K=true)
  (hk:∀t' H',F H'->t' 7= O (1:Nat)->t' 6= .agg ws1->k .normal ⟨t',[]⟩ H'=true):az 200 26 264 14 none ⟨t,[]⟩ H k=true:=by
 rw [A8,h7,h6]
 have hlt:(((0:Nat):Int)<8):=by omega
 simp (disch:=omega) only [go_sem,hlt]
 rw [Oe (x:= .int .u64 1) (i:=0) (by omega) rfl]
 refine lV 2 (er ?_)
 rw [Cn]
 have hne:((1:Int)=0)=False:=by simp
 simp (disch:=omega) only [go_sem,hne,h1,h7]
 refine bB hG _ X8 rfl ?_
 simp (disch:=omega) only [go_sem,h1]
 rw [show (64 * ((0:Nat):Int)+0)=0 from rfl]
 refine hr _ fun H' hF=> ?_
 simp (disch:=omega) only [go_sem]
 rw [Tf,P3]
 refine er ?_
 rw [Cn]
 simp (disch:=omega) only [go_sem,Gt,h7]
 refine hk _ _ hF ?_ ?_
 ·simp (disch:=omega) only [go_sem,h7];rfl
 ·simp (disch:=omega) only [go_sem,h6]
def Yf (H0:Hp) (lp:Blk) (H1:Hp):Prop:=∃b,H1.get H0.nx=some (ae 51 [.sl b 0 1 1 none])/\H1.get (H0.nx+1)=some (.dfr true)/\H1.get (H0.nx+2)=some lp/\
 H1.get b=some (ae 3 [O 0])/\H0.nx+3<b/\b<H1.nx/\∀c,c<H0.nx->H1.get c=H0.get c
def ZE (H0:Hp) (lp:Blk) (e0:En) (HH:Hp) (m:Nat) (e:En) (H1:Hp):Prop:=(m=8/\e=e0/\H1=HH)∨((∃i:Nat,1<=i/\i<=8/\m=8 - i/\e.dm=[]/\e.t 7= O i/\e.t 6= .agg ws1)/\Yf H0 lp H1)
theorem Bk {H:Hp} {K:AV->Hp->Bool} (hK:∀b H',H'.get b=some (ae 3 [O 0])->H.nx<=b->b<H'.nx->(∀c,c<H.nx->H'.get c=H.get c)->K (.sl b 0 1 1 none) H'=true):ay 316 [.fn 264 [.agg (aq (scD W1))] []] H K=true:=by
 rw [show aq (scD W1)=ws1 from VZ]
 refine cb 200 ?_
 rw [aAX]
 simp (disch:=omega) only [go_sem]
 refine cb 200 ?_
 rw [aCZ]
 simp (disch:=omega) only [go_sem]
 generalize henv:es E2.empty (ao 0 [AV.nils,AV.fn 264 [.agg ws1] [],AV.ptr H.nx 0] [(4,AV.nils),(6,AV.fn 264 [.agg ws1] [])])=env
 have henv2:env 2= .ptr H.nx 0:=by rw [←henv];simp (disch:=omega) only [go_sem]
 refine pV QC ?_
 refine cb 200 ?_
 have hag:ew 8 (ws1.drop 0)=some ws1:=rfl
 simp (disch:=omega) only [go_sem,gv,lA,aDE,bD,hag]
 generalize hlp:Blk.loop LoopState.ready none env 13 [7] (fH 352 52) (fH 352 53) (H.nx+1)=lp
 generalize hHH:(((H.push (Blk.cells (some 51) false [AV.nils])).push (Blk.dfr true)).push lp).push (Blk.cells (some 346) false ws1)=HH
 have hnx:HH.nx=H.nx+4:=by rw [←hHH];rfl
 have g0:HH.get H.nx=some (ae 51 [.nils]):=by rw [←hHH];simp (disch:=omega) only [go_sem,bD,bZ]
 have g1:HH.get (H.nx+1)=some (.dfr true):=by rw [←hHH];simp (disch:=omega) only [go_sem,bD,bZ]
 have g2:HH.get (H.nx+2)=some lp:=by rw [←hHH];simp (disch:=omega) only [go_sem,bD,bZ]
 have gf:∀c,c<H.nx->HH.get c=H.get c:=fun c hc=>by rw [←hHH];simp (disch:=omega) only [go_sem,bD]
 refine aZ (ZE H lp _ HH) (m:=8) (h0:= .inl ⟨rfl,rfl,rfl⟩) (h:=fun m e H1 hi=> ?_)
 rcases hi with⟨rfl,rfl,rfl⟩| ⟨⟨i,hi1,hi2,rfl,hdm,a7,a6⟩,hF⟩
 ·refine aV 200 ?_
  refine IS (F:=Yf H lp) (l:=H.nx+2) (by (simp (disch:=omega) only [go_sem]);rfl) (by (simp (disch:=omega) only [go_sem]);rfl) (by simp (disch:=omega) only [go_sem]) (fun K hK2=> ?_) fun t' H' hF b7 b6=> ?_
  ·subst hlp
   rw [pW]
   refine jW (env':=es (E2.set env 7 (O 0)) [(5, O 0)]) (asg:=fH 352 52) (body:=fH 352 53) (d:=H.nx+1) (env:=env) g2 (by decide) (by decide) (fun K=>by rw [O'];rw [cY _ _ _ (by decide)]) g2 (fun K hk2=> ?_)
   rw [Pu]
   have e2:(es (E2.set env 7 (O 0)) [(5, O 0)]) 2= .ptr H.nx 0:=by
    rw [hU _ _ _ (by decide) rfl];show (E2.set env 7 (O 0)) 2=_;rw [cM _ _ _ _ (by decide) (by decide) (by decide)];exact henv2
   have e5:(es (E2.set env 7 (O 0)) [(5, O 0)]) 5= O 0:=by
    rw [hU _ _ _ (by decide) rfl];rfl
   rw [e2,e5]
   simp (disch:=omega) only [go_sem,g0,bD,rQ,dq,hnx]
   refine vU (cs:=[O 0]) fZ (el1:=some 3) (ro1:=false) (by simp (disch:=omega) only [go_sem,bZ,hnx]) rfl rfl ?_
   simp (disch:=omega) only [go_sem,g0,bD,hnx]
   refine hk2 _ _ (by simp (disch:=omega) only [go_sem,bD,bZ,hnx]) ?_
   refine hK2 _ ⟨H.nx+4+1, ?_, ?_, ?_, ?_,by omega, ?_,fun c hc=> ?_⟩
   ·simp (disch:=omega) only [go_sem,bD,bZ,hnx]
   ·simp (disch:=omega) only [go_sem,bD,bZ,hnx,g1]
   ·simp (disch:=omega) only [go_sem,bD,bZ,hnx]
   ·simp (disch:=omega) only [go_sem,bD,bZ,hnx]
   ·simp (disch:=omega) only [go_sem,hnx];omega
   ·simp (disch:=omega) only [go_sem,bD,hnx];exact gf c hc
  ·simp (disch:=omega) only [go_sem]
   exact bd (m':=7) (by omega) (.inr ⟨⟨1,by omega,by omega,rfl,rfl,b7,b6⟩,hF⟩)
 ·obtain⟨t,dm⟩:=e
  dsimp only at hdm a7 a6
  subst hdm
  refine aV 200 ?_
  by_cases hi:i<8
  ·refine aBW a7 a6 (Xh i hi1 hi) hi fun t' b7 b6 _=> ?_
   simp (disch:=omega) only [go_sem]
   exact bd (m':=8 - (i+1)) (by omega) (.inr ⟨⟨i+1,by omega,by omega,rfl,rfl,b7,b6⟩,hF⟩)
  ·obtain⟨b,f1,f2,f3,f4,f5,f6,f7⟩:=hF
   rw [A8,a7]
   have hlt:¬((i:Int)<8):=by omega
   simp (disch:=omega) only [go_sem,hlt]
   subst hlp
   simp (disch:=omega) only [go_sem,Vv]
   rw [nr f3]
   simp (disch:=omega) only [go_sem,Pm,henv2,f1,bD]
   rw [U2 (d:=H.nx+1) (by simp (disch:=omega) only [go_sem,f2,bD])]
   simp (disch:=omega) only [go_sem]
   refine hK b _ ?_ (by omega) ?_ fun c hc=> ?_
   ·simp (disch:=omega) only [go_sem,bD];exact f4
   ·simp (disch:=omega) only [go_sem];exact f6
   ·simp (disch:=omega) only [go_sem,bD];exact f7 c hc
def qH (lo N:Nat) (H:Hp) (v:AV) (n L:Nat):Prop:=∃b l,v= .sl b 0 n 1 none/\H.get b=some (ae 3 l)/\l.length=L/\n<=L/\(∀x∈l,inN N x)/\lo<=b/\b<H.nx
theorem qH.frame {lo N n L:Nat} {H H':Hp} {v:AV} (h:qH lo N H v n L) (hn:H.nx<=H'.nx) (hf:∀c,lo<=c->c<H.nx->H'.get c=H.get c):qH lo N H' v n L:=by
 obtain⟨b,l,h1,h2,h3,h4,h5,h6,h7⟩:=h
 exact⟨b,l,h1,by rw [hf b h6 h7];exact h2,h3,h4,h5,h6,by omega⟩
theorem qH.len {lo N n L:Nat} {H H':Hp} {v:AV} {k:AV->Bool} (h:qH lo N H v n L):ak 51 v H' k=k (O n):=by
 obtain⟨b,l,rfl,_⟩:=h
 unfold kJ
 rw [kQ]
 rfl
theorem qH.last {lo N n L:Nat} {H:Hp} {v:AV} (h:qH lo N H v (n+1) L):∃j p,j<N/\(∀k:AV->Bool,ah 51 v (O (n:Int)) k=k p)/\∀k:AV->Bool,E H 3 p k=k (O (j:Int)):=by
 obtain⟨b,l,rfl,h2,h3,h4,h5,_⟩:=h
 obtain⟨j,hj,hx⟩:=h5 l[n] (cO (by omega))
 refine⟨j,.ptr b (0+n * 1),hj,fun k=>gX kQ in3 ce3 (by omega),fun k=> ?_⟩
 rw [cf h2 ag3 (v:= O (j:Int)) (by rw [ca,dZ,dW (by omega),hx])]
theorem qH.cut {lo N n L:Nat} {H:Hp} {v:AV} (h:qH lo N H v (n+1) L):∃w,qH lo N H w n L/\∀k:AV->Bool,cK P H 51 v none (some (O (n:Int))) none k=k w:=by
 obtain⟨b,l,rfl,h2,h3,h4,h5,h6,h7⟩:=h
 refine⟨.sl b 0 n 1 none,⟨b,l,rfl,h2,h3,by omega,h5,h6,h7⟩,fun k=> ?_⟩
 unfold cK
 simp only [IR,gz,mP]
 rw [ce3,bW,show oy H 1 b 0 (n+1) none n=true from by unfold oy;rw [show Nat.ble n (n+1)=true from by simp]]
 simp only [Nat.ble,bA,kF,ko,kC]
theorem qH.app {lo N n L j:Nat} {H:Hp} {v x:AV} {k:AV->Hp->Bool} (h:qH lo N H v n L) (hL:L<=100000) (hlo:lo<=H.nx) (hj:j<N) (hx:∀kk:Nat->List AV->Bool,dX H 1 x kk=kk 1 [O (j:Int)])
  (hk:∀v' H' L',qH lo N H' v' (n+1) L'->L'<=L+1->H.nx<=H'.nx->(∀c,c<lo->H'.get c=H.get c)->k v' H'=true):bu H 51 51 v x k=true:=by
 obtain⟨b,l,rfl,h2,h3,h4,h5,h6,h7⟩:=h
 unfold fj
 rw [fZ.h1]
 dsimp only
 rw [fZ.h2,fZ.h3,fZ.h4,fZ.h5]
 dsimp only
 rw [fZ.h6,hx]
 dsimp only
 rw [show ([AV.int .i64 (j:Int)]).all one=true from rfl]
 dsimp only
 rw [bW,show Nat.ble (n+(0+1)) 1048576=true from by simp only [ml];omega,h2]
 dsimp only
 rw [fi,dZ,dP _ _ (by omega)]
 dsimp only [lZ]
 by_cases hlt:n<l.length
 ·rw [show Nat.ble (0+(n+(0+1)) * 1) l.length=true from by simp only [ml];omega]
  dsimp only
  rw [ca,CF l n _ hlt]
  dsimp only
  rw [bH,cJ,bA]
  refine hk _ _ L ⟨b,l.set n (O (j:Int)),rfl,by rw [V,if_pos rfl],by rw [kw,h3],by omega,fun y hy=> ?_,h6,by rw [au];exact h7⟩ (by omega) (by rw [au];omega) fun c hc=>by rw [V,if_neg (by omega)]
  rcases List.mem_or_eq_of_mem_set hy with hy | rfl
  ·exact h5 y hy
  ·exact⟨j,hj,rfl⟩
 ·have hnl:n=l.length:=by omega
  rw [show Nat.ble (0+(n+(0+1)) * 1) l.length=false from by
   cases hb:Nat.ble (0+(n+(0+1)) * 1) l.length with
   | false=>rfl
   | true=>have:=dK hb;omega]
  dsimp only
  rw [bH,cJ,aI,bA,show oC 0 none (some 3) 3=some 3 from rfl,cN (by omega)]
  refine hk _ _ (L+1) ⟨H.nx,l++[O (j:Int)],rfl,by rw [af,au,if_pos rfl],by simp [h3],by omega,fun y hy=> ?_,hlo,by rw [am,au];omega⟩ (by omega) (by rw [am,au];omega) fun c hc=>by
   rw [af,au,if_neg (by omega),V,if_neg (by omega)]
  rcases dF.1 hy with hy | hy
  ·exact h5 y hy
  ·rw [je] at hy;exact⟨j,hj,hy⟩
def mQ (W:Nat->BitVec 64):Nat:=((List.range 512).filter fun j=> !yc W j).length
theorem Gy (W:Nat->BitVec 64):mQ W<=512:=by
 unfold mQ;exact fC (List.length_filter_le _ _) (by simp)
theorem wN {p:Nat->Bool} {n:Nat}:∀{l:List Nat},n∈l->p n=true->(l.filter fun j=>decide (j≠n)&&p j).length+1<=(l.filter p).length
 | a::l,hm,hp=>by
  have hle:(l.filter fun j=>decide (j≠n)&&p j).length<=(l.filter p).length:=by
   rw [←List.countP_eq_length_filter,←List.countP_eq_length_filter]
   exact List.countP_mono_left fun x _ h=>by simp at h;exact h.2
  by_cases ha:a=n
  ·subst ha
   rw [sj (by simp),rT hp,dR]
   omega
  ·have ih:=wN (p:=p) (n:=n) (l:=l) (by rcases cy.1 hm with h | h;exact absurd h.symm ha;exact h) hp
   by_cases hpa:p a=true
   ·rw [rT (by simp [ha,hpa]),rT hpa,dR,dR];omega
   ·rw [sj (by simp [hpa]),sj hpa];exact ih
theorem xn {W:Nat->BitVec 64} {n:Nat} (hn:n<512) (h:yc W n=false):mQ (tU W n)+1<=mQ W:=by
 unfold mQ
 have:=wN (p:=fun j=> !yc W j) (n:=n) (l:=List.range 512) (by simpa using hn) (by simp [h])
 refine fC (Nat.le_of_eq ?_) this
 congr 2
 refine List.filter_congr fun j _=> ?_
 rw [GW]
 by_cases hj:j=n<;>simp [hj]
def z8:List AV:=[.int .u64 0,.int .u64 0,.int .u64 0,.int .u64 0,.int .u64 0,.int .u64 0,.int .u64 0,.int .u64 0]
theorem zM {H:Hp} {b:Nat} {el:Option TypeId} {ro:Bool} {W:Nat->BitVec 64} {k:AV->Bool} (hb:H.get b=some (.cells el ro (aq (scD W)))):E H 346 (.ptr b 0) k=k (.agg (aq (scD W))):=by
 rw [iE,hb,fy,M3,jc,M4,show ew 8 ((aq (scD W)).drop 0)=some (aq (scD W)) from rfl,fX]
theorem Mx {H:Hp} {b:Nat} {el:Option TypeId} {W:Nat->BitVec 64} {k:Hp->Bool} (hb:H.get b=some (.cells el false z8)):aA H 346 (.ptr b 0) (.agg (aq (scD W))) k=k (H.setb b (some (.cells el false (aq (scD W))))):=by
 rw [jv,hb,M3,gr,M4,bJ,show (Nat.beq (aq (scD W)).length 8&&(aq (scD W)).all one)=true from rfl,show fg z8 0 (aq (scD W))=some (aq (scD W)) from rfl,qE]
structure BI (H0:Hp) (bm n:Nat) (W:Nat->BitVec 64) (q L:Nat) (v:AV) (t:E2) (H:Hp):Prop where
 wk:qH (H0.nx+2) n H v q L
 le:L+mQ W<=513
 t5:t 5=v
 t3:t 3= .ptr H0.nx 0
 t4:t 4= .ptr (H0.nx+1) 0
 t0:t 0= .ptr bm 0
 g0:H.get H0.nx=some (ae 346 (aq (scD W)))
 g1:H.get (H0.nx+1)=some (ae 346 z8)
 nx:H0.nx+2<=H.nx
 fr:∀c,c<H0.nx->H.get c=H0.get c
def aCD (H0:Hp) (bm n:Nat) (m:Nat) (e:En) (H:Hp):Prop:=∃W q L v,m=2 * mQ W+q/\e.dm=[]/\BI H0 bm n W q L v e.t H
def ZX (H0:Hp) (bm n M:Nat) (x:AV) (cs:List AV) (m:Nat) (e:En) (H:Hp):Prop:=∃W q L v i,m=cs.length - i/\i<=cs.length/\2 * mQ W+q<=M/\e.dm=[]/\BI H0 bm n W q L v e.t H/\
 e.t 34= O (i:Int)/\e.t 32=x/\e.t 33= O (cs.length:Int)
theorem BI.env {H0 H:Hp} {bm n q L:Nat} {W:Nat->BitVec 64} {v:AV} {t t':E2} (h:BI H0 bm n W q L v t H) (h5:t' 5=t 5) (h3:t' 3=t 3) (h4:t' 4=t 4) (h0:t' 0=t 0):BI H0 bm n W q L v t' H:=
 ⟨h.wk,h.le,h5.trans h.t5,h3.trans h.t3,h4.trans h.t4,h0.trans h.t0,h.g0,h.g1,h.nx,h.fr⟩
theorem O6 {H0 H:Hp} {bm n q L i M:Nat} {W:Nat->BitVec 64} {v x:AV} {t:E2} {cs:List AV} {k:AEx->En->Hp->Bool} {ρ:Nat->ep} {r:ep} (h:BI H0 bm n W q L v t H) (hn:n<=512) (hx:Arr 3 1 r ρ H0 x cs) (hcs:∀y∈cs,inN n y)
  (h34:t 34= O (i:Int)) (h32:t 32=x) (h33:t 33= O (cs.length:Int)) (hi:i<cs.length) (hil:cs.length<=1000000) (hM:2 * mQ W+q<=M)
  (hk:∀t' H' W' q' L' v',2 * mQ W'+q'<=M->BI H0 bm n W' q' L' v' t' H'->t' 34= O ((i+1:Nat):Int)->t' 32=x->t' 33= O (cs.length:Int)->k .normal ⟨t',[]⟩ H'=true):
  az 200 50 263 3630 none ⟨t,[]⟩ H k=true:=by
 obtain⟨wk,le,t5,t3,t4,t0,g0,g1,nx,fr⟩:=h
 obtain⟨b,_,hbl,hbg,rfl,hix⟩:=hx.idx (P:=P) (t:=51) (e:=3) kQ in3 ce3 hi
 obtain⟨j,hj,hy⟩:=hcs cs[i] (cO hi)
 have hlt:((i:Int)<(cs.length:Int)):=by omega
 rw [Ht,h34,h33,h32]
 simp (disch:=omega) only [go_sem,hlt]
 rw [hix,cf (v:= O (j:Int)) (by rw [fr b hbl];exact hbg) ag3 (by rw [dW hi,hy]),t3,zM g0]
 refine bB hG _ (AN W (n:=j) (by omega)) rfl ?_
 simp (disch:=omega) only [go_sem]
 refine ab (fun hh=> ?_) (fun hh=> ?_)
 ·have hno:yc W j=false:=by simpa using hh
  have hu:=xn (W:=W) (n:=j) (by omega) hno
  simp (disch:=omega) only [go_sem,t3]
  refine Gi g0 (by omega) ?_
  simp (disch:=omega) only [go_sem,t5,rQ,dq]
  refine ((wk.frame (H':=(H.setb H0.nx (some (ae 346 (aq (scD (tU W j)))))).push (ae 3 [O (j:Int)])) (by simp (disch:=omega) only [go_sem];omega) fun c hc hc2=>by simp (disch:=omega) only [go_sem,bD])).app (j:=j) (by omega) (by simp (disch:=omega) only [go_sem];omega) hj (jo (H:=H.setb H0.nx (some (ae 346 (aq (scD (tU W j)))))) rfl) fun v' H' L' hw hL hnx hf=> ?_
  rw [am,au] at hnx
  simp (disch:=omega) only [go_sem,GL,h34]
  refine hk _ _ (tU W j) (q+1) L' v' (by omega) ⟨hw,by omega, ?_, ?_, ?_, ?_, ?_, ?_,by omega,fun c hc=> ?_⟩ ?_ ?_ ?_
  ·simp (disch:=omega) only [go_sem]
  ·simp (disch:=omega) only [go_sem,t3]
  ·simp (disch:=omega) only [go_sem,t4]
  ·simp (disch:=omega) only [go_sem,t0]
  ·rw [hf _ (by omega)];simp (disch:=omega) only [go_sem,bD,bZ]
  ·rw [hf _ (by omega)];simp (disch:=omega) only [go_sem,bD];exact g1
  ·rw [hf _ (by omega)];simp (disch:=omega) only [go_sem,bD];exact fr c hc
  ·simp (disch:=omega) only [go_sem,h34];rfl
  ·simp (disch:=omega) only [go_sem,h32]
  ·simp (disch:=omega) only [go_sem,h33]
 ·simp (disch:=omega) only [go_sem,GL,h34]
  refine hk _ _ W q L v (by omega) ⟨wk,le, ?_, ?_, ?_, ?_,g0,g1,nx,fr⟩ ?_ ?_ ?_
  ·simp (disch:=omega) only [go_sem,t5]
  ·simp (disch:=omega) only [go_sem,t3]
  ·simp (disch:=omega) only [go_sem,t4]
  ·simp (disch:=omega) only [go_sem,t0]
  ·simp (disch:=omega) only [go_sem,h34];rfl
  ·simp (disch:=omega) only [go_sem,h32]
  ·simp (disch:=omega) only [go_sem,h33]
theorem QF {H:Hp} {bm:Nat} {a b:AV} {la:Int} {k:AV->Bool} (h1:H.get bm=some (ae 352 [a,b, O la])):E H 181 (.ptr bm (0+1)) k=k b:=cf h1 Hq rfl
theorem Eg {ρ:Nat->ep} {H:Hp} {bm n c:Nat} {K:AV->Hp->Bool} (hm:iM ρ H bm n c) (hn:n<=512) (h1n:1<=n) (hc:c<=100000)
  (hK:∀W H',H.nx<=H'.nx->(∀b,b<H.nx->H'.get b=H.get b)->K (.agg (aq (scD W))) H'=true):ay 263 [.ptr bm 0,.agg (aq (scD W1))] H K=true:=by
 obtain⟨ev,fv,la,es,fs,h1,h2,h3,h4⟩:=hm
 refine cb 200 ?_
 rw [YU]
 have hag:ew 8 ((aq (scD W1)).drop 0)=some (aq (scD W1)):=rfl
 simp only [aI,bJ]
 rw [zM (W:=W1) (el:=some 346) (ro:=false) (by simp (disch:=omega) only [go_sem,bD,bZ])]
 refine Bk fun b H' hb hb1 hb2 hf=> ?_
 simp (disch:=omega) only [go_sem] at hb1 hb2 hf
 have hw1:qH (H.nx+2) n H' (.sl b 0 1 1 none) 1 1:=⟨b,_,rfl,hb,rfl,by omega,fun x hx=>by rw [je] at hx;exact⟨0,by omega,hx⟩,by omega,hb2⟩
 have hu1:mQ W1+1<=512:=by
  have:=xn (W:=fun _=>0) (n:=0) (by omega) rfl
  have h2:=Gy (fun _=>0)
  exact fC this h2
 refine aZ (aCD H bm n) (fun m e H1 hi=> ?_) (m:=2 * mQ W1+1) ⟨W1,1,1,.sl b 0 1 1 none,rfl,rfl,hw1,by omega, ?_, ?_, ?_, ?_, ?_, ?_,by omega,fun c hc=> ?_⟩
 rotate_left
 ·simp (disch:=omega) only [go_sem]
 ·simp (disch:=omega) only [go_sem]
 ·simp (disch:=omega) only [go_sem]
 ·simp (disch:=omega) only [go_sem]
 ·rw [hf _ (by omega)];simp (disch:=omega) only [go_sem,bD,bZ]
 ·rw [hf _ (by omega)];(simp (disch:=omega) only [go_sem,bD,bZ]);rfl
 ·rw [hf _ (by omega)];simp (disch:=omega) only [go_sem,bD]
 obtain⟨W,q,L,v,rfl,hdm,hC⟩:=hi
 obtain⟨t,dm⟩:=e
 dsimp only at hdm hC
 subst hdm
 refine aV 200 ?_
 rw [P4,hC.t5,hC.wk.len]
 by_cases hq:q=0
 ·subst hq
  have hlt:((0:Int)<((0:Nat):Int))=False:=by simp
  have E3:∀x y,(Ev.es t (ao 12 [v,x,y] [])) 3= .ptr H.nx 0:=fun x y=>by simp (disch:=omega) only [go_sem,hC.t3]
  have E4:∀x y,(Ev.es t (ao 12 [v,x,y] [])) 4= .ptr (H.nx+1) 0:=fun x y=>by simp (disch:=omega) only [go_sem,hC.t4]
  rw [qX]
  simp only [hlt,i9,eV,qN,pj,eU,Px]
  rw [E3,zM hC.g0,E4,Mx hC.g1]
  rw [aBJ]
  simp (disch:=omega) only [go_sem,hC.t4]
  have hnx:=hC.nx
  rw [show ew 8 (aq (scD W))=some (aq (scD W)) from rfl,fX]
  refine hK W _ (by simp (disch:=omega) only [go_sem];omega) fun b hb=> ?_
  simp (disch:=omega) only [go_sem,bD]
  exact hC.fr b hb
 ·obtain⟨q,rfl⟩:∃p,q=p+1:=⟨q - 1,by omega⟩
  have hlt:((0:Int)<((q+1:Nat):Int))=True:=by simp
  have hqq:((q+1:Nat):Int) - 1=(q:Int):=by omega
  have hqb:(-9223372036854775808<=((q+1:Nat):Int) - 1/\((q+1:Nat):Int) - 1<=9223372036854775807):=by
   obtain⟨_,_,_,_,_,h5,_⟩:=hC.wk
   have:=hC.le
   omega
  obtain⟨j,p,hj,hlast,hload⟩:=hC.wk.last
  obtain⟨w,hww,hcut⟩:=hC.wk.cut
  have hjf:j<fs.length:=by rw [h4.fl];exact hj
  obtain⟨fb,hfb,hfbl,hfbg,rfl,hfix⟩:=h4.hf.idx (P:=P) (t:=181) (e:=51) OD UM LJ hjf
  obtain⟨cs,hcs1,hcs2,hcs3⟩:=h4.fo j fs[j] (dW hjf)
  have hgm:H1.get bm=some (ae 352 [ev,.sl fb 0 fs.length 1 none, O la]):=by rw [hC.fr bm h3];exact h1
  simp only [qX,hlt,dL,dH,jH _ _ _ _ hqb,hqq,hlast,hload,hcut,hC.t0,fS,bL]
  rw [hC.wk.len,jH _ _ _ _ hqb,hqq,hlast,hload,hC.wk.len,jH _ _ _ _ hqb,hqq,hcut,QF hgm,hfix,cf (by rw [hC.fr fb hfbl];exact hfbg) B4 (dW hjf),hcs1.len rfl kQ]
  refine aZ (ZX H bm n (2 * mQ W+q) fs[j] cs) (fun m e H2 hi=> ?_) (m:=cs.length) ⟨W,q,L,w,0,rfl,bN _,bh _,rfl,⟨hww,hC.le, ?_, ?_, ?_, ?_,hC.g0,hC.g1,hC.nx,hC.fr⟩, ?_, ?_, ?_⟩
  rotate_left
  ·simp (disch:=omega) only [go_sem]
  ·simp (disch:=omega) only [go_sem,hC.t3]
  ·simp (disch:=omega) only [go_sem,hC.t4]
  ·simp (disch:=omega) only [go_sem,hC.t0]
  ·simp (disch:=omega) only [go_sem];rfl
  ·simp (disch:=omega) only [go_sem]
  ·simp (disch:=omega) only [go_sem]
  obtain⟨W',q',L',v',i,rfl,hil,hM,hdm,hC',g34,g32,g33⟩:=hi
  obtain⟨t',dm⟩:=e
  dsimp only at hdm hC' g34 g32 g33
  subst hdm
  refine aV 200 ?_
  by_cases hi:i<cs.length
  ·refine O6 hC' hn hcs1 hcs3 g34 g32 g33 hi (by omega) hM fun t2 H3 W2 q2 L2 v2 hM2 hC2 a34 a32 a33=> ?_
   simp (disch:=omega) only [go_sem]
   exact bd (m':=cs.length - (i+1)) (by omega) ⟨W2,q2,L2,v2,i+1,rfl,by omega,hM2,rfl,hC2,a34,a32,a33⟩
  ·rw [Ht,g34,g33]
   have hlt:((i:Int)<(cs.length:Int))=False:=by simp;omega
   simp (disch:=omega) only [go_sem,hlt]
   exact bd (m':=2 * mQ W'+q') (by omega) ⟨W',q',L',v',rfl,rfl,hC'.env (by simp (disch:=omega) only [go_sem]) (by simp (disch:=omega) only [go_sem]) (by simp (disch:=omega) only [go_sem]) (by simp (disch:=omega) only [go_sem])⟩
theorem _root_.Go.Ev.iM.keep {ρ:Nat->ep} {H H':Hp} {bm n c:Nat} (h:iM ρ H bm n c) (hn:H.nx<=H'.nx) (hf:∀b,b<H.nx->(∀(_:ρ b= .no),False)->H'.get b=H.get b):iM ρ H' bm n c:=by
 obtain⟨ev,fv,la,es,fs,h1,h2,h3,h4⟩:=h
 exact⟨ev,fv,la,es,fs,by rw [hf bm h3 (by rw [h2];nofun)];exact h1,h2,by omega,h4.frame hn (fun b hb h1 _=>⟨rfl,hf b hb h1⟩) fun b hb=>h4.fresh b (by omega)⟩
theorem _root_.Go.Ev.iM.fresh {ρ:Nat->ep} {H:Hp} {bm n c b:Nat} (h:iM ρ H bm n c) (hb:H.nx<=b):ρ b= .no:=by
 obtain⟨_,_,_,_,_,_,_,_,h4⟩:=h
 exact h4.fresh b hb
theorem _root_.Go.Ev.Fr.step {ρ0 ρ:Nat->ep} {H0 H H':Hp} (h:Fr ρ0 H0 ρ H) (hn:H.nx<=H'.nx) (hf:∀c,c<H0.nx->ρ c= .no->H'.get c=H.get c):Fr ρ0 H0 ρ H':=
 ⟨by have:=h.1;omega,fun b hb hr=>let ⟨h1,h2⟩:=h.2 b hb hr;⟨h1,(hf b hb h1).trans h2⟩⟩
def Lst (ρ:Nat->ep) (lo N:Nat) (H:Hp) (v:AV) (l:List AV):Prop:=∃b cp,v= .sl b 0 l.length 1 cp/\(cp=none∨cp=some l.length)/\H.get b=some (ae 3 l)/\ρ b= .no/\lo<=b/\b<H.nx/\∀x∈l,inN N x
theorem Lst.frame {ρ ρ':Nat->ep} {lo N N':Nat} {H H':Hp} {v:AV} {l:List AV} (h:Lst ρ lo N H v l) (hN:N<=N') (hn:H.nx<=H'.nx) (hf:∀b,lo<=b->b<H.nx->ρ b= .no->ρ' b= .no/\H'.get b=H.get b):Lst ρ' lo N' H' v l:=by
 obtain⟨b,cp,h1,h2,h3,h4,h5,h6,h7⟩:=h
 obtain⟨h8,h9⟩:=hf b h5 h6 h4
 exact⟨b,cp,h1,h2,by rw [h9];exact h3,h8,h5,by omega,fun x hx=>let ⟨j,hj,hx⟩:=h7 x hx;⟨j,by omega,hx⟩⟩
theorem Lst.len {ρ:Nat->ep} {lo N:Nat} {H H':Hp} {v:AV} {l:List AV} {k:AV->Bool} (h:Lst ρ lo N H v l):ak 51 v H' k=k (O (l.length:Int)):=by
 obtain⟨b,cp,rfl,_⟩:=h
 unfold kJ
 rw [kQ]
 rfl
theorem Lst.at {ρ:Nat->ep} {lo N i:Nat} {H:Hp} {v:AV} {l:List AV} (h:Lst ρ lo N H v l) (hi:i<l.length):∃j p,j<N/\(∀k:AV->Bool,ah 51 v (O (i:Int)) k=k p)/\∀H',(∀b,lo<=b->b<H.nx->ρ b= .no->H'.get b=H.get b)->∀k:AV->Bool,E H' 3 p k=k (O (j:Int)):=by
 obtain⟨b,cp,rfl,h2,h3,h4,h5,h6,h7⟩:=h
 obtain⟨j,hj,hx⟩:=h7 l[i] (cO hi)
 refine⟨j,.ptr b (0+i * 1),hj,fun k=>gX kQ in3 ce3 hi,fun H' hf k=> ?_⟩
 rw [cf (by rw [hf b h5 h6 h4];exact h3) ag3 (v:= O (j:Int)) (by rw [ca,dZ,dW hi,hx])]
theorem Lst.app {ρ:Nat->ep} {lo N j:Nat} {H:Hp} {v x:AV} {l:List AV} {k:AV->Hp->Bool} (h:Lst ρ lo N H v l) (hL:l.length<=100000) (hlo:lo<=H.nx) (hfr:ρ H.nx= .no) (hj:j<N) (hx:∀kk:Nat->List AV->Bool,dX H 1 x kk=kk 1 [O (j:Int)])
  (hk:∀v' H',Lst ρ lo N H' v' (l++[O (j:Int)])->H.nx<=H'.nx->(∀c,c<H.nx->(c<lo∨(ρ c= .no->False))->H'.get c=H.get c)->k v' H'=true):bu H 51 51 v x k=true:=by
 obtain⟨b,cp,rfl,h2,h3,h4,h5,h6,h7⟩:=h
 have hm:∀y∈l++[AV.int .i64 (j:Int)],inN N y:=fun y hy=>by
  rcases dF.1 hy with hy | hy
  ·exact h7 y hy
  ·rw [je] at hy;exact⟨j,hj,hy⟩
 unfold fj
 rw [fZ.h1]
 dsimp only
 rw [fZ.h2,fZ.h3,fZ.h4,fZ.h5]
 dsimp only
 rw [fZ.h6,hx]
 dsimp only
 rw [show ([AV.int .i64 (j:Int)]).all one=true from rfl]
 dsimp only
 rw [bW,show Nat.ble (l.length+(0+1)) 1048576=true from by simp only [ml];omega,h3]
 dsimp only
 rw [fi,dZ,dP _ _ (by omega),cN (by omega)]
 dsimp only
 have hlen:(l++[AV.int .i64 (j:Int)]).length=l.length+(0+1):=by simp
 rcases h2 with rfl | rfl
 ·rw [show lZ none (l.length+(0+1))=false from rfl]
  dsimp only
  rw [show Nat.ble (0+(l.length+(0+1)) * 1) l.length=false from by
   cases hb:Nat.ble (0+(l.length+(0+1)) * 1) l.length with
   | false=>rfl
   | true=>have:=dK hb;omega]
  dsimp only
  rw [bH,cJ,aI,bA,show oC 0 none (some 3) 3=some 3 from rfl]
  refine hk _ _ ⟨H.nx,none,by rw [hlen];rfl,.inl rfl,by rw [af,au,if_pos rfl],hfr,hlo,by rw [am,au];omega,hm⟩ (by rw [am,au];omega) fun c hc hcc=> ?_
  rw [af,au,if_neg (by omega),V,if_neg]
  rintro rfl
  rcases hcc with h | h
  ·omega
  ·exact h h4
 ·rw [show lZ (some l.length) (l.length+(0+1))=true from by simp [lZ,cT]]
  dsimp only
  rw [bH,aI,bA]
  refine hk _ _ ⟨H.nx,none,by rw [hlen],.inl rfl,by rw [af,if_pos rfl],hfr,hlo,by rw [am];omega,hm⟩ (by rw [am];omega) fun c hc hcc=> ?_
  rw [af,if_neg (by omega)]
theorem Vq (s:Str) (n:Int) (k:Blk->(Nat->AV)->Bool):aO 382 1 [(0,.agg [.str s, O n])] k=k (ae 384 [.str s, O n]) (jr 1 2):=by kernel_rfl
theorem VU (s:Str) (n:Int) (k:AV->Bool):aU 384 [(0,.str s),(1, O n)] k=k (.agg [.str s, O n]):=by kernel_rfl
theorem Xk {r:Nat} (hr:r<5) (k:AV->Bool):aw .shl 3 true (O 1) (O (r:Int)) k=k (O ((2 ^r:Nat):Int)):=by
 have h:∀r<5,IntKind.i64.wrap (1 * 2 ^(min ((r:Nat):Int).toNat IntKind.i64.bits))=((2 ^r:Nat):Int):=by decide
 show (match ilt (r:Int) 0 with | true=>false | false=>gE (IntKind.i64.wrap (1 * 2 ^(min (r:Int).toNat IntKind.i64.bits))) fun n=>k (O n))=_
 rw [jm,show decide ((r:Int)<0)=false from by simp]
 dsimp only
 rw [h r hr];exact cA _ fun n=>k (O n)
theorem ZK {a b:Nat} (ha:a<16) (hb:b<16) (k:AV->Bool):aw .or 3 false (O (a:Int)) (O (b:Int)) k=k (O ((a||| b:Nat):Int)):=by
 rw [R9]
 congr 2
 have h:∀x<16,∀y<16,bOr ((x:Nat):Int) ((y:Nat):Int)=((x||| y:Nat):Int):=by decide
 exact h a ha b hb
theorem Kn (H:Hp) (x:Blk):Hp.setb ⟨H.t,H.nx+1⟩ H.nx (some x)=H.push x:=rfl
structure uq (ρ0:Nat->ep) (H0:Hp) (bm N c:Nat) (dn:D) (v:AV) (l:List AV) (ρ:Nat->ep) (t:E2) (H:Hp):Prop where
 m:iM ρ H bm N c
 fr:Fr ρ0 H0 ρ H
 ls:Lst ρ H0.nx N H v l
 t7:t 7=v
 t0:t 0= .ptr bm 0
 t1:t 1=ofD dn
theorem uq.env {ρ0 ρ:Nat->ep} {H0 H:Hp} {bm N c:Nat} {dn:D} {v:AV} {l:List AV} {t t':E2} (h:uq ρ0 H0 bm N c dn v l ρ t H) (h7:t' 7=t 7) (h0:t' 0=t 0) (h1:t' 1=t 1):uq ρ0 H0 bm N c dn v l ρ t' H:=
 ⟨h.m,h.fr,h.ls,h7.trans h.t7,h0.trans h.t0,h1.trans h.t1⟩
theorem Xr {ρ0 ρ:Nat->ep} {H0 H:Hp} {bm n c i T:Nat} {dn:D} {v:AV} {l:List AV} {t:E2} {k:AEx->En->Hp->Bool} (h:uq ρ0 H0 bm n c dn v l ρ t H) (hn:n<=1000) (hl:l.length<=100) (h18:t 18= O (i:Int)) (h17:t 17= O (T:Int)) (hi:i<T) (hT:T<=100)
  (hk:∀ρ' t' H' v' l',uq ρ0 H0 bm (n+1) c dn v' l' ρ' t' H'->l'.length=l.length+1->t' 18= O ((i+1:Nat):Int)->t' 17= O (T:Int)->k .normal ⟨t',[]⟩ H'=true):az 200 77 315 58 none ⟨t,[]⟩ H k=true:=by
 obtain⟨hm,hfr,hls,t7,t0,t1⟩:=h
 have hlt:((i:Int)<(T:Int))=True:=by simp;omega
 rw [FW,h18,h17,cB]
 simp only [hlt,dL,dH]
 rw [t0]
 refine rY hm (by omega) fun ρ1 H1 hm1 hf1=> ?_
 have hls1:=hls.frame (ρ':=ρ1) (N':=n+1) (by omega) hf1.1 fun b hb1 hb2 hr=>hf1.2 b hb2 hr
 simp only [rQ,aI,dq,t7]
 have hfr1:ρ1 H1.nx= .no:=hm1.fresh (bh _)
 have hf2:Fr ρ0 H0 ρ1 H1:=hfr.trans hf1
 have hls2:Lst ρ1 H0.nx (n+1) (H1.push (ae 3 [O (n:Int)])) v l:=hls1.frame (bh _) (by rw [am];omega) fun b hb1 hb2 hr=>⟨hr,by rw [af,if_neg (by omega)]⟩
 have hnx0:=hf2.1
 refine hls2.app (j:=n) (by omega) (by rw [am];omega) (hm1.fresh (by rw [am];omega)) (by omega) (jo rfl) fun v' H' hls' hn' hf'=> ?_
 rw [am] at hn'
 have hf3:∀c,c<H1.nx->(c<H0.nx∨(ρ1 c= .no->False))->H'.get c=H1.get c:=fun c hc h=>by rw [hf' c (by rw [am];omega) h,af,if_neg (by omega)]
 simp (disch:=omega) only [go_sem,h18]
 refine hk ρ1 _ H' v' _ ⟨hm1.keep (by omega) fun b hb hr=>hf3 b hb (.inr hr),hf2.step (by omega) fun c hc _=>hf3 c (by omega) (.inl hc),hls', ?_, ?_, ?_⟩ (by simp) ?_ ?_
 ·simp (disch:=omega) only [go_sem]
 ·simp (disch:=omega) only [go_sem,t0]
 ·simp (disch:=omega) only [go_sem,t1]
 ·simp (disch:=omega) only [go_sem];rfl
 ·simp (disch:=omega) only [go_sem,h17]
theorem WR {a j n:Nat} (ha:a<2 ^n) (hj:j<n):a||| 2 ^j<2 ^n:=Nat.or_lt_two_pow ha (Nat.pow_lt_pow_right (by omega) hj)
theorem Xo {ρ0 ρ:Nat->ep} {H0 H:Hp} {bm N c i j a:Nat} {dn:D} {names:List Str} {v:AV} {l:List AV} {t:E2} {k:AEx->En->Hp->Bool} (h:uq ρ0 H0 bm N c dn v l ρ t H) (hd:Sl 1 fE names dn) (hnl:names.length<=4) (hl:l.length=2 ^names.length) (hi:i<l.length) (hj:j<names.length) (ha:a<N) (hc:c<=100000)
  (h35:t 35= O (j:Int)) (h34:t 34= O (names.length:Int)) (h33:t 33=ofD dn) (h8:t 8= O (i:Int)) (h9:t 9= O (a:Int))
  (hk:∀ρ' t' H',uq ρ0 H0 bm N (c+1) dn v l ρ' t' H'->t' 35= O ((j+1:Nat):Int)->t' 34=t 34->t' 33=t 33->t' 8=t 8->t' 9=t 9->t' 26=t 26->t' 27=t 27->t' 28=t 28->k .normal ⟨t',[]⟩ H'=true):
  az 200 77 315 31334 none ⟨t,[]⟩ H k=true:=by
 have hlt:((j:Int)<(names.length:Int))=True:=by simp;omega
 have h16:2 ^names.length<=16:=by
  have:∀x≤4,2 ^x<=16:=by decide
  exact this _ hnl
 have hj16:2 ^j<16:=gY (Nat.pow_lt_pow_right (by omega) hj) h16
 have hor:=WR (a:=i) (j:=j) (n:=names.length) (by omega) hj
 rw [Is,h35,h34,h33,h8,cB]
 simp only [hlt,dL,dH]
 rw [bC hd dA in9 ce9 hj,nk,ag9,pU]
 have hsx:(aq (cC fE names))[j * 1]? =some (.str names[j]):=by
  rw [bG (enc:=fE) (sz:=1) ci hj (by decide)];rfl
 rw [hsx,qt]
 simp (disch:=omega) only [go_sem]
 refine ab (fun hh=> ?_) (fun hh=> ?_)
 ·obtain⟨hm,hfr,hls,t7,t0,t1⟩:=h
  obtain⟨ev,fv,la,es,fs,h1,h2,h3,h4⟩:=hm
  have hal:a<es.length:=by rw [h4.el];exact ha
  obtain⟨eb,heb,hebl,hebg,hev,heix⟩:=h4.he.idx (P:=P) (t:=350) (e:=382) OO Xe Ma hal
  obtain⟨cs,hcs1,hcs2⟩:=h4.eo a es[a] (dW hal)
  obtain⟨q,p,hq,hpix,hpld⟩:=hls.at (i:=i||| 2 ^j) (by omega)
  have hnc:∀b,b<H.nx->(H.push (ae 384 [.str names[j], O (q:Int)])).get b=H.get b:=fun b hb=>by rw [af,if_neg (by omega)]
  simp only [t0,fS,bL]
  rw [cf (v:=ev) h1 Oi rfl,cf (v:=ev) h1 Oi rfl]
  rw [h9,heix,cf hebg Nf (dW hal),Xk (by omega),ZK (by omega) hj16,t7,hpix,hpld H (fun _ _ _ _=>rfl),VU,Vq]
  rw [dM,im (by rfl),bq,Kn,dq]
  have h5:=MC.push h4 (ae 384 [.str names[j], O (q:Int)])
  refine (hcs1.frame (ρ':=ρ) (H':=H.push (ae 384 [.str names[j], O (q:Int)])) (by rw [am];omega) fun b hb hr=>⟨hr,hnc b hb⟩).app M2 M2.h2 (by decide) (jo rfl) rfl rfl (by simp;omega) fun v' H' ha' hx' hf'=> ?_
  have hg1:H'.get bm=some (ae 352 [ev,fv, O la]):=by rw [hf' bm (by rw [am];omega) (by rw [h2];nofun),hnc bm h3];exact h1
  have hg2:H'.get eb=some (ae 382 es):=by rw [hf' eb (by rw [am];omega) (by rw [heb];nofun),hnc eb hebl];exact hebg
  have hsame:av 1000 ev ev=true:=h4.he.same 999
  have hc':=(B8 h5 (i:=a) (v':=v') (H1:=H') (cs:=cs++[.str names[j], O (q:Int)]) heb (by rw [am];omega) hev hal ha' (by simp;omega) hx' hf')
  rw [am] at hx' hf' hc'
  simp (disch:=omega) only [go_sem,hg1,hsame]
  rw [heix,bq,ex hg2 Nf Ma ha'.cells ha'.one hal]
  simp (disch:=omega) only [go_sem,Ip,h35]
  refine hk _ _ _ ⟨⟨ev,fv,la,_,_, ?_, ?_, ?_,hc'⟩, ?_, ?_, ?_, ?_, ?_⟩ ?_ ?_ ?_ ?_ ?_ ?_ ?_ ?_
  ·rw [V,if_neg (by rintro rfl;rw [h2] at heb;cases heb)];exact hg1
  ·rw [dQ (by omega)];exact h2
  ·rw [au];omega
  ·refine⟨by rw [au];have:=hfr.1;omega,fun b hb hr=> ?_⟩
   obtain⟨g1,g2⟩:=hfr.2 b hb hr
   have:=hfr.1
   refine⟨by rw [dQ (by omega)];exact g1, ?_⟩
   rw [V,if_neg (by rintro rfl;rw [heb] at g1;cases g1),hf' b (by omega) (by rw [g1];nofun),hnc b (by omega)]
   exact g2
  ·refine hls.frame (bh _) (by rw [au];omega) fun b hb1 hb2 hr=>⟨by rw [dQ (by omega)];exact hr, ?_⟩
   rw [V,if_neg (by rintro rfl;rw [heb] at hr;cases hr),hf' b (by omega) (by rw [hr];nofun),hnc b hb2]
  ·simp (disch:=omega) only [go_sem,t7]
  ·simp (disch:=omega) only [go_sem,t0]
  ·simp (disch:=omega) only [go_sem,t1]
  ·simp (disch:=omega) only [go_sem];rfl
  all_goals (simp (disch:=omega) only [go_sem])
 ·simp (disch:=omega) only [go_sem,Ip,h35]
  refine hk ρ _ H ⟨h.m.mono (by omega),h.fr,h.ls, ?_, ?_, ?_⟩ ?_ ?_ ?_ ?_ ?_ ?_ ?_ ?_
  ·simp (disch:=omega) only [go_sem,h.t7]
  ·simp (disch:=omega) only [go_sem,h.t0]
  ·simp (disch:=omega) only [go_sem,h.t1]
  ·simp (disch:=omega) only [go_sem];rfl
  all_goals (simp (disch:=omega) only [go_sem])
def aEO (ρ0:Nat->ep) (H0:Hp) (bm N c M:Nat) (dn:D) (names:List Str) (v:AV) (l:List AV) (i a:Nat) (m:Nat) (e:En) (H:Hp):Prop:=∃ρ j c1,m=names.length - j/\j<=names.length/\e.dm=[]/\c1<=M+j/\uq ρ0 H0 bm N c1 dn v l ρ e.t H/\
 e.t 35= O (j:Int)/\e.t 34= O (names.length:Int)/\e.t 33=ofD dn/\e.t 8= O (i:Int)/\e.t 9= O (a:Int)/\e.t 26=v/\e.t 27= O (l.length:Int)/\e.t 28= O (i:Int)
theorem WG {ρ0 ρ:Nat->ep} {H0 H:Hp} {bm N c i:Nat} {dn:D} {names:List Str} {v:AV} {l:List AV} {t:E2} {k:AEx->En->Hp->Bool} (h:uq ρ0 H0 bm N c dn v l ρ t H) (hd:Sl 1 fE names dn) (hnl:names.length<=4) (hl:l.length=2 ^names.length) (hi:i<l.length) (hc:c<=90000)
  (h28:t 28= O (i:Int)) (h27:t 27= O (l.length:Int)) (h26:t 26=v)
  (hk:∀ρ' t' H' c',c'<=c+names.length->uq ρ0 H0 bm N c' dn v l ρ' t' H'->t' 28= O ((i+1:Nat):Int)->t' 27= O (l.length:Int)->t' 26=v->k .normal ⟨t',[]⟩ H'=true):
  az 200 77 315 122 none ⟨t,[]⟩ H k=true:=by
 have hlt:((i:Int)<(l.length:Int))=True:=by simp;omega
 have hi16:i<16:=by
  have:∀x≤4,2 ^x<=16:=by decide
  have:=this _ hnl
  omega
 obtain⟨a,p,ha,hpix,hpld⟩:=h.ls.at (i:=i) hi
 rw [IT,h28,h27,h26,cB]
 simp only [hlt,dL,dH]
 rw [hpix,hpld H (fun _ _ _ _=>rfl),h.t1,aF hd dA]
 refine aZ (aEO ρ0 H0 bm N c c dn names v l i a) (fun m e H1 hi2=> ?_) (m:=names.length) ⟨ρ,0,c,rfl,bN _,rfl,by omega,h.env (by simp (disch:=omega) only [go_sem]) (by simp (disch:=omega) only [go_sem]) (by simp (disch:=omega) only [go_sem]), ?_, ?_, ?_, ?_, ?_, ?_, ?_, ?_⟩
 rotate_left
 ·simp (disch:=omega) only [go_sem];rfl
 ·simp (disch:=omega) only [go_sem]
 ·simp (disch:=omega) only [go_sem]
 ·simp (disch:=omega) only [go_sem]
 ·simp (disch:=omega) only [go_sem]
 ·simp (disch:=omega) only [go_sem,h26]
 ·simp (disch:=omega) only [go_sem,h27]
 ·simp (disch:=omega) only [go_sem,h28]
 obtain⟨ρ1,j,c1,rfl,hjl,hdm,hc1,hA,g35,g34,g33,g8,g9,g26,g27,g28⟩:=hi2
 obtain⟨t1,dm⟩:=e
 dsimp only at hdm hA g35 g34 g33 g8 g9 g26 g27 g28
 subst hdm
 refine aV 200 ?_
 by_cases hj:j<names.length
 ·refine Xo hA hd hnl hl hi hj ha (by omega) g35 g34 g33 g8 g9 fun ρ2 t2 H2 hA2 a35 a34 a33 a8 a9 a26 a27 a28=> ?_
  simp (disch:=omega) only [go_sem]
  exact bd (m':=names.length - (j+1)) (by omega) ⟨ρ2,j+1,c1+1,rfl,by omega,rfl,by omega,hA2,a35,a34.trans g34,a33.trans g33,a8.trans g8,a9.trans g9,a26.trans g26,a27.trans g27,a28.trans g28⟩
 ·rw [Is,g35,g34,cB]
  have hlt:((j:Int)<(names.length:Int))=False:=by simp;omega
  simp (disch:=omega) only [go_sem,hlt,Rb,g28]
  refine hk ρ1 _ H1 c1 (by omega) (hA.env ?_ ?_ ?_) ?_ ?_ ?_
  ·simp (disch:=omega) only [go_sem]
  ·simp (disch:=omega) only [go_sem]
  ·simp (disch:=omega) only [go_sem]
  ·simp (disch:=omega) only [go_sem];rfl
  ·simp (disch:=omega) only [go_sem,g27]
  ·simp (disch:=omega) only [go_sem,g26]
def Zn (ρ0:Nat->ep) (H0:Hp) (bm n c T:Nat) (dn:D) (m:Nat) (e:En) (H:Hp):Prop:=∃ρ i v l,m=T - i/\i<=T/\e.dm=[]/\uq ρ0 H0 bm (n+i) c dn v l ρ e.t H/\l.length=i+1/\e.t 18= O (i:Int)/\e.t 17= O (T:Int)
def aFC (ρ0:Nat->ep) (H0:Hp) (bm N c nl:Nat) (dn:D) (v:AV) (l:List AV) (m:Nat) (e:En) (H:Hp):Prop:=∃ρ i c1,m=l.length - i/\i<=l.length/\e.dm=[]/\c1<=c+i * nl/\uq ρ0 H0 bm N c1 dn v l ρ e.t H/\
 e.t 28= O (i:Int)/\e.t 27= O (l.length:Int)/\e.t 26=v
theorem OU {ρ:Nat->ep} {H:Hp} {bm n c j:Nat} {names:List Str} {dn:D} {K:AV->Hp->Bool} (hm:iM ρ H bm n c) (hd:Sl 1 fE names dn) (hnl:names.length<=4) (hj:j<n) (hn:n<=900) (hc:c<=80000)
  (hK:∀ρ' H' j',iM ρ' H' bm (n+(2 ^names.length - 1)) (c+64)->Fr ρ H ρ' H'->j'<n+(2 ^names.length - 1)->K (O (j':Nat)) H'=true):ay 315 [.ptr bm 0,ofD dn, O (j:Int)] H K=true:=by
 obtain⟨T,hT⟩:∃T,2 ^names.length=T+1:=⟨2 ^names.length - 1,by have:=Nat.one_le_two_pow (n:=names.length);omega⟩
 have h16:2 ^names.length<=16:=by
  have:∀x≤4,2 ^x<=16:=by decide
  exact this _ hnl
 rw [show 2 ^names.length - 1=T by omega] at hK
 refine cb 200 ?_
 rw [aFH,rQ]
 simp only [aI,dq]
 rw [aF hd dA,Xk (by omega),jH _ _ _ _ (by omega),hT,show ((T+1:Nat):Int) - 1=(T:Int) by omega]
 obtain⟨hp1,hp2⟩:=hm.push (ae 3 [O (j:Int)])
 have hls:Lst ρ H.nx n (H.push (ae 3 [O (j:Int)])) (.sl H.nx 0 1 1 (some 1)) [O (j:Int)]:=
  ⟨H.nx,some 1,rfl,.inr rfl,by rw [af,if_pos rfl],hm.fresh (bh _),bh _,by rw [am];omega,fun x hx=>⟨j,hj,by simpa using hx⟩⟩
 refine aZ (Zn ρ H bm n c T dn) (fun m e H1 hi=> ?_) (m:=T) ⟨ρ,0,_,_,rfl,bN _,rfl,⟨hp1,hp2,hls,by simp (disch:=omega) only [go_sem],by simp (disch:=omega) only [go_sem],by simp (disch:=omega) only [go_sem]⟩,rfl,by (simp (disch:=omega) only [go_sem];rfl),by simp (disch:=omega) only [go_sem]⟩
 obtain⟨ρ1,i,v,l,rfl,hiT,hdm,hA,hll,g18,g17⟩:=hi
 obtain⟨t,dm⟩:=e
 dsimp only at hdm hA g18 g17
 subst hdm
 refine aV 200 ?_
 by_cases hi:i<T
 ·refine Xr hA (by omega) (by omega) g18 g17 hi (by omega) fun ρ2 t2 H2 v2 l2 hA2 hl2 a18 a17=> ?_
  simp (disch:=omega) only [go_sem]
  exact bd (m':=T - (i+1)) (by omega) ⟨ρ2,i+1,v2,l2,rfl,by omega,rfl,hA2,by omega,a18,a17⟩
 ·have hiT:i=T:=by omega
  subst hiT
  rw [FW,g18,g17,cB]
  have hlt:((i:Int)<(i:Int))=False:=by simp
  simp (disch:=omega) only [go_sem,hlt,SX]
  simp (disch:=omega) only [go_sem,hA.t7]
  rw [hA.ls.len]
  refine aZ (aFC ρ H bm (n+i) c names.length dn v l) (fun m e H2 hi2=> ?_) (m:=l.length) ⟨ρ1,0,c,rfl,bN _,rfl,by omega,hA.env (by simp (disch:=omega) only [go_sem]) (by simp (disch:=omega) only [go_sem]) (by simp (disch:=omega) only [go_sem]),by (simp (disch:=omega) only [go_sem];rfl),by simp (disch:=omega) only [go_sem],by simp (disch:=omega) only [go_sem,hA.t7]⟩
  obtain⟨ρ2,q,c2,rfl,hql,hdm,hc2,hA2,a28,a27,a26⟩:=hi2
  obtain⟨t2,dm⟩:=e
  dsimp only at hdm hA2 a28 a27 a26
  subst hdm
  have hqn:q * names.length<=16 * 4:=mY (by omega) hnl
  refine aV 200 ?_
  by_cases hq:q<l.length
  ·refine WG hA2 hd hnl (by omega) hq (by omega) a28 a27 a26 fun ρ3 t3 H3 c3 hc3 hA3 b28 b27 b26=> ?_
   simp (disch:=omega) only [go_sem]
   exact bd (m':=l.length - (q+1)) (by omega) ⟨ρ3,q+1,c3,rfl,by omega,rfl,by rw [fV];omega,hA3,b28,b27,b26⟩
  ·rw [IT,a28,a27,cB]
   have hlt:((q:Int)<(l.length:Int))=False:=by simp;omega
   obtain⟨z,p,hz,hpix,hpld⟩:=hA2.ls.at (i:=i) (by omega)
   simp (disch:=omega) only [go_sem,hlt,Ru]
   have E7:∀x,(es t2 [(29,x)]) 7=v:=fun x=>by simp (disch:=omega) only [go_sem,hA2.t7]
   simp only [E7,hA2.t7]
   rw [hA2.ls.len,jH _ _ _ _ (by omega),show ((l.length:Nat):Int) - 1=(i:Int) by omega,hpix,hpld H2 (fun _ _ _ _=>rfl)]
   simp (disch:=omega) only [go_sem,aAY]
   exact hK ρ2 H2 z (hA2.m.mono (by omega)) hA2.fr hz
theorem Ay {ρ:Nat->ep} {H:Hp} {bm n c a e:Nat} {F:AV->AV->AV->AV->AV->AV->AV->AV->(Nat->AV)->Nat->AV->AV->Hp->Bool} (hm:iM ρ H bm n c) (ha:a<n) (he:e<n) (hc:c<=100000)
  (hF:∀x1 x2 x3 x4 x5 x6 x7 x8 x9 x10 x11 x12 ρ' H',iM ρ' H' bm n (c+1)->Fr ρ H ρ' H'->F x1 x2 x3 x4 x5 x6 x7 x8 x9 x10 x11 x12 H'=true):
  (bw (.ptr bm 0) fun v12=>
 U v12 1 fun v13=>
 E H 181 v13 fun v14=>
 bw (.ptr bm 0) fun v17=>
 U v17 1 fun v18=>
 E H 181 v18 fun v19=>
 ah 181 v19 (O (a:Int)) fun v21=>
 E H 51 v21 fun v22=>
 aO 51 1 [(0,(O (e:Int)))] fun k24 r24=>Hp.reserve H fun b24 H24=>
 bF 16352 ((13,b24,k24)::[]) H24 fun Q26 H26=>bu H26 51 51 v22 (r24 b24) fun v25 H25=>
 Bool.casesOn (motive:=fun _=>Bool) (bf 16352 ((11,fun H'=>E H' 51 v21 fun v'=>av 1000 v22 v')::((8,fun H'=>E H' 181 v18 fun v'=>av 1000 v19 v')::((3,fun H'=>E H' 181 v13 fun v'=>av 1000 v14 v')::[]))) H25) false (ah 181 v14 (O (a:Int)) fun v27=>
 bF 65535 Q26 H25 fun Q29 H29=>aA H29 51 v27 v25 fun H28=>
 Bool.casesOn (motive:=fun _=>Bool) (bf 65535 ((11,fun H'=>E H' 51 v21 fun v'=>av 1000 v22 v')::((8,fun H'=>E H' 181 v18 fun v'=>av 1000 v19 v')::((3,fun H'=>E H' 181 v13 fun v'=>av 1000 v14 v')::[]))) H28) false (cG Q29 H28 fun H30=>F v12 v13 v14 v17 v18 v19 v21 v22 r24 b24 v25 v27 H30)))=true:=by
 obtain⟨ev,fv,la,es,fs,h1,h2,h3,h4⟩:=hm
 have hal:a<fs.length:=by rw [h4.fl];exact ha
 obtain⟨fb,hfb,hfbl,hfbg,hfv,hfix⟩:=h4.hf.idx (P:=P) (t:=181) (e:=51) OD UM LJ hal
 obtain⟨cs,hcs1,hcs2,hcs3⟩:=h4.fo a fs[a] (dW hal)
 have hnc:∀b,b<H.nx->(H.push (ae 3 [O (e:Int)])).get b=H.get b:=fun b hb=>by rw [af,if_neg (by omega)]
 rw [fS,bL,cf (v:=fv) h1 Hq rfl,fS,bL,cf (v:=fv) h1 Hq rfl,hfix,cf hfbg B4 (dW hal),rQ]
 rw [dM,im (by rfl),bq,Kn,dq]
 have h5:=MC.push h4 (ae 3 [O (e:Int)])
 refine (hcs1.frame (ρ':=ρ) (H':=H.push (ae 3 [O (e:Int)])) (by rw [am];omega) fun b hb hr=>⟨hr,hnc b hb⟩).app fZ fZ.h2 (by decide) (jo rfl) rfl rfl (by simp;omega) fun v' H' ha' hx' hf'=> ?_
 have hg1:H'.get bm=some (ae 352 [ev,fv, O la]):=by rw [hf' bm (by rw [am];omega) (by rw [h2];nofun),hnc bm h3];exact h1
 have hg2:H'.get fb=some (ae 51 fs):=by rw [hf' fb (by rw [am];omega) (by rw [hfb];nofun),hnc fb hfbl];exact hfbg
 have hsame:av 1000 fv fv=true:=h4.hf.same 999
 have hc':=(BH h5 (i:=a) (v':=v') (H1:=H') (cs:=cs++[O (e:Int)]) hfb (by rw [am];omega) hfv hal ha' (by simp;omega) (fun x hx=>by
  rcases dF.1 hx with hx | hx
  ·exact hcs3 x hx
  ·rw [je] at hx;exact⟨e,he,hx⟩) hx' hf')
 rw [am] at hx' hf' hc'
 simp (disch:=omega) only [go_sem,hg1,hsame]
 rw [hfix,bq,ex hg2 B4 LJ ha'.cells ha'.one hal]
 simp (disch:=omega) only [go_sem]
 refine hF _ _ _ _ _ _ _ _ _ _ _ _ _ _ ⟨ev,fv,la,_,_, ?_, ?_, ?_,hc'⟩ ⟨by rw [au];omega,fun b hb hr=>⟨by rw [dQ (by omega)];exact hr, ?_⟩⟩
 ·rw [V,if_neg (by rintro rfl;rw [h2] at hfb;cases hfb)];exact hg1
 ·rw [dQ (by omega)];exact h2
 ·rw [au];omega
 ·rw [V,if_neg (by rintro rfl;rw [hfb] at hr;cases hr),hf' b (by omega) (by rw [hr];nofun),hnc b hb]
mutual
def stO:ai->Nat
 | .mk kind names _ _ _ _ hi kids _=>if kind=3 then iW kids else if kind=4 then 1+iW kids else if kind=5 then iW kids else if kind=6 then 1+hi.toNat * iW kids else 2 ^names.length - 1
def iW:List ai->Nat
 | []=>0
 | o::l=>stO o+iW l
end
structure BC (o:ai):Prop where
 run:∀{ρ:Nat->ep} {H:Hp} {bm n c j:Nat} {K:AV->Hp->Bool},iM ρ H bm n c->j<n->n+stO o<=900->c+65 * stO o<=80000->
 (∀ρ' H' j' c',iM ρ' H' bm (n+stO o) c'->c'+1<=c+65 * stO o->Fr ρ H ρ' H'->j'<n+stO o->K (O (j':Nat)) H'=true)->ay 260 [.ptr bm 0,.agg (aq (aC o)), O (j:Int)] H K=true
theorem ldO {H:Hp} {b:Nat} {el:Option TypeId} {ro:Bool} {o:ai} {t:TypeId} {x:AV} {i:Nat} {k:AV->Bool} (hb:H.get b=some (.cells el ro (aq (aC o)))) (ht:aN t=some false) (hx:(aq (aC o))[i]? =some x):E H t (.ptr b i) k=k x:=cf hb ht hx
theorem xw {o:ai} {kids:List ai} {dk:D} {H:Hp} {i:Nat} (hk:Sl 8 aC kids dk) (hi:i<kids.length):∃p,(∀k:AV->Bool,ah 38 (ofD dk) (O (i:Int)) k=k p)/\∀(H:Hp) (k:AV->Bool),E H 40 p k=k (.agg (aq (aC kids[i]))):=
 ⟨_,fun k=>bC hk ez m9 jS hi,fun H k=>by rw [nk,KG,jc,jS,bv cP hi,fX]⟩
theorem WF (x y:ai):iW [x,y]=stO x+stO y:=by simp [iW]
theorem M9 (x:ai):iW [x]=stO x:=by simp [iW]
section
variable {names : List Str} {dn dk : D} {gap : gB} {ms lo hi : Int}
theorem b3 {x y:ai} (hk:Sl 8 aC [x,y] dk) (hx:BC x) (hy:BC y) (hxd:av 1000 (.agg (aq (aC x))) (.agg (aq (aC x)))=true) (hyd:av 1000 (.agg (aq (aC y))) (.agg (aq (aC y)))=true):BC (.mk 3 names dn gap ms lo hi [x,y] dk):=by
 refine⟨fun {ρ H bm n c j K} hm hj hn hc hK=> ?_⟩
 have hst:stO (.mk 3 names dn gap ms lo hi [x,y] dk)=stO x+stO y:=by rw [stO,if_pos rfl,WF]
 rw [hst] at hn hc hK
 refine cb 200 ?_
 rw [Io]
 simp only [aI,bJ]
 obtain⟨hp1,hp2⟩:=hm.push (ae 40 (aq (aC (.mk 3 names dn gap ms lo hi [x,y] dk))))
 have hb:∀ρ' H',Fr ρ (H.push (ae 40 (aq (aC (.mk 3 names dn gap ms lo hi [x,y] dk))))) ρ' H'->H'.get H.nx=some (ae 40 (aq (aC (.mk 3 names dn gap ms lo hi [x,y] dk)))):=fun ρ' H' hf=>by
  rw [(hf.2 H.nx (by rw [am];omega) (hm.fresh (bh _))).2,af,if_pos rfl]
 have hb0:=hb _ _ (jY _ _)
 obtain⟨p1,hp1x,hp1l⟩:=xw (o:=x) (H:=H) (i:=1) hk (by simp)
 obtain⟨p0,hp0x,hp0l⟩:=xw (o:=x) (H:=H) (i:=0) hk (by simp)
 rw [bL,ldO hb0 ag3 (x:= O 3) rfl,ij,show decide ((3:Int)=3)=true from rfl,dH,bL,ldO hb0 EH (x:=ofD dk) rfl,show (AV.int .i64 1)= O ((1:Nat):Int) from rfl,hp1x,hp1l,bL,ldO hb0 EH (x:=ofD dk) rfl,
  show (AV.int .i64 0)= O ((0:Nat):Int) from rfl,hp0x,hp0l,bq]
 refine hx.run hp1 hj (by omega) (by omega) fun ρ1 H1 j1 c1 hm1 hc1 hf1 hj1=> ?_
 have hb1:=hb _ _ hf1
 have hd:=eG hk 999
 have hl7:∀k:AV->Bool,E H1 38 (.ptr H.nx (0+7)) k=k (ofD dk):=fun k=>ldO hb1 EH rfl
 have hy1:=hyd
 have hx1:=hxd
 simp only [bI (show Nat.testBit 2016 9=true from rfl),bI (show Nat.testBit 2016 7=true from rfl),ct (show Nat.testBit 2016 4=false from rfl),ct (show Nat.testBit 2016 2=false from rfl),bP,hp1l,hl7,List.getElem_cons_succ,List.getElem_cons_zero,hy1,hd,dE]
 rw [bq]
 refine hy.run hm1 hj1 (by omega) (by omega) fun ρ2 H2 j2 c2 hm2 hc2 hf2 hj2=> ?_
 simp only [bI (show Nat.testBit 4095 9=true from rfl),bI (show Nat.testBit 4095 7=true from rfl),bI (show Nat.testBit 4095 4=true from rfl),bI (show Nat.testBit 4095 2=true from rfl),bP,cQ]
 simp (disch:=omega) only [go_sem,Ig]
 refine hK ρ2 H2 j2 c2 ?_ (by omega) ((hp2.trans hf1).trans hf2) (by omega)
 rw [fm] at hm2;exact hm2
end
theorem yP {ρ:Nat->ep} {H:Hp} {bm n c:Nat} (hm:iM ρ H bm n c) (o:ai):iM ρ (H.push (ae 40 (aq (aC o)))) bm n c/\Fr ρ H ρ (H.push (ae 40 (aq (aC o))))/\
  ∀ρ' H',Fr ρ (H.push (ae 40 (aq (aC o)))) ρ' H'->H'.get H.nx=some (ae 40 (aq (aC o))):=by
 obtain⟨hp1,hp2⟩:=hm.push (ae 40 (aq (aC o)))
 exact⟨hp1,hp2,fun ρ' H' hf=>by rw [(hf.2 H.nx (by rw [am];omega) (hm.fresh (bh _))).2,af,if_pos rfl]⟩
section
variable {names : List Str} {dn dk : D} {gap : gB} {ms lo hi kind : Int}
theorem b5 {x:ai} (hk:Sl 8 aC [x] dk) (hx:BC x):BC (.mk 5 names dn gap ms lo hi [x] dk):=by
 refine⟨fun {ρ H bm n c j K} hm hj hn hc hK=> ?_⟩
 have hst:stO (.mk 5 names dn gap ms lo hi [x] dk)=stO x:=by rw [stO,if_neg (by decide),if_neg (by decide),if_pos rfl,M9]
 rw [hst] at hn hc hK
 refine cb 200 ?_
 rw [Io]
 simp only [aI,bJ]
 obtain⟨hp1,hp2,hb⟩:=yP hm (.mk 5 names dn gap ms lo hi [x] dk)
 have hb0:=hb _ _ (jY _ _)
 obtain⟨p0,hp0x,hp0l⟩:=xw (o:=x) (H:=H) (i:=0) hk (by simp)
 rw [bL,ldO hb0 ag3 (x:= O 5) rfl,ij,show decide ((5:Int)=3)=false from rfl,eV,ij,show decide ((5:Int)=4)=false from rfl,eV,ij,show decide ((5:Int)=5)=true from rfl,dH,bL,ldO hb0 EH (x:=ofD dk) rfl,
  show (AV.int .i64 0)= O ((0:Nat):Int) from rfl,hp0x,hp0l]
 refine hx.run hp1 hj (by omega) (by omega) fun ρ1 H1 j1 c1 hm1 hc1 hf1 hj1=> ?_
 simp (disch:=omega) only [go_sem,Ig]
 exact hK ρ1 H1 j1 c1 hm1 (by omega) (hp2.trans hf1) (by omega)
theorem UN (hd:Sl 1 fE names dn) (h1:1<=names.length) (h4:names.length<=4) (hkd:kind=1∨kind=2) {kids:List ai}:BC (.mk kind names dn gap ms lo hi kids dk):=by
 refine⟨fun {ρ H bm n c j K} hm hj hn hc hK=> ?_⟩
 have e3:(kind=3)=False:=by simp;omega
 have e4:(kind=4)=False:=by simp;omega
 have e5:(kind=5)=False:=by simp;omega
 have e6:(kind=6)=False:=by simp;omega
 have hst:stO (.mk kind names dn gap ms lo hi kids dk)=2 ^names.length - 1:=by rw [stO,if_neg (by omega),if_neg (by omega),if_neg (by omega),if_neg (by omega)]
 have h2:2 ^1<=2 ^names.length:=Nat.pow_le_pow_right (by omega) h1
 rw [hst] at hn hc hK
 refine cb 200 ?_
 rw [Io]
 simp only [aI,bJ]
 obtain⟨hp1,hp2,hb⟩:=yP hm (.mk kind names dn gap ms lo hi kids dk)
 have hb0:=hb _ _ (jY _ _)
 rw [bL,ldO hb0 ag3 (x:= O kind) rfl]
 simp only [ij,e3,e4,e5,e6,i9,eV,eU,OV]
 have E4:(es E2.empty (ao 0 [AV.ptr bm 0,AV.agg (aq (aC (.mk kind names dn gap ms lo hi kids dk))),AV.int .i64 (j:Int)] (ao 13 [AV.ptr H.nx (0+0),AV.int .i64 kind,AV.bool false,AV.bool false] [(4,AV.ptr H.nx 0),(6,AV.int .i64 0),(31,AV.bool false),(30,AV.bool false),(64,AV.bool false),(63,AV.bool false),(73,AV.bool false),(72,AV.bool false)]))) 4= .ptr H.nx 0:=by simp (disch:=omega) only [go_sem]
 have E0:(es E2.empty (ao 0 [AV.ptr bm 0,AV.agg (aq (aC (.mk kind names dn gap ms lo hi kids dk))),AV.int .i64 (j:Int)] (ao 13 [AV.ptr H.nx (0+0),AV.int .i64 kind,AV.bool false,AV.bool false] [(4,AV.ptr H.nx 0),(6,AV.int .i64 0),(31,AV.bool false),(30,AV.bool false),(64,AV.bool false),(63,AV.bool false),(73,AV.bool false),(72,AV.bool false)]))) 0= .ptr bm 0:=by simp (disch:=omega) only [go_sem]
 have E2':(es E2.empty (ao 0 [AV.ptr bm 0,AV.agg (aq (aC (.mk kind names dn gap ms lo hi kids dk))),AV.int .i64 (j:Int)] (ao 13 [AV.ptr H.nx (0+0),AV.int .i64 kind,AV.bool false,AV.bool false] [(4,AV.ptr H.nx 0),(6,AV.int .i64 0),(31,AV.bool false),(30,AV.bool false),(64,AV.bool false),(63,AV.bool false),(73,AV.bool false),(72,AV.bool false)]))) 2= O (j:Int):=by simp (disch:=omega) only [go_sem]
 rw [E4,E0,E2',bL,ldO hb0 aDJ (x:=ofD dn) rfl]
 refine OU hp1 hd h4 hj (by omega) (by omega) fun ρ1 H1 j1 hm1 hf1 hj1=> ?_
 simp (disch:=omega) only [go_sem,Ig]
 exact hK ρ1 H1 j1 (c+64) hm1 (by omega) (hp2.trans hf1) hj1
end
theorem Da {o:ai} (ho:cZ o):(aq (aC o)).all one=true:=by
 cases ho with
 | mk kind names dn gap ms lo hi kids dk hn hnl hl hk hkl ho=>
  have h1:one (ofD dn)=true:=eT hn
  have h2:one (ofD dk)=true:=eT hk
  show ([AV.int .i64 kind,ofD dn, O gap.lo, O gap.hi, O ms, O lo, O hi,ofD dk]).all one=true
  simp [h1,h2];exact⟨rfl,rfl,rfl,rfl,rfl,rfl⟩
theorem vY {o:ai} (ho:cZ o) (n:Nat):av (n+12) (.agg (aq (aC o))) (.agg (aq (aC o)))=true:=by
 cases ho with
 | mk kind names dn gap ms lo hi kids dk hn hnl hl hk hkl ho=>
  have h1:=fun n=>eG hn n
  have h2:=fun n=>eG hk n
  show av (n+12) (.agg [AV.int .i64 kind,ofD dn, O gap.lo, O gap.hi, O ms, O lo, O hi,ofD dk]) (.agg [AV.int .i64 kind,ofD dn, O gap.lo, O gap.hi, O ms, O lo, O hi,ofD dk])=true
  simp [LM,Ir,LO,lv,h1,h2]
def Yd:List AV:=[O 0,.nils, O 0, O 0, O 0, O 0, O 0,.nils]
theorem VM {H:Hp} {b:Nat} {el:Option TypeId} {o:ai} {k:Hp->Bool} (ho:cZ o) (hb:H.get b=some (.cells el false Yd)):aA H 40 (.ptr b 0) (.agg (aq (aC o))) k=k (H.setb b (some (.cells el false (aq (aC o))))):=by
 rw [jv,hb,KG,gr,jS,bJ,show (Nat.beq (aq (aC o)).length 8&&(aq (aC o)).all one)=true from by rw [Da ho];rfl,show fg Yd 0 (aq (aC o))=some (aq (aC o)) from rfl,qE]
theorem wA {H:Hp} {b:Nat} {el:Option TypeId} {ro:Bool} {o:ai} {k:AV->Bool} (hb:H.get b=some (.cells el ro (aq (aC o)))):E H 40 (.ptr b 0) k=k (.agg (aq (aC o))):=by
 rw [iE,hb,fy,KG,jc,jS,show ew 8 ((aq (aC o)).drop 0)=some (aq (aC o)) from rfl,fX]
theorem Wn {ρ:Nat->ep} {H:Hp} {bm n c j e i L:Nat} {kids:List ai} {dk:D} {t:E2} {k:AEx->En->Hp->Bool} (hm:iM ρ H bm n c) (hk:Sl 8 aC kids dk) (hL:L=kids.length) (hL2:L<=100) (hi:i<kids.length) (ho:cZ kids[i]) (hB:BC kids[i]) (hj:j<n) (he:e<n) (hn:n+stO kids[i]<=900) (hc:c+65 * stO kids[i]<=80000)
  (t0:t 0= .ptr bm 0) (t2:t 2= O (j:Int)) (t7:t 7= O (e:Int)) (t35:t 35=ofD dk) (t36:t 36= O (L:Int)) (t37:t 37= O (i:Int))
  (hk2:∀ρ' t' H' c',iM ρ' H' bm (n+stO kids[i]) c'->c'<=c+65 * stO kids[i]->Fr ρ H ρ' H'->t' 0= .ptr bm 0->t' 2= O (j:Int)->t' 7= O (e:Int)->t' 35=ofD dk->t' 36= O (L:Int)->t' 37= O ((i+1:Nat):Int)->k .normal ⟨t',[]⟩ H'=true):
  az 200 115 260 6890 none ⟨t,[]⟩ H k=true:=by
 subst hL
 have hlt:((i:Int)<(kids.length:Int))=True:=by simp;omega
 obtain⟨p,hpx,hpl⟩:=xw (o:=kids[i]) (H:=H) hk hi
 rw [HQ,t37,t36,t35,t0,t2,t7,cB]
 simp only [hlt,dL,dH]
 rw [hpx,hpl,aI,VM ho (el:=some 40) (by rw [af,if_pos rfl];rfl)]
 have hz1:=hm.push (ae 40 [O 0,.nils, O 0, O 0, O 0, O 0, O 0,.nils])
 have hrn:=hm.fresh (bh _)
 have hm1:iM ρ (Hp.setb (H.push (ae 40 [O 0,.nils, O 0, O 0, O 0, O 0, O 0,.nils])) H.nx (some (ae 40 (aq (aC kids[i]))))) bm n c:=
  hz1.1.keep (by rw [au];omega) fun b _ hb=>by rw [V,if_neg (by rintro rfl;exact hb hrn)]
 have hf1:Fr ρ H ρ (Hp.setb (H.push (ae 40 [O 0,.nils, O 0, O 0, O 0, O 0, O 0,.nils])) H.nx (some (ae 40 (aq (aC kids[i]))))):=
  hz1.2.step (by rw [au];omega) fun c hc _=>by rw [V,if_neg (by omega)]
 rw [wA (by rw [V,if_pos rfl])]
 refine hB.run hm1 hj hn hc fun ρ1 H1 j1 c1 hm2 hc1 hf2 hj1=> ?_
 refine Ay hm2 hj1 (by omega) (by omega) fun x1 x2 x3 x4 x5 x6 x7 x8 x9 x10 x11 x12 ρ2 H2 hm3 hf3=> ?_
 simp (disch:=omega) only [go_sem]
 refine hk2 ρ2 _ H2 (c1+1) hm3 (by omega) ((hf1.trans hf2).trans hf3) ?_ ?_ ?_ ?_ ?_ ?_
 ·simp (disch:=omega) only [go_sem,t0]
 ·simp (disch:=omega) only [go_sem,t2]
 ·simp (disch:=omega) only [go_sem,t7]
 ·simp (disch:=omega) only [go_sem,t35]
 ·simp (disch:=omega) only [go_sem,t36]
 ·simp (disch:=omega) only [go_sem];rfl
theorem Fw {l:List ai} {n:Nat} (h:n<l.length):iW (l.take (n+1))=iW (l.take n)+stO l[n]:=by
 have happ:∀a b,iW (a++b)=iW a+iW b:=by
  intro a b
  induction a with
  | nil=>simp [iW]
  | cons x a ih=>simp [iW,ih];omega
 rw [←jn h,happ];simp [iW]
theorem Lj {l:List ai} (n:Nat):iW (l.take n)<=iW l:=by
 induction l generalizing n with
 | nil=>simp [iW]
 | cons x l ih=>
  cases n with
  | zero=>simp [iW]
  | succ n=>have:=ih n;simp [iW];omega
section
variable {names : List Str} {dn dk : D} {gap : gB} {ms lo hi kind : Int}
def Ww (ρ0:Nat->ep) (H0:Hp) (bm n c j e:Nat) (kids:List ai) (dk:D) (m:Nat) (en:En) (H:Hp):Prop:=∃ρ i c1,m=kids.length - i/\i<=kids.length/\en.dm=[]/\iM ρ H bm (n+iW (kids.take i)) c1/\c1<=c+65 * iW (kids.take i)/\Fr ρ0 H0 ρ H/\
 en.t 0= .ptr bm 0/\en.t 2= O (j:Int)/\en.t 7= O (e:Int)/\en.t 35=ofD dk/\en.t 36= O (kids.length:Int)/\en.t 37= O (i:Int)
theorem b4 {kids:List ai} (hk:Sl 8 aC kids dk) (hkl:kids.length<=100) (ho:∀x∈kids,cZ x) (hB:∀x∈kids,BC x):BC (.mk 4 names dn gap ms lo hi kids dk):=by
 refine⟨fun {ρ H bm n c j K} hm hj hn hc hK=> ?_⟩
 have hst:stO (.mk 4 names dn gap ms lo hi kids dk)=1+iW kids:=by rw [stO,if_neg (by decide),if_pos rfl]
 rw [hst] at hn hc hK
 refine cb 200 ?_
 rw [Io]
 simp only [aI,bJ]
 obtain⟨hp1,hp2,hb⟩:=yP hm (.mk 4 names dn gap ms lo hi kids dk)
 have hb0:=hb _ _ (jY _ _)
 rw [bL,ldO hb0 ag3 (x:= O 4) rfl,ij,show decide ((4:Int)=3)=false from rfl,eV,ij,show decide ((4:Int)=4)=true from rfl,dH]
 refine rY hp1 (by omega) fun ρ1 H1 hm1 hf1=> ?_
 have hb1:=hb _ _ hf1
 rw [bL,ldO hb1 EH (x:=ofD dk) rfl,aF hk ez]
 refine aZ (Ww ρ H bm (n+1) c j n kids dk) (fun m e H2 hi=> ?_) (m:=kids.length) ⟨ρ1,0,c,rfl,bN _,rfl,by simpa [iW] using hm1,by omega,hp2.trans hf1, ?_, ?_, ?_, ?_, ?_, ?_⟩
 rotate_left
 ·simp (disch:=omega) only [go_sem]
 ·simp (disch:=omega) only [go_sem]
 ·simp (disch:=omega) only [go_sem]
 ·simp (disch:=omega) only [go_sem]
 ·simp (disch:=omega) only [go_sem]
 ·simp (disch:=omega) only [go_sem];rfl
 obtain⟨ρ2,i,c1,rfl,hil,hdm,hm2,hc1,hf2,t0,t2,t7,t35,t36,t37⟩:=hi
 obtain⟨t,dm⟩:=e
 dsimp only at hdm t0 t2 t7 t35 t36 t37
 subst hdm
 refine aV 200 ?_
 by_cases hi:i<kids.length
 ·have hs:=Fw hi
  have hle:=Lj (l:=kids) (i+1)
  refine Wn hm2 hk rfl hkl hi (ho _ (cO hi)) (hB _ (cO hi)) (by omega) (by omega) (by omega) (by omega) t0 t2 t7 t35 t36 t37 fun ρ3 t3 H3 c3 hm3 hc3 hf3 a0 a2 a7 a35 a36 a37=> ?_
  simp (disch:=omega) only [go_sem]
  exact bd (m':=kids.length - (i+1)) (by omega) ⟨ρ3,i+1,c3,rfl,by omega,rfl,by rw [hs,←fm];exact hm3,by rw [hs];omega,hf2.trans hf3,a0,a2,a7,a35,a36,a37⟩
 ·rw [HQ,t37,t36,cB]
  have hlt:((i:Int)<(kids.length:Int))=False:=by simp;omega
  have hik:kids.take i=kids:=cN (by omega)
  rw [hik] at hm2 hc1
  simp (disch:=omega) only [go_sem,hlt,S2,t7]
  simp (disch:=omega) only [go_sem,Ig,t7]
  exact hK ρ2 H2 n c1 (by rw [show n+(1+iW kids)=n+1+iW kids by omega];exact hm2) (by omega) hf2 (by omega)
end
section
variable {names : List Str} {dn dk : D} {gap : gB} {ms lo hi kind : Int}
theorem UU {ρ:Nat->ep} {H:Hp} {bm n c j e q bx:Nat} {o x:ai} {t:E2} {k:AEx->En->Hp->Bool} (hm:iM ρ H bm n c) (hbx:H.get bx=some (ae 40 (aq (aC o)))) (hrx:ρ bx= .no) (hbl:bx<H.nx) (hk:Sl 8 aC o.kids o.dk) (hkl:0<o.kids.length) (hB:BC o.kids[0])
  (hj:j<n) (he:e<n) (hn:n+stO o.kids[0]<=900) (hc:c+65 * stO o.kids[0]<=80000) (hq:(q:Int)<=o.hi) (hq6:q<=100)
  (t0:t 0= .ptr bm 0) (t2:t 2= O (j:Int)) (t4:t 4= .ptr bx 0) (t11:t 11= O (e:Int)) (t12:t 12= O (q:Int))
  (hk2:∀ρ' t' H' c' j',iM ρ' H' bm (n+stO o.kids[0]) c'->c'<=c+65 * stO o.kids[0]->j'<n+stO o.kids[0]->Fr ρ H ρ' H'->t' 0= .ptr bm 0->t' 2= O (j':Int)->t' 4= .ptr bx 0->t' 11= O (e:Int)->t' 12= O ((q+1:Nat):Int)->k .normal ⟨t',[]⟩ H'=true):
  az 200 115 260 110570 none ⟨t,[]⟩ H k=true:=by
 have hle:((q:Int)<=o.hi)=True:=by simp [hq]
 obtain⟨p,hpx,hpl⟩:=xw (o:=o) (H:=H) hk hkl
 rw [Ga,t4,bL,ldO hbx ag3 (x:= O o.hi) rfl,t12,C3]
 simp only [hle,dL,dH]
 rw [bL,ldO hbx EH (x:=ofD o.dk) rfl,show (AV.int .i64 0)= O ((0:Nat):Int) from rfl,hpx,hpl,t0,t2]
 refine hB.run hm hj hn hc fun ρ1 H1 j1 c1 hm2 hc1 hf2 hj1=> ?_
 have hbx1:H1.get bx=some (ae 40 (aq (aC o))):=by rw [(hf2.2 bx hbl hrx).2];exact hbx
 rw [bL,ldO hbx1 ag3 (x:= O o.lo) rfl,Kz]
 refine ab (fun _=> ?_) (fun _=> ?_)
 ·rw [t11]
  refine Ay hm2 hj1 (by omega) (by omega) fun x1 x2 x3 x4 x5 x6 x7 x8 x9 x10 x11 x12 ρ2 H2 hm3 hf3=> ?_
  simp (disch:=omega) only [go_sem,Ix,t12]
  refine hk2 ρ2 _ H2 (c1+1) j1 hm3 (by omega) hj1 (hf2.trans hf3) ?_ ?_ ?_ ?_ ?_
  ·simp (disch:=omega) only [go_sem,t0]
  ·simp (disch:=omega) only [go_sem]
  ·simp (disch:=omega) only [go_sem,t4]
  ·simp (disch:=omega) only [go_sem,t11]
  ·simp (disch:=omega) only [go_sem];rfl
 ·simp (disch:=omega) only [go_sem,Ix,t12]
  refine hk2 ρ1 _ H1 c1 j1 hm2 (by omega) hj1 hf2 ?_ ?_ ?_ ?_ ?_
  ·simp (disch:=omega) only [go_sem,t0]
  ·simp (disch:=omega) only [go_sem]
  ·simp (disch:=omega) only [go_sem,t4]
  ·simp (disch:=omega) only [go_sem,t11]
  ·simp (disch:=omega) only [go_sem];rfl
def UW (ρ0:Nat->ep) (H0:Hp) (bx bm n c e T s:Nat) (m:Nat) (en:En) (H:Hp):Prop:=∃ρ q c1 j1,m=T - q/\q<=T/\en.dm=[]/\iM ρ H bm (n+q * s) c1/\c1<=c+q * (65 * s)/\j1<n+q * s/\Fr ρ0 H0 ρ H/\
 en.t 0= .ptr bm 0/\en.t 2= O (j1:Int)/\en.t 4= .ptr bx 0/\en.t 11= O (e:Int)/\en.t 12= O ((q+1:Nat):Int)
theorem b6 {x:ai} (hk:Sl 8 aC [x] dk) (hB:BC x) (hhi:1<=hi/\hi<=6):BC (.mk 6 names dn gap ms lo hi [x] dk):=by
 refine⟨fun {ρ H bm n c j K} hm hj hn hc hK=> ?_⟩
 obtain⟨T,rfl⟩:∃T:Nat,hi=(T:Int):=⟨hi.toNat,by omega⟩
 have hst:stO (.mk 6 names dn gap ms lo (T:Int) [x] dk)=1+T * stO x:=by rw [stO,if_neg (by decide),if_neg (by decide),if_neg (by decide),if_pos rfl,M9,pa]
 rw [hst] at hn hc hK
 refine cb 200 ?_
 rw [Io]
 simp only [aI,bJ]
 obtain⟨hp1,hp2,hb⟩:=yP hm (.mk 6 names dn gap ms lo (T:Int) [x] dk)
 have hb0:=hb _ _ (jY _ _)
 rw [bL,ldO hb0 ag3 (x:= O 6) rfl,ij,show decide ((6:Int)=3)=false from rfl,eV,ij,show decide ((6:Int)=4)=false from rfl,eV,ij,show decide ((6:Int)=5)=false from rfl,eV,ij,show decide ((6:Int)=6)=true from rfl,dH]
 refine rY hp1 (by omega) fun ρ1 H1 hm1 hf1=> ?_
 refine aZ (UW ρ (H.push (ae 40 (aq (aC (.mk 6 names dn gap ms lo (T:Int) [x] dk))))) H.nx bm (n+1) c n T (stO x)) (fun m e H2 hi=> ?_) (m:=T) ⟨ρ1,0,c,j,rfl,bN _,rfl,by simpa using hm1,by omega,by omega,hf1, ?_, ?_, ?_, ?_, ?_⟩
 rotate_left
 ·simp (disch:=omega) only [go_sem]
 ·simp (disch:=omega) only [go_sem]
 ·simp (disch:=omega) only [go_sem]
 ·simp (disch:=omega) only [go_sem]
 ·simp (disch:=omega) only [go_sem];rfl
 obtain⟨ρ2,q,c1,j1,rfl,hqT,hdm,hm2,hc1,hj1,hf2,t0,t2,t4,t11,t12⟩:=hi
 obtain⟨t,dm⟩:=e
 dsimp only at hdm t0 t2 t4 t11 t12
 subst hdm
 have hb2:=hb _ _ hf2
 have hr2:=(hf2.2 H.nx (by rw [am];omega) (hm.fresh (bh _))).1
 have hl2:H.nx<H2.nx:=by have:=hf2.1;rw [am] at this;omega
 refine aV 200 ?_
 by_cases hq:q<T
 ·have hs:(q+1) * stO x<=T * stO x:=lu _ (by omega)
  have hs2:(q+1) * stO x=q * stO x+stO x:=fV _ _
  have hs3:q * (65 * stO x)=65 * (q * stO x):=Nat.mul_left_comm _ _ _
  have hs4:(q+1) * (65 * stO x)=65 * (q * stO x)+65 * stO x:=by rw [fV,hs3]
  refine UU (o:= .mk 6 names dn gap ms lo (T:Int) [x] dk) (x:=x) hm2 hb2 hr2 hl2 hk (by simp [ai.kids]) hB hj1 (by omega) (by show n+1+q * stO x+stO x<=900;omega) (by show c1+65 * stO x<=80000;omega) (by show ((q+1:Nat):Int)<=(T:Int);omega) (by omega) t0 t2 t4 t11 t12 fun ρ3 t3 H3 c3 j3 hm3 hc3 hj3 hf3 a0 a2 a4 a11 a12=> ?_
  have hm3':iM ρ3 H3 bm (n+1+q * stO x+stO x) c3:=hm3
  have hc3':c3<=c1+65 * stO x:=hc3
  have hj3':j3<n+1+q * stO x+stO x:=hj3
  simp (disch:=omega) only [go_sem]
  exact bd (m':=T - (q+1)) (by omega) ⟨ρ3,q+1,c3,j3,rfl,by omega,rfl,by rw [hs2,←fm];exact hm3',by rw [hs4];omega,by omega,hf2.trans hf3,a0,a2,a4,a11,a12⟩
 ·have hqT':q=T:=by omega
  subst hqT'
  have hs3:q * (65 * stO x)=65 * (q * stO x):=Nat.mul_left_comm _ _ _
  have hle:(((q+1:Nat):Int)<=(q:Int))=False:=by simp;omega
  rw [Ga,t4,bL,ldO hb2 ag3 (x:= O (q:Int)) rfl,t12,C3]
  simp (disch:=omega) only [go_sem,hle,Rq]
  simp (disch:=omega) only [go_sem,Ig,t11]
  exact hK ρ2 H2 n c1 (by rw [show n+(1+q * stO x)=n+1+q * stO x by omega];exact hm2) (by omega) (hp2.trans hf2) (by omega)
end
theorem HT {o:ai} (ho:cZ o):fh o=true->BC o:=by
 induction ho with
 | mk kind names dn gap ms lo hi kids dk hn hnl hl hk hkl ho ih=>
  intro hf
  rw [iO,bX] at hf
  obtain⟨hf1,hf2⟩:=hf
  have hfk:∀x∈kids,fh x=true:=fun x hx=>by
   have:=eI.1 hf2 x hx
   exact this
  obtain⟨⟨hkn,hn4,hli⟩,hA⟩:=jJ hf1
  simp only [ai.kind,ai.names,ai.kids,ai.lo,ai.hi] at hkn hn4 hA
  have hls:mD kind<=names.length:=by
   simp only [jM,bX,ai.kind,ai.names] at hli
   exact (nF hli.2).1
  have hBk:∀x∈kids,BC x:=fun x hx=>ih x hx (hfk x hx)
  rcases Decidable.em (kind=3) with k3 | k3
  ·subst k3
   have:kids.length=2:=by simp [iK] at hkn;omega
   obtain⟨x,y,rfl⟩:∃x y,kids=[x,y]:=by
    match kids,this with
    | [x,y],_=>exact⟨x,y,rfl⟩
   exact b3 hk (hBk x (by simp)) (hBk y (by simp)) (vY (ho x (by simp)) 988) (vY (ho y (by simp)) 988)
  rcases Decidable.em (kind=4) with k4 | k4
  ·subst k4
   have:kids.length=2:=by simp [iK] at hkn;omega
   exact b4 hk (by omega) ho hBk
  rcases Decidable.em (kind=5) with k5 | k5
  ·subst k5
   have:kids.length=1:=by simp [iK] at hkn;omega
   obtain⟨x,rfl⟩:∃x,kids=[x]:=by
    match kids,this with
    | [x],_=>exact⟨x,rfl⟩
   exact b5 hk (hBk x (by simp))
  rcases Decidable.em (kind=6) with k6 | k6
  ·subst k6
   have:kids.length=1:=by simp [iK] at hkn;omega
   obtain⟨x,rfl⟩:∃x,kids=[x]:=by
    match kids,this with
    | [x],_=>exact⟨x,rfl⟩
   exact b6 hk (hBk x (by simp)) (by have:=hA.2.2.2.2.1 rfl;omega)
  rcases Decidable.em (kind=1∨kind=2) with k12 | k12
  ·refine UN hn ?_ hn4 k12
   have:(1:Int)<=mD kind:=by rcases k12 with rfl | rfl<;>simp [mD]
   omega
  ·exfalso
   simp only [iK] at hkn
   rw [if_neg k12,if_neg (by omega),if_neg (by omega)] at hkn
   omega
mutual
def SN:ai->Nat
 | .mk kind names _ _ _ _ hi kids _=>(names.length+SNs kids) * (if kind=6 then hi.toNat else 1)
def SNs:List ai->Nat
 | []=>0
 | o::l=>SN o+SNs l
end
theorem oI {kind:Int} {names:List Str} {dn dk:D} {gap:gB} {ms lo hi:Int} {kids:List ai} (hf:fh (.mk kind names dn gap ms lo hi kids dk)=true):
  (∀x∈kids,fh x=true)/\names.length<=4/\(kids.length:Int)=iK kind/\mD kind<=names.length/\(names.length:Int)<=qg kind/\(kind=6->1<=hi/\hi<=6):=by
 rw [iO,bX] at hf
 obtain⟨hf1,hf2⟩:=hf
 obtain⟨⟨hkn,hn4,hli⟩,hA⟩:=jJ hf1
 simp only [jM,bX] at hli
 have hl:=nF hli.2
 exact⟨fun x hx=>eI.1 hf2 x hx,hn4,hkn,hl.1,hl.2,fun h=>by have:=hA.2.2.2.2.1 h;simp only [ai.lo,ai.hi] at this;omega⟩
theorem wg {a b:Nat} (h:a<=b):6 ^a<=6 ^b:=Nat.pow_le_pow_right (by omega) h
mutual
theorem Vn:∀(o:ai),fh o=true->SN o<=4 * tO o * 6 ^hO o
 | .mk kind names dn gap ms lo hi kids dk,hf=>by
  obtain⟨h1,h2,_,_,_,h6⟩:=oI hf
  have ih:=Bz kids h1
  rw [SN,tO,hO]
  have hm:(if kind=6 then hi.toNat else 1)<=6:=by
   split
   ·have:=h6 ‹_›;omega
   ·omega
  have hp:1<=6 ^hOs kids:=Nat.one_le_pow _ _ (by omega)
  calc (names.length+SNs kids) * (if kind=6 then hi.toNat else 1)<=(4 * 6 ^hOs kids+4 * tOs kids * 6 ^hOs kids) * 6:=mY (by omega) hm
   _=4 * (1+tOs kids) * 6 ^(1+hOs kids):=by rw [Nat.add_comm 1 (hOs kids),Nat.pow_succ,←jF,←Nat.mul_assoc,Nat.mul_add]
theorem Bz:∀(l:List ai),(∀x∈l,fh x=true)->SNs l<=4 * tOs l * 6 ^hOs l
 | [],_=>by simp [SNs]
 | o::l,h=>by
  have h1:=Vn o (h o cE)
  have h2:=Bz l fun x hx=>h x (co _ hx)
  rw [SNs,tOs,hOs]
  have a:4 * tO o * 6 ^hO o<=4 * tO o * 6 ^max (hO o) (hOs l):=oW _ (wg (Nat.le_max_left _ _))
  have b:4 * tOs l * 6 ^hOs l<=4 * tOs l * 6 ^max (hO o) (hOs l):=oW _ (wg (Nat.le_max_right _ _))
  rw [Nat.mul_add,jF]
  omega
end
mutual
theorem FN:∀(o:ai),fh o=true->tO o<=40->hO o<=10->qJ o=(SN o:Int)
 | .mk kind names dn gap ms lo hi kids dk,hf,ht,hh=>by
  obtain⟨h1,h2,_,_,_,h6⟩:=oI hf
  rw [tO] at ht
  rw [hO] at hh
  have hs:SNs kids<=9674588160:=by
   have a:=Bz kids h1
   have b:4 * tOs kids * 6 ^hOs kids<=4 * 40 * 6 ^10:=mY (by omega) (wg (by omega))
   have c:4 * 40 * 6 ^10=9674588160:=by decide
   omega
  have ih:=Dc kids h1 (by omega) (by omega) names.length (by omega)
  rw [qJ,SN,ih]
  split
  ·rename_i hk
   have hh:=h6 hk
   obtain⟨T,rfl⟩:∃T:Nat,hi=(T:Int):=⟨hi.toNat,by omega⟩
   have hT:T<=6:=by omega
   unfold LW
   have e:(((names.length:Int)+(SNs kids:Int)) * (T:Int))=(((names.length+SNs kids) * T:Nat):Int):=by push_cast;rfl
   have e2:(names.length+SNs kids) * T<=9674588164 * 6:=mY (by omega) hT
   rw [e,om (by omega),pa]
  ·push_cast;omega
theorem Dc:∀(l:List ai),(∀x∈l,fh x=true)->tOs l<=40->hOs l<=10->∀v:Nat,v+SNs l<=9674588164->ju (v:Int) l=(v:Int)+(SNs l:Int)
 | [],_,_,_,v,_=>by rw [ju,SNs];omega
 | o::l,h,ht,hh,v,hv=>by
  rw [tOs] at ht
  rw [hOs] at hh
  rw [SNs] at hv
  have a:=FN o (h o cE) (by omega) (by omega)
  have e:BX (v:Int) (SN o:Int)=((v+SN o:Nat):Int):=by unfold BX;rw [om (by omega)];push_cast;rfl
  have b:=Dc l (fun x hx=>h x (co _ hx)) (by omega) (by omega) (v+SN o) (by omega)
  rw [ju,a,e,b,SNs];push_cast;omega
end
theorem Kq:∀n,1<=n->n<=4->2 ^n - 1<=n * 4
 | 1,_,_=>by decide
 | 2,_,_=>by decide
 | 3,_,_=>by decide
 | 4,_,_=>by decide
 | n+5,_,h=>by omega
mutual
theorem IU:∀(o:ai),fh o=true->1<=SN o/\stO o<=SN o * (3+hO o)
 | .mk kind names dn gap ms lo hi kids dk,hf=>by
  obtain⟨h1,h2,hkn,hln,hmn,h6⟩:=oI hf
  obtain⟨ih1,ih2⟩:=Ac kids h1
  rw [stO,SN,hO]
  have hmul:∀a b,a * (3+b)+a=a * (3+(1+b)):=fun a b=>by rw [show 3+(1+b)=(3+b)+1 by omega,Nat.mul_succ]
  have hpos:kids≠[]->1<=SNs kids:=ih1
  by_cases k3:kind=3
  ·subst k3
   have hk0:names.length=0:=by simp [qg] at hmn;simp [hmn]
   have hkk:kids≠[]:=by rintro rfl;simp [iK] at hkn
   have:=hpos hkk
   rw [if_pos rfl,if_neg (by decide),hk0,ca,dZ]
   have:=hmul (SNs kids) (hOs kids)
   omega
  by_cases k4:kind=4
  ·subst k4
   have hk0:names.length=0:=by simp [qg] at hmn;simp [hmn]
   have hkk:kids≠[]:=by rintro rfl;simp [iK] at hkn
   have:=hpos hkk
   rw [if_neg (by decide),if_pos rfl,if_neg (by decide),hk0,ca,dZ]
   have:=hmul (SNs kids) (hOs kids)
   omega
  by_cases k5:kind=5
  ·subst k5
   have hk0:names.length=0:=by simp [qg] at hmn;simp [hmn]
   have hkk:kids≠[]:=by rintro rfl;simp [iK] at hkn
   have:=hpos hkk
   rw [if_neg (by decide),if_neg (by decide),if_pos rfl,if_neg (by decide),hk0,ca,dZ]
   have:=hmul (SNs kids) (hOs kids)
   omega
  by_cases k6:kind=6
  ·subst k6
   have hk0:names.length=0:=by simp [qg] at hmn;simp [hmn]
   have hkk:kids≠[]:=by rintro rfl;simp [iK] at hkn
   have:=hpos hkk
   have hh:=h6 rfl
   rw [if_neg k3,if_neg k4,if_neg k5]
   simp only [gh]
   rw [hk0,ca]
   have e1:1<=SNs kids * hi.toNat:=Nat.mul_pos this (by omega)
   have e2:hi.toNat * iW kids<=hi.toNat * (SNs kids * (3+hOs kids)):=oW _ ih2
   have e3:hi.toNat * (SNs kids * (3+hOs kids))=SNs kids * hi.toNat * (3+hOs kids):=by rw [←Nat.mul_assoc,Nat.mul_comm hi.toNat]
   have:=hmul (SNs kids * hi.toNat) (hOs kids)
   omega
  by_cases k12:kind=1∨kind=2
  ·have hle:(1:Int)<=mD kind:=by rcases k12 with rfl | rfl<;>simp [mD]
   have hn1:1<=names.length:=by omega
   have hkl:kids=[]:=by
    have:iK kind=0:=by rcases k12 with rfl | rfl<;>simp [iK]
    rw [this] at hkn
    exact List.length_eq_zero_iff.1 (by omega)
   subst hkl
   rw [if_neg k3,if_neg k4,if_neg k5,if_neg k6,if_neg k6,SNs,hOs]
   have:=Kq names.length hn1 h2
   omega
  ·exfalso
   simp only [iK] at hkn
   rw [if_neg k12,if_neg (by omega),if_neg (by omega)] at hkn
   omega
theorem Ac:∀(l:List ai),(∀x∈l,fh x=true)->(l≠[]->1<=SNs l)/\iW l<=SNs l * (3+hOs l)
 | [],_=>⟨fun h=>absurd rfl h,by simp [iW]⟩
 | o::l,h=>by
  obtain⟨a1,a2⟩:=IU o (h o cE)
  obtain⟨b1,b2⟩:=Ac l fun x hx=>h x (co _ hx)
  rw [SNs,iW,hOs]
  refine⟨fun _=>by omega, ?_⟩
  have c:SN o * (3+hO o)<=SN o * (3+max (hO o) (hOs l)):=oW _ (by omega)
  have d:SNs l * (3+hOs l)<=SNs l * (3+max (hO o) (hOs l)):=oW _ (by omega)
  rw [jF]
  omega
end
theorem J6 {o:ai} (h:fu o=0):fh o=true/\stO o<=390:=by
 unfold fu at h
 split at h
 ·omega
 ·rename_i h1
  split at h
  ·rename_i hf
   split at h
   ·omega
   ·rename_i h2
    have ht:tO o<=40:=by omega
    have hh:hO o<=10:=by omega
    have hs:=FN o hf ht hh
    obtain⟨_,hst⟩:=IU o hf
    have h30:SN o<=30:=by omega
    have:SN o * (3+hO o)<=30 * 13:=mY h30 (by omega)
    exact⟨hf,by omega⟩
  ·omega
theorem yp (H:Hp) (k:AV->Bool):ak 37 .nils H k=k (O 0):=aF (xs:=([]:List Str)) (enc:=fE) (sz:=1) (d:= .nils) (.inl ⟨rfl,rfl⟩) dA
theorem zY {o:ai} (ho:cZ o) (h0:fu o=0):bc 230 [.agg (aC o),.nils] (·= .int .i64 0):=by
 refine aH hG ?_
 have hc:=xM ho
 rw [h0] at hc
 rw [show aq [D.agg (aC o),.nils]=[.agg (aq (aC o)),.nils] from rfl,aAC]
 simp only [aI,bJ]
 rw [wA (o:=o) (by rw [af,if_pos rfl])]
 refine bB hG _ hc rfl ?_
 simp (disch:=omega) only [go_sem]
 rw [yp]
 have hlt:((30:Int)<0)=False:=by simp
 simp (disch:=omega) only [go_sem,hlt]
 exact ax (aS 0) rfl
theorem Xz (k:AV->Bool):aU 352 [] k=k (.agg [.nils,.nils, O 0]):=by kernel_rfl
theorem Qh:tU (fun _=>0) 0=W1:=rfl
theorem K4 {o:ai} {H:Hp} {K:AV->Hp->Bool} (ho:cZ o) (h0:fu o=0)
  (hK:∀W bm a b j H',H'.get bm=some (ae 352 [a,b, O (j:Nat)])->j<512->bm<H'.nx->K (.tup [.ptr bm 0,.agg (aq (scD W))]) H'=true):ay 231 [.agg (aq (aC o))] H K=true:=by
 obtain⟨hf,hst⟩:=J6 h0
 refine cb 200 ?_
 rw [aBO]
 simp only [aI,bJ]
 rw [Xz]
 simp only [aI,bJ]
 generalize hH3:((H.push (ae 40 (aq (aC o)))).push (ae 346 [.int .u64 0,.int .u64 0,.int .u64 0,.int .u64 0,.int .u64 0,.int .u64 0,.int .u64 0,.int .u64 0]))=H3
 have hx3:H3.nx=H.nx+2:=by rw [←hH3];rfl
 have g1:H3.get H.nx=some (ae 40 (aq (aC o))):=by rw [←hH3];simp (disch:=omega) only [go_sem,bD,bZ]
 have g3:H3.get (H.nx+1)=some (ae 346 z8):=by rw [←hH3];(simp (disch:=omega) only [go_sem,bD,bZ]);rfl
 let ρ0:Nat->ep:=upd (fun _=>.no) H3.nx .mach
 have hm0:iM ρ0 (H3.push (ae 352 [.nils,.nils, O 0])) H3.nx 0 0:=
  ⟨.nils,.nils,0,[],[],by rw [af,if_pos rfl],qS _ _ _,by rw [am];omega,.inl ⟨rfl,rfl⟩,.inl ⟨rfl,rfl⟩,rfl,rfl,fun i x hx=>by simp at hx,fun i x hx=>by simp at hx,fun b hb=>by rw [am] at hb;exact dQ (by omega)⟩
 have hb:∀ρ' H',Fr ρ0 (H3.push (ae 352 [.nils,.nils, O 0])) ρ' H'->H'.get H.nx=some (ae 40 (aq (aC o)))/\H'.get (H.nx+1)=some (ae 346 z8)/\H3.nx<H'.nx:=fun ρ' H' hf=>by
  have a:=(hf.2 H.nx (by rw [am];omega) (dQ (by omega))).2
  have b:=(hf.2 (H.nx+1) (by rw [am];omega) (dQ (by omega))).2
  rw [af,if_neg (by omega)] at a b
  have c:=hf.1
  rw [am] at c
  exact⟨a.trans g1,b.trans g3,by omega⟩
 rw [wA (hb _ _ (jY _ _)).1,bq]
 refine rY hm0 (by omega) fun ρ1 H1 hm1 hf1=> ?_
 have hd:=vY ho 988
 have hl1:∀k:AV->Bool,E H1 40 (.ptr H.nx 0) k=k (.agg (aq (aC o))):=fun k=>wA (hb _ _ hf1).1
 simp only [ct (show Nat.testBit 8 2=false from rfl),bP,hl1,hd,dE]
 rw [bq]
 refine (HT ho hf).run hm1 (by omega) (by omega) (by omega) fun ρ2 H2 j c2 hm2 hc2 hf2 hj=> ?_
 have hf2':=hf1.trans hf2
 obtain⟨hb1,hb3,hbn⟩:=hb _ _ hf2'
 simp only [bI (show Nat.testBit 30 2=true from rfl),bP]
 rw [fS,bL,bq]
 obtain⟨ev,fv,la,es,fs,m1,m2,m3,m4⟩:=hm2
 rw [ex m1 ag3 ce3 rfl rfl (by simp)]
 simp only [bI (show Nat.testBit 255 2=true from rfl),bP,cQ,aI]
 rw [show ([ev,fv,AV.int .i64 la]).set (0+2) (O (j:Int))=[ev,fv, O (j:Int)] from rfl,show [AV.int .u64 0,.int .u64 0,.int .u64 0,.int .u64 0,.int .u64 0,.int .u64 0,.int .u64 0,.int .u64 0]=z8 from rfl]
 have hm3:iM ρ2 (H2.setb H3.nx (some (ae 352 [ev,fv, O (j:Int)]))) H3.nx (0+1+stO o) c2:=⟨ev,fv,j,es,fs,by rw [V,if_pos rfl],m2,by rw [au];exact m3,m4.setm m2 _⟩
 have hm4:=hm3.push (ae 346 z8)
 refine Gi (el:=some 346) (W:=fun _=>0) (n:=0) (by rw [af,if_pos rfl];rfl) (by omega) ?_
 rw [Qh]
 have hrn:ρ2 (H2.setb H3.nx (some (ae 352 [ev,fv, O (j:Int)]))).nx= .no:=by rw [au];exact m4.fresh _ (bh _)
 rw [zM (by rw [V,if_pos rfl])]
 refine Eg (hm4.1.keep (by rw [au];omega) fun b _ hb=>by rw [V,if_neg (by rintro rfl;exact hb hrn)]) (by omega) (by omega) (by omega) fun W H5 hx5 hf5=> ?_
 rw [au,am,au] at hx5 hf5
 have k3:H5.get (H.nx+1)=some (ae 346 z8):=by
  rw [hf5 _ (by omega),V,if_neg (by omega),af,au,if_neg (by omega),V,if_neg (by omega)];exact hb3
 have k5:H5.get H3.nx=some (ae 352 [ev,fv, O (j:Int)]):=by
  rw [hf5 _ (by omega),V,if_neg (by omega),af,au,if_neg (by omega),V,if_pos rfl]
 rw [show (H.push (Blk.cells (some 40) false (aq (aC o)))).nx=H.nx+1 from rfl,Mx k3,zM (by rw [V,if_pos rfl])]
 exact hK W H3.nx ev fv j _ (by rw [V,if_neg (by omega)];exact k5) (by omega) (by rw [au];omega)
theorem xY {o:ai} (ho:cZ o) (h0:fu o=0):bc 182 [.agg (aC o),.nils] (fun d=>∃b,d= .tup [.bool b, aS 0]):=by
 refine aH hG ?_
 rw [show aq [D.agg (aC o),.nils]=[.agg (aq (aC o)),.nils] from rfl,YZ]
 simp only [aI,bJ]
 rw [wA (o:=o) (by rw [af,if_pos rfl])]
 refine bB hG _ (zY ho h0) rfl ?_
 simp (disch:=omega) only [go_sem]
 rw [show ew 8 (aq (aC o))=some (aq (aC o)) from rfl,fX]
 refine K4 ho h0 fun W bm a b j H' hg hj hn=> ?_
 rw [show [AV.int .u64 0,.int .u64 0,.int .u64 0,.int .u64 0,.int .u64 0,.int .u64 0,.int .u64 0,.int .u64 0]=z8 from rfl]
 simp (disch:=omega) only [go_sem]
 have hz:(H'.push (ae 346 z8)).get H'.nx=some (ae 346 z8):=by rw [af,if_pos rfl]
 rw [show ((aq (scD W)).length.beq 8&&(aq (scD W)).all one)=true from rfl,show vX z8 (aq (scD W))=some (aq (scD W)) from rfl,qE,yp]
 refine lV 1 (er ?_)
 rw [SQ]
 have hlt:((0:Int)<0)=False:=by simp
 simp (disch:=omega) only [go_sem,hlt,SC]
 rw [show ew 8 (aq (scD W))=some (aq (scD W)) from rfl,fX]
 simp (disch:=omega) only [go_sem,fS,bD,hg]
 refine bB hG _ (AN W hj) rfl ?_
 simp (disch:=omega) only [go_sem,ZL]
 exact ax (.tup [.bool _, aS 0]) ⟨_,rfl⟩
theorem Oh:ApT P 290 392 9:=⟨by kernel_rfl,by kernel_rfl,by kernel_rfl,by kernel_rfl,by kernel_rfl,by kernel_rfl⟩
def rr (o:ai):List AV:=aq (aC o)++[.nils]
theorem Wo (o:ai) (k:AV->Bool):aU 392 [(0,.agg (aq (aC o)))] k=k (.agg (rr o)):=by kernel_rfl
theorem X3 (o:ai) (k:Blk->(Nat->AV)->Bool):aO 290 1 [(0,.agg (rr o))] k=k (ae 392 (rr o)) (jr 1 9):=by kernel_rfl
structure Tre (ρ:Nat->ep) (H:Hp) (bt n:Nat) (v:AV) (cs:List AV):Prop where
 g:H.get bt=some (ae 292 [v])
 rb:ρ bt= .mach
 lb:bt<H.nx
 ar:Arr 392 9 .ea ρ H v cs
 ln:cs.length=n * 9
 fresh:∀b,H.nx<=b->ρ b= .no
def Kp (n:Nat) (ρ:Nat->ep) (H:Hp) (ρ':Nat->ep) (H':Hp):Prop:=H.nx<=H'.nx/\∀b,b<H.nx->ρ' b=ρ b/\(ρ b≠ .ea->ρ b≠ .mach->(∀j,n<=j->ρ b≠ .edge j)->H'.get b=H.get b)
theorem RW (n:Nat) (ρ:Nat->ep) (H:Hp):Kp n ρ H ρ H:=⟨bh _,fun b _=>⟨rfl,fun _ _ _=>rfl⟩⟩
theorem Kp.trans {n:Nat} {ρ ρ' ρ'':Nat->ep} {H H' H'':Hp} (h:Kp n ρ H ρ' H') (h':Kp n ρ' H' ρ'' H''):Kp n ρ H ρ'' H'':=
 ⟨fC h.1 h'.1,fun b hb=>let ⟨h1,h2⟩:=h.2 b hb;let ⟨h3,h4⟩:=h'.2 b (gY hb h.1);⟨h3.trans h1,fun a c d=>(h4 (by rw [h1];exact a) (by rw [h1];exact c) (by rw [h1];exact d)).trans (h2 a c d)⟩⟩
theorem Kp.mono {n n':Nat} {ρ ρ':Nat->ep} {H H':Hp} (h:Kp n' ρ H ρ' H') (hn:n<=n'):Kp n ρ H ρ' H':=⟨h.1,fun b hb=>⟨(h.2 b hb).1,fun a c d=>(h.2 b hb).2 a c fun j hj=>d j (by omega)⟩⟩
theorem Kp.push (n:Nat) (ρ:Nat->ep) (H:Hp) (x:Blk):Kp n ρ H ρ (H.push x):=⟨by rw [am];omega,fun b hb=>⟨rfl,fun _ _ _=>by rw [af,if_neg (by omega)]⟩⟩
theorem Tre.keep {ρ:Nat->ep} {H H':Hp} {bt n:Nat} {v:AV} {cs:List AV} (h:Tre ρ H bt n v cs) (hn:H.nx<=H'.nx) (hf:∀b,b<H.nx->ρ b≠ .no->H'.get b=H.get b):Tre ρ H' bt n v cs:=
 ⟨by rw [hf bt h.lb (by rw [h.rb];nofun)];exact h.g,h.rb,by have:=h.lb;omega,h.ar.frame hn fun b hb hr=>⟨hr,hf b hb (by rw [hr];nofun)⟩,h.ln,fun b hb=>h.fresh b (by omega)⟩
theorem Yb {b off len:Nat} {c:Option Nat} {k:AV->Bool} {n:Nat} (hn:n<len) {i:IntKind}:ah 290 (.sl b off len 9 c) (.int i (n:Int)) k=k (.ptr b (off+n * 9)):=gX No W0 Wd hn
structure PC (o:ai):Prop where
 run:∀{ρ:Nat->ep} {H:Hp} {bt n:Nat} {v:AV} {cs:List AV} {K:AV->Hp->Bool},Tre ρ H bt n v cs->n+tO o<=1000->
  (∀ρ' H' v' cs',Tre ρ' H' bt (n+tO o) v' cs'->cs'.take (n * 9)=cs->Kp n ρ H ρ' H'->K (O (n:Nat)) H'=true)->ay 265 [.ptr bt 0,.agg (aq (aC o))] H K=true
theorem G2 {ρ:Nat->ep} {H H':Hp} {bt n:Nat} {v:AV} {cs:List AV} {k:AV->Bool} (h:Tre ρ H bt n v cs):ak 290 v H' k=k (O (n:Int)):=by
 have hl:=h.ln
 unfold kJ
 rw [No]
 rcases h.ar with⟨rfl,rfl⟩| ⟨b,m,rfl,h2,_⟩
 ·have:n=0:=by simp at hl;omega
  subst this;rfl
 ·have:m=n:=by omega
  subst this;rfl
def Zo (ρ0:Nat->ep) (H0:Hp) (bt n:Nat) (cs0:List AV) (kids:List ai) (dk:D) (m:Nat) (e:En) (H:Hp):Prop:=∃ρ i v cs kv l,m=kids.length - i/\i<=kids.length/\e.dm=[]/\Tre ρ H bt (n+1+tOs (kids.take i)) v cs/\cs.take (n * 9)=cs0/\Kp n ρ0 H0 ρ H/\
 cs[n * 9+8]? =some kv/\Arr 3 1 (.edge n) ρ H kv l/\l.length<=i/\e.t 0= .ptr bt 0/\e.t 5= O (n:Int)/\e.t 26=ofD dk/\e.t 27= O (kids.length:Int)/\e.t 28= O (i:Int)
theorem XM {ρ:Nat->ep} {H:Hp} {bt n N i L:Nat} {v kv:AV} {cs l:List AV} {kids:List ai} {dk:D} {t:E2} {k:AEx->En->Hp->Bool} (hT:Tre ρ H bt N v cs) (hnN:n<N) (hk:Sl 8 aC kids dk) (hL:L=kids.length) (hL2:L<=1000) (hi:i<kids.length) (ho:cZ kids[i]) (hB:PC kids[i]) (hN:N+tO kids[i]<=1000)
  (hkv:cs[n * 9+8]? =some kv) (hka:Arr 3 1 (.edge n) ρ H kv l) (hll:l.length<=i)
  (t0:t 0= .ptr bt 0) (t5:t 5= O (n:Int)) (t26:t 26=ofD dk) (t27:t 27= O (L:Int)) (t28:t 28= O (i:Int))
  (hk2:∀ρ' t' H' v' cs' kv' l',Tre ρ' H' bt (N+tO kids[i]) v' cs'->cs'.take (n * 9)=cs.take (n * 9)->Kp n ρ H ρ' H'->cs'[n * 9+8]? =some kv'->Arr 3 1 (.edge n) ρ' H' kv' l'->l'.length<=i+1->t' 0= .ptr bt 0->t' 5= O (n:Int)->t' 26=ofD dk->t' 27= O (L:Int)->t' 28= O ((i+1:Nat):Int)->k .normal ⟨t',[]⟩ H'=true):
  az 200 55 265 122 none ⟨t,[]⟩ H k=true:=by
 subst hL
 have hlt:((i:Int)<(kids.length:Int))=True:=by simp;omega
 obtain⟨p,hpx,hpl⟩:=xw (o:=kids[i]) (H:=H) hk hi
 rw [FJ,t28,t27,t26,t0,t5,cB]
 simp only [hlt,dL,dH]
 rw [hpx,hpl,aI,VM ho (el:=some 40) (by rw [af,if_pos rfl];rfl),wA (by rw [V,if_pos rfl])]
 generalize hHa:Hp.setb (H.push (ae 40 [O 0,.nils, O 0, O 0, O 0, O 0, O 0,.nils])) H.nx (some (ae 40 (aq (aC kids[i]))))=Ha
 have hax:Ha.nx=H.nx+1:=by rw [←hHa];rfl
 have hag:∀b,b<H.nx->Ha.get b=H.get b:=fun b hb=>by rw [←hHa,V,if_neg (by omega),af,if_neg (by omega)]
 have hTa:Tre ρ Ha bt N v cs:=hT.keep (by omega) fun b hb _=>hag b hb
 have hka1:Arr 3 1 (.edge n) ρ Ha kv l:=hka.frame (by omega) fun b hb hr=>⟨hr,hag b hb⟩
 have hKa:Kp n ρ H ρ Ha:=⟨by omega,fun b hb=>⟨rfl,fun _ _ _=>hag b hb⟩⟩
 refine hB.run hTa hN fun ρ1 H1 v1 cs1 hT1 htk hK1=> ?_
 have hka2:Arr 3 1 (.edge n) ρ1 H1 kv l:=hka1.frame hK1.1 fun b hb hr=>⟨(hK1.2 b hb).1.trans hr,(hK1.2 b hb).2 (by rw [hr];nofun) (by rw [hr];nofun) fun j hj=>by rw [hr];rintro⟨⟩;omega⟩
 have hln1:=hT1.ln
 have hlnc:=hT.ln
 have hkv1:cs1[n * 9+8]? =some kv:=by
  rw [←hkv,←htk,pY,if_pos (by omega)]
 have hnt:n<N+tO kids[i]:=by omega
 obtain⟨nb,hnb,hnbl,hnbg,hv1⟩:∃nb,ρ1 nb= .ea/\nb<H1.nx/\H1.get nb=some (ae 392 cs1)/\v1= .sl nb 0 (N+tO kids[i]) 9 none:=by
  rcases hT1.ar with⟨_,rfl⟩| ⟨b,m,hh,h2,h3,h4,h5⟩
  ·simp at hln1;omega
  ·exact⟨b,h3,h4,h5,by rw [hh,show m=N+tO kids[i] by omega]⟩
 rw [fS,bL,cf (v:=v1) hT1.g Ab rfl,fS,bL,cf (v:=v1) hT1.g Ab rfl]
 rw [hv1,Yb hnt,bL,ca,cf hnbg B4 hkv1,rQ,dM,im (by rfl),bq,Kn,dq,←hv1]
 have hnc:∀b,b<H1.nx->(H1.push (ae 3 [O (N:Int)])).get b=H1.get b:=fun b hb=>by rw [af,if_neg (by omega)]
 refine (hka2.frame (ρ':=ρ1) (H':=H1.push (ae 3 [O (N:Int)])) (by rw [am];omega) fun b hb hr=>⟨hr,hnc b hb⟩).app fZ fZ.h2 (by decide) (jo rfl) rfl rfl (by simp;omega) fun kv2 H2 ha2 hx2 hf2=> ?_
 rw [am] at hx2 hf2 ha2
 have hlb:=hT1.lb
 have g1:H2.get bt=some (ae 292 [v1]):=by rw [hf2 bt (by omega) (by rw [hT1.rb];nofun),hnc bt hlb];exact hT1.g
 have g2:H2.get nb=some (ae 392 cs1):=by rw [hf2 nb (by omega) (by rw [hnb];nofun),hnc nb hnbl];exact hnbg
 have hsame:av 1000 v1 v1=true:=hT1.ar.same 999
 simp (disch:=omega) only [go_sem,g1,hsame]
 rw [hv1,Yb hnt,bL,ca,bq,ex g2 B4 LJ ha2.cells ha2.one (by omega)]
 simp (disch:=omega) only [go_sem]
 have hbn:bt≠nb:=by rintro rfl;rw [hT1.rb] at hnb;cases hnb
 have hupd:∀b,b<H1.nx->upd ρ1 (H1.nx+1) (.edge n) b=ρ1 b:=fun b hb=>dQ (by omega)
 refine hk2 (upd ρ1 (H1.nx+1) (.edge n)) _ _ (.sl nb 0 (N+tO kids[i]) 9 none) (cs1.set (n * 9+8) kv2) kv2 (l++[O (N:Int)]) ⟨?_, ?_, ?_, ?_, ?_, ?_⟩ ?_ ((hKa.trans (hK1.mono (by omega))).trans ⟨?_,fun b hb=>⟨hupd b hb,fun a c d=> ?_⟩⟩) ?_ ?_ ?_ ?_ ?_ ?_ ?_ ?_
 ·rw [V,if_neg hbn,g1,hv1]
 ·rw [hupd bt hlb];exact hT1.rb
 ·rw [au];omega
 ·exact .inr ⟨nb,_,rfl,by rw [kw];exact hln1,by rw [hupd nb hnbl];exact hnb,by rw [au];omega,by rw [V,if_pos rfl]⟩
 ·rw [kw];exact hln1
 ·intro b hb;rw [au] at hb;rw [dQ (by omega)];exact hT1.fresh b (by omega)
 ·rw [List.take_set_of_le (by omega)]
  have h9:n * 9<=N * 9:=lu _ (by omega)
  rw [←htk,List.take_take,lI h9]
 ·rw [au];omega
 ·rw [V,if_neg (fun hh=>a (by rw [hh];exact hnb)),hf2 b (by omega) (d n (bh _)),hnc b hb]
 ·rw [List.getElem?_set,if_pos rfl,if_pos (by omega)]
 ·refine ha2.frame (by rw [au];omega) fun b hb hr=>⟨hr, ?_⟩
  rw [V,if_neg (fun hh=>by rw [hh,hupd nb hnbl,hnb] at hr;cases hr)]
 ·simp;omega
 ·simp (disch:=omega) only [go_sem,t0]
 ·simp (disch:=omega) only [go_sem,t5]
 ·simp (disch:=omega) only [go_sem,t26]
 ·simp (disch:=omega) only [go_sem,t27]
 ·simp (disch:=omega) only [go_sem];rfl
theorem GO {o:ai} (ho:cZ o):(rr o).all one=true:=by
 unfold rr
 rw [List.all_append,Da ho];rfl
theorem Rt {o:ai} (ho:cZ o):PC o:=by
 induction ho with
 | mk kind names dn gap ms lo hi kids dk hn hnl hl hk hkl ho ih=>
  have hoo:cZ (.mk kind names dn gap ms lo hi kids dk):= .mk kind names dn gap ms lo hi kids dk hn hnl hl hk hkl ho
  refine⟨fun {ρ H bt n v cs K} hT hN hK=> ?_⟩
  have htO:tO (.mk kind names dn gap ms lo hi kids dk)=1+tOs kids:=by rw [tO]
  have hkt:kids.length<=tOs kids:=by
   clear hk hkl ho ih hT hN hK hoo htO
   induction kids with
   | nil=>simp
   | cons x l ih=>have:=Bu x;simp [tOs];omega
  rw [htO] at hN hK
  refine cb 200 ?_
  rw [aBV]
  simp only [aI,bJ]
  have hrn:=hT.fresh _ (bh _)
  have hlb:=hT.lb
  have hT1:Tre ρ (H.push (ae 40 (aq (aC (.mk kind names dn gap ms lo hi kids dk))))) bt n v cs:=hT.keep (by rw [am];omega) fun b hb _=>by rw [af,if_neg (by omega)]
  have hK1:=Kp.push n ρ H (ae 40 (aq (aC (.mk kind names dn gap ms lo hi kids dk))))
  rw [fS,bL,cf (v:=v) hT1.g Ab rfl,G2 hT1,fS,bL,cf (v:=v) hT1.g Ab rfl,wA (o:= .mk kind names dn gap ms lo hi kids dk) (by rw [af,if_pos rfl]),Wo,X3,dM,im (by rfl),bq,Kn,dq]
  generalize hH1:H.push (ae 40 (aq (aC (.mk kind names dn gap ms lo hi kids dk))))=H1 at hT1 hK1⊢
  have hx1:H1.nx=H.nx+1:=by rw [←hH1];rfl
  have hT2:Tre ρ (H1.push (ae 392 (rr (.mk kind names dn gap ms lo hi kids dk)))) bt n v cs:=hT1.keep (by rw [am];omega) fun b hb _=>by rw [af,if_neg (by omega)]
  have hln:=hT.ln
  refine hT2.ar.app (m:=0) (new:=rr (.mk kind names dn gap ms lo hi kids dk)) Oh Oh.h2 (by decide) (jo rfl) (GO hoo) rfl (by show cs.length+9<=1048576;omega) fun v' H2 ha2 hx2 hf2=> ?_
  rw [am] at hx2 hf2 ha2
  have hnc:∀b,b<H1.nx->(H1.push (ae 392 (rr (.mk kind names dn gap ms lo hi kids dk)))).get b=H1.get b:=fun b hb=>by rw [af,if_neg (by omega)]
  have g1:H2.get bt=some (ae 292 [v]):=by rw [hf2 bt (by omega) (by rw [hT.rb];nofun),hnc bt (by omega)];exact hT1.g
  have hupd:∀b,b<H1.nx->upd ρ (H1.nx+1) .ea b=ρ b:=fun b hb=>dQ (by omega)
  have gx:(H2.setb bt (some (ae 292 [v']))).get H.nx=some (ae 40 (aq (aC (.mk kind names dn gap ms lo hi kids dk)))):=by
   rw [V,if_neg (by omega),hf2 H.nx (by omega) (by rw [hrn];nofun),hnc H.nx (by omega),←hH1,af,if_pos rfl]
  have hTr:Tre (upd ρ (H1.nx+1) .ea) (H2.setb bt (some (ae 292 [v']))) bt (n+1) v' (cs++rr (.mk kind names dn gap ms lo hi kids dk)):=
   ⟨by rw [V,if_pos rfl],by rw [hupd bt (by omega)];exact hT.rb,by rw [au];omega,ha2.frame (by rw [au];omega) fun b hb hr=>⟨hr,by rw [V,if_neg (by rintro rfl;rw [hupd b (by omega),hT.rb] at hr;cases hr)]⟩,
    by rw [gZ,hln];show n * 9+9=(n+1) * 9;omega,fun b hb=>by rw [au] at hb;rw [dQ (by omega)];exact hT.fresh b (by omega)⟩
  have hKr:Kp n ρ H (upd ρ (H1.nx+1) .ea) (H2.setb bt (some (ae 292 [v']))):=
   hK1.trans ⟨by rw [au];omega,fun b hb=>⟨hupd b hb,fun a c _=>by rw [V,if_neg (by rintro rfl;exact c hT.rb),hf2 b (by omega) a,hnc b hb]⟩⟩
  have gy:H2.get H.nx=some (ae 40 (aq (aC (.mk kind names dn gap ms lo hi kids dk)))):=by
   rw [hf2 H.nx (by omega) (by rw [hrn];nofun),hnc H.nx (by omega),←hH1,af,if_pos rfl]
  have h7:(aq (aC (.mk kind names dn gap ms lo hi kids dk)))[7]? =some (ofD dk):=rfl
  have hbx:H.nx≠bt:=by omega
  simp (disch:=omega) only [go_sem,fS,g1,ha2.cells,ha2.one,if_neg hbx,gy,h7,aF hk ez]
  refine aZ (Zo ρ H bt n cs kids dk) (fun m e H3 hi=> ?_) (m:=kids.length) ⟨_,0,v',_,.nils,[],rfl,bN _,rfl,by simpa [tOs] using hTr, ?_,hKr, ?_,.inl ⟨rfl,rfl⟩,bh _, ?_, ?_, ?_, ?_, ?_⟩
  rotate_left
  ·rw [List.take_append_of_le_length (by omega),cN (by omega)]
  ·rw [kj (by omega),show n * 9+8 - cs.length=8 by omega];rfl
  ·simp (disch:=omega) only [go_sem]
  ·simp (disch:=omega) only [go_sem]
  ·simp (disch:=omega) only [go_sem]
  ·simp (disch:=omega) only [go_sem]
  ·simp (disch:=omega) only [go_sem];rfl
  obtain⟨ρ3,i,v3,cs3,kv,l,rfl,hil,hdm,hT3,ht3,hK3,hkv,hka,hll,t0,t5,t26,t27,t28⟩:=hi
  obtain⟨t,dm⟩:=e
  dsimp only at hdm t0 t5 t26 t27 t28
  subst hdm
  refine aV 200 ?_
  by_cases hi:i<kids.length
  ·have hs:=vC hi
   have hle:=BO kids (i+1)
   refine XM hT3 (by omega) hk rfl (by omega) hi (ho _ (cO hi)) (ih _ (cO hi)) (by omega) hkv hka hll t0 t5 t26 t27 t28 fun ρ4 t4 H4 v4 cs4 kv4 l4 hT4 ht4 hK4 hkv4 hka4 hll4 a0 a5 a26 a27 a28=> ?_
   simp (disch:=omega) only [go_sem]
   exact bd (m':=kids.length - (i+1)) (by omega) ⟨ρ4,i+1,v4,cs4,kv4,l4,rfl,by omega,rfl,by rw [hs,←fm];exact hT4,ht4.trans ht3,hK3.trans hK4,hkv4,hka4,hll4,a0,a5,a26,a27,a28⟩
  ·have hik:kids.take i=kids:=cN (by omega)
   rw [hik] at hT3
   rw [FJ,t28,t27,cB]
   have hlt:((i:Int)<(kids.length:Int))=False:=by simp;omega
   simp (disch:=omega) only [go_sem,hlt,SI,t5]
   simp (disch:=omega) only [go_sem,ZQ,t5]
   exact hK ρ3 H3 v3 cs3 (by rw [show n+(1+tOs kids)=n+1+tOs kids by omega];exact hT3) ht3 hK3
theorem Mw {H:Hp} {b:Nat} {el:Option TypeId} {ro:Bool} {v:AV} {k:AV->Bool} (hb:H.get b=some (.cells el ro [v])):E H 292 (.ptr b 0) k=k (.agg [v]):=by
 rw [iE,hb,fy,Ol,jc,Mo];rfl
theorem WD {H:Hp} {b:Nat} {el:Option TypeId} {v w:AV} {k:Hp->Bool} (hv:Ev.one v=true) (hb:H.get b=some (.cells el false [w])):aA H 292 (.ptr b 0) (.agg [v]) k=k (H.setb b (some (.cells el false [v]))):=by
 rw [jv,hb,Ol,gr,Mo,bJ,show (Nat.beq [v].length 1&&[v].all one)=true from by simp [hv],show fg [w] 0 [v]=some [v] from rfl,qE]
theorem KY {o:ai} {H:Hp} {K:AV->Hp->Bool} (ho:cZ o) (ht:tO o<=900) (hK:∀v n H',n<=900->Ev.one v=true->AV.cells v=[v]->(∀(H':Hp) (k:AV->Bool),ak 290 v H' k=k (O (n:Nat)))->H.nx<=H'.nx->K (.agg [v]) H'=true):ay 234 [.agg (aq (aC o))] H K=true:=by
 refine cb 200 ?_
 rw [aBD]
 simp only [aI,bJ]
 generalize hHa:(H.push (ae 40 (aq (aC o)))).push (ae 292 [.nils])=Ha
 have hax:Ha.nx=H.nx+2:=by rw [←hHa];rfl
 have g0:Ha.get H.nx=some (ae 40 (aq (aC o))):=by rw [←hHa];simp (disch:=omega) only [go_sem,bD,bZ]
 have g1:Ha.get (H.nx+1)=some (ae 292 [.nils]):=by rw [←hHa];simp (disch:=omega) only [go_sem,bD,bZ]
 rw [wA (o:=o) (by rw [af,if_neg (by omega)];exact g0)]
 have hT:Tre (upd (fun _=>.no) Ha.nx .mach) (Ha.push (ae 292 [.nils])) Ha.nx 0 .nils []:=
  ⟨by rw [af,if_pos rfl],qS _ _ _,by rw [am];omega,.inl ⟨rfl,rfl⟩,rfl,fun b hb=>by rw [am] at hb;exact dQ (by omega)⟩
 refine (Rt ho).run hT (by omega) fun ρ' H' v cs hT' _ hKp=> ?_
 have hk1:=hKp.1
 rw [am] at hk1
 have k1:=(hKp.2 (H.nx+1) (by rw [am];omega)).2 (by rw [dQ (by omega)];nofun) (by rw [dQ (by omega)];nofun) (fun j _=>by rw [dQ (by omega)];nofun)
 rw [af,if_neg (by omega),g1] at k1
 rw [Mw hT'.g,show (H.push (Blk.cells (some 40) false (aq (aC o)))).nx=H.nx+1 from rfl,WD hT'.ar.one k1,Mw (by rw [V,if_pos rfl])]
 exact hK v (0+tO o) _ (by omega) hT'.ar.one hT'.ar.cells (fun H' k=>G2 hT') (by rw [au];omega)
theorem Wm {v:AV} (h1:AV.cells v=[v]) (m:Nat) (k:AV->Bool):aU 295 [(0,.agg [v]),(1,.nils),(2,.map m)] k=k (.agg [v,.nils,.map m]):=by kernel_rfl
theorem B2 {o:ai} {H:Hp} {K:AV->Hp->Bool} (ho:cZ o) (ht:tO o<=900) (hK:∀v n mb bm H',n<=900->Ev.one v=true->(∀(H':Hp) (k:AV->Bool),ak 290 v H' k=k (O (n:Nat)))->H'.get bm=some (ae 295 [v,.nils,.map mb])->bm<H'.nx->K (.ptr bm 0) H'=true):ay 183 [.agg (aq (aC o)),.nils] H K=true:=by
 refine cb 200 ?_
 rw [aDA]
 simp only [aI,bJ]
 rw [wA (o:=o) (by rw [af,if_pos rfl])]
 refine KY ho ht fun v n H' hn ho hc hl hx=> ?_
 rw [Wm hc]
 simp only [aI,bJ]
 exact hK v n _ _ _ hn ho hl (by rw [af,if_pos rfl]) (nM _)
theorem CG {bm:Nat} {H:Hp} {K:AV->Hp->Bool} (hK:∀H',(∀c,c<H.nx->H'.get c=H.get c)->H.nx<=H'.nx->K .nils H'=true):ay 184 [.ptr bm 0,.agg [O 0, O 0, O 0, O 0]] H K=true:=by
 refine cb 200 ?_
 rw [ZF]
 have hle:((0:Int)<=0)=True:=by simp
 simp (disch:=omega) only [go_sem,hle]
 exact hK _ (fun c hc=>by simp (disch:=omega) only [go_sem,bD]) (by simp (disch:=omega) only [go_sem];omega)
theorem Ue (a m:Nat) (k:AV->Bool):aU 289 [(0,.ptr a 0),(1,.map m)] k=k (.agg [.ptr a 0,.map m,.bool false]):=by kernel_rfl
theorem X4 (k:AV->Bool):aU 299 [(0, O 0),(1, O 0),(2, O 0),(3, O 0)] k=k (.agg [O 0, O 0, O 0, O 0]):=by kernel_rfl
theorem Dd (H:Hp) (k:AV->Bool):ak 281 .nils H k=k (O 0):=aF (xs:=([]:List Str)) (enc:=fE) (sz:=1) (d:= .nils) (.inl ⟨rfl,rfl⟩) Wh
theorem K5 (H:Hp) (k:AV->Bool):ak 296 .nils H k=k (O 0):=aF (xs:=([]:List Str)) (enc:=fE) (sz:=1) (d:= .nils) (.inl ⟨rfl,rfl⟩) Yk
def aBR (n:Nat) (b6:Nat) (H0:Hp) (m:Nat) (e:En) (H:Hp):Prop:=∃i,m=n - i/\i<=n/\e.dm=[]/\H=H0/\e.t 57= O (n:Int)/\e.t 58= O (i:Int)/\e.t 8= .nils/\e.t 11= .ptr b6 0
theorem sy {o:ai} (ho:cZ o) (h0:fu o=0):bc 111 [.agg (aC o),.nils] (·= .tup [.nils,.int .i64 0]):=by
 have ht:tO o<=900:=by
  unfold fu at h0
  split at h0
  ·omega
  ·omega
 refine aH hG ?_
 rw [show aq [D.agg (aC o),.nils]=[.agg (aq (aC o)),.nils] from rfl,ZI]
 simp only [aI,bJ]
 rw [wA (o:=o) (by rw [af,if_pos rfl])]
 refine ei hG _ (xY ho h0) rfl ?_
 rintro d ⟨b,rfl⟩
 have hlt:((12:Int)<0)=False:=by simp
 have hlt0:((0:Int)<0)=False:=by simp
 simp (disch:=omega) only [go_sem,aq]
 rw [yp]
 simp (disch:=omega) only [go_sem,hlt]
 rw [yp]
 refine lV 1 (er ?_)
 rw [QN]
 simp (disch:=omega) only [go_sem,hlt0,Qx]
 rw [show ew 8 (aq (aC o))=some (aq (aC o)) from rfl,fX]
 refine B2 ho ht fun v n mb bm H' hn hv hl hg hlb=> ?_
 simp only [aI]
 rw [Ue]
 simp only [bJ,aI]
 generalize hH6:(H'.push (.map false [] 0)).push (ae 289 [.ptr bm 0,.map H'.nx,.bool false])=H6
 have g6:H6.get (H'.nx+1)=some (ae 289 [.ptr bm 0,.map H'.nx,.bool false]):=by rw [←hH6];simp (disch:=omega) only [go_sem,bZ]
 have gm:H6.get bm=some (ae 295 [v,.nils,.map mb]):=by rw [←hH6];simp (disch:=omega) only [go_sem,bD];exact hg
 rw [show (H'.push (Blk.map false [] 0)).nx=H'.nx+1 from rfl]
 rw [fS,bL,cf (v:= .ptr bm 0) g6 Wx rfl,fS,bL,bL,cf (v:=v) gm Ab rfl,hl]
 refine aZ (aBR n (H'.nx+1) H6) (fun m e H1 hi=> ?_) (m:=n) ⟨0,rfl,bN _,rfl,rfl, ?_, ?_, ?_, ?_⟩
 rotate_left
 ·simp (disch:=omega) only [go_sem]
 ·simp (disch:=omega) only [go_sem];rfl
 ·simp (disch:=omega) only [go_sem]
 ·simp (disch:=omega) only [go_sem]
 obtain⟨i,rfl,hin,hdm,rfl,t57,t58,t8,t11⟩:=hi
 obtain⟨t,dm⟩:=e
 dsimp only at hdm t57 t58 t8 t11
 subst hdm
 refine aV 200 ?_
 rw [O8,t58,t57,t8,cB]
 by_cases hi:i<n
 ·have hlt1:((i:Int)<(n:Int))=True:=by simp [hi]
  simp only [hlt1,dL,dH]
  rw [Dd]
  refine lV 1 (er ?_)
  rw [RK]
  simp (disch:=omega) only [go_sem,hlt0,RV,t58]
  refine bd (m':=n - (i+1)) (by omega) ⟨i+1,rfl,by omega,rfl,rfl, ?_, ?_, ?_, ?_⟩
  ·simp (disch:=omega) only [go_sem,t57]
  ·simp (disch:=omega) only [go_sem];rfl
  ·simp (disch:=omega) only [go_sem,t8]
  ·simp (disch:=omega) only [go_sem,t11]
 ·have hlt1:((i:Int)<(n:Int))=False:=by simp;omega
  simp (disch:=omega) only [go_sem,hlt1,Rc]
  simp (disch:=omega) only [go_sem,t11,fS,g6,t8]
  rw [Dd,X4,show (es t [(59,AV.bool false)]) 11= .ptr (H'.nx+1) 0 from by simp (disch:=omega) only [go_sem,t11]]
  refine CG fun H2 _ _=> ?_
  rw [K5]
  refine lV 1 (er ?_)
  rw [Qd]
  simp (disch:=omega) only [go_sem,hlt0,Sn,aAN]
  exact ax (.tup [.nils, aS 0]) rfl
end Go.S5
namespace Go.BF
structure Lk where
 u:Nat
 v:Nat
 w:Int
structure St where
 d:Nat->Int
 by_:Nat->Option Nat
def upd {α:Type} (f:Nat->α) (i:Nat) (x:α):Nat->α:=fun j=>if j=i then x else f j
def relax (s:St) (k:Nat) (l:Lk):St:=if s.d l.u+l.w<s.d l.v then⟨upd s.d l.v (s.d l.u+l.w),upd s.by_ l.v (some k)⟩ else s
def pass (s:St) (k:Nat):List Lk->St
 | []=>s
 | l::ls=>pass (relax s k l) (k+1) ls
def s0:St:=⟨fun _=>0,fun _=>none⟩
def rounds (ls:List Lk):Nat->St
 | 0=>s0
 | r+1=>pass (rounds ls r) 0 ls
theorem AT (s:St) (k:Nat) (l:Lk) (j:Nat):(relax s k l).d j<=s.d j:=by
 unfold relax
 split
 ·show upd s.d l.v (s.d l.u+l.w) j<=_
  unfold upd
  split
  ·rename_i h1 h2;subst h2;omega
  ·exact Int.le_refl _
 ·exact Int.le_refl _
theorem yD:∀(ls:List Lk) (s:St) (k j:Nat),(pass s k ls).d j<=s.d j
 | [],s,k,j=>Int.le_refl _
 | l::ls,s,k,j=>Int.le_trans (yD ls (relax s k l) (k+1) j) (AT s k l j)
theorem Bj (s:St) (k:Nat) (l:Lk):(relax s k l).d l.v<=s.d l.u+l.w:=by
 unfold relax
 split
 ·show upd s.d l.v (s.d l.u+l.w) l.v<=_
  unfold upd;rw [if_pos rfl];exact Int.le_refl _
 ·omega
theorem xI:∀(ls:List Lk) (s:St) (k:Nat) (l:Lk),l∈ls->(pass s k ls).d l.v<=s.d l.u+l.w
 | [],_,_,_,h=>by cases h
 | m::ls,s,k,l,h=>by
  show (pass (relax s k m) (k+1) ls).d l.v<=_
  rcases List.mem_cons.1 h with rfl | h
  ·exact Int.le_trans (yD ls _ _ _) (Bj s k l)
  ·have:=xI ls (relax s k m) (k+1) l h
   have:=AT s k m l.u
   omega
inductive W (ls:List Lk):Nat->Nat->Int->Prop where
 | nil (v:Nat):W ls 0 v 0
 | cons {r:Nat} {L:Int} (l:Lk) (h:l∈ls) (hw:W ls r l.u L):W ls (r+1) l.v (L+l.w)
theorem tR (ls:List Lk) (j:Nat):∀(r m:Nat),(rounds ls (r+m)).d j<=(rounds ls r).d j
 | r,0=>Int.le_refl _
 | r,m+1=>Int.le_trans (yD ls _ _ _) (tR ls j r m)
theorem zc {ls:List Lk} {r v:Nat} {L:Int} (h:W ls r v L):(rounds ls r).d v<=L:=by
 induction h with
 | nil v=>exact Int.le_refl _
 | @cons r L l hl hw ih=>
  have:=xI ls (rounds ls r) 0 l hl
  show (pass (rounds ls r) 0 ls).d l.v<=_
  omega
structure Inv (ls:List Lk) (s:St):Prop where
 no:∀v,s.by_ v=none->s.d v=0
 so:∀v k,s.by_ v=some k->∃l,ls[k]? =some l/\l.v=v/\s.d l.u+l.w<=s.d v
theorem Inv.relax {ls:List Lk} {s:St} {k:Nat} {l:Lk} (h:Inv ls s) (hk:ls[k]? =some l) (hs:l.u≠l.v∨0<=l.w):Inv ls (relax s k l):=by
 unfold BF.relax
 split
 ·rename_i hlt
  refine⟨fun v hv=> ?_,fun v j hv=> ?_⟩
  ·change upd s.by_ l.v (Option.some k) v=Option.none at hv
   unfold upd at hv
   split at hv
   ·cases hv
   ·rename_i hne
    show upd s.d l.v _ v=0
    unfold upd;rw [if_neg hne];exact h.no v hv
  ·change upd s.by_ l.v (Option.some k) v=Option.some j at hv
   unfold upd at hv
   split at hv
   ·rename_i he
    cases hv
    refine⟨l,hk,he.symm, ?_⟩
    show upd s.d l.v _ l.u+l.w<=upd s.d l.v _ v
    unfold upd
    rw [if_pos he]
    split
    ·rename_i h2
     rw [h2] at hlt
     rcases hs with hs | hs
     ·exact absurd h2 hs
     ·omega
    ·exact Int.le_refl _
   ·rename_i hne
    obtain⟨m,m1,m2,m3⟩:=h.so v j hv
    refine⟨m,m1,m2, ?_⟩
    show upd s.d l.v _ m.u+m.w<=upd s.d l.v _ v
    unfold upd
    rw [if_neg hne]
    split
    ·rename_i h2;rw [h2] at m3;omega
    ·exact m3
 ·exact h
theorem Inv.pass {ls:List Lk}:∀(ms:List Lk) (s:St) (k:Nat),Inv ls s->(∀i m,ms[i]? =Option.some m->ls[k+i]? =Option.some m)->(∀l∈ls,l.u≠l.v∨0<=l.w)->Inv ls (pass s k ms)
 | [],s,k,h,_,_=>h
 | m::ms,s,k,h,hm,hn=>by
  have h0:=hm 0 m rfl
  refine Inv.pass ms _ (k+1) (h.relax h0 (hn m (List.mem_of_getElem? h0))) (fun i x hx=> ?_) hn
  have:=hm (i+1) x (by simpa using hx)
  rwa [show k+(i+1)=k+1+i by omega] at this
theorem Inv.rounds {ls:List Lk} (hn:∀l∈ls,l.u≠l.v∨0<=l.w):∀r,Inv ls (rounds ls r)
 | 0=>⟨fun _ _=>rfl,fun v k h=>by cases h⟩
 | r+1=>Inv.pass ls _ 0 (Inv.rounds hn r) (fun i m h=>by rwa [Nat.zero_add]) hn
def stp (ls:List Lk) (b:Nat->Option Nat) (v:Nat):Option Nat:=(b v).bind fun k=>(ls[k]?).map (·.u)
def it (ls:List Lk) (b:Nat->Option Nat) (v:Nat):Nat->Option Nat
 | 0=>some v
 | t+1=>(it ls b v t).bind (stp ls b)
theorem yX (ls:List Lk) (b:Nat->Option Nat) (v:Nat) {u:Nat} {i:Nat} (h:it ls b v i=some u):∀m,it ls b v (i+m)=it ls b u m
 | 0=>h
 | m+1=>by show (it ls b v (i+m)).bind _=_;rw [yX ls b v h m];rfl
theorem AM {ls:List Lk} (hn:∀l∈ls,l.u≠l.v∨0<=l.w) {n k:Nat} {l:Lk} (hl:ls[k]? =some l) (hlt:(rounds ls n).d l.u+l.w<(rounds ls n).d l.v):
  ∀t,t<=n->∃(u:Nat) (L:Int),it ls (upd (rounds ls n).by_ l.v (some k)) l.v (t+1)=some u/\(∀r L',W ls r u L'->W ls (r+(t+1)) l.v (L'+L))/\(rounds ls n).d u+L<(rounds ls n).d l.v
 | 0,_=>by
  refine⟨l.u,l.w, ?_,fun r L' hw=>.cons l (List.mem_of_getElem? hl) hw,hlt⟩
  show (some l.v).bind (stp ls _)=_
  rw [Option.bind_some]
  unfold stp upd
  rw [if_pos rfl,Option.bind_some,hl];rfl
 | t+1,ht=>by
  obtain⟨u,L,h1,h2,h3⟩:=AM hn hl hlt t (by omega)
  have hI:=Inv.rounds hn n
  have hs:∀x,stp ls (upd (rounds ls n).by_ l.v (some k)) u=some x->it ls (upd (rounds ls n).by_ l.v (some k)) l.v (t+1+1)=some x:=fun x hx=>by
   show (it ls _ l.v (t+1)).bind _=_
   rw [h1,Option.bind_some,hx]
  by_cases hu:u=l.v
  ·refine⟨l.u,l.w+L,hs _ ?_,fun r L' hw=> ?_,by rw [hu] at h3;omega⟩
   ·unfold stp upd
    rw [if_pos hu,Option.bind_some,hl];rfl
   ·have:=h2 (r+1) (L'+l.w) (by rw [hu];exact .cons l (List.mem_of_getElem? hl) hw)
    rw [show r+1+(t+1)=r+(t+1+1) by omega,show L'+l.w+L=L'+(l.w+L) by omega] at this
    exact this
  ·cases hb:(rounds ls n).by_ u with
   | none=>
    exfalso
    have h0:=hI.no u hb
    have hw:=h2 0 0 (.nil u)
    rw [Nat.zero_add,Int.zero_add] at hw
    have h4:=zc hw
    have h5:=tR ls l.v (t+1) (n - (t+1))
    rw [show t+1+(n - (t+1))=n by omega] at h5
    omega
   | some j=>
    obtain⟨m,m1,m2,m3⟩:=hI.so u j hb
    refine⟨m.u,m.w+L,hs _ ?_,fun r L' hw=> ?_,by omega⟩
    ·unfold stp upd
     rw [if_neg hu,hb,Option.bind_some,m1];rfl
    ·have:=h2 (r+1) (L'+m.w) (by rw [←m2];exact .cons m (List.mem_of_getElem? m1) hw)
     rw [show r+1+(t+1)=r+(t+1+1) by omega,show L'+m.w+L=L'+(m.w+L) by omega] at this
     exact this
theorem it_some {ls:List Lk} (hn:∀l∈ls,l.u≠l.v∨0<=l.w) {n k:Nat} {l:Lk} (hl:ls[k]? =some l) (hlt:(rounds ls n).d l.u+l.w<(rounds ls n).d l.v) {t:Nat} (ht:t<=n+1):∃u,it ls (upd (rounds ls n).by_ l.v (some k)) l.v t=some u:=by
 cases t with
 | zero=>exact⟨_,rfl⟩
 | succ t=>
  obtain⟨u,_,h,_⟩:=AM hn hl hlt t (by omega)
  exact⟨u,h⟩
theorem G9:∀(n:Nat) (f:Nat->Nat),(∀i,i<=n->f i<n)->∃i j,i<j/\j<=n/\f i=f j
 | 0,f,h=>absurd (h 0 (Nat.le_refl _)) (by omega)
 | n+1,f,h=>by
  by_cases hx:∃i,i<=n/\f i=f (n+1)
  ·obtain⟨i,h1,h2⟩:=hx
   exact⟨i,n+1,by omega,Nat.le_refl _,h2⟩
  ·have hne:∀i,i<=n->f i≠f (n+1):=fun i hi e=>hx ⟨i,hi,e⟩
   have hlast:=h (n+1) (Nat.le_refl _)
   obtain⟨i,j,h1,h2,h3⟩:=G9 n (fun i=>if f i=n then f (n+1) else f i) (fun i hi=>by
    have:=h i (by omega)
    have:=hne i hi
    show (if f i=n then f (n+1) else f i)<n
    split
    ·rename_i e;omega
    ·omega)
   refine⟨i,j,h1,by omega, ?_⟩
   have hi:=hne i (by omega)
   have hj:=hne j h2
   split at h3<;>split at h3<;>omega
theorem on_cycle {ls:List Lk} (hn:∀l∈ls,l.u≠l.v∨0<=l.w) {n k:Nat} {l:Lk} (hl:ls[k]? =some l) (hlt:(rounds ls n).d l.u+l.w<(rounds ls n).d l.v) (hu:∀m∈ls,m.u<n) (hv:l.v<n):
  ∃(c p:Nat),it ls (upd (rounds ls n).by_ l.v (some k)) l.v n=some c/\1<=p/\p<=n/\it ls (upd (rounds ls n).by_ l.v (some k)) c p=some c:=by
 have hS:=fun t ht=>it_some hn hl hlt (t:=t) ht
 generalize upd (rounds ls n).by_ l.v (some k)=b at hS
 have hlt':∀t u,it ls b l.v t=some u->u<n:=fun t u h=>by
  cases t with
  | zero=>cases h;exact hv
  | succ t=>
   change (it ls b l.v t).bind _=_ at h
   obtain⟨x,_,hx⟩:=Option.bind_eq_some_iff.1 h
   unfold stp at hx
   obtain⟨j,_,hj⟩:=Option.bind_eq_some_iff.1 hx
   obtain⟨m,hm,rfl⟩:=Option.map_eq_some_iff.1 hj
   exact hu m (List.mem_of_getElem? hm)
 obtain⟨i,j,h1,h2,h3⟩:=G9 n (fun t=>(it ls b l.v t).getD 0) (fun t ht=>by
  obtain⟨u,hu⟩:=hS t (by omega)
  show (it ls b l.v t).getD 0<n
  rw [hu];exact hlt' t u hu)
 obtain⟨x,hx⟩:=hS i (by omega)
 obtain⟨y,hy⟩:=hS j (by omega)
 simp only [hx,hy,Option.getD_some] at h3
 subst h3
 have e1:=yX ls b l.v hx
 have e2:=yX ls b l.v hy
 obtain⟨c,hc⟩:=hS n (by omega)
 refine⟨c,j - i,hc,by omega,by omega, ?_⟩
 have e3:=yX ls b l.v hc (j - i)
 have e4:it ls b x (n - i)=some c:=by rw [←e1 (n - i),show i+(n - i)=n by omega];exact hc
 have e5:it ls b l.v (n+(j - i))=it ls b x (n - i):=by rw [←e2 (n - i)];congr 1;omega
 rw [←e3,e5,e4]
end Go.BF
namespace Go.S5
open Go.Ev Go.Proofs
def eLk (l:BF.Lk):List D:=[aS (l.u:Int), aS (l.v:Int), aS l.w]
theorem yy (l:BF.Lk):(eLk l).length=3:=rfl
def kP (n:Nat) (d:Nat->Int):List AV:=(List.range n).map fun i=> O (d i)
theorem jO (n:Nat) (d:Nat->Int):(kP n d).length=n:=by simp [kP]
theorem o2 {n i:Nat} (d:Nat->Int) (h:i<n):(kP n d)[i]? =some (O (d i)):=by simp [kP,h]
theorem pf {n i:Nat} (d:Nat->Int) (x:Int) (h:i<n):(kP n d).set i (O x)=kP n (BF.upd d i x):=by
 refine List.ext_getElem (by rw [kw,jO,jO]) fun j h1 h2=> ?_
 rw [List.getElem_set]
 by_cases hij:i=j
 ·rw [if_pos hij];simp [kP,BF.upd,hij]
 ·rw [if_neg hij];simp [kP,BF.upd,Ne.symm hij]
def far:Int:=1125899906842624
structure Sm (t t':E2):Prop where
 s0:t' 0=t 0
 s1:t' 1=t 1
 s7:t' 7=t 7
 s8:t' 8=t 8
 s10:t' 10=t 10
 s11:t' 11=t 11
 s12:t' 12=t 12
 s50:t' 50=t 50
 s51:t' 51=t 51
 s56:t' 56=t 56
 s57:t' 57=t 57
 s58:t' 58=t 58
structure LB where
 d:Nat->Int
 b:Nat->Int
def rlx (s:LB) (k:Nat) (l:BF.Lk):LB:=if s.d l.u<far/\s.d l.u+l.w<s.d l.v then⟨BF.upd s.d l.v (s.d l.u+l.w),BF.upd s.b l.v (k:Int)⟩ else s
def isR (s:LB) (l:BF.Lk):Prop:=s.d l.u<far/\s.d l.u+l.w<s.d l.v
instance (s:LB) (l:BF.Lk):Decidable (isR s l):=by unfold isR;exact inferInstance
structure Lg (H:Hp) (n bl bb:Nat) (s:LB):Prop where
 gl:H.get bl=some (ae 3 (kP n s.d))
 gb:H.get bb=some (ae 3 (kP n s.b))
 ne:bl≠bb
 ll:bl<H.nx
 lb:bb<H.nx
theorem Lg.keep {H H':Hp} {n bl bb:Nat} {s:LB} (h:Lg H n bl bb s) (hn:H.nx<=H'.nx) (hf:∀c,c<H.nx->H'.get c=H.get c):Lg H' n bl bb s:=
 ⟨by rw [hf _ h.ll];exact h.gl,by rw [hf _ h.lb];exact h.gb,h.ne,by have:=h.ll;omega,by have:=h.lb;omega⟩
def slv (b n:Nat):AV:= .sl b 0 n 1 (some n)
theorem idv {b n i:Nat} (hi:i<n) (k:AV->Bool):ah 51 (slv b n) (O (i:Int)) k=k (.ptr b i):=by
 unfold slv
 rw [gX kQ in3 ce3 hi,ca,dZ]
theorem c67 {H:Hp} {n bl bb bx q:Nat} {s:LB} {l:BF.Lk} {t:E2} {k:AEx->En->Hp->Bool} (h:Lg H n bl bb s) (hu:l.u<n) (hv:l.v<n) (hx:H.get bx=some (ae 133 (aq (eLk l)))) (t7:t 7=slv bl n) (t12:t 12= .ptr bx 0)
  (hb:∀i,i<n-> -4000000000000000000<=s.d i/\s.d i<=2000000000000000000) (hw: -2000000000000000000<=l.w/\l.w<=2000000000000000000)
  (hk:∀t',t' 84= .bool (decide (isR s l))->Sm t t'->k .normal ⟨t',[]⟩ H=true):az 194 154 67 16409906 none ⟨t,[]⟩ H k=true:=by
 have e0:(aq (eLk l))=[O (l.u:Int), O (l.v:Int), O l.w]:=rfl
 rw [e0] at hx
 have hiu:=fun k=>idv (b:=bl) hu k
 have hiv:=fun k=>idv (b:=bl) hv k
 have hgu:=o2 s.d hu
 have hgv:=o2 s.d hv
 have hbu:=hb _ hu
 rw [S0,t7,t12]
 have hadd:(-9223372036854775808<=s.d l.u+l.w/\s.d l.u+l.w<=9223372036854775807):=by omega
 have hxx:∀(i:Nat) (k:AV->Bool),i<n->E H 3 (.ptr bl i) k=k (O (s.d i)):=fun i k hi=>cf h.gl ag3 (o2 s.d hi)
 have hx0:∀k:AV->Bool,E H 3 (.ptr bx (0+0)) k=k (O (l.u:Int)):=fun k=>cf hx ag3 rfl
 have hx1:∀k:AV->Bool,E H 3 (.ptr bx (0+1)) k=k (O (l.v:Int)):=fun k=>cf hx ag3 rfl
 have hx2:∀k:AV->Bool,E H 3 (.ptr bx (0+2)) k=k (O l.w):=fun k=>cf hx ag3 rfl
 rw [bL,hx0,hiu,hxx _ _ hu,cB]
 by_cases hf:s.d l.u<1125899906842624
 ·have e1:decide (s.d l.u<1125899906842624)=true:=by simp [hf]
  rw [e1]
  simp only [CP,qQ,zy]
  rw [bL,hx0,hiu,hxx _ _ hu,bL,hx2,kn _ _ _ _ hadd,bL,hx1,hiv,hxx _ _ hv,cB,HC,cQ]
  refine hk _ ?_ ?_
  ·simp (disch:=omega) only [go_sem]
   congr 1
   rw [cg,bU,bU]
   exact⟨fun h=>⟨hf,h⟩,fun h=>h.2⟩
  ·constructor<;>(simp (disch:=omega) only [go_sem])
 ·have e1:decide (s.d l.u<1125899906842624)=false:=by simp [hf]
  rw [e1]
  simp only [CP,qQ,zn]
  rw [Gl,cQ]
  refine hk _ ?_ ?_
  ·simp (disch:=omega) only [go_sem]
   congr 1
   symm
   rw [cU]
   exact fun h=>hf h.1
  ·constructor<;>(simp (disch:=omega) only [go_sem])
structure Sm2 (t t':E2):Prop where
 s0:t' 0=t 0
 s1:t' 1=t 1
 s7:t' 7=t 7
 s8:t' 8=t 8
 s11:t' 11=t 11
 s12:t' 12=t 12
 s50:t' 50=t 50
 s51:t' 51=t 51
 s56:t' 56=t 56
 s57:t' 57=t 57
 s58:t' 58=t 58
theorem yK {s:LB} {k:Nat} {l:BF.Lk} (h:isR s l):rlx s k l=⟨BF.upd s.d l.v (s.d l.u+l.w),BF.upd s.b l.v (k:Int)⟩:=if_pos h
theorem vg {s:LB} {k:Nat} {l:BF.Lk} (h:¬isR s l):rlx s k l=s:=if_neg h
theorem u67 {H:Hp} {n bl bb bx q:Nat} {s:LB} {l:BF.Lk} {t:E2} {k:AEx->En->Hp->Bool} (h:Lg H n bl bb s) (hu:l.u<n) (hv:l.v<n) (hx:H.get bx=some (ae 133 (aq (eLk l)))) (hb1:bx≠bl) (hb2:bx≠bb)
  (t7:t 7=slv bl n) (t8:t 8=slv bb n) (t11:t 11= O (q:Int)) (t12:t 12= .ptr bx 0) (t84:t 84= .bool (decide (isR s l)))
  (hb:∀i,i<n-> -4000000000000000000<=s.d i/\s.d i<=2000000000000000000) (hw: -2000000000000000000<=l.w/\l.w<=2000000000000000000)
  (hk:∀t' H',Lg H' n bl bb (rlx s q l)->H'.nx=H.nx->(∀c,c≠bl->c≠bb->H'.get c=H.get c)->t' 10=(if isR s l then O (l.v:Int) else t 10)->Sm2 t t'->k .normal ⟨t',[]⟩ H'=true):az 194 154 67 16409907 none ⟨t,[]⟩ H k=true:=by
 rw [R6,t84]
 by_cases hr:isR s l
 ·rw [fM hr,dH,t7,t8,t11,t12]
  have hbu:=hb _ hu
  have hadd:(-9223372036854775808<=s.d l.u+l.w/\s.d l.u+l.w<=9223372036854775807):=by omega
  have hx0:∀H',H'.get bx=H.get bx->∀k:AV->Bool,E H' 3 (.ptr bx (0+0)) k=k (O (l.u:Int)):=fun H' e k=>cf (by rw [e];exact hx) ag3 rfl
  have hx1:∀H',H'.get bx=H.get bx->∀k:AV->Bool,E H' 3 (.ptr bx (0+1)) k=k (O (l.v:Int)):=fun H' e k=>cf (by rw [e];exact hx) ag3 rfl
  have hx2:∀H',H'.get bx=H.get bx->∀k:AV->Bool,E H' 3 (.ptr bx (0+2)) k=k (O l.w):=fun H' e k=>cf (by rw [e];exact hx) ag3 rfl
  rw [bL,hx1 H rfl,bL,hx1 H rfl,bL,hx0 H rfl,idv hu,cf h.gl ag3 (o2 s.d hu),bL,hx2 H rfl,kn _ _ _ _ hadd,bL,hx1 H rfl,idv hv,bq,ex h.gl ag3 ce3 rfl rfl (by rw [jO];exact hv),pf _ _ hv]
  generalize hH1:H.setb bl (some (ae 3 (kP n (BF.upd s.d l.v (s.d l.u+l.w)))))=H1
  have e1:H1.get bx=H.get bx:=by rw [←hH1,V,if_neg hb1]
  have g1:H1.get bb=some (ae 3 (kP n s.b)):=by rw [←hH1,V,if_neg (Ne.symm h.ne)];exact h.gb
  have c0:=hx0 H1 e1
  have c1:=hx1 H1 e1
  have c2:=hx2 H1 e1
  have w0:=fun i=>lv 999 .i64 i
  simp only [bI (show Nat.testBit 147399 12=true from rfl),bI (show Nat.testBit 147399 10=true from rfl),bI (show Nat.testBit 147399 8=true from rfl),bI (show Nat.testBit 147399 2=true from rfl),ct (show Nat.testBit 147399 16=false from rfl),ct (show Nat.testBit 147399 5=false from rfl),bP,c1,w0,dE]
  rw [idv hv,bq,ex g1 ag3 ce3 rfl rfl (by rw [jO];exact hv),pf _ _ hv]
  generalize hH2:H1.setb bb (some (ae 3 (kP n (BF.upd s.b l.v (q:Int)))))=H2
  have e2:H2.get bx=H.get bx:=by rw [←hH2,V,if_neg hb2];exact e1
  have d1:=hx1 H2 e2
  simp only [ct (show Nat.testBit 950271 16=false from rfl),bI (show Nat.testBit 950271 12=true from rfl),bI (show Nat.testBit 950271 10=true from rfl),bI (show Nat.testBit 950271 8=true from rfl),bI (show Nat.testBit 950271 5=true from rfl),bI (show Nat.testBit 950271 2=true from rfl),bP,d1,w0,dE,cQ]
  refine hk _ H2 ?_ ?_ (fun c hc1 hc2=> ?_) ?_ ?_
  ·rw [yK hr]
   refine⟨?_, ?_,h.ne, ?_, ?_⟩
   ·rw [←hH2,V,if_neg h.ne,←hH1,V,if_pos rfl]
   ·rw [←hH2,V,if_pos rfl]
   ·rw [←hH2,←hH1];exact h.ll
   ·rw [←hH2,←hH1];exact h.lb
  ·rw [←hH2,←hH1];rfl
  ·rw [←hH2,V,if_neg hc2,←hH1,V,if_neg hc1]
  ·rw [if_pos hr];simp (disch:=omega) only [go_sem]
  ·constructor<;>(simp (disch:=omega) only [go_sem])
 ·rw [fK hr,eV]
  refine hk t H (by rw [vg hr];exact h) rfl (fun _ _ _=>rfl) (by rw [if_neg hr]) (by constructor<;>rfl)
structure Sm3 (t t':E2):Prop where
 s0:t' 0=t 0
 s1:t' 1=t 1
 s7:t' 7=t 7
 s8:t' 8=t 8
 s50:t' 50=t 50
 s51:t' 51=t 51
 s56:t' 56=t 56
 s57:t' 57=t 57
theorem zH (t:E2):Sm3 t t:=⟨rfl,rfl,rfl,rfl,rfl,rfl,rfl,rfl⟩
theorem Sm3.trans {t t' t'':E2} (h:Sm3 t t') (h':Sm3 t' t''):Sm3 t t'':=
 ⟨h'.s0.trans h.s0,h'.s1.trans h.s1,h'.s7.trans h.s7,h'.s8.trans h.s8,h'.s50.trans h.s50,h'.s51.trans h.s51,h'.s56.trans h.s56,h'.s57.trans h.s57⟩
def MM:Int:=9007199254740992
def Bd (n T:Nat) (s:LB):Prop:=∀i,i<n-> -((T:Int) * MM)<=s.d i/\s.d i<=far
theorem Bd.rlx {n T k:Nat} {s:LB} {l:BF.Lk} (h:Bd n T s) (hu:l.u<n) (hv:l.v<n) (hw: -MM<=l.w/\l.w<=MM):Bd n (T+1) (rlx s k l):=by
 intro i hi
 have h1:=h i hi
 have h2:=h _ hu
 have h3:=h _ hv
 have e:(((T+1:Nat):Int) * MM)=(T:Int) * MM+MM:=by push_cast;rw [Int.add_mul,Int.one_mul]
 have hM:(0:Int)<=MM:=by decide
 rw [e]
 by_cases hr:isR s l
 ·rw [yK hr]
  obtain⟨r1,r2⟩:=hr
  show -((T:Int) * MM+MM)<=BF.upd s.d l.v (s.d l.u+l.w) i/\BF.upd s.d l.v (s.d l.u+l.w) i<=far
  unfold BF.upd
  split<;>omega
 ·rw [vg hr];omega
theorem Bd.mono {n T T':Nat} {s:LB} (h:Bd n T s) (ht:T<=T'):Bd n T' s:=fun i hi=>by
 have h1:=h i hi
 have:(T:Int) * MM<=(T':Int) * MM:=Int.mul_le_mul_of_nonneg_right (by omega) (by decide)
 omega
theorem Bd.ok {n T:Nat} {s:LB} (h:Bd n T s) (hT:T<=400):∀i,i<n-> -4000000000000000000<=s.d i/\s.d i<=2000000000000000000:=fun i hi=>by
 have h1:=h i hi
 have h2:(T:Int) * MM<=400 * MM:=Int.mul_le_mul_of_nonneg_right (by omega) (by decide)
 have h3:400 * MM=3602879701896396800:=by decide
 have h4:far=1125899906842624:=rfl
 omega
theorem Ng {ls:List BF.Lk} {dl:D} {k:Nat} (hd:Sl 3 eLk ls dl) (hk:k<ls.length):∃p,(∀K:AV->Bool,ah 129 (ofD dl) (O (k:Int)) K=K p)/\∀(H:Hp) (K:AV->Bool),E H 133 p K=K (.agg (aq (eLk ls[k]))):=
 ⟨_,fun K=>bC hd xc GD rB hk,fun H K=>by rw [nk,xd,jc,rB,bv yy hk,fX]⟩
theorem zu {H:Hp} {b:Nat} {el:Option TypeId} {l:BF.Lk} {k:Hp->Bool} (hb:H.get b=some (.cells el false [O 0, O 0, O 0])):aA H 133 (.ptr b 0) (.agg (aq (eLk l))) k=k (H.setb b (some (.cells el false (aq (eLk l))))):=by
 rw [jv,hb,xd,gr,rB,bJ];rfl
theorem p67 {H:Hp} {n bl bb q T:Nat} {s:LB} {ls:List BF.Lk} {dl:D} {t:E2} {k:AEx->En->Hp->Bool} (h:Lg H n bl bb s) (hd:Sl 3 eLk ls dl) (hq:q<ls.length) (hl:ls.length<=1000) (hu:∀l∈ls,l.u<n/\l.v<n/\ -MM<=l.w/\l.w<=MM) (hB:Bd n T s) (hT:T<=400)
  (t7:t 7=slv bl n) (t8:t 8=slv bb n) (t56:t 56=ofD dl) (t57:t 57= O (ls.length:Int)) (t58:t 58= O (q:Int))
  (hk:∀t' H',Lg H' n bl bb (rlx s q ls[q])->H.nx<=H'.nx->(∀c,c<H.nx->c≠bl->c≠bb->H'.get c=H.get c)->t' 10=(if isR s ls[q] then O (ls[q].v:Int) else t 10)->t' 58= O ((q+1:Nat):Int)->Sm3 t t'->k .normal ⟨t',[]⟩ H'=true):
  az 200 154 67 128202 none ⟨t,[]⟩ H k=true:=by
 have hlt:((q:Int)<(ls.length:Int))=True:=by simp;omega
 obtain⟨hu1,hv1,hw1⟩:=hu ls[q] (cO hq)
 have hw2: -2000000000000000000<=ls[q].w/\ls[q].w<=2000000000000000000:=by
  have:MM=9007199254740992:=rfl
  omega
 obtain⟨p,hpx,hpl⟩:=Ng hd hq
 rw [Ni,t58,t57,cB]
 simp only [hlt,dL,dH]
 rw [QT]
 have E56:∀x,(es t [(59,x)]) 56=ofD dl:=fun x=>by simp (disch:=omega) only [go_sem,t56]
 have E58:∀x,(es t [(59,x)]) 58= O (q:Int):=fun x=>by simp (disch:=omega) only [go_sem,t58]
 rw [E56,E58,hpx,hpl,aI,zu (el:=some 133) (by rw [af,if_pos rfl])]
 generalize hH1:Hp.setb (H.push (ae 133 [O 0, O 0, O 0])) H.nx (some (ae 133 (aq (eLk ls[q]))))=H1
 have hx1:H1.nx=H.nx+1:=by rw [←hH1];rfl
 have hf1:∀c,c<H.nx->H1.get c=H.get c:=fun c hc=>by rw [←hH1,V,if_neg (by omega),af,if_neg (by omega)]
 have hL1:=h.keep (H':=H1) (by omega) hf1
 have hg1:H1.get H.nx=some (ae 133 (aq (eLk ls[q]))):=by rw [←hH1,V,if_pos rfl]
 refine c67 (q:=q) hL1 hu1 hv1 hg1 (by simp (disch:=omega) only [go_sem,t7]) (by simp (disch:=omega) only [go_sem]) (hB.ok hT) hw2 fun t1 a84 hs1=> ?_
 have hb1:H.nx≠bl:=by have:=h.ll;omega
 have hb2:H.nx≠bb:=by have:=h.lb;omega
 rw [eU]
 refine u67 (q:=q) hL1 hu1 hv1 hg1 hb1 hb2 (by rw [hs1.s7];simp (disch:=omega) only [go_sem,t7]) (by rw [hs1.s8];simp (disch:=omega) only [go_sem,t8]) (by rw [hs1.s11];simp (disch:=omega) only [go_sem]) (by rw [hs1.s12];simp (disch:=omega) only [go_sem]) a84 (hB.ok hT) hw2 fun t2 H2 hL2 hx2 hf2 a10 hs2=> ?_
 have E2':t2 58= O (q:Int):=by rw [hs2.s58,hs1.s58];simp (disch:=omega) only [go_sem,t58]
 simp (disch:=omega) only [go_sem,Rh,E2']
 refine hk _ H2 hL2 (by omega) (fun c hc h1 h2=>by rw [hf2 c h1 h2,hf1 c hc]) ?_ ?_ ?_
 ·simp (disch:=omega) only [go_sem,a10]
  have:t1 10=t 10:=by rw [hs1.s10];simp (disch:=omega) only [go_sem]
  rw [this]
 ·simp (disch:=omega) only [go_sem];rfl
 ·constructor
  ·rw [show ∀x,(es t2 [(104,x),(58,x)]) 0=t2 0 from fun x=>by simp (disch:=omega) only [go_sem],hs2.s0,hs1.s0];simp (disch:=omega) only [go_sem]
  ·rw [show ∀x,(es t2 [(104,x),(58,x)]) 1=t2 1 from fun x=>by simp (disch:=omega) only [go_sem],hs2.s1,hs1.s1];simp (disch:=omega) only [go_sem]
  ·rw [show ∀x,(es t2 [(104,x),(58,x)]) 7=t2 7 from fun x=>by simp (disch:=omega) only [go_sem],hs2.s7,hs1.s7];simp (disch:=omega) only [go_sem]
  ·rw [show ∀x,(es t2 [(104,x),(58,x)]) 8=t2 8 from fun x=>by simp (disch:=omega) only [go_sem],hs2.s8,hs1.s8];simp (disch:=omega) only [go_sem]
  ·rw [show ∀x,(es t2 [(104,x),(58,x)]) 50=t2 50 from fun x=>by simp (disch:=omega) only [go_sem],hs2.s50,hs1.s50];simp (disch:=omega) only [go_sem]
  ·rw [show ∀x,(es t2 [(104,x),(58,x)]) 51=t2 51 from fun x=>by simp (disch:=omega) only [go_sem],hs2.s51,hs1.s51];simp (disch:=omega) only [go_sem]
  ·rw [show ∀x,(es t2 [(104,x),(58,x)]) 56=t2 56 from fun x=>by simp (disch:=omega) only [go_sem],hs2.s56,hs1.s56];simp (disch:=omega) only [go_sem]
  ·rw [show ∀x,(es t2 [(104,x),(58,x)]) 57=t2 57 from fun x=>by simp (disch:=omega) only [go_sem],hs2.s57,hs1.s57];simp (disch:=omega) only [go_sem]
def pst (ls:List BF.Lk) (s:LB):Nat->LB×Int
 | 0=>(s, -1)
 | q+1=>match ls[q]? with
  | some l=>(rlx (pst ls s q).1 q l,if isR (pst ls s q).1 l then (l.v:Int) else (pst ls s q).2)
  | none=>pst ls s q
theorem nw {ls:List BF.Lk} {s:LB} {q:Nat} (h:q<ls.length):pst ls s (q+1)=(rlx (pst ls s q).1 q ls[q],if isR (pst ls s q).1 ls[q] then (ls[q].v:Int) else (pst ls s q).2):=by
 rw [pst,dW h]
def rdS (ls:List BF.Lk) (s:LB):Nat->LB
 | 0=>s
 | r+1=>(pst ls (rdS ls s r) ls.length).1
theorem xO {ls:List BF.Lk} {s:LB}:∀{q:Nat},q<=ls.length->(pst ls s q).2<0->(pst ls s q).1=s/\∀k (hk:k<ls.length),k<q->¬isR s ls[k]
 | 0,_,_=>⟨rfl,fun k _ h=>by omega⟩
 | q+1,hq,hc=>by
  rw [nw (by omega)] at hc⊢
  dsimp only at hc⊢
  by_cases hr:isR (pst ls s q).1 ls[q]
  ·rw [if_pos hr] at hc;omega
  ·rw [if_neg hr] at hc
   obtain⟨h1,h2⟩:=xO (by omega) hc
   rw [h1] at hr
   rw [h1,vg hr]
   refine⟨rfl,fun k hk hkq=> ?_⟩
   by_cases hkk:k=q
   ·subst hkk;exact hr
   ·exact h2 k hk (by omega)
theorem HW {ls:List BF.Lk} {s:LB} (h:∀k (hk:k<ls.length),¬isR s ls[k]):∀q,q<=ls.length->pst ls s q=(s, -1)
 | 0,_=>rfl
 | q+1,hq=>by rw [nw (by omega),HW h q (by omega),vg (h q (by omega)),if_neg (h q (by omega))]
theorem wW {ls:List BF.Lk} {s:LB} {r:Nat} (h:∀k (hk:k<ls.length),¬isR (rdS ls s r) ls[k]):∀m,rdS ls s (r+m)=rdS ls s r
 | 0=>rfl
 | m+1=>by
  show (pst ls (rdS ls s (r+m)) ls.length).1=_
  rw [wW h m,HW h _ (bh _)]
theorem Bd.pst {n T:Nat} {s:LB} {ls:List BF.Lk} (h:Bd n T s) (hu:∀l∈ls,l.u<n/\l.v<n/\ -MM<=l.w/\l.w<=MM):∀q,q<=ls.length->Bd n (T+q) (pst ls s q).1
 | 0,_=>h
 | q+1,hq=>by
  rw [nw (by omega)]
  obtain⟨a,b,c⟩:=hu ls[q] (cO _)
  exact (Bd.pst h hu q (by omega)).rlx a b c
theorem kY (cs:List D) (o:Nat) (k:AV->Bool):bw (.dat (.ptr cs o)) k=k (.dat (.ptr cs o)):=cg.mpr de
theorem ldD {H:Hp} {t:TypeId} {cs:List D} {i:Nat} {x:AV} {k:AV->Bool} (ht:aN t=some false) (hx:(aq cs)[i]? =some x):E H t (.dat (.ptr cs i)) k=k x:=by rw [nk,ht,pU,hx,qt]
def aCY (n bl bb:Nat) (s:LB) (ls:List BF.Lk) (H0:Hp) (t0:E2) (m:Nat) (e:En) (H:Hp):Prop:=∃q,m=ls.length - q/\q<=ls.length/\e.dm=[]/\Lg H n bl bb (pst ls s q).1/\e.t 10= O (pst ls s q).2/\e.t 58= O (q:Int)/\Sm3 t0 e.t/\H0.nx<=H.nx/\∀c,c<H0.nx->c≠bl->c≠bb->H.get c=H0.get c
theorem Jp {H:Hp} {n bl bb T r:Nat} {s:LB} {ls:List BF.Lk} {dn di dl:D} {t:E2} {k:AEx->En->Hp->Bool} (h:Lg H n bl bb s) (hd:Sl 3 eLk ls dl) (hl:ls.length<=1000) (hu:∀l∈ls,l.u<n/\l.v<n/\ -MM<=l.w/\l.w<=MM) (hB:Bd n T s) (hT:T+ls.length<=400) (hr:r<n) (hn:n<=1000)
  (t0:t 0= .dat (.ptr [dn,di,dl] 0)) (t7:t 7=slv bl n) (t8:t 8=slv bb n) (t50:t 50= O (n:Int)) (t51:t 51= O (r:Int))
  (hno:(pst ls s ls.length).2<0->∀t' H',Lg H' n bl bb (pst ls s ls.length).1->H.nx<=H'.nx->(∀c,c<H.nx->c≠bl->c≠bb->H'.get c=H.get c)->t' 4=slv bl n->t' 5=slv bb n->t' 6= O (-1)->k .ret ⟨t',[]⟩ H'=true)
  (hyes:¬(pst ls s ls.length).2<0->∀t' H',Lg H' n bl bb (pst ls s ls.length).1->H.nx<=H'.nx->(∀c,c<H.nx->c≠bl->c≠bb->H'.get c=H.get c)->t' 0=t 0->t' 1=t 1->t' 7=slv bl n->t' 8=slv bb n->t' 50= O (n:Int)->t' 51= O ((r+1:Nat):Int)->k .normal ⟨t',[]⟩ H'=true):
  az 200 154 67 250 none ⟨t,[]⟩ H k=true:=by
 have hlt:((r:Int)<(n:Int))=True:=by simp;omega
 rw [M1,t51,t50,t0,cB]
 simp only [hlt,dL,dH]
 rw [kY,jZ,ldD (x:=ofD dl) lR rfl,aF hd xc]
 refine aZ (aCY n bl bb s ls H (es t (ao 52 [.bool true,.dat (.ptr [dn,di,dl] 0),.dat (.ptr [dn,di,dl] 0),.dat (.ptr [dn,di,dl] (0+2)),ofD dl,O (ls.length:Int),O 0] [(10,O (-1))]))) (fun m e H1 hi=> ?_) (m:=ls.length) ⟨0,rfl,bN _,rfl,h, ?_, ?_,zH _,bh _,fun _ _ _ _=>rfl⟩
 rotate_left
 ·simp (disch:=omega) only [go_sem];rfl
 ·simp (disch:=omega) only [go_sem];rfl
 obtain⟨q,rfl,hq,hdm,hL,a10,a58,hs,hnx,hf⟩:=hi
 obtain⟨t1,dm⟩:=e
 dsimp only at hdm a10 a58 hs
 subst hdm
 have b7:t1 7=slv bl n:=by rw [hs.s7];simp (disch:=omega) only [go_sem,t7]
 have b8:t1 8=slv bb n:=by rw [hs.s8];simp (disch:=omega) only [go_sem,t8]
 have b0:t1 0= .dat (.ptr [dn,di,dl] 0):=by rw [hs.s0];simp (disch:=omega) only [go_sem,t0]
 have b1:t1 1=t 1:=by rw [hs.s1];simp (disch:=omega) only [go_sem]
 have b50:t1 50= O (n:Int):=by rw [hs.s50];simp (disch:=omega) only [go_sem,t50]
 have b51:t1 51= O (r:Int):=by rw [hs.s51];simp (disch:=omega) only [go_sem,t51]
 have b56:t1 56=ofD dl:=by rw [hs.s56];simp (disch:=omega) only [go_sem]
 have b57:t1 57= O (ls.length:Int):=by rw [hs.s57];simp (disch:=omega) only [go_sem]
 refine aV 200 ?_
 by_cases hql:q<ls.length
 ·refine p67 hL hd hql hl hu (hB.pst hu q hq) (by omega) b7 b8 b56 b57 a58 fun t2 H2 hL2 hx2 hf2 c10 c58 hs2=> ?_
  simp (disch:=omega) only [go_sem]
  refine bd (m':=ls.length - (q+1)) (by omega) ⟨q+1,rfl,by omega,rfl,by rw [nw hql];exact hL2, ?_,c58,hs.trans hs2,by omega,fun c hc h1 h2=>by rw [hf2 c (by omega) h1 h2,hf c hc h1 h2]⟩
  rw [nw hql]
  show t2 10=_
  rw [c10,a10]
  dsimp only
  split<;>rfl
 ·have hqe:q=ls.length:=by omega
  subst hqe
  rw [Ni,a58,b57,cB]
  have hlt2:((ls.length:Int)<(ls.length:Int))=False:=by simp
  simp (disch:=omega) only [go_sem,hlt2,WC]
  simp (disch:=omega) only [go_sem,a10]
  by_cases hc:(pst ls s ls.length).2<0
  ·simp (disch:=omega) only [go_sem,hc]
   refine hno hc _ H1 hL hnx hf ?_ ?_ ?_
   ·simp (disch:=omega) only [go_sem,b7]
   ·simp (disch:=omega) only [go_sem,b8]
   ·simp (disch:=omega) only [go_sem]
  ·simp (disch:=omega) only [go_sem,hc,Vk,b51]
   refine hyes hc _ H1 hL hnx hf ?_ ?_ ?_ ?_ ?_ ?_
   ·simp (disch:=omega) only [go_sem,b0,t0]
   ·simp (disch:=omega) only [go_sem,b1]
   ·simp (disch:=omega) only [go_sem,b7]
   ·simp (disch:=omega) only [go_sem,b8]
   ·simp (disch:=omega) only [go_sem,b50]
   ·simp (disch:=omega) only [go_sem];rfl
end Go.S5
