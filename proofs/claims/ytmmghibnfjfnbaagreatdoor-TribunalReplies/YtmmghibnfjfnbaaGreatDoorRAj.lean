/- A part of the proof of TribunalReplies. -/
import Derived.Test.YtmmghibnfjfnbaaGreatDoorRAd
import Derived.Test.YtmmghibnfjfnbaaGreatDoorRAf
import Derived.Test.YtmmghibnfjfnbaaGreatDoorRAg
import Derived.Test.YtmmghibnfjfnbaaGreatDoorRAh
import Derived.Test.YtmmghibnfjfnbaaGreatDoorRAi
import Derived.Test.YtmmghibnfjfnbaaGreatDoorRAe
set_option linter.unusedVariables false
set_option linter.unusedSimpArgs false
namespace Go.S9
open Go.Ev Go.Proofs
set_option maxRecDepth 100000
set_option linter.unusedVariables false
set_option linter.unusedSimpArgs false
variable {K : Int}
abbrev Str:=List Nat
structure Span where
 lo:Int
 hi:Int
def eSpan (s:Span):List D:=[.int .i64 s.lo, .int .i64 s.hi]
def eInt (n:Int):List D:=[.int .i64 n]
structure Read where
 mark:Int
 station:Int
def eRead (s:Read):List D:=[.int .i64 s.mark, .int .i64 s.station]
structure Posting where
 night:Int
 no:Int
 from_:Int
 to_:Int
 amount:Int
def ePost (s:Posting):List D:=[.int .i64 s.night, .int .i64 s.no, .int .i64 s.from_, .int .i64 s.to_, .int .i64 s.amount]
structure Raise where
 visit:Int
 by_:Int
 to_:Int
def eRaise (s:Raise):List D:=[.int .i64 s.visit, .int .i64 s.by_, .int .i64 s.to_]
structure Reading where
 reads:List Read
 dr:D
 times:List Int
 dt:D
def eReading (s:Reading):List D:=[s.dr,s.dt]
structure Proof where
 raises:List Raise
 d:D
def eProof (s:Proof):List D:=[s.d]
structure Reply where
 errno:Int
 yes:Bool
 j0:Int
 j1:Int
 j2:Int
 j3:Int
 j4:Int
 j5:Int
 lo:Int
 hi:Int
 pence:Int
 list:List Int
 dl:D
 postings:List Posting
 dp:D
 readings:List Reading
 dg:D
 proofs:List Proof
 df:D
def eReply (s:Reply):List D:=[.int .i64 s.errno, .bool s.yes, .int .i64 s.j0, .int .i64 s.j1, .int .i64 s.j2, .int .i64 s.j3, .int .i64 s.j4, .int .i64 s.j5, .int .i64 s.lo, .int .i64 s.hi, .int .i64 s.pence,s.dl,s.dp,s.dg,s.df]
theorem eInt_len (s:Int):(eInt s).length=1:=rfl
theorem eRead_len (s:Read):(eRead s).length=2:=rfl
theorem ePost_len (s:Posting):(ePost s).length=5:=rfl
theorem eRaise_len (s:Raise):(eRaise s).length=3:=rfl
theorem eReading_len (s:Reading):(eReading s).length=2:=rfl
theorem eProof_len (s:Proof):(eProof s).length=1:=rfl
theorem drop_at {α:Type} {xs:List α} {n:Nat} (h:n<xs.length):xs.drop n=xs[n]::xs.drop (n+1):=by simp
def inB (n lo hi:Int):Bool:=decide (lo≤n∧n≤hi)
theorem in67_c (n lo hi:Int):CQ P (G K) 67 [.int .i64 n, .int .i64 lo, .int .i64 hi] (·= .bool (inB n lo hi)):=by
 refine CQ.enter (hG K) ?_
 (try simp (maxSteps:=10000000) (disch:=first|exact bk rfl|omega|(simp only [ln];omega)|(simp only [go_sem];done)|decide) only [go_sem,Nat.reduceAdd,Nat.reduceMul,Nat.reduceEqDiff,Nat.reduceLT,Nat.reduceLeDiff,reduceIte,h67,r67,h67_0,h67_1]);repeat' first|((with_reducible first|apply gJoin_split|apply cond_split|apply gJoinD_split)<;>intro h<;>(try simp only [spl] at h)<;>try simp (maxSteps:=10000000) (disch:=first|exact bk rfl|omega|(simp only [ln];omega)|(simp only [go_sem];done)|decide) only [go_sem,Nat.reduceAdd,Nat.reduceMul,Nat.reduceEqDiff,Nat.reduceLT,Nat.reduceLeDiff,reduceIte,h67,r67,h67_0,h67_1,h])
 all_goals (refine endQ_fro (.bool _) ?_;first | (simp [inB, *];done)| (congr 1;rw [Bool.eq_iff_iff];simp [inB, *];omega)| (congr 1;rw [Bool.eq_iff_iff];simp [inB];omega)| (simp [inB, *]<;>omega))
def accB (a:Int):Bool:=decide (a= -1∨a= -2∨(1≤a∧a≤1099511627776))
theorem account24_c (n:Int):CQ P (G K) 24 [.int .i64 n] (·= .bool (accB n)):=by
 refine CQ.enter (hG K) ?_
 (try simp (maxSteps:=10000000) (disch:=first|exact bk rfl|omega|(simp only [ln];omega)|(simp only [go_sem];done)|decide) only [go_sem,Nat.reduceAdd,Nat.reduceMul,Nat.reduceEqDiff,Nat.reduceLT,Nat.reduceLeDiff,reduceIte,h24,r24,h24_0,h24_1, *]);repeat' first|((with_reducible first|apply gJoin_split|apply cond_split|apply gJoinD_split)<;>intro h<;>(try simp only [spl] at h)<;>try simp (maxSteps:=10000000) (disch:=first|exact bk rfl|omega|(simp only [ln];omega)|(simp only [go_sem];done)|decide) only [go_sem,Nat.reduceAdd,Nat.reduceMul,Nat.reduceEqDiff,Nat.reduceLT,Nat.reduceLeDiff,reduceIte,h24,r24,h24_0,h24_1, *])|((with_reducible refine cl_guard ?_;refine cl_eq (hG K) _ (in67_c _ _ _) rfl ?_)<;>try simp (maxSteps:=10000000) (disch:=first|exact bk rfl|omega|(simp only [ln];omega)|(simp only [go_sem];done)|decide) only [go_sem,Nat.reduceAdd,Nat.reduceMul,Nat.reduceEqDiff,Nat.reduceLT,Nat.reduceLeDiff,reduceIte,h24,r24,h24_0,h24_1, *])
 all_goals (try simp only [inB,decide_eq_true_eq,decide_eq_false_iff_not] at *)
 all_goals (refine endQ_fro (.bool _) ?_;first | (simp [accB,inB, *];done)| (congr 1;rw [Bool.eq_iff_iff];simp [accB,inB, *];omega)| (congr 1;rw [Bool.eq_iff_iff];simp [accB,inB];omega)| (simp [accB,inB, *]<;>omega))
theorem account108_c (n:Int):CQ P (G K) 108 [.int .i64 n] (·= .bool (accB n)):=by
 refine CQ.enter (hG K) ?_
 (try simp (maxSteps:=10000000) (disch:=first|exact bk rfl|omega|(simp only [ln];omega)|(simp only [go_sem];done)|decide) only [go_sem,Nat.reduceAdd,Nat.reduceMul,Nat.reduceEqDiff,Nat.reduceLT,Nat.reduceLeDiff,reduceIte,h108,r108,h108_0,h108_1, *]);repeat' first|((with_reducible first|apply gJoin_split|apply cond_split|apply gJoinD_split)<;>intro h<;>(try simp only [spl] at h)<;>try simp (maxSteps:=10000000) (disch:=first|exact bk rfl|omega|(simp only [ln];omega)|(simp only [go_sem];done)|decide) only [go_sem,Nat.reduceAdd,Nat.reduceMul,Nat.reduceEqDiff,Nat.reduceLT,Nat.reduceLeDiff,reduceIte,h108,r108,h108_0,h108_1, *])
 all_goals (refine endQ_fro (.bool _) ?_;first | (simp [accB, *];done)| (congr 1;rw [Bool.eq_iff_iff];simp [accB, *];omega)| (congr 1;rw [Bool.eq_iff_iff];simp [accB];omega)| (simp [accB, *]<;>omega))
def nightB (n:Int):Bool:=decide (0≤n∧n≤20000)
theorem isNight107_c (n:Int):CQ P (G K) 107 [.int .i64 n] (·= .bool (nightB n)):=by
 refine CQ.enter (hG K) ?_
 (try simp (maxSteps:=10000000) (disch:=first|exact bk rfl|omega|(simp only [ln];omega)|(simp only [go_sem];done)|decide) only [go_sem,Nat.reduceAdd,Nat.reduceMul,Nat.reduceEqDiff,Nat.reduceLT,Nat.reduceLeDiff,reduceIte,h107,r107,h107_0,h107_1]);repeat' first|((with_reducible first|apply gJoin_split|apply cond_split|apply gJoinD_split)<;>intro h<;>(try simp only [spl] at h)<;>try simp (maxSteps:=10000000) (disch:=first|exact bk rfl|omega|(simp only [ln];omega)|(simp only [go_sem];done)|decide) only [go_sem,Nat.reduceAdd,Nat.reduceMul,Nat.reduceEqDiff,Nat.reduceLT,Nat.reduceLeDiff,reduceIte,h107,r107,h107_0,h107_1,h])
 all_goals (refine endQ_fro (.bool _) ?_;first | (simp [nightB, *];done)| (congr 1;rw [Bool.eq_iff_iff];simp [nightB, *];omega)| (congr 1;rw [Bool.eq_iff_iff];simp [nightB];omega)| (simp [nightB, *]<;>omega))
def postB (p:Posting):Bool:=nightB p.night&&decide (0≤p.no∧p.no≤12)&&accB p.from_&&accB p.to_&&decide (p.from_≠p.to_)&&decide (1≤p.amount∧p.amount≤1099511627776)
theorem posting81_c (p:Posting):CQ P (G K) 81 [.agg (ePost p)] (·= .bool (postB p)):=by
 refine CQ.enter (hG K) ?_
 (try simp (maxSteps:=10000000) (disch:=first|exact bk rfl|omega|(simp only [ln];omega)|(simp only [go_sem];done)|decide) only [go_sem,Nat.reduceAdd,Nat.reduceMul,Nat.reduceEqDiff,Nat.reduceLT,Nat.reduceLeDiff,reduceIte,ePost,h81,r81,h81_0,h81_1, *]);repeat' first|((with_reducible first|apply gJoin_split|apply cond_split|apply gJoinD_split)<;>intro h<;>(try simp only [spl] at h)<;>try simp (maxSteps:=10000000) (disch:=first|exact bk rfl|omega|(simp only [ln];omega)|(simp only [go_sem];done)|decide) only [go_sem,Nat.reduceAdd,Nat.reduceMul,Nat.reduceEqDiff,Nat.reduceLT,Nat.reduceLeDiff,reduceIte,ePost,h81,r81,h81_0,h81_1, *])|((with_reducible refine cl_guard ?_;first|refine cl_eq (hG K) _ (account24_c _) rfl ?_|refine cl_eq (hG K) _ (in67_c _ _ _) rfl ?_)<;>try simp (maxSteps:=10000000) (disch:=first|exact bk rfl|omega|(simp only [ln];omega)|(simp only [go_sem];done)|decide) only [go_sem,Nat.reduceAdd,Nat.reduceMul,Nat.reduceEqDiff,Nat.reduceLT,Nat.reduceLeDiff,reduceIte,ePost,h81,r81,h81_0,h81_1, *])
 all_goals (try simp only [inB,decide_eq_true_eq,decide_eq_false_iff_not] at *)
 all_goals (refine endQ_fro (.bool _) ?_;first | (simp [postB,inB,nightB, *];done)| (congr 1;rw [Bool.eq_iff_iff];simp [postB,inB,nightB, *];omega)| (congr 1;rw [Bool.eq_iff_iff];simp [postB,inB,nightB];omega)| (simp [postB,inB,nightB, *]<;>omega))
end Go.S9
namespace Go.S9
open Go.Ev Go.Proofs
set_option maxRecDepth 100000
set_option linter.unusedVariables false
set_option linter.unusedSimpArgs false
variable {K : Int} {H : Hp} {k : AV → Bool}
def inR (n:Int):Prop:= -9223372036854775808≤n∧n≤9223372036854775807
def dg (u:Nat):Str:=(Lib.decDigits u).map UInt8.toNat
theorem dg_lt {u:Nat} (h:u<10):dg u=[48+u]:=by
 unfold dg
 rw [Lib.decDigits_one h]
 simp;omega
theorem dg_ge {u:Nat} (h:¬u<10):dg u=dg (u/10)++[48+u%10]:=by
 unfold dg
 rw [Lib.decDigits,dif_neg h]
 simp;omega
theorem dg_len:∀(j u:Nat),u<10 ^(j+1)→(dg u).length≤j+1
 | 0,u,h=>by rw [dg_lt (by simpa using h)];simp
 | j+1,u,h=>by
  by_cases h1:u<10
  ·rw [dg_lt h1];simp
  ·rw [dg_ge h1,List.length_append]
   have:=dg_len j (u/10) (by rw [Nat.pow_succ] at h;omega)
   simp;omega
theorem dg_byte (u:Nat):∀c∈dg u,c<256:=fun c hc=>by
 obtain⟨x,_,rfl⟩:=List.mem_map.1 hc
 exact x.toNat_lt
def itS (n:Int):Str:=(Lib.itoa n).map UInt8.toNat
theorem itS_nat (m:Nat):itS m=dg m:=by
 unfold itS Lib.itoa
 rw [if_neg (by omega)];rfl
theorem itS_neg {m:Nat} (h:0<m):itS (-(m:Int))=45::dg m:=by
 unfold itS Lib.itoa
 rw [if_pos (by omega)]
 simp [dg]
theorem itS_byte (n:Int):∀c∈itS n,c<256:=fun c hc=>by
 obtain⟨x,_,rfl⟩:=List.mem_map.1 hc
 exact x.toNat_lt
theorem itS_len {n:Int} (h:inR n):(itS n).length≤20:=by
 obtain⟨h1,h2⟩:=h
 rcases Int.eq_nat_or_neg n with⟨m,rfl | rfl⟩
 ·rw [itS_nat]
  have:=dg_len 18 m (by omega)
  omega
 ·rcases Nat.eq_zero_or_pos m with h0 | h0
  ·subst h0
   have:=dg_len 18 0 (by decide)
   rw [show (-((0:Nat):Int))=((0:Nat):Int) by rfl,itS_nat]
   omega
  ·rw [itS_neg h0]
   have:=dg_len 18 m (by omega)
   simp;omega
theorem itoa27_c {n:Int} (h:inR n):CQ P (G K) 27 [.int .i64 n] (·= .str (itS n)):=by
 intro w vs L hg hd
 rw [hd.int1]
 refine callsIn_wide.2 ((Tryz.strconv_Itoa n h.1 h.2 w (hg.tabIs (g:=0) rfl (by kernel_rfl))).mono fun e w' ⟨he,j,os,hw'⟩=> ?_)
 refine⟨_, .str (itS n),[],he,rfl, .strOf _ _ rfl,(fun j hj=>by cases hj), ?_⟩
 rw [hw']
 exact below_grow w j os
def strB (k:AV→Bool) (o:Option Blk):Bool:=match o with
 | some (.cells _ _ cs)=>match bytesOfCells 1 cs with
  | some l=>k (.str l)
  | none=>false
 | _=>false
@[go_sem ↓] theorem p2s (b:Nat) (c:Option Nat):ptrConvK P 74 9 (.sl b 0 1 1 c) H k=strB k (H.get b):=by
 unfold ptrConvK strB
 rw [un74,un9]
 dsimp only
 rw [un5]
 dsimp only
 cases H.get b with
 | none=>rfl
 | some x=>cases x<;>rfl
@[go_sem ↓] theorem strB_one (el:Option TypeId) (ro:Bool) {c:Nat} (h:c<256):strB k (some (.cells el ro [.int .u8 (c:Int)]))=k (.str [c]):=by
 have:Nat.blt c 256=true:=by simpa [Nat.blt_eq] using h
 show (match bytesOfCells 1 [.int .u8 (.ofNat c)] with
  | some l=>k (.str l)
  | none=>false)=_
 simp only [bytesOfCells,this]
@[congr] theorem strB_congrM {o o':Option Blk} {pM:Prop} (h:o=o') (hM:Mk=pM):strB k o=strB k o':=by rw [h]
@[go_sem] theorem retSl_r (n z b:Nat):retSl n z b= .sl b 0 n z (some n):=rfl
@[go_sem ↓] theorem bs74 (v:Int) (kk:Blk→(Nat→AV)→Bool):buildSliceK P 74 1 [(0, .int .u8 v)] kk=kk (.cells (some 5) false [.int .u8 v]) (retSl 1 1):=by
 have h1:zro P 5=some (.int .u8 0):=by kernel_rfl
 unfold buildSliceK
 rw [el74]
 dsimp only
 rw [h1]
 have h2:zeroCs P 5=[.int .u8 0]:=by unfold zeroCs;rw [h1];rfl
 rw [h2,ce5]
 rfl
@[go_sem ↓] theorem convU {d:Nat} (h:d<10):convK P 3 5 (.int .i64 (48+(d:Int))) k=k (.int .u8 ((48+d:Nat):Int)):=by
 unfold convK
 rw [un3,un5]
 dsimp only
 rw [forceI_eq,wrp_eq]
 have:IntKind.wrap .u8 (48+(d:Int))=((48+d:Nat):Int):=by
  simp only [IntKind.wrap,IntKind.bits,IntKind.signed]
  simp
  omega
 rw [this]
theorem wrp_i64 {n:Int} (h:inR n):wrp .i64 n=n:=wrp_in h
@[go_sem] theorem tmodN (m:Nat):(m:Int).tmod 10=((m%10:Nat):Int):=rfl
@[go_sem] theorem tmodM (m:Nat):(-(m:Int)).tmod 10= -((m%10:Nat):Int):=by rw [Int.neg_tmod];rfl
@[go_sem] theorem subneg (a:Int) (d:Nat):a - -(d:Int)=a+(d:Int):=by omega
@[go_sem ↓] theorem bin_quoN (t:TypeId) (nc:Bool) {m:Nat} (h:m≤9223372036854775807):binK P .quo t nc (.int .i64 (m:Int)) (.int .i64 10) k=k (.int .i64 ((m/10:Nat):Int)):=by
 have h1:(m:Int).tdiv 10=((m/10:Nat):Int):=rfl
 simp only [binK,isShift,intBin,Nat.beq_refl,ieq_r,forceI_eq,h1]
 rw [wrp_i64 (by unfold inR;omega)]
 rfl
@[go_sem ↓] theorem bin_quoM (t:TypeId) (nc:Bool) {m:Nat} (h:m≤9223372036854775808):binK P .quo t nc (.int .i64 (-(m:Int))) (.int .i64 10) k=k (.int .i64 (-((m/10:Nat):Int))):=by
 have h1:(-(m:Int)).tdiv 10= -((m/10:Nat):Int):=by rw [Int.neg_tdiv];rfl
 simp only [binK,isShift,intBin,Nat.beq_refl,ieq_r,forceI_eq,h1]
 rw [wrp_i64 (by unfold inR;omega)]
 rfl
@[go_sem ↓] theorem bin_adds (t:TypeId) (nc:Bool) {a b:List Nat} (h:a.length+b.length≤1048576):binK P .add t nc (.str a) (.str b) k=k (.str (a++b)):=by
 simp only [binK,strBin]
 rw [show Nat.ble (a.length+b.length) 1048576=true from by simpa using h]
 exact forceL_eq _ _
def I77 (u m:Nat) (e:En) (H:Hp):Prop:=∃s:Str,m≤9223372036854775807∧e.dm=[]∧E2.get e.t 0= .int .i64 (m:Int)∧E2.get e.t 3= .str s∧dg u=(if m<10 then [] else dg (m/10))++s∧s.length≤20
theorem decimal77_c {u:Nat} (hu:u≤9223372036854775807):CQ P (G K) 77 [.int .i64 (u:Int)] (·= .str (dg u)):=by
 refine CQ.enter (hG K) ?_
 have hm:u%10<10:=Nat.mod_lt _ (by decide)
 (try simp (disch:=first|exact bk rfl|omega|(simp only [ln];omega)|(simp only [go_sem];done)|decide) only [go_sem,h77,hm]);repeat' first|((with_reducible first|apply gJoin_split|apply cond_split|apply gJoinD_split)<;>intro h<;>(try simp only [spl] at h)<;>try simp (disch:=first|exact bk rfl|omega|(simp only [ln];omega)|(simp only [go_sem];done)|decide) only [go_sem,h77,hm,h])
 refine loop_rule (I77 u) (fun m e H hi=> ?_) (m:=u) ?_
 ·obtain⟨s,hm1,hdm,g0,g3,hs,hl⟩:=hi
  obtain⟨t,dm⟩:=e
  dsimp only at hdm g0 g3
  subst hdm
  refine semC_run 200 ?_
  rw [h77_1]
  have hmm:m/10%10<10:=Nat.mod_lt _ (by decide)
  by_cases h9:m<10
  ·have hb:((9:Int)<(m:Int))=False:=by simp;omega
   (try simp (disch:=first|exact bk rfl|omega|(simp only [ln];omega)|(simp only [go_sem];done)|decide) only [go_sem,g0,g3,hb,h77_0,r77]);repeat' first|((with_reducible first|apply gJoin_split|apply cond_split|apply gJoinD_split)<;>intro h<;>(try simp only [spl] at h)<;>try simp (disch:=first|exact bk rfl|omega|(simp only [ln];omega)|(simp only [go_sem];done)|decide) only [go_sem,g0,g3,hb,h77_0,r77,h])
   refine endQ_fro (.str _) ?_
   rw [hs,if_pos h9];rfl
  ·have hb:((9:Int)<(m:Int))=True:=by simp;omega
   have hl2:s.length<20:=by
    have h2:=dg_len 18 u (by omega)
    rw [hs,if_neg h9,List.length_append] at h2
    have h3:1≤(dg (m/10)).length:=by
     by_cases h:m/10<10
     ·rw [dg_lt h];simp
     ·rw [dg_ge h];simp
    omega
   (try simp (disch:=first|exact bk rfl|omega|(simp only [ln];omega)|(simp only [go_sem];done)|decide) only [go_sem,g0,g3,hb,hmm,List.length_cons,List.length_nil]);repeat' first|((with_reducible first|apply gJoin_split|apply cond_split|apply gJoinD_split)<;>intro h<;>(try simp only [spl] at h)<;>try simp (disch:=first|exact bk rfl|omega|(simp only [ln];omega)|(simp only [go_sem];done)|decide) only [go_sem,g0,g3,hb,hmm,List.length_cons,List.length_nil,h])
   refine again_mk (m':=m/10) (by omega) ⟨[48+m/10%10]++s,by omega,rfl, ?_, ?_, ?_,by simp;omega⟩
   ·first|rfl|(simp (disch:=first|exact bk rfl|omega|(simp only [ln];omega)|(simp only [go_sem];done)|decide) only [go_sem,g0,g3]<;>rfl)
   ·first|rfl|(simp (disch:=first|exact bk rfl|omega|(simp only [ln];omega)|(simp only [go_sem];done)|decide) only [go_sem,g0,g3]<;>rfl)
   ·rw [hs,if_neg h9]
    by_cases h:m/10<10
    ·rw [if_pos h,dg_lt h,Nat.mod_eq_of_lt h];rfl
    ·rw [if_neg h,dg_ge h];simp
 ·refine⟨[48+u%10],hu,rfl, ?_, ?_, ?_,by simp⟩
  ·first|rfl|(simp (disch:=first|exact bk rfl|omega|(simp only [ln];omega)|(simp only [go_sem];done)|decide) only [go_sem]<;>rfl)
  ·first|rfl|(simp (disch:=first|exact bk rfl|omega|(simp only [ln];omega)|(simp only [go_sem];done)|decide) only [go_sem]<;>rfl)
  ·by_cases h:u<10
   ·rw [if_pos h,dg_lt h,Nat.mod_eq_of_lt h];rfl
   ·rw [if_neg h,dg_ge h]
end Go.S9
namespace Go.S9
open Go.Ev Go.Proofs
set_option maxRecDepth 100000
set_option linter.unusedVariables false
set_option linter.unusedSimpArgs false
variable {K : Int} {H : Hp} {k : AV → Bool}
@[go_sem] theorem zadd (d:Nat):(0:Int)+(d:Int)=(d:Int):=by omega
theorem number40_c {n:Int} (h:inR n):CQ P (G K) 40 [.int .i64 n] (·= .str (itS n)):=by
 obtain⟨h1,h2⟩:=h
 refine CQ.enter (hG K) ?_
 rcases Int.eq_nat_or_neg n with⟨m,rfl | rfl⟩
 ·have hb:((0:Int)≤(m:Int))=True:=by simp
  (try simp (disch:=first|exact bk rfl|omega|(simp only [ln];omega)|(simp only [go_sem];done)|decide) only [go_sem,h40,hb]);repeat' first|((with_reducible first|apply gJoin_split|apply cond_split|apply gJoinD_split)<;>intro h<;>(try simp only [spl] at h)<;>try simp (disch:=first|exact bk rfl|omega|(simp only [ln];omega)|(simp only [go_sem];done)|decide) only [go_sem,h40,hb,h])|((with_reducible refine cl_guard ?_;refine cl_eq (hG K) _ (decimal77_c (u:=m) (by omega)) rfl ?_)<;>try simp (disch:=first|exact bk rfl|omega|(simp only [ln];omega)|(simp only [go_sem];done)|decide) only [go_sem,h40,hb])
  exact endQ_fro (.str _) (by rw [itS_nat])
 ·rcases Nat.eq_zero_or_pos m with h0 | h0
  ·subst h0
   have hb:((0:Int)≤ -((0:Nat):Int))=True:=by simp
   (try simp (disch:=first|exact bk rfl|omega|(simp only [ln];omega)|(simp only [go_sem];done)|decide) only [go_sem,h40,hb]);repeat' first|((with_reducible first|apply gJoin_split|apply cond_split|apply gJoinD_split)<;>intro h<;>(try simp only [spl] at h)<;>try simp (disch:=first|exact bk rfl|omega|(simp only [ln];omega)|(simp only [go_sem];done)|decide) only [go_sem,h40,hb,h])
   exact cl_eq (hG K) [.int .i64 ((0:Nat):Int)] (decimal77_c (by omega)) rfl (endQ_fro (.str _) (by rw [show (-((0:Nat):Int))=((0:Nat):Int) by rfl,itS_nat]))
  ·have hb:((0:Int)≤ -(m:Int))=False:=by simp;omega
   have hm:m%10<10:=Nat.mod_lt _ (by decide)
   have hm2:m≤9223372036854775808:=by omega
   by_cases h9:m<10
   ·have hc:((-10:Int)< -(m:Int))=True:=by simp;omega
    (try simp (disch:=first|exact bk rfl|omega|(simp only [ln];omega)|(simp only [go_sem];done)|decide) only [go_sem,h40,hb,hm,hc]);repeat' first|((with_reducible first|apply gJoin_split|apply cond_split|apply gJoinD_split)<;>intro h<;>(try simp only [spl] at h)<;>try simp (disch:=first|exact bk rfl|omega|(simp only [ln];omega)|(simp only [go_sem];done)|decide) only [go_sem,h40,hb,hm,hc,h])
    refine endQ_fro (.str _) ?_
    rw [itS_neg h0,dg_lt h9,Nat.mod_eq_of_lt h9];rfl
   ·have hc:((-10:Int)< -(m:Int))=False:=by simp;omega
    have hl:(dg (m/10)).length≤19:=dg_len 18 _ (by omega)
    (try simp (disch:=first|exact bk rfl|omega|(simp only [ln];omega)|(simp only [go_sem];done)|decide) only [go_sem,h40,hb,hm,hc,hl]);repeat' first|((with_reducible first|apply gJoin_split|apply cond_split|apply gJoinD_split)<;>intro h<;>(try simp only [spl] at h)<;>try simp (disch:=first|exact bk rfl|omega|(simp only [ln];omega)|(simp only [go_sem];done)|decide) only [go_sem,h40,hb,hm,hc,hl,h])|((with_reducible refine cl_guard ?_;refine cl_eq (hG K) _ (decimal77_c (u:=m/10) (by omega)) rfl ?_)<;>try simp (disch:=first|exact bk rfl|omega|(simp only [ln];omega)|(simp only [go_sem];done)|decide) only [go_sem,h40,hb,hm,hc,hl])
    refine endQ_fro (.str _) ?_
    rw [itS_neg h0,dg_ge h9];simp
theorem decimal111n:∀(j u:Nat),u<j→u≤9223372036854775807→CQ P (G K) 111 [.int .i64 (u:Int)] (·= .str (dg u))
 | 0,u,h,_=>absurd h (by omega)
 | j+1,u,hj,hu=>by
  refine CQ.enter (hG K) ?_
  have hb:((u:Int)<0)=False:=by simp
  have hm:u%10<10:=Nat.mod_lt _ (by decide)
  by_cases h9:u<10
  ·have hc:((9:Int)<(u:Int))=False:=by simp;omega
   (try simp (disch:=first|exact bk rfl|omega|(simp only [ln];omega)|(simp only [go_sem];done)|decide) only [go_sem,h111,hb,hm,hc]);repeat' first|((with_reducible first|apply gJoin_split|apply cond_split|apply gJoinD_split)<;>intro h<;>(try simp only [spl] at h)<;>try simp (disch:=first|exact bk rfl|omega|(simp only [ln];omega)|(simp only [go_sem];done)|decide) only [go_sem,h111,hb,hm,hc,h])
   refine endQ_fro (.str _) ?_
   rw [dg_lt h9,Nat.mod_eq_of_lt h9]
  ·have hc:((9:Int)<(u:Int))=True:=by simp;omega
   have hl:(dg (u/10)).length≤19:=dg_len 18 _ (by omega)
   (try simp (disch:=first|exact bk rfl|omega|(simp only [ln];omega)|(simp only [go_sem];done)|decide) only [go_sem,h111,hb,hm,hc,hl]);repeat' first|((with_reducible first|apply gJoin_split|apply cond_split|apply gJoinD_split)<;>intro h<;>(try simp only [spl] at h)<;>try simp (disch:=first|exact bk rfl|omega|(simp only [ln];omega)|(simp only [go_sem];done)|decide) only [go_sem,h111,hb,hm,hc,hl,h])|((with_reducible refine cl_guard ?_;refine cl_eq (hG K) _ (decimal111n j (u/10) (by omega) (by omega)) rfl ?_)<;>try simp (disch:=first|exact bk rfl|omega|(simp only [ln];omega)|(simp only [go_sem];done)|decide) only [go_sem,h111,hb,hm,hc,hl])
   refine endQ_fro (.str _) ?_
   rw [dg_ge h9]
theorem decimal111_c {n:Int} (h: -9223372036854775807≤n∧n≤9223372036854775807):CQ P (G K) 111 [.int .i64 n] (·= .str (itS n)):=by
 rcases Int.eq_nat_or_neg n with⟨m,rfl | rfl⟩
 ·rw [itS_nat]
  exact decimal111n (m+1) m (by omega) (by omega)
 ·rcases Nat.eq_zero_or_pos m with h0 | h0
  ·subst h0
   rw [show (-((0:Nat):Int))=((0:Nat):Int) by rfl,itS_nat]
   exact decimal111n 1 0 (by omega) (by omega)
  ·refine CQ.enter (hG K) ?_
   have hb:(-(m:Int)<0)=True:=by simp;omega
   have hl:(dg m).length≤19:=dg_len 18 _ (by omega)
   (try simp (disch:=first|exact bk rfl|omega|(simp only [ln];omega)|(simp only [go_sem];done)|decide) only [go_sem,h111,hb,hl]);repeat' first|((with_reducible first|apply gJoin_split|apply cond_split|apply gJoinD_split)<;>intro h<;>(try simp only [spl] at h)<;>try simp (disch:=first|exact bk rfl|omega|(simp only [ln];omega)|(simp only [go_sem];done)|decide) only [go_sem,h111,hb,hl,h])|((with_reducible refine cl_guard ?_;refine cl_eq (hG K) _ (decimal111n (m+1) m (by omega) (by omega)) rfl ?_)<;>try simp (disch:=first|exact bk rfl|omega|(simp only [ln];omega)|(simp only [go_sem];done)|decide) only [go_sem,h111,hb,hl])
   refine endQ_fro (.str _) ?_
   rw [itS_neg h0];rfl
def spS (lo hi:Int):Str:=itS lo++[45]++itS hi
theorem spS_len {lo hi:Int} (h1:inR lo) (h2:inR hi):(spS lo hi).length≤41:=by
 have:=itS_len h1
 have:=itS_len h2
 simp [spS];omega
theorem span41_c {lo hi:Int} (h1:inR lo) (h2:inR hi):CQ P (G K) 41 [.agg [.int .i64 lo, .int .i64 hi]] (·= .str (spS lo hi)):=by
 refine CQ.enter (hG K) ?_
 have l1:=itS_len h1
 have l2:=itS_len h2
 (try simp (disch:=first|exact bk rfl|omega|(simp only [ln];omega)|(simp only [go_sem];done)|decide) only [go_sem,h41]);repeat' first|((with_reducible first|apply gJoin_split|apply cond_split|apply gJoinD_split)<;>intro h<;>(try simp only [spl] at h)<;>try simp (disch:=first|exact bk rfl|omega|(simp only [ln];omega)|(simp only [go_sem];done)|decide) only [go_sem,h41,h])|((with_reducible refine cl_guard ?_;first|refine cl_eq (hG K) _ (number40_c h1) rfl ?_|refine cl_eq (hG K) _ (number40_c h2) rfl ?_)<;>try simp (disch:=first|exact bk rfl|omega|(simp only [ln];omega)|(simp only [go_sem];done)|decide) only [go_sem,h41])
 exact endQ_fro (.str _) rfl
theorem span28_c {lo hi:Int} (h1:inR lo) (h2:inR hi):CQ P (G K) 28 [.agg [.int .i64 lo, .int .i64 hi]] (·= .str (spS lo hi)):=by
 refine CQ.enter (hG K) ?_
 have l1:=itS_len h1
 have l2:=itS_len h2
 (try simp (disch:=first|exact bk rfl|omega|(simp only [ln];omega)|(simp only [go_sem];done)|decide) only [go_sem,h28]);repeat' first|((with_reducible first|apply gJoin_split|apply cond_split|apply gJoinD_split)<;>intro h<;>(try simp only [spl] at h)<;>try simp (disch:=first|exact bk rfl|omega|(simp only [ln];omega)|(simp only [go_sem];done)|decide) only [go_sem,h28,h])|((with_reducible refine cl_guard ?_;first|refine cl_eq (hG K) _ (itoa27_c h1) rfl ?_|refine cl_eq (hG K) _ (itoa27_c h2) rfl ?_)<;>try simp (disch:=first|exact bk rfl|omega|(simp only [ln];omega)|(simp only [go_sem];done)|decide) only [go_sem,h28])
 exact endQ_fro (.str _) rfl
def lineS (p:Posting):Str:=itS p.night++[32]++itS p.no++[32]++itS p.from_++[32]++itS p.to_++[32]++itS p.amount++[10]
theorem postB_in {p:Posting} (h:postB p=true):(0≤p.night∧p.night≤20000)∧(0≤p.no∧p.no≤12)∧(-2≤p.from_∧p.from_≤1099511627776)∧(-2≤p.to_∧p.to_≤1099511627776)∧(1≤p.amount∧p.amount≤1099511627776):=by
 simp only [postB,nightB,accB,Bool.and_eq_true,decide_eq_true_eq] at h
 omega
theorem lineS_len {p:Posting} (h:postB p=true):(lineS p).length≤105:=by
 obtain⟨⟨a1,a2⟩,⟨b1,b2⟩,⟨c1,c2⟩,⟨d1,d2⟩,⟨e1,e2⟩⟩:=postB_in h
 have:=itS_len (n:=p.night) ⟨by omega,by omega⟩
 have:=itS_len (n:=p.no) ⟨by omega,by omega⟩
 have:=itS_len (n:=p.from_) ⟨by omega,by omega⟩
 have:=itS_len (n:=p.to_) ⟨by omega,by omega⟩
 have:=itS_len (n:=p.amount) ⟨by omega,by omega⟩
 simp [lineS];omega
theorem line82_c {p:Posting} (h:postB p=true):CQ P (G K) 82 [.agg (ePost p)] (·= .str (lineS p)):=by
 obtain⟨⟨a1,a2⟩,⟨b1,b2⟩,⟨c1,c2⟩,⟨d1,d2⟩,⟨e1,e2⟩⟩:=postB_in h
 have l1:=itS_len (n:=p.night) ⟨by omega,by omega⟩
 have l2:=itS_len (n:=p.no) ⟨by omega,by omega⟩
 have l3:=itS_len (n:=p.from_) ⟨by omega,by omega⟩
 have l4:=itS_len (n:=p.to_) ⟨by omega,by omega⟩
 have l5:=itS_len (n:=p.amount) ⟨by omega,by omega⟩
 refine CQ.enter (hG K) ?_
 (try simp (disch:=first|exact bk rfl|omega|(simp only [ln];omega)|(simp only [go_sem];done)|decide) only [go_sem,ePost,h82]);repeat' first|((with_reducible first|apply gJoin_split|apply cond_split|apply gJoinD_split)<;>intro h<;>(try simp only [spl] at h)<;>try simp (disch:=first|exact bk rfl|omega|(simp only [ln];omega)|(simp only [go_sem];done)|decide) only [go_sem,ePost,h82,h])|((with_reducible refine cl_guard ?_;first|refine cl_eq (hG K) _ (decimal111_c (n:=p.night) ⟨by omega,by omega⟩) rfl ?_|refine cl_eq (hG K) _ (decimal111_c (n:=p.no) ⟨by omega,by omega⟩) rfl ?_|refine cl_eq (hG K) _ (decimal111_c (n:=p.from_) ⟨by omega,by omega⟩) rfl ?_|refine cl_eq (hG K) _ (decimal111_c (n:=p.to_) ⟨by omega,by omega⟩) rfl ?_|refine cl_eq (hG K) _ (decimal111_c (n:=p.amount) ⟨by omega,by omega⟩) rfl ?_)<;>try simp (disch:=first|exact bk rfl|omega|(simp only [ln];omega)|(simp only [go_sem];done)|decide) only [go_sem,ePost,h82])
 exact endQ_fro (.str _) (by simp [lineS])
end Go.S9
namespace Go.S9
open Go.Ev Go.Proofs
set_option maxRecDepth 100000
set_option linter.unusedVariables false
set_option linter.unusedSimpArgs false
variable {K : Int} {H : Hp} {k : AV → Bool}
def sameL {α:Type} (eq:α→α→Bool):List α→List α→Bool
 | [],[]=>true
 | a::xs,b::ys=>eq a b&&sameL eq xs ys
 | _,_=>false
theorem sameL_ne {α:Type} {eq:α→α→Bool}:∀{xs ys:List α},xs.length≠ys.length→sameL eq xs ys=false
 | [],[],h=>absurd rfl h
 | [],_::_,_=>rfl
 | _::_,[],_=>rfl
 | a::xs,b::ys,h=>by
  show (eq a b&&sameL eq xs ys)=false
  rw [sameL_ne (by simpa using h),Bool.and_false]
theorem sameL_at {α:Type} {eq:α→α→Bool} {xs ys:List α} {n:Nat} (h:n<xs.length) (h':n<ys.length):sameL eq (xs.drop n) (ys.drop n)=(eq xs[n] ys[n]&&sameL eq (xs.drop (n+1)) (ys.drop (n+1))):=by
 rw [drop_at h,drop_at h'];rfl
theorem sameL_end {α:Type} {eq:α→α→Bool} {xs ys:List α} {n:Nat} (h:xs.length≤n) (h':ys.length≤n):sameL eq (xs.drop n) (ys.drop n)=true:=by
 rw [List.drop_of_length_le h,List.drop_of_length_le h'];rfl
theorem sameL_refl {α:Type} {eq:α→α→Bool} (h:∀a,eq a a=true):∀xs,sameL eq xs xs=true
 | []=>rfl
 | a::xs=>by show (eq a a&&sameL eq xs xs)=true;rw [h a,sameL_refl h xs];rfl
def eqI (a b:Int):Bool:=decide (a=b)
theorem eqI_r (a b:Int):decide (a=b)=eqI a b:=rfl
def eqRead (a b:Read):Bool:=decide (a.mark=b.mark)&&decide (a.station=b.station)
def eqRaise (a b:Raise):Bool:=decide (a.visit=b.visit)&&(decide (a.by_=b.by_)&&decide (a.to_=b.to_))
def eqPost (a b:Posting):Bool:=decide (a.night=b.night)&&(decide (a.no=b.no)&&(decide (a.from_=b.from_)&&(decide (a.to_=b.to_)&&decide (a.amount=b.amount))))
theorem neq90' (a b:Read):binK P .neq 90 false (.agg (ofDs (eRead a))) (.agg (ofDs (eRead b))) k=(match scEqs [.i, .i] (ofDs (eRead a)) (ofDs (eRead b)) with | some r=>forceB (!r) fun r=>k (.bool r)| none=>false):=by kernel_rfl
theorem neq100' (a b:Raise):binK P .neq 100 false (.agg (ofDs (eRaise a))) (.agg (ofDs (eRaise b))) k=(match scEqs [.i, .i, .i] (ofDs (eRaise a)) (ofDs (eRaise b)) with | some r=>forceB (!r) fun r=>k (.bool r)| none=>false):=by kernel_rfl
theorem neq83' (a b:Posting):binK P .neq 83 false (.agg (ofDs (ePost a))) (.agg (ofDs (ePost b))) k=(match scEqs [.i, .i, .i, .i, .i] (ofDs (ePost a)) (ofDs (ePost b)) with | some r=>forceB (!r) fun r=>k (.bool r)| none=>false):=by kernel_rfl
theorem neqRead (a b:Read):binK P .neq 90 false (.agg (ofDs (eRead a))) (.agg (ofDs (eRead b))) k=k (.bool (!eqRead a b)):=by
 rw [neq90',show scEqs [.i, .i] (ofDs (eRead a)) (ofDs (eRead b))=some (eqRead a b) from by simp only [eRead,ofDs,ofD,scEqs,scEq,Nat.beq_refl,ieq_r,Bool.and_true];rfl]
 exact forceB_eq _ _
theorem neqRaise (a b:Raise):binK P .neq 100 false (.agg (ofDs (eRaise a))) (.agg (ofDs (eRaise b))) k=k (.bool (!eqRaise a b)):=by
 rw [neq100',show scEqs [.i, .i, .i] (ofDs (eRaise a)) (ofDs (eRaise b))=some (eqRaise a b) from by simp only [eRaise,ofDs,ofD,scEqs,scEq,Nat.beq_refl,ieq_r,Bool.and_true];rfl]
 exact forceB_eq _ _
theorem neqPost (a b:Posting):binK P .neq 83 false (.agg (ofDs (ePost a))) (.agg (ofDs (ePost b))) k=k (.bool (!eqPost a b)):=by
 rw [neq83',show scEqs [.i, .i, .i, .i, .i] (ofDs (ePost a)) (ofDs (ePost b))=some (eqPost a b) from by simp only [ePost,ofDs,ofD,scEqs,scEq,Nat.beq_refl,ieq_r,Bool.and_true];rfl]
 exact forceB_eq _ _
def I51 (xs ys:List Int) (dx dy:D) (m:Nat) (e:En) (H:Hp):Prop:=∃n,n≤xs.length∧m=xs.length - n∧e.dm=[]∧E2.get e.t 0=ofD dx∧E2.get e.t 1=ofD dy∧E2.get e.t 13= .int .i64 (n:Int)∧E2.get e.t 12= .int .i64 (xs.length:Int)∧sameL eqI xs ys=sameL eqI (xs.drop n) (ys.drop n)
theorem same51_c {xs ys:List Int} {dx dy:D} (hx:Sl 1 eInt xs dx) (hy:Sl 1 eInt ys dy) (hl:xs.length≤9223372036854775807) (hl':ys.length≤9223372036854775807):CQ P (G K) 51 [dx,dy] (·= .bool (sameL eqI xs ys)):=by
 refine CQ.enter (hG K) ?_
 by_cases hn:xs.length=ys.length
 rotate_left
 ·have e1:((xs.length:Int)=(ys.length:Int))=False:=by simp;omega
  (try simp (maxSteps:=10000000) (disch:=first|exact bk rfl|omega|(simp only [ln];omega)|(simp only [go_sem];done)|decide) only [go_sem,Nat.reduceAdd,Nat.reduceMul,Nat.reduceEqDiff,Nat.reduceLT,Nat.reduceLeDiff,reduceIte,h51,r51,h51_0,h51_1,len_sl hx un42,len_sl hy un42,e1]);repeat' first|((with_reducible first|apply gJoin_split|apply cond_split|apply gJoinD_split)<;>intro h<;>(try simp only [spl] at h)<;>try simp (maxSteps:=10000000) (disch:=first|exact bk rfl|omega|(simp only [ln];omega)|(simp only [go_sem];done)|decide) only [go_sem,Nat.reduceAdd,Nat.reduceMul,Nat.reduceEqDiff,Nat.reduceLT,Nat.reduceLeDiff,reduceIte,h51,r51,h51_0,h51_1,len_sl hx un42,len_sl hy un42,e1,h])
  exact endQ_fro (.bool _) (by rw [sameL_ne hn])
 have e1:((xs.length:Int)=(ys.length:Int))=True:=by simp;omega
 (try simp (maxSteps:=10000000) (disch:=first|exact bk rfl|omega|(simp only [ln];omega)|(simp only [go_sem];done)|decide) only [go_sem,Nat.reduceAdd,Nat.reduceMul,Nat.reduceEqDiff,Nat.reduceLT,Nat.reduceLeDiff,reduceIte,h51,r51,len_sl hx un42,len_sl hy un42,e1]);repeat' first|((with_reducible first|apply gJoin_split|apply cond_split|apply gJoinD_split)<;>intro h<;>(try simp only [spl] at h)<;>try simp (maxSteps:=10000000) (disch:=first|exact bk rfl|omega|(simp only [ln];omega)|(simp only [go_sem];done)|decide) only [go_sem,Nat.reduceAdd,Nat.reduceMul,Nat.reduceEqDiff,Nat.reduceLT,Nat.reduceLeDiff,reduceIte,h51,r51,len_sl hx un42,len_sl hy un42,e1,h])
 refine loop_rule (I51 xs ys dx dy) (fun m e H hi=> ?_) (m:=xs.length) ?_
 rotate_left
 ·refine⟨0,Nat.zero_le _,rfl,rfl, ?_, ?_, ?_, ?_,rfl⟩<;>(first|rfl|(simp (maxSteps:=10000000) (disch:=first|exact bk rfl|omega|(simp only [ln];omega)|(simp only [go_sem];done)|decide) only [go_sem,Nat.reduceAdd,Nat.reduceMul,Nat.reduceEqDiff,Nat.reduceLT,Nat.reduceLeDiff,reduceIte]<;>rfl))
 obtain⟨n,hn1,rfl,hdm,g0,g1,gi,gl,hs⟩:=hi
 obtain⟨t,dm⟩:=e
 dsimp only at hdm g0 g1 gi gl
 subst hdm
 refine semC_run 200 ?_
 rw [h51_1]
 by_cases hlt:n<xs.length
 ·have hlt':n<ys.length:=by omega
  have e2:((n:Int)<(xs.length:Int))=True:=by simp;omega
  rw [sameL_at hlt hlt'] at hs
  cases hq:eqI xs[n] ys[n] with
  | false=>
   (try simp (maxSteps:=10000000) (disch:=first|exact bk rfl|omega|(simp only [ln];omega)|(simp only [go_sem];done)|decide) only [go_sem,Nat.reduceAdd,Nat.reduceMul,Nat.reduceEqDiff,Nat.reduceLT,Nat.reduceLeDiff,reduceIte,h51,r51,h51_0,h51_1,g0,g1,gi,gl,e2,len_sl hx un42,idx_sl hx un42 in3 ce3 hlt,idx_sl hy un42 in3 ce3 hlt',rows_get0 eInt_len hlt (by decide:0<1),rows_get0 eInt_len hlt' (by decide:0<1),eInt,eqI_r,hq]);repeat' first|((with_reducible first|apply gJoin_split|apply cond_split|apply gJoinD_split)<;>intro h<;>(try simp only [spl] at h)<;>try simp (maxSteps:=10000000) (disch:=first|exact bk rfl|omega|(simp only [ln];omega)|(simp only [go_sem];done)|decide) only [go_sem,Nat.reduceAdd,Nat.reduceMul,Nat.reduceEqDiff,Nat.reduceLT,Nat.reduceLeDiff,reduceIte,h51,r51,h51_0,h51_1,g0,g1,gi,gl,e2,len_sl hx un42,idx_sl hx un42 in3 ce3 hlt,idx_sl hy un42 in3 ce3 hlt',rows_get0 eInt_len hlt (by decide:0<1),rows_get0 eInt_len hlt' (by decide:0<1),eInt,eqI_r,hq,h])
   exact endQ_fro (.bool _) (by rw [hs,hq];rfl)
  | true=>
   (try simp (maxSteps:=10000000) (disch:=first|exact bk rfl|omega|(simp only [ln];omega)|(simp only [go_sem];done)|decide) only [go_sem,Nat.reduceAdd,Nat.reduceMul,Nat.reduceEqDiff,Nat.reduceLT,Nat.reduceLeDiff,reduceIte,h51,r51,h51_0,h51_1,g0,g1,gi,gl,e2,len_sl hx un42,idx_sl hx un42 in3 ce3 hlt,idx_sl hy un42 in3 ce3 hlt',rows_get0 eInt_len hlt (by decide:0<1),rows_get0 eInt_len hlt' (by decide:0<1),eInt,eqI_r,hq]);repeat' first|((with_reducible first|apply gJoin_split|apply cond_split|apply gJoinD_split)<;>intro h<;>(try simp only [spl] at h)<;>try simp (maxSteps:=10000000) (disch:=first|exact bk rfl|omega|(simp only [ln];omega)|(simp only [go_sem];done)|decide) only [go_sem,Nat.reduceAdd,Nat.reduceMul,Nat.reduceEqDiff,Nat.reduceLT,Nat.reduceLeDiff,reduceIte,h51,r51,h51_0,h51_1,g0,g1,gi,gl,e2,len_sl hx un42,idx_sl hx un42 in3 ce3 hlt,idx_sl hy un42 in3 ce3 hlt',rows_get0 eInt_len hlt (by decide:0<1),rows_get0 eInt_len hlt' (by decide:0<1),eInt,eqI_r,hq,h])
   refine again_mk (m':=xs.length - (n+1)) (by omega) ⟨n+1,hlt,rfl,rfl, ?_, ?_, ?_, ?_,by rw [hs,hq];rfl⟩<;>(first|rfl|(simp (maxSteps:=10000000) (disch:=first|exact bk rfl|omega|(simp only [ln];omega)|(simp only [go_sem];done)|decide) only [go_sem,Nat.reduceAdd,Nat.reduceMul,Nat.reduceEqDiff,Nat.reduceLT,Nat.reduceLeDiff,reduceIte,g0,g1,gi,gl]<;>rfl))
 ·have e2:((n:Int)<(xs.length:Int))=False:=by simp;omega
  (try simp (maxSteps:=10000000) (disch:=first|exact bk rfl|omega|(simp only [ln];omega)|(simp only [go_sem];done)|decide) only [go_sem,Nat.reduceAdd,Nat.reduceMul,Nat.reduceEqDiff,Nat.reduceLT,Nat.reduceLeDiff,reduceIte,h51,r51,h51_0,h51_1,g0,g1,gi,gl,e2,len_sl hx un42]);repeat' first|((with_reducible first|apply gJoin_split|apply cond_split|apply gJoinD_split)<;>intro h<;>(try simp only [spl] at h)<;>try simp (maxSteps:=10000000) (disch:=first|exact bk rfl|omega|(simp only [ln];omega)|(simp only [go_sem];done)|decide) only [go_sem,Nat.reduceAdd,Nat.reduceMul,Nat.reduceEqDiff,Nat.reduceLT,Nat.reduceLeDiff,reduceIte,h51,r51,h51_0,h51_1,g0,g1,gi,gl,e2,len_sl hx un42,h])
  exact endQ_fro (.bool _) (by rw [hs,sameL_end (by omega) (by omega)])
def I50 (xs ys:List Read) (dx dy:D) (m:Nat) (e:En) (H:Hp):Prop:=∃n,n≤xs.length∧m=xs.length - n∧e.dm=[]∧E2.get e.t 0=ofD dx∧E2.get e.t 1=ofD dy∧E2.get e.t 13= .int .i64 (n:Int)∧E2.get e.t 12= .int .i64 (xs.length:Int)∧sameL eqRead xs ys=sameL eqRead (xs.drop n) (ys.drop n)
theorem same50_c {xs ys:List Read} {dx dy:D} (hx:Sl 2 eRead xs dx) (hy:Sl 2 eRead ys dy) (hl:xs.length≤9223372036854775807) (hl':ys.length≤9223372036854775807):CQ P (G K) 50 [dx,dy] (·= .bool (sameL eqRead xs ys)):=by
 refine CQ.enter (hG K) ?_
 by_cases hn:xs.length=ys.length
 rotate_left
 ·have e1:((xs.length:Int)=(ys.length:Int))=False:=by simp;omega
  (try simp (maxSteps:=10000000) (disch:=first|exact bk rfl|omega|(simp only [ln];omega)|(simp only [go_sem];done)|decide) only [go_sem,Nat.reduceAdd,Nat.reduceMul,Nat.reduceEqDiff,Nat.reduceLT,Nat.reduceLeDiff,reduceIte,h50,r50,h50_0,h50_1,len_sl hx un70,len_sl hy un70,e1]);repeat' first|((with_reducible first|apply gJoin_split|apply cond_split|apply gJoinD_split)<;>intro h<;>(try simp only [spl] at h)<;>try simp (maxSteps:=10000000) (disch:=first|exact bk rfl|omega|(simp only [ln];omega)|(simp only [go_sem];done)|decide) only [go_sem,Nat.reduceAdd,Nat.reduceMul,Nat.reduceEqDiff,Nat.reduceLT,Nat.reduceLeDiff,reduceIte,h50,r50,h50_0,h50_1,len_sl hx un70,len_sl hy un70,e1,h])
  exact endQ_fro (.bool _) (by rw [sameL_ne hn])
 have e1:((xs.length:Int)=(ys.length:Int))=True:=by simp;omega
 (try simp (maxSteps:=10000000) (disch:=first|exact bk rfl|omega|(simp only [ln];omega)|(simp only [go_sem];done)|decide) only [go_sem,Nat.reduceAdd,Nat.reduceMul,Nat.reduceEqDiff,Nat.reduceLT,Nat.reduceLeDiff,reduceIte,h50,r50,len_sl hx un70,len_sl hy un70,e1]);repeat' first|((with_reducible first|apply gJoin_split|apply cond_split|apply gJoinD_split)<;>intro h<;>(try simp only [spl] at h)<;>try simp (maxSteps:=10000000) (disch:=first|exact bk rfl|omega|(simp only [ln];omega)|(simp only [go_sem];done)|decide) only [go_sem,Nat.reduceAdd,Nat.reduceMul,Nat.reduceEqDiff,Nat.reduceLT,Nat.reduceLeDiff,reduceIte,h50,r50,len_sl hx un70,len_sl hy un70,e1,h])
 refine loop_rule (I50 xs ys dx dy) (fun m e H hi=> ?_) (m:=xs.length) ?_
 rotate_left
 ·refine⟨0,Nat.zero_le _,rfl,rfl, ?_, ?_, ?_, ?_,rfl⟩<;>(first|rfl|(simp (maxSteps:=10000000) (disch:=first|exact bk rfl|omega|(simp only [ln];omega)|(simp only [go_sem];done)|decide) only [go_sem,Nat.reduceAdd,Nat.reduceMul,Nat.reduceEqDiff,Nat.reduceLT,Nat.reduceLeDiff,reduceIte]<;>rfl))
 obtain⟨n,hn1,rfl,hdm,g0,g1,gi,gl,hs⟩:=hi
 obtain⟨t,dm⟩:=e
 dsimp only at hdm g0 g1 gi gl
 subst hdm
 refine semC_run 200 ?_
 rw [h50_1]
 by_cases hlt:n<xs.length
 ·have hlt':n<ys.length:=by omega
  have e2:((n:Int)<(xs.length:Int))=True:=by simp;omega
  rw [sameL_at hlt hlt'] at hs
  cases hq:eqRead xs[n] ys[n] with
  | false=>
   (try simp (maxSteps:=10000000) (disch:=first|exact bk rfl|omega|(simp only [ln];omega)|(simp only [go_sem];done)|decide) only [go_sem,Nat.reduceAdd,Nat.reduceMul,Nat.reduceEqDiff,Nat.reduceLT,Nat.reduceLeDiff,reduceIte,h50,r50,h50_0,h50_1,g0,g1,gi,gl,e2,len_sl hx un70,idx_sl hx un70 in90 ce90 hlt,idx_sl hy un70 in90 ce90 hlt',rows_take eRead_len hlt,rows_take eRead_len hlt',neqRead,hq]);repeat' first|((with_reducible first|apply gJoin_split|apply cond_split|apply gJoinD_split)<;>intro h<;>(try simp only [spl] at h)<;>try simp (maxSteps:=10000000) (disch:=first|exact bk rfl|omega|(simp only [ln];omega)|(simp only [go_sem];done)|decide) only [go_sem,Nat.reduceAdd,Nat.reduceMul,Nat.reduceEqDiff,Nat.reduceLT,Nat.reduceLeDiff,reduceIte,h50,r50,h50_0,h50_1,g0,g1,gi,gl,e2,len_sl hx un70,idx_sl hx un70 in90 ce90 hlt,idx_sl hy un70 in90 ce90 hlt',rows_take eRead_len hlt,rows_take eRead_len hlt',neqRead,hq,h])
   exact endQ_fro (.bool _) (by rw [hs,hq];rfl)
  | true=>
   (try simp (maxSteps:=10000000) (disch:=first|exact bk rfl|omega|(simp only [ln];omega)|(simp only [go_sem];done)|decide) only [go_sem,Nat.reduceAdd,Nat.reduceMul,Nat.reduceEqDiff,Nat.reduceLT,Nat.reduceLeDiff,reduceIte,h50,r50,h50_0,h50_1,g0,g1,gi,gl,e2,len_sl hx un70,idx_sl hx un70 in90 ce90 hlt,idx_sl hy un70 in90 ce90 hlt',rows_take eRead_len hlt,rows_take eRead_len hlt',neqRead,hq]);repeat' first|((with_reducible first|apply gJoin_split|apply cond_split|apply gJoinD_split)<;>intro h<;>(try simp only [spl] at h)<;>try simp (maxSteps:=10000000) (disch:=first|exact bk rfl|omega|(simp only [ln];omega)|(simp only [go_sem];done)|decide) only [go_sem,Nat.reduceAdd,Nat.reduceMul,Nat.reduceEqDiff,Nat.reduceLT,Nat.reduceLeDiff,reduceIte,h50,r50,h50_0,h50_1,g0,g1,gi,gl,e2,len_sl hx un70,idx_sl hx un70 in90 ce90 hlt,idx_sl hy un70 in90 ce90 hlt',rows_take eRead_len hlt,rows_take eRead_len hlt',neqRead,hq,h])
   refine again_mk (m':=xs.length - (n+1)) (by omega) ⟨n+1,hlt,rfl,rfl, ?_, ?_, ?_, ?_,by rw [hs,hq];rfl⟩<;>(first|rfl|(simp (maxSteps:=10000000) (disch:=first|exact bk rfl|omega|(simp only [ln];omega)|(simp only [go_sem];done)|decide) only [go_sem,Nat.reduceAdd,Nat.reduceMul,Nat.reduceEqDiff,Nat.reduceLT,Nat.reduceLeDiff,reduceIte,g0,g1,gi,gl]<;>rfl))
 ·have e2:((n:Int)<(xs.length:Int))=False:=by simp;omega
  (try simp (maxSteps:=10000000) (disch:=first|exact bk rfl|omega|(simp only [ln];omega)|(simp only [go_sem];done)|decide) only [go_sem,Nat.reduceAdd,Nat.reduceMul,Nat.reduceEqDiff,Nat.reduceLT,Nat.reduceLeDiff,reduceIte,h50,r50,h50_0,h50_1,g0,g1,gi,gl,e2,len_sl hx un70]);repeat' first|((with_reducible first|apply gJoin_split|apply cond_split|apply gJoinD_split)<;>intro h<;>(try simp only [spl] at h)<;>try simp (maxSteps:=10000000) (disch:=first|exact bk rfl|omega|(simp only [ln];omega)|(simp only [go_sem];done)|decide) only [go_sem,Nat.reduceAdd,Nat.reduceMul,Nat.reduceEqDiff,Nat.reduceLT,Nat.reduceLeDiff,reduceIte,h50,r50,h50_0,h50_1,g0,g1,gi,gl,e2,len_sl hx un70,h])
  exact endQ_fro (.bool _) (by rw [hs,sameL_end (by omega) (by omega)])
def I55 (xs ys:List Raise) (dx dy:D) (m:Nat) (e:En) (H:Hp):Prop:=∃n,n≤xs.length∧m=xs.length - n∧e.dm=[]∧E2.get e.t 0=ofD dx∧E2.get e.t 1=ofD dy∧E2.get e.t 13= .int .i64 (n:Int)∧E2.get e.t 12= .int .i64 (xs.length:Int)∧sameL eqRaise xs ys=sameL eqRaise (xs.drop n) (ys.drop n)
theorem same55_c {xs ys:List Raise} {dx dy:D} (hx:Sl 3 eRaise xs dx) (hy:Sl 3 eRaise ys dy) (hl:xs.length≤9223372036854775807) (hl':ys.length≤9223372036854775807):CQ P (G K) 55 [dx,dy] (·= .bool (sameL eqRaise xs ys)):=by
 refine CQ.enter (hG K) ?_
 by_cases hn:xs.length=ys.length
 rotate_left
 ·have e1:((xs.length:Int)=(ys.length:Int))=False:=by simp;omega
  (try simp (maxSteps:=10000000) (disch:=first|exact bk rfl|omega|(simp only [ln];omega)|(simp only [go_sem];done)|decide) only [go_sem,Nat.reduceAdd,Nat.reduceMul,Nat.reduceEqDiff,Nat.reduceLT,Nat.reduceLeDiff,reduceIte,h55,r55,h55_0,h55_1,len_sl hx un91,len_sl hy un91,e1]);repeat' first|((with_reducible first|apply gJoin_split|apply cond_split|apply gJoinD_split)<;>intro h<;>(try simp only [spl] at h)<;>try simp (maxSteps:=10000000) (disch:=first|exact bk rfl|omega|(simp only [ln];omega)|(simp only [go_sem];done)|decide) only [go_sem,Nat.reduceAdd,Nat.reduceMul,Nat.reduceEqDiff,Nat.reduceLT,Nat.reduceLeDiff,reduceIte,h55,r55,h55_0,h55_1,len_sl hx un91,len_sl hy un91,e1,h])
  exact endQ_fro (.bool _) (by rw [sameL_ne hn])
 have e1:((xs.length:Int)=(ys.length:Int))=True:=by simp;omega
 (try simp (maxSteps:=10000000) (disch:=first|exact bk rfl|omega|(simp only [ln];omega)|(simp only [go_sem];done)|decide) only [go_sem,Nat.reduceAdd,Nat.reduceMul,Nat.reduceEqDiff,Nat.reduceLT,Nat.reduceLeDiff,reduceIte,h55,r55,len_sl hx un91,len_sl hy un91,e1]);repeat' first|((with_reducible first|apply gJoin_split|apply cond_split|apply gJoinD_split)<;>intro h<;>(try simp only [spl] at h)<;>try simp (maxSteps:=10000000) (disch:=first|exact bk rfl|omega|(simp only [ln];omega)|(simp only [go_sem];done)|decide) only [go_sem,Nat.reduceAdd,Nat.reduceMul,Nat.reduceEqDiff,Nat.reduceLT,Nat.reduceLeDiff,reduceIte,h55,r55,len_sl hx un91,len_sl hy un91,e1,h])
 refine loop_rule (I55 xs ys dx dy) (fun m e H hi=> ?_) (m:=xs.length) ?_
 rotate_left
 ·refine⟨0,Nat.zero_le _,rfl,rfl, ?_, ?_, ?_, ?_,rfl⟩<;>(first|rfl|(simp (maxSteps:=10000000) (disch:=first|exact bk rfl|omega|(simp only [ln];omega)|(simp only [go_sem];done)|decide) only [go_sem,Nat.reduceAdd,Nat.reduceMul,Nat.reduceEqDiff,Nat.reduceLT,Nat.reduceLeDiff,reduceIte]<;>rfl))
 obtain⟨n,hn1,rfl,hdm,g0,g1,gi,gl,hs⟩:=hi
 obtain⟨t,dm⟩:=e
 dsimp only at hdm g0 g1 gi gl
 subst hdm
 refine semC_run 200 ?_
 rw [h55_1]
 by_cases hlt:n<xs.length
 ·have hlt':n<ys.length:=by omega
  have e2:((n:Int)<(xs.length:Int))=True:=by simp;omega
  rw [sameL_at hlt hlt'] at hs
  cases hq:eqRaise xs[n] ys[n] with
  | false=>
   (try simp (maxSteps:=10000000) (disch:=first|exact bk rfl|omega|(simp only [ln];omega)|(simp only [go_sem];done)|decide) only [go_sem,Nat.reduceAdd,Nat.reduceMul,Nat.reduceEqDiff,Nat.reduceLT,Nat.reduceLeDiff,reduceIte,h55,r55,h55_0,h55_1,g0,g1,gi,gl,e2,len_sl hx un91,idx_sl hx un91 in100 ce100 hlt,idx_sl hy un91 in100 ce100 hlt',rows_take eRaise_len hlt,rows_take eRaise_len hlt',neqRaise,hq]);repeat' first|((with_reducible first|apply gJoin_split|apply cond_split|apply gJoinD_split)<;>intro h<;>(try simp only [spl] at h)<;>try simp (maxSteps:=10000000) (disch:=first|exact bk rfl|omega|(simp only [ln];omega)|(simp only [go_sem];done)|decide) only [go_sem,Nat.reduceAdd,Nat.reduceMul,Nat.reduceEqDiff,Nat.reduceLT,Nat.reduceLeDiff,reduceIte,h55,r55,h55_0,h55_1,g0,g1,gi,gl,e2,len_sl hx un91,idx_sl hx un91 in100 ce100 hlt,idx_sl hy un91 in100 ce100 hlt',rows_take eRaise_len hlt,rows_take eRaise_len hlt',neqRaise,hq,h])
   exact endQ_fro (.bool _) (by rw [hs,hq];rfl)
  | true=>
   (try simp (maxSteps:=10000000) (disch:=first|exact bk rfl|omega|(simp only [ln];omega)|(simp only [go_sem];done)|decide) only [go_sem,Nat.reduceAdd,Nat.reduceMul,Nat.reduceEqDiff,Nat.reduceLT,Nat.reduceLeDiff,reduceIte,h55,r55,h55_0,h55_1,g0,g1,gi,gl,e2,len_sl hx un91,idx_sl hx un91 in100 ce100 hlt,idx_sl hy un91 in100 ce100 hlt',rows_take eRaise_len hlt,rows_take eRaise_len hlt',neqRaise,hq]);repeat' first|((with_reducible first|apply gJoin_split|apply cond_split|apply gJoinD_split)<;>intro h<;>(try simp only [spl] at h)<;>try simp (maxSteps:=10000000) (disch:=first|exact bk rfl|omega|(simp only [ln];omega)|(simp only [go_sem];done)|decide) only [go_sem,Nat.reduceAdd,Nat.reduceMul,Nat.reduceEqDiff,Nat.reduceLT,Nat.reduceLeDiff,reduceIte,h55,r55,h55_0,h55_1,g0,g1,gi,gl,e2,len_sl hx un91,idx_sl hx un91 in100 ce100 hlt,idx_sl hy un91 in100 ce100 hlt',rows_take eRaise_len hlt,rows_take eRaise_len hlt',neqRaise,hq,h])
   refine again_mk (m':=xs.length - (n+1)) (by omega) ⟨n+1,hlt,rfl,rfl, ?_, ?_, ?_, ?_,by rw [hs,hq];rfl⟩<;>(first|rfl|(simp (maxSteps:=10000000) (disch:=first|exact bk rfl|omega|(simp only [ln];omega)|(simp only [go_sem];done)|decide) only [go_sem,Nat.reduceAdd,Nat.reduceMul,Nat.reduceEqDiff,Nat.reduceLT,Nat.reduceLeDiff,reduceIte,g0,g1,gi,gl]<;>rfl))
 ·have e2:((n:Int)<(xs.length:Int))=False:=by simp;omega
  (try simp (maxSteps:=10000000) (disch:=first|exact bk rfl|omega|(simp only [ln];omega)|(simp only [go_sem];done)|decide) only [go_sem,Nat.reduceAdd,Nat.reduceMul,Nat.reduceEqDiff,Nat.reduceLT,Nat.reduceLeDiff,reduceIte,h55,r55,h55_0,h55_1,g0,g1,gi,gl,e2,len_sl hx un91]);repeat' first|((with_reducible first|apply gJoin_split|apply cond_split|apply gJoinD_split)<;>intro h<;>(try simp only [spl] at h)<;>try simp (maxSteps:=10000000) (disch:=first|exact bk rfl|omega|(simp only [ln];omega)|(simp only [go_sem];done)|decide) only [go_sem,Nat.reduceAdd,Nat.reduceMul,Nat.reduceEqDiff,Nat.reduceLT,Nat.reduceLeDiff,reduceIte,h55,r55,h55_0,h55_1,g0,g1,gi,gl,e2,len_sl hx un91,h])
  exact endQ_fro (.bool _) (by rw [hs,sameL_end (by omega) (by omega)])
def I83 (xs ys:List Posting) (dx dy:D) (m:Nat) (e:En) (H:Hp):Prop:=∃n,n≤xs.length∧m=xs.length - n∧e.dm=[]∧E2.get e.t 0=ofD dx∧E2.get e.t 1=ofD dy∧E2.get e.t 13= .int .i64 (n:Int)∧E2.get e.t 12= .int .i64 (xs.length:Int)∧sameL eqPost xs ys=sameL eqPost (xs.drop n) (ys.drop n)
theorem same83_c {xs ys:List Posting} {dx dy:D} (hx:Sl 5 ePost xs dx) (hy:Sl 5 ePost ys dy) (hl:xs.length≤9223372036854775807) (hl':ys.length≤9223372036854775807):CQ P (G K) 83 [dx,dy] (·= .bool (sameL eqPost xs ys)):=by
 refine CQ.enter (hG K) ?_
 by_cases hn:xs.length=ys.length
 rotate_left
 ·have e1:((xs.length:Int)=(ys.length:Int))=False:=by simp;omega
  (try simp (maxSteps:=10000000) (disch:=first|exact bk rfl|omega|(simp only [ln];omega)|(simp only [go_sem];done)|decide) only [go_sem,Nat.reduceAdd,Nat.reduceMul,Nat.reduceEqDiff,Nat.reduceLT,Nat.reduceLeDiff,reduceIte,h83,r83,h83_0,h83_1,len_sl hx un43,len_sl hy un43,e1]);repeat' first|((with_reducible first|apply gJoin_split|apply cond_split|apply gJoinD_split)<;>intro h<;>(try simp only [spl] at h)<;>try simp (maxSteps:=10000000) (disch:=first|exact bk rfl|omega|(simp only [ln];omega)|(simp only [go_sem];done)|decide) only [go_sem,Nat.reduceAdd,Nat.reduceMul,Nat.reduceEqDiff,Nat.reduceLT,Nat.reduceLeDiff,reduceIte,h83,r83,h83_0,h83_1,len_sl hx un43,len_sl hy un43,e1,h])
  exact endQ_fro (.bool _) (by rw [sameL_ne hn])
 have e1:((xs.length:Int)=(ys.length:Int))=True:=by simp;omega
 (try simp (maxSteps:=10000000) (disch:=first|exact bk rfl|omega|(simp only [ln];omega)|(simp only [go_sem];done)|decide) only [go_sem,Nat.reduceAdd,Nat.reduceMul,Nat.reduceEqDiff,Nat.reduceLT,Nat.reduceLeDiff,reduceIte,h83,r83,len_sl hx un43,len_sl hy un43,e1]);repeat' first|((with_reducible first|apply gJoin_split|apply cond_split|apply gJoinD_split)<;>intro h<;>(try simp only [spl] at h)<;>try simp (maxSteps:=10000000) (disch:=first|exact bk rfl|omega|(simp only [ln];omega)|(simp only [go_sem];done)|decide) only [go_sem,Nat.reduceAdd,Nat.reduceMul,Nat.reduceEqDiff,Nat.reduceLT,Nat.reduceLeDiff,reduceIte,h83,r83,len_sl hx un43,len_sl hy un43,e1,h])
 refine loop_rule (I83 xs ys dx dy) (fun m e H hi=> ?_) (m:=xs.length) ?_
 rotate_left
 ·refine⟨0,Nat.zero_le _,rfl,rfl, ?_, ?_, ?_, ?_,rfl⟩<;>(first|rfl|(simp (maxSteps:=10000000) (disch:=first|exact bk rfl|omega|(simp only [ln];omega)|(simp only [go_sem];done)|decide) only [go_sem,Nat.reduceAdd,Nat.reduceMul,Nat.reduceEqDiff,Nat.reduceLT,Nat.reduceLeDiff,reduceIte]<;>rfl))
 obtain⟨n,hn1,rfl,hdm,g0,g1,gi,gl,hs⟩:=hi
 obtain⟨t,dm⟩:=e
 dsimp only at hdm g0 g1 gi gl
 subst hdm
 refine semC_run 200 ?_
 rw [h83_1]
 by_cases hlt:n<xs.length
 ·have hlt':n<ys.length:=by omega
  have e2:((n:Int)<(xs.length:Int))=True:=by simp;omega
  rw [sameL_at hlt hlt'] at hs
  cases hq:eqPost xs[n] ys[n] with
  | false=>
   (try simp (maxSteps:=10000000) (disch:=first|exact bk rfl|omega|(simp only [ln];omega)|(simp only [go_sem];done)|decide) only [go_sem,Nat.reduceAdd,Nat.reduceMul,Nat.reduceEqDiff,Nat.reduceLT,Nat.reduceLeDiff,reduceIte,h83,r83,h83_0,h83_1,g0,g1,gi,gl,e2,len_sl hx un43,idx_sl hx un43 in83 ce83 hlt,idx_sl hy un43 in83 ce83 hlt',rows_take ePost_len hlt,rows_take ePost_len hlt',neqPost,hq]);repeat' first|((with_reducible first|apply gJoin_split|apply cond_split|apply gJoinD_split)<;>intro h<;>(try simp only [spl] at h)<;>try simp (maxSteps:=10000000) (disch:=first|exact bk rfl|omega|(simp only [ln];omega)|(simp only [go_sem];done)|decide) only [go_sem,Nat.reduceAdd,Nat.reduceMul,Nat.reduceEqDiff,Nat.reduceLT,Nat.reduceLeDiff,reduceIte,h83,r83,h83_0,h83_1,g0,g1,gi,gl,e2,len_sl hx un43,idx_sl hx un43 in83 ce83 hlt,idx_sl hy un43 in83 ce83 hlt',rows_take ePost_len hlt,rows_take ePost_len hlt',neqPost,hq,h])
   exact endQ_fro (.bool _) (by rw [hs,hq];rfl)
  | true=>
   (try simp (maxSteps:=10000000) (disch:=first|exact bk rfl|omega|(simp only [ln];omega)|(simp only [go_sem];done)|decide) only [go_sem,Nat.reduceAdd,Nat.reduceMul,Nat.reduceEqDiff,Nat.reduceLT,Nat.reduceLeDiff,reduceIte,h83,r83,h83_0,h83_1,g0,g1,gi,gl,e2,len_sl hx un43,idx_sl hx un43 in83 ce83 hlt,idx_sl hy un43 in83 ce83 hlt',rows_take ePost_len hlt,rows_take ePost_len hlt',neqPost,hq]);repeat' first|((with_reducible first|apply gJoin_split|apply cond_split|apply gJoinD_split)<;>intro h<;>(try simp only [spl] at h)<;>try simp (maxSteps:=10000000) (disch:=first|exact bk rfl|omega|(simp only [ln];omega)|(simp only [go_sem];done)|decide) only [go_sem,Nat.reduceAdd,Nat.reduceMul,Nat.reduceEqDiff,Nat.reduceLT,Nat.reduceLeDiff,reduceIte,h83,r83,h83_0,h83_1,g0,g1,gi,gl,e2,len_sl hx un43,idx_sl hx un43 in83 ce83 hlt,idx_sl hy un43 in83 ce83 hlt',rows_take ePost_len hlt,rows_take ePost_len hlt',neqPost,hq,h])
   refine again_mk (m':=xs.length - (n+1)) (by omega) ⟨n+1,hlt,rfl,rfl, ?_, ?_, ?_, ?_,by rw [hs,hq];rfl⟩<;>(first|rfl|(simp (maxSteps:=10000000) (disch:=first|exact bk rfl|omega|(simp only [ln];omega)|(simp only [go_sem];done)|decide) only [go_sem,Nat.reduceAdd,Nat.reduceMul,Nat.reduceEqDiff,Nat.reduceLT,Nat.reduceLeDiff,reduceIte,g0,g1,gi,gl]<;>rfl))
 ·have e2:((n:Int)<(xs.length:Int))=False:=by simp;omega
  (try simp (maxSteps:=10000000) (disch:=first|exact bk rfl|omega|(simp only [ln];omega)|(simp only [go_sem];done)|decide) only [go_sem,Nat.reduceAdd,Nat.reduceMul,Nat.reduceEqDiff,Nat.reduceLT,Nat.reduceLeDiff,reduceIte,h83,r83,h83_0,h83_1,g0,g1,gi,gl,e2,len_sl hx un43]);repeat' first|((with_reducible first|apply gJoin_split|apply cond_split|apply gJoinD_split)<;>intro h<;>(try simp only [spl] at h)<;>try simp (maxSteps:=10000000) (disch:=first|exact bk rfl|omega|(simp only [ln];omega)|(simp only [go_sem];done)|decide) only [go_sem,Nat.reduceAdd,Nat.reduceMul,Nat.reduceEqDiff,Nat.reduceLT,Nat.reduceLeDiff,reduceIte,h83,r83,h83_0,h83_1,g0,g1,gi,gl,e2,len_sl hx un43,h])
  exact endQ_fro (.bool _) (by rw [hs,sameL_end (by omega) (by omega)])
def I58 (xs ys:List Int) (dx dy:D) (m:Nat) (e:En) (H:Hp):Prop:=∃n,n≤xs.length∧m=xs.length - n∧e.dm=[]∧E2.get e.t 0=ofD dx∧E2.get e.t 1=ofD dy∧E2.get e.t 5= .int .i64 (n:Int)∧sameL eqI xs ys=sameL eqI (xs.drop n) (ys.drop n)
theorem same58_c {xs ys:List Int} {dx dy:D} (hx:Sl 1 eInt xs dx) (hy:Sl 1 eInt ys dy) (hl:xs.length≤9223372036854775807) (hl':ys.length≤9223372036854775807):CQ P (G K) 58 [dx,dy] (·= .bool (sameL eqI xs ys)):=by
 refine CQ.enter (hG K) ?_
 by_cases hn:xs.length=ys.length
 rotate_left
 ·have e1:((xs.length:Int)=(ys.length:Int))=False:=by simp;omega
  (try simp (maxSteps:=10000000) (disch:=first|exact bk rfl|omega|(simp only [ln];omega)|(simp only [go_sem];done)|decide) only [go_sem,Nat.reduceAdd,Nat.reduceMul,Nat.reduceEqDiff,Nat.reduceLT,Nat.reduceLeDiff,reduceIte,h58,r58,h58_0,h58_1,len_sl hx un42,len_sl hy un42,e1]);repeat' first|((with_reducible first|apply gJoin_split|apply cond_split|apply gJoinD_split)<;>intro h<;>(try simp only [spl] at h)<;>try simp (maxSteps:=10000000) (disch:=first|exact bk rfl|omega|(simp only [ln];omega)|(simp only [go_sem];done)|decide) only [go_sem,Nat.reduceAdd,Nat.reduceMul,Nat.reduceEqDiff,Nat.reduceLT,Nat.reduceLeDiff,reduceIte,h58,r58,h58_0,h58_1,len_sl hx un42,len_sl hy un42,e1,h])
  exact endQ_fro (.bool _) (by rw [sameL_ne hn])
 have e1:((xs.length:Int)=(ys.length:Int))=True:=by simp;omega
 (try simp (maxSteps:=10000000) (disch:=first|exact bk rfl|omega|(simp only [ln];omega)|(simp only [go_sem];done)|decide) only [go_sem,Nat.reduceAdd,Nat.reduceMul,Nat.reduceEqDiff,Nat.reduceLT,Nat.reduceLeDiff,reduceIte,h58,r58,len_sl hx un42,len_sl hy un42,e1]);repeat' first|((with_reducible first|apply gJoin_split|apply cond_split|apply gJoinD_split)<;>intro h<;>(try simp only [spl] at h)<;>try simp (maxSteps:=10000000) (disch:=first|exact bk rfl|omega|(simp only [ln];omega)|(simp only [go_sem];done)|decide) only [go_sem,Nat.reduceAdd,Nat.reduceMul,Nat.reduceEqDiff,Nat.reduceLT,Nat.reduceLeDiff,reduceIte,h58,r58,len_sl hx un42,len_sl hy un42,e1,h])
 refine loop_rule (I58 xs ys dx dy) (fun m e H hi=> ?_) (m:=xs.length) ?_
 rotate_left
 ·refine⟨0,Nat.zero_le _,rfl,rfl, ?_, ?_, ?_,rfl⟩<;>(first|rfl|(simp (maxSteps:=10000000) (disch:=first|exact bk rfl|omega|(simp only [ln];omega)|(simp only [go_sem];done)|decide) only [go_sem,Nat.reduceAdd,Nat.reduceMul,Nat.reduceEqDiff,Nat.reduceLT,Nat.reduceLeDiff,reduceIte]<;>rfl))
 obtain⟨n,hn1,rfl,hdm,g0,g1,gi,hs⟩:=hi
 obtain⟨t,dm⟩:=e
 dsimp only at hdm g0 g1 gi
 subst hdm
 refine semC_run 200 ?_
 rw [h58_1]
 by_cases hlt:n<xs.length
 ·have hlt':n<ys.length:=by omega
  have e2:((n:Int)<(xs.length:Int))=True:=by simp;omega
  rw [sameL_at hlt hlt'] at hs
  cases hq:eqI xs[n] ys[n] with
  | false=>
   (try simp (maxSteps:=10000000) (disch:=first|exact bk rfl|omega|(simp only [ln];omega)|(simp only [go_sem];done)|decide) only [go_sem,Nat.reduceAdd,Nat.reduceMul,Nat.reduceEqDiff,Nat.reduceLT,Nat.reduceLeDiff,reduceIte,h58,r58,h58_0,h58_1,g0,g1,gi,e2,len_sl hx un42,idx_sl hx un42 in3 ce3 hlt,idx_sl hy un42 in3 ce3 hlt',rows_get0 eInt_len hlt (by decide:0<1),rows_get0 eInt_len hlt' (by decide:0<1),eInt,eqI_r,hq]);repeat' first|((with_reducible first|apply gJoin_split|apply cond_split|apply gJoinD_split)<;>intro h<;>(try simp only [spl] at h)<;>try simp (maxSteps:=10000000) (disch:=first|exact bk rfl|omega|(simp only [ln];omega)|(simp only [go_sem];done)|decide) only [go_sem,Nat.reduceAdd,Nat.reduceMul,Nat.reduceEqDiff,Nat.reduceLT,Nat.reduceLeDiff,reduceIte,h58,r58,h58_0,h58_1,g0,g1,gi,e2,len_sl hx un42,idx_sl hx un42 in3 ce3 hlt,idx_sl hy un42 in3 ce3 hlt',rows_get0 eInt_len hlt (by decide:0<1),rows_get0 eInt_len hlt' (by decide:0<1),eInt,eqI_r,hq,h])
   exact endQ_fro (.bool _) (by rw [hs,hq];rfl)
  | true=>
   (try simp (maxSteps:=10000000) (disch:=first|exact bk rfl|omega|(simp only [ln];omega)|(simp only [go_sem];done)|decide) only [go_sem,Nat.reduceAdd,Nat.reduceMul,Nat.reduceEqDiff,Nat.reduceLT,Nat.reduceLeDiff,reduceIte,h58,r58,h58_0,h58_1,g0,g1,gi,e2,len_sl hx un42,idx_sl hx un42 in3 ce3 hlt,idx_sl hy un42 in3 ce3 hlt',rows_get0 eInt_len hlt (by decide:0<1),rows_get0 eInt_len hlt' (by decide:0<1),eInt,eqI_r,hq]);repeat' first|((with_reducible first|apply gJoin_split|apply cond_split|apply gJoinD_split)<;>intro h<;>(try simp only [spl] at h)<;>try simp (maxSteps:=10000000) (disch:=first|exact bk rfl|omega|(simp only [ln];omega)|(simp only [go_sem];done)|decide) only [go_sem,Nat.reduceAdd,Nat.reduceMul,Nat.reduceEqDiff,Nat.reduceLT,Nat.reduceLeDiff,reduceIte,h58,r58,h58_0,h58_1,g0,g1,gi,e2,len_sl hx un42,idx_sl hx un42 in3 ce3 hlt,idx_sl hy un42 in3 ce3 hlt',rows_get0 eInt_len hlt (by decide:0<1),rows_get0 eInt_len hlt' (by decide:0<1),eInt,eqI_r,hq,h])
   refine again_mk (m':=xs.length - (n+1)) (by omega) ⟨n+1,hlt,rfl,rfl, ?_, ?_, ?_,by rw [hs,hq];rfl⟩<;>(first|rfl|(simp (maxSteps:=10000000) (disch:=first|exact bk rfl|omega|(simp only [ln];omega)|(simp only [go_sem];done)|decide) only [go_sem,Nat.reduceAdd,Nat.reduceMul,Nat.reduceEqDiff,Nat.reduceLT,Nat.reduceLeDiff,reduceIte,g0,g1,gi]<;>rfl))
 ·have e2:((n:Int)<(xs.length:Int))=False:=by simp;omega
  (try simp (maxSteps:=10000000) (disch:=first|exact bk rfl|omega|(simp only [ln];omega)|(simp only [go_sem];done)|decide) only [go_sem,Nat.reduceAdd,Nat.reduceMul,Nat.reduceEqDiff,Nat.reduceLT,Nat.reduceLeDiff,reduceIte,h58,r58,h58_0,h58_1,g0,g1,gi,e2,len_sl hx un42]);repeat' first|((with_reducible first|apply gJoin_split|apply cond_split|apply gJoinD_split)<;>intro h<;>(try simp only [spl] at h)<;>try simp (maxSteps:=10000000) (disch:=first|exact bk rfl|omega|(simp only [ln];omega)|(simp only [go_sem];done)|decide) only [go_sem,Nat.reduceAdd,Nat.reduceMul,Nat.reduceEqDiff,Nat.reduceLT,Nat.reduceLeDiff,reduceIte,h58,r58,h58_0,h58_1,g0,g1,gi,e2,len_sl hx un42,h])
  exact endQ_fro (.bool _) (by rw [hs,sameL_end (by omega) (by omega)])
def I84 (xs ys:List Read) (dx dy:D) (m:Nat) (e:En) (H:Hp):Prop:=∃n,n≤xs.length∧m=xs.length - n∧e.dm=[]∧E2.get e.t 0=ofD dx∧E2.get e.t 1=ofD dy∧E2.get e.t 5= .int .i64 (n:Int)∧sameL eqRead xs ys=sameL eqRead (xs.drop n) (ys.drop n)
theorem same84_c {xs ys:List Read} {dx dy:D} (hx:Sl 2 eRead xs dx) (hy:Sl 2 eRead ys dy) (hl:xs.length≤9223372036854775807) (hl':ys.length≤9223372036854775807):CQ P (G K) 84 [dx,dy] (·= .bool (sameL eqRead xs ys)):=by
 refine CQ.enter (hG K) ?_
 by_cases hn:xs.length=ys.length
 rotate_left
 ·have e1:((xs.length:Int)=(ys.length:Int))=False:=by simp;omega
  (try simp (maxSteps:=10000000) (disch:=first|exact bk rfl|omega|(simp only [ln];omega)|(simp only [go_sem];done)|decide) only [go_sem,Nat.reduceAdd,Nat.reduceMul,Nat.reduceEqDiff,Nat.reduceLT,Nat.reduceLeDiff,reduceIte,h84,r84,h84_0,h84_1,len_sl hx un70,len_sl hy un70,e1]);repeat' first|((with_reducible first|apply gJoin_split|apply cond_split|apply gJoinD_split)<;>intro h<;>(try simp only [spl] at h)<;>try simp (maxSteps:=10000000) (disch:=first|exact bk rfl|omega|(simp only [ln];omega)|(simp only [go_sem];done)|decide) only [go_sem,Nat.reduceAdd,Nat.reduceMul,Nat.reduceEqDiff,Nat.reduceLT,Nat.reduceLeDiff,reduceIte,h84,r84,h84_0,h84_1,len_sl hx un70,len_sl hy un70,e1,h])
  exact endQ_fro (.bool _) (by rw [sameL_ne hn])
 have e1:((xs.length:Int)=(ys.length:Int))=True:=by simp;omega
 (try simp (maxSteps:=10000000) (disch:=first|exact bk rfl|omega|(simp only [ln];omega)|(simp only [go_sem];done)|decide) only [go_sem,Nat.reduceAdd,Nat.reduceMul,Nat.reduceEqDiff,Nat.reduceLT,Nat.reduceLeDiff,reduceIte,h84,r84,len_sl hx un70,len_sl hy un70,e1]);repeat' first|((with_reducible first|apply gJoin_split|apply cond_split|apply gJoinD_split)<;>intro h<;>(try simp only [spl] at h)<;>try simp (maxSteps:=10000000) (disch:=first|exact bk rfl|omega|(simp only [ln];omega)|(simp only [go_sem];done)|decide) only [go_sem,Nat.reduceAdd,Nat.reduceMul,Nat.reduceEqDiff,Nat.reduceLT,Nat.reduceLeDiff,reduceIte,h84,r84,len_sl hx un70,len_sl hy un70,e1,h])
 refine loop_rule (I84 xs ys dx dy) (fun m e H hi=> ?_) (m:=xs.length) ?_
 rotate_left
 ·refine⟨0,Nat.zero_le _,rfl,rfl, ?_, ?_, ?_,rfl⟩<;>(first|rfl|(simp (maxSteps:=10000000) (disch:=first|exact bk rfl|omega|(simp only [ln];omega)|(simp only [go_sem];done)|decide) only [go_sem,Nat.reduceAdd,Nat.reduceMul,Nat.reduceEqDiff,Nat.reduceLT,Nat.reduceLeDiff,reduceIte]<;>rfl))
 obtain⟨n,hn1,rfl,hdm,g0,g1,gi,hs⟩:=hi
 obtain⟨t,dm⟩:=e
 dsimp only at hdm g0 g1 gi
 subst hdm
 refine semC_run 200 ?_
 rw [h84_1]
 by_cases hlt:n<xs.length
 ·have hlt':n<ys.length:=by omega
  have e2:((n:Int)<(xs.length:Int))=True:=by simp;omega
  rw [sameL_at hlt hlt'] at hs
  cases hq:eqRead xs[n] ys[n] with
  | false=>
   (try simp (maxSteps:=10000000) (disch:=first|exact bk rfl|omega|(simp only [ln];omega)|(simp only [go_sem];done)|decide) only [go_sem,Nat.reduceAdd,Nat.reduceMul,Nat.reduceEqDiff,Nat.reduceLT,Nat.reduceLeDiff,reduceIte,h84,r84,h84_0,h84_1,g0,g1,gi,e2,len_sl hx un70,idx_sl hx un70 in90 ce90 hlt,idx_sl hy un70 in90 ce90 hlt',rows_take eRead_len hlt,rows_take eRead_len hlt',neqRead,hq]);repeat' first|((with_reducible first|apply gJoin_split|apply cond_split|apply gJoinD_split)<;>intro h<;>(try simp only [spl] at h)<;>try simp (maxSteps:=10000000) (disch:=first|exact bk rfl|omega|(simp only [ln];omega)|(simp only [go_sem];done)|decide) only [go_sem,Nat.reduceAdd,Nat.reduceMul,Nat.reduceEqDiff,Nat.reduceLT,Nat.reduceLeDiff,reduceIte,h84,r84,h84_0,h84_1,g0,g1,gi,e2,len_sl hx un70,idx_sl hx un70 in90 ce90 hlt,idx_sl hy un70 in90 ce90 hlt',rows_take eRead_len hlt,rows_take eRead_len hlt',neqRead,hq,h])
   exact endQ_fro (.bool _) (by rw [hs,hq];rfl)
  | true=>
   (try simp (maxSteps:=10000000) (disch:=first|exact bk rfl|omega|(simp only [ln];omega)|(simp only [go_sem];done)|decide) only [go_sem,Nat.reduceAdd,Nat.reduceMul,Nat.reduceEqDiff,Nat.reduceLT,Nat.reduceLeDiff,reduceIte,h84,r84,h84_0,h84_1,g0,g1,gi,e2,len_sl hx un70,idx_sl hx un70 in90 ce90 hlt,idx_sl hy un70 in90 ce90 hlt',rows_take eRead_len hlt,rows_take eRead_len hlt',neqRead,hq]);repeat' first|((with_reducible first|apply gJoin_split|apply cond_split|apply gJoinD_split)<;>intro h<;>(try simp only [spl] at h)<;>try simp (maxSteps:=10000000) (disch:=first|exact bk rfl|omega|(simp only [ln];omega)|(simp only [go_sem];done)|decide) only [go_sem,Nat.reduceAdd,Nat.reduceMul,Nat.reduceEqDiff,Nat.reduceLT,Nat.reduceLeDiff,reduceIte,h84,r84,h84_0,h84_1,g0,g1,gi,e2,len_sl hx un70,idx_sl hx un70 in90 ce90 hlt,idx_sl hy un70 in90 ce90 hlt',rows_take eRead_len hlt,rows_take eRead_len hlt',neqRead,hq,h])
   refine again_mk (m':=xs.length - (n+1)) (by omega) ⟨n+1,hlt,rfl,rfl, ?_, ?_, ?_,by rw [hs,hq];rfl⟩<;>(first|rfl|(simp (maxSteps:=10000000) (disch:=first|exact bk rfl|omega|(simp only [ln];omega)|(simp only [go_sem];done)|decide) only [go_sem,Nat.reduceAdd,Nat.reduceMul,Nat.reduceEqDiff,Nat.reduceLT,Nat.reduceLeDiff,reduceIte,g0,g1,gi]<;>rfl))
 ·have e2:((n:Int)<(xs.length:Int))=False:=by simp;omega
  (try simp (maxSteps:=10000000) (disch:=first|exact bk rfl|omega|(simp only [ln];omega)|(simp only [go_sem];done)|decide) only [go_sem,Nat.reduceAdd,Nat.reduceMul,Nat.reduceEqDiff,Nat.reduceLT,Nat.reduceLeDiff,reduceIte,h84,r84,h84_0,h84_1,g0,g1,gi,e2,len_sl hx un70]);repeat' first|((with_reducible first|apply gJoin_split|apply cond_split|apply gJoinD_split)<;>intro h<;>(try simp only [spl] at h)<;>try simp (maxSteps:=10000000) (disch:=first|exact bk rfl|omega|(simp only [ln];omega)|(simp only [go_sem];done)|decide) only [go_sem,Nat.reduceAdd,Nat.reduceMul,Nat.reduceEqDiff,Nat.reduceLT,Nat.reduceLeDiff,reduceIte,h84,r84,h84_0,h84_1,g0,g1,gi,e2,len_sl hx un70,h])
  exact endQ_fro (.bool _) (by rw [hs,sameL_end (by omega) (by omega)])
def I57 (xs ys:List Raise) (dx dy:D) (m:Nat) (e:En) (H:Hp):Prop:=∃n,n≤xs.length∧m=xs.length - n∧e.dm=[]∧E2.get e.t 0=ofD dx∧E2.get e.t 1=ofD dy∧E2.get e.t 5= .int .i64 (n:Int)∧sameL eqRaise xs ys=sameL eqRaise (xs.drop n) (ys.drop n)
theorem same57_c {xs ys:List Raise} {dx dy:D} (hx:Sl 3 eRaise xs dx) (hy:Sl 3 eRaise ys dy) (hl:xs.length≤9223372036854775807) (hl':ys.length≤9223372036854775807):CQ P (G K) 57 [dx,dy] (·= .bool (sameL eqRaise xs ys)):=by
 refine CQ.enter (hG K) ?_
 by_cases hn:xs.length=ys.length
 rotate_left
 ·have e1:((xs.length:Int)=(ys.length:Int))=False:=by simp;omega
  (try simp (maxSteps:=10000000) (disch:=first|exact bk rfl|omega|(simp only [ln];omega)|(simp only [go_sem];done)|decide) only [go_sem,Nat.reduceAdd,Nat.reduceMul,Nat.reduceEqDiff,Nat.reduceLT,Nat.reduceLeDiff,reduceIte,h57,r57,h57_0,h57_1,len_sl hx un91,len_sl hy un91,e1]);repeat' first|((with_reducible first|apply gJoin_split|apply cond_split|apply gJoinD_split)<;>intro h<;>(try simp only [spl] at h)<;>try simp (maxSteps:=10000000) (disch:=first|exact bk rfl|omega|(simp only [ln];omega)|(simp only [go_sem];done)|decide) only [go_sem,Nat.reduceAdd,Nat.reduceMul,Nat.reduceEqDiff,Nat.reduceLT,Nat.reduceLeDiff,reduceIte,h57,r57,h57_0,h57_1,len_sl hx un91,len_sl hy un91,e1,h])
  exact endQ_fro (.bool _) (by rw [sameL_ne hn])
 have e1:((xs.length:Int)=(ys.length:Int))=True:=by simp;omega
 (try simp (maxSteps:=10000000) (disch:=first|exact bk rfl|omega|(simp only [ln];omega)|(simp only [go_sem];done)|decide) only [go_sem,Nat.reduceAdd,Nat.reduceMul,Nat.reduceEqDiff,Nat.reduceLT,Nat.reduceLeDiff,reduceIte,h57,r57,len_sl hx un91,len_sl hy un91,e1]);repeat' first|((with_reducible first|apply gJoin_split|apply cond_split|apply gJoinD_split)<;>intro h<;>(try simp only [spl] at h)<;>try simp (maxSteps:=10000000) (disch:=first|exact bk rfl|omega|(simp only [ln];omega)|(simp only [go_sem];done)|decide) only [go_sem,Nat.reduceAdd,Nat.reduceMul,Nat.reduceEqDiff,Nat.reduceLT,Nat.reduceLeDiff,reduceIte,h57,r57,len_sl hx un91,len_sl hy un91,e1,h])
 refine loop_rule (I57 xs ys dx dy) (fun m e H hi=> ?_) (m:=xs.length) ?_
 rotate_left
 ·refine⟨0,Nat.zero_le _,rfl,rfl, ?_, ?_, ?_,rfl⟩<;>(first|rfl|(simp (maxSteps:=10000000) (disch:=first|exact bk rfl|omega|(simp only [ln];omega)|(simp only [go_sem];done)|decide) only [go_sem,Nat.reduceAdd,Nat.reduceMul,Nat.reduceEqDiff,Nat.reduceLT,Nat.reduceLeDiff,reduceIte]<;>rfl))
 obtain⟨n,hn1,rfl,hdm,g0,g1,gi,hs⟩:=hi
 obtain⟨t,dm⟩:=e
 dsimp only at hdm g0 g1 gi
 subst hdm
 refine semC_run 200 ?_
 rw [h57_1]
 by_cases hlt:n<xs.length
 ·have hlt':n<ys.length:=by omega
  have e2:((n:Int)<(xs.length:Int))=True:=by simp;omega
  rw [sameL_at hlt hlt'] at hs
  cases hq:eqRaise xs[n] ys[n] with
  | false=>
   (try simp (maxSteps:=10000000) (disch:=first|exact bk rfl|omega|(simp only [ln];omega)|(simp only [go_sem];done)|decide) only [go_sem,Nat.reduceAdd,Nat.reduceMul,Nat.reduceEqDiff,Nat.reduceLT,Nat.reduceLeDiff,reduceIte,h57,r57,h57_0,h57_1,g0,g1,gi,e2,len_sl hx un91,idx_sl hx un91 in100 ce100 hlt,idx_sl hy un91 in100 ce100 hlt',rows_take eRaise_len hlt,rows_take eRaise_len hlt',neqRaise,hq]);repeat' first|((with_reducible first|apply gJoin_split|apply cond_split|apply gJoinD_split)<;>intro h<;>(try simp only [spl] at h)<;>try simp (maxSteps:=10000000) (disch:=first|exact bk rfl|omega|(simp only [ln];omega)|(simp only [go_sem];done)|decide) only [go_sem,Nat.reduceAdd,Nat.reduceMul,Nat.reduceEqDiff,Nat.reduceLT,Nat.reduceLeDiff,reduceIte,h57,r57,h57_0,h57_1,g0,g1,gi,e2,len_sl hx un91,idx_sl hx un91 in100 ce100 hlt,idx_sl hy un91 in100 ce100 hlt',rows_take eRaise_len hlt,rows_take eRaise_len hlt',neqRaise,hq,h])
   exact endQ_fro (.bool _) (by rw [hs,hq];rfl)
  | true=>
   (try simp (maxSteps:=10000000) (disch:=first|exact bk rfl|omega|(simp only [ln];omega)|(simp only [go_sem];done)|decide) only [go_sem,Nat.reduceAdd,Nat.reduceMul,Nat.reduceEqDiff,Nat.reduceLT,Nat.reduceLeDiff,reduceIte,h57,r57,h57_0,h57_1,g0,g1,gi,e2,len_sl hx un91,idx_sl hx un91 in100 ce100 hlt,idx_sl hy un91 in100 ce100 hlt',rows_take eRaise_len hlt,rows_take eRaise_len hlt',neqRaise,hq]);repeat' first|((with_reducible first|apply gJoin_split|apply cond_split|apply gJoinD_split)<;>intro h<;>(try simp only [spl] at h)<;>try simp (maxSteps:=10000000) (disch:=first|exact bk rfl|omega|(simp only [ln];omega)|(simp only [go_sem];done)|decide) only [go_sem,Nat.reduceAdd,Nat.reduceMul,Nat.reduceEqDiff,Nat.reduceLT,Nat.reduceLeDiff,reduceIte,h57,r57,h57_0,h57_1,g0,g1,gi,e2,len_sl hx un91,idx_sl hx un91 in100 ce100 hlt,idx_sl hy un91 in100 ce100 hlt',rows_take eRaise_len hlt,rows_take eRaise_len hlt',neqRaise,hq,h])
   refine again_mk (m':=xs.length - (n+1)) (by omega) ⟨n+1,hlt,rfl,rfl, ?_, ?_, ?_,by rw [hs,hq];rfl⟩<;>(first|rfl|(simp (maxSteps:=10000000) (disch:=first|exact bk rfl|omega|(simp only [ln];omega)|(simp only [go_sem];done)|decide) only [go_sem,Nat.reduceAdd,Nat.reduceMul,Nat.reduceEqDiff,Nat.reduceLT,Nat.reduceLeDiff,reduceIte,g0,g1,gi]<;>rfl))
 ·have e2:((n:Int)<(xs.length:Int))=False:=by simp;omega
  (try simp (maxSteps:=10000000) (disch:=first|exact bk rfl|omega|(simp only [ln];omega)|(simp only [go_sem];done)|decide) only [go_sem,Nat.reduceAdd,Nat.reduceMul,Nat.reduceEqDiff,Nat.reduceLT,Nat.reduceLeDiff,reduceIte,h57,r57,h57_0,h57_1,g0,g1,gi,e2,len_sl hx un91]);repeat' first|((with_reducible first|apply gJoin_split|apply cond_split|apply gJoinD_split)<;>intro h<;>(try simp only [spl] at h)<;>try simp (maxSteps:=10000000) (disch:=first|exact bk rfl|omega|(simp only [ln];omega)|(simp only [go_sem];done)|decide) only [go_sem,Nat.reduceAdd,Nat.reduceMul,Nat.reduceEqDiff,Nat.reduceLT,Nat.reduceLeDiff,reduceIte,h57,r57,h57_0,h57_1,g0,g1,gi,e2,len_sl hx un91,h])
  exact endQ_fro (.bool _) (by rw [hs,sameL_end (by omega) (by omega)])
def I59 (xs ys:List Posting) (dx dy:D) (m:Nat) (e:En) (H:Hp):Prop:=∃n,n≤xs.length∧m=xs.length - n∧e.dm=[]∧E2.get e.t 0=ofD dx∧E2.get e.t 1=ofD dy∧E2.get e.t 5= .int .i64 (n:Int)∧sameL eqPost xs ys=sameL eqPost (xs.drop n) (ys.drop n)
theorem same59_c {xs ys:List Posting} {dx dy:D} (hx:Sl 5 ePost xs dx) (hy:Sl 5 ePost ys dy) (hl:xs.length≤9223372036854775807) (hl':ys.length≤9223372036854775807):CQ P (G K) 59 [dx,dy] (·= .bool (sameL eqPost xs ys)):=by
 refine CQ.enter (hG K) ?_
 by_cases hn:xs.length=ys.length
 rotate_left
 ·have e1:((xs.length:Int)=(ys.length:Int))=False:=by simp;omega
  (try simp (maxSteps:=10000000) (disch:=first|exact bk rfl|omega|(simp only [ln];omega)|(simp only [go_sem];done)|decide) only [go_sem,Nat.reduceAdd,Nat.reduceMul,Nat.reduceEqDiff,Nat.reduceLT,Nat.reduceLeDiff,reduceIte,h59,r59,h59_0,h59_1,len_sl hx un43,len_sl hy un43,e1]);repeat' first|((with_reducible first|apply gJoin_split|apply cond_split|apply gJoinD_split)<;>intro h<;>(try simp only [spl] at h)<;>try simp (maxSteps:=10000000) (disch:=first|exact bk rfl|omega|(simp only [ln];omega)|(simp only [go_sem];done)|decide) only [go_sem,Nat.reduceAdd,Nat.reduceMul,Nat.reduceEqDiff,Nat.reduceLT,Nat.reduceLeDiff,reduceIte,h59,r59,h59_0,h59_1,len_sl hx un43,len_sl hy un43,e1,h])
  exact endQ_fro (.bool _) (by rw [sameL_ne hn])
 have e1:((xs.length:Int)=(ys.length:Int))=True:=by simp;omega
 (try simp (maxSteps:=10000000) (disch:=first|exact bk rfl|omega|(simp only [ln];omega)|(simp only [go_sem];done)|decide) only [go_sem,Nat.reduceAdd,Nat.reduceMul,Nat.reduceEqDiff,Nat.reduceLT,Nat.reduceLeDiff,reduceIte,h59,r59,len_sl hx un43,len_sl hy un43,e1]);repeat' first|((with_reducible first|apply gJoin_split|apply cond_split|apply gJoinD_split)<;>intro h<;>(try simp only [spl] at h)<;>try simp (maxSteps:=10000000) (disch:=first|exact bk rfl|omega|(simp only [ln];omega)|(simp only [go_sem];done)|decide) only [go_sem,Nat.reduceAdd,Nat.reduceMul,Nat.reduceEqDiff,Nat.reduceLT,Nat.reduceLeDiff,reduceIte,h59,r59,len_sl hx un43,len_sl hy un43,e1,h])
 refine loop_rule (I59 xs ys dx dy) (fun m e H hi=> ?_) (m:=xs.length) ?_
 rotate_left
 ·refine⟨0,Nat.zero_le _,rfl,rfl, ?_, ?_, ?_,rfl⟩<;>(first|rfl|(simp (maxSteps:=10000000) (disch:=first|exact bk rfl|omega|(simp only [ln];omega)|(simp only [go_sem];done)|decide) only [go_sem,Nat.reduceAdd,Nat.reduceMul,Nat.reduceEqDiff,Nat.reduceLT,Nat.reduceLeDiff,reduceIte]<;>rfl))
 obtain⟨n,hn1,rfl,hdm,g0,g1,gi,hs⟩:=hi
 obtain⟨t,dm⟩:=e
 dsimp only at hdm g0 g1 gi
 subst hdm
 refine semC_run 200 ?_
 rw [h59_1]
 by_cases hlt:n<xs.length
 ·have hlt':n<ys.length:=by omega
  have e2:((n:Int)<(xs.length:Int))=True:=by simp;omega
  rw [sameL_at hlt hlt'] at hs
  cases hq:eqPost xs[n] ys[n] with
  | false=>
   (try simp (maxSteps:=10000000) (disch:=first|exact bk rfl|omega|(simp only [ln];omega)|(simp only [go_sem];done)|decide) only [go_sem,Nat.reduceAdd,Nat.reduceMul,Nat.reduceEqDiff,Nat.reduceLT,Nat.reduceLeDiff,reduceIte,h59,r59,h59_0,h59_1,g0,g1,gi,e2,len_sl hx un43,idx_sl hx un43 in83 ce83 hlt,idx_sl hy un43 in83 ce83 hlt',rows_take ePost_len hlt,rows_take ePost_len hlt',neqPost,hq]);repeat' first|((with_reducible first|apply gJoin_split|apply cond_split|apply gJoinD_split)<;>intro h<;>(try simp only [spl] at h)<;>try simp (maxSteps:=10000000) (disch:=first|exact bk rfl|omega|(simp only [ln];omega)|(simp only [go_sem];done)|decide) only [go_sem,Nat.reduceAdd,Nat.reduceMul,Nat.reduceEqDiff,Nat.reduceLT,Nat.reduceLeDiff,reduceIte,h59,r59,h59_0,h59_1,g0,g1,gi,e2,len_sl hx un43,idx_sl hx un43 in83 ce83 hlt,idx_sl hy un43 in83 ce83 hlt',rows_take ePost_len hlt,rows_take ePost_len hlt',neqPost,hq,h])
   exact endQ_fro (.bool _) (by rw [hs,hq];rfl)
  | true=>
   (try simp (maxSteps:=10000000) (disch:=first|exact bk rfl|omega|(simp only [ln];omega)|(simp only [go_sem];done)|decide) only [go_sem,Nat.reduceAdd,Nat.reduceMul,Nat.reduceEqDiff,Nat.reduceLT,Nat.reduceLeDiff,reduceIte,h59,r59,h59_0,h59_1,g0,g1,gi,e2,len_sl hx un43,idx_sl hx un43 in83 ce83 hlt,idx_sl hy un43 in83 ce83 hlt',rows_take ePost_len hlt,rows_take ePost_len hlt',neqPost,hq]);repeat' first|((with_reducible first|apply gJoin_split|apply cond_split|apply gJoinD_split)<;>intro h<;>(try simp only [spl] at h)<;>try simp (maxSteps:=10000000) (disch:=first|exact bk rfl|omega|(simp only [ln];omega)|(simp only [go_sem];done)|decide) only [go_sem,Nat.reduceAdd,Nat.reduceMul,Nat.reduceEqDiff,Nat.reduceLT,Nat.reduceLeDiff,reduceIte,h59,r59,h59_0,h59_1,g0,g1,gi,e2,len_sl hx un43,idx_sl hx un43 in83 ce83 hlt,idx_sl hy un43 in83 ce83 hlt',rows_take ePost_len hlt,rows_take ePost_len hlt',neqPost,hq,h])
   refine again_mk (m':=xs.length - (n+1)) (by omega) ⟨n+1,hlt,rfl,rfl, ?_, ?_, ?_,by rw [hs,hq];rfl⟩<;>(first|rfl|(simp (maxSteps:=10000000) (disch:=first|exact bk rfl|omega|(simp only [ln];omega)|(simp only [go_sem];done)|decide) only [go_sem,Nat.reduceAdd,Nat.reduceMul,Nat.reduceEqDiff,Nat.reduceLT,Nat.reduceLeDiff,reduceIte,g0,g1,gi]<;>rfl))
 ·have e2:((n:Int)<(xs.length:Int))=False:=by simp;omega
  (try simp (maxSteps:=10000000) (disch:=first|exact bk rfl|omega|(simp only [ln];omega)|(simp only [go_sem];done)|decide) only [go_sem,Nat.reduceAdd,Nat.reduceMul,Nat.reduceEqDiff,Nat.reduceLT,Nat.reduceLeDiff,reduceIte,h59,r59,h59_0,h59_1,g0,g1,gi,e2,len_sl hx un43]);repeat' first|((with_reducible first|apply gJoin_split|apply cond_split|apply gJoinD_split)<;>intro h<;>(try simp only [spl] at h)<;>try simp (maxSteps:=10000000) (disch:=first|exact bk rfl|omega|(simp only [ln];omega)|(simp only [go_sem];done)|decide) only [go_sem,Nat.reduceAdd,Nat.reduceMul,Nat.reduceEqDiff,Nat.reduceLT,Nat.reduceLeDiff,reduceIte,h59,r59,h59_0,h59_1,g0,g1,gi,e2,len_sl hx un43,h])
  exact endQ_fro (.bool _) (by rw [hs,sameL_end (by omega) (by omega)])
end Go.S9
namespace Go.S9
open Go.Ev Go.Proofs
set_option maxRecDepth 100000
set_option linter.unusedVariables false
set_option linter.unusedSimpArgs false
variable {K : Int} {H : Hp} {k : AV → Bool}
structure RdOK (x:Reading):Prop where
 r:Sl 2 eRead x.reads x.dr
 rl:x.reads.length≤9223372036854775807
 t:Sl 1 eInt x.times x.dt
 tl:x.times.length≤9223372036854775807
 rr:∀y∈x.reads,inR y.mark∧inR y.station
 tr:∀y∈x.times,inR y
structure PfOK (x:Proof):Prop where
 s:Sl 3 eRaise x.raises x.d
 l:x.raises.length≤9223372036854775807
def eqReading (a b:Reading):Bool:=sameL eqRead a.reads b.reads&&sameL eqI a.times b.times
def eqProof (a b:Proof):Bool:=sameL eqRaise a.raises b.raises
theorem same49_c {x y:Reading} (hx:RdOK x) (hy:RdOK y):CQ P (G K) 49 [.agg (eReading x), .agg (eReading y)] (·= .bool (eqReading x y)):=by
 refine CQ.enter (hG K) ?_
 (try simp (disch:=first|exact bk rfl|omega|(simp only [ln];omega)|(simp only [go_sem];done)|decide) only [go_sem,Nat.reduceAdd,Nat.reduceMul,Nat.reduceEqDiff,Nat.reduceLT,Nat.reduceLeDiff,reduceIte,eReading,h49,r49,h49_0,h49_1, *]);repeat' first|((with_reducible first|apply gJoin_split|apply cond_split|apply gJoinD_split)<;>intro h<;>(try simp only [spl] at h)<;>try simp (disch:=first|exact bk rfl|omega|(simp only [ln];omega)|(simp only [go_sem];done)|decide) only [go_sem,Nat.reduceAdd,Nat.reduceMul,Nat.reduceEqDiff,Nat.reduceLT,Nat.reduceLeDiff,reduceIte,eReading,h49,r49,h49_0,h49_1, *])|((with_reducible refine cl_guard ?_;first|refine cl_eq (hG K) _ (same50_c hx.r hy.r hx.rl hy.rl) rfl ?_|refine cl_eq (hG K) _ (same51_c hx.t hy.t hx.tl hy.tl) rfl ?_)<;>try simp (disch:=first|exact bk rfl|omega|(simp only [ln];omega)|(simp only [go_sem];done)|decide) only [go_sem,Nat.reduceAdd,Nat.reduceMul,Nat.reduceEqDiff,Nat.reduceLT,Nat.reduceLeDiff,reduceIte,eReading,h49,r49,h49_0,h49_1, *])
 all_goals (refine endQ_fro (.bool _) ?_;first | (simp [eqReading, *];done)| (congr 1;rw [Bool.eq_iff_iff];simp [eqReading, *];omega)| (congr 1;rw [Bool.eq_iff_iff];simp [eqReading];omega)| (simp [eqReading, *]<;>omega))
theorem same56_c {x y:Reading} (hx:RdOK x) (hy:RdOK y):CQ P (G K) 56 [.agg (eReading x), .agg (eReading y)] (·= .bool (eqReading x y)):=by
 refine CQ.enter (hG K) ?_
 (try simp (disch:=first|exact bk rfl|omega|(simp only [ln];omega)|(simp only [go_sem];done)|decide) only [go_sem,Nat.reduceAdd,Nat.reduceMul,Nat.reduceEqDiff,Nat.reduceLT,Nat.reduceLeDiff,reduceIte,eReading,h56,r56,h56_0,h56_1, *]);repeat' first|((with_reducible first|apply gJoin_split|apply cond_split|apply gJoinD_split)<;>intro h<;>(try simp only [spl] at h)<;>try simp (disch:=first|exact bk rfl|omega|(simp only [ln];omega)|(simp only [go_sem];done)|decide) only [go_sem,Nat.reduceAdd,Nat.reduceMul,Nat.reduceEqDiff,Nat.reduceLT,Nat.reduceLeDiff,reduceIte,eReading,h56,r56,h56_0,h56_1, *])|((with_reducible refine cl_guard ?_;first|refine cl_eq (hG K) _ (same84_c hx.r hy.r hx.rl hy.rl) rfl ?_|refine cl_eq (hG K) _ (same58_c hx.t hy.t hx.tl hy.tl) rfl ?_)<;>try simp (disch:=first|exact bk rfl|omega|(simp only [ln];omega)|(simp only [go_sem];done)|decide) only [go_sem,Nat.reduceAdd,Nat.reduceMul,Nat.reduceEqDiff,Nat.reduceLT,Nat.reduceLeDiff,reduceIte,eReading,h56,r56,h56_0,h56_1, *])
 all_goals (refine endQ_fro (.bool _) ?_;first | (simp [eqReading, *];done)| (congr 1;rw [Bool.eq_iff_iff];simp [eqReading, *];omega)| (congr 1;rw [Bool.eq_iff_iff];simp [eqReading];omega)| (simp [eqReading, *]<;>omega))
theorem cells72 (x:Reading):AV.cells (.agg (ofDs (eReading x)))=ofDs (eReading x):=rfl
theorem one72 {x:Reading} (hx:RdOK x):∃a b,ofDs (eReading x)=[a,b]∧one a=true∧one b=true:=by
 refine⟨_,_,rfl, ?_, ?_⟩
 ·rcases hx.r with⟨h,_⟩| h<;>rw [h]<;>rfl
 ·rcases hx.t with⟨h,_⟩| h<;>rw [h]<;>rfl
def I53 (xs ys:List Reading) (dx dy:D) (m:Nat) (e:En) (H:Hp):Prop:=∃n,n≤xs.length∧m=xs.length - n∧e.dm=[]∧E2.get e.t 15=ofD dx∧E2.get e.t 1=ofD dy∧E2.get e.t 2= .fn 49 [] []∧E2.get e.t 17= .int .i64 (n:Int)∧E2.get e.t 16= .int .i64 (xs.length:Int)∧sameL eqReading xs ys=sameL eqReading (xs.drop n) (ys.drop n)
theorem same53_c {xs ys:List Reading} {dx dy:D} (hx:Sl 2 eReading xs dx) (hy:Sl 2 eReading ys dy) (ox:∀x∈xs,RdOK x) (oy:∀y∈ys,RdOK y) (hl:xs.length≤9223372036854775807) (hl':ys.length≤9223372036854775807):
  CQ P (G K) 53 [dx,dy, .fn 49 [] []] (·= .bool (sameL eqReading xs ys)):=by
 refine CQ.enter (hG K) ?_
 by_cases hn:xs.length=ys.length
 rotate_left
 ·have e1:((xs.length:Int)=(ys.length:Int))=False:=by simp;omega
  (try simp (disch:=first|exact bk rfl|omega|(simp only [ln];omega)|(simp only [go_sem];done)|decide) only [go_sem,Nat.reduceAdd,Nat.reduceMul,Nat.reduceEqDiff,Nat.reduceLT,Nat.reduceLeDiff,reduceIte,h53,r53,h53_0,h53_1,len_sl hx un44,len_sl hy un44,e1]);repeat' first|((with_reducible first|apply gJoin_split|apply cond_split|apply gJoinD_split)<;>intro h<;>(try simp only [spl] at h)<;>try simp (disch:=first|exact bk rfl|omega|(simp only [ln];omega)|(simp only [go_sem];done)|decide) only [go_sem,Nat.reduceAdd,Nat.reduceMul,Nat.reduceEqDiff,Nat.reduceLT,Nat.reduceLeDiff,reduceIte,h53,r53,h53_0,h53_1,len_sl hx un44,len_sl hy un44,e1,h])
  exact endQ_fro (.bool _) (by rw [sameL_ne hn])
 have e1:((xs.length:Int)=(ys.length:Int))=True:=by simp;omega
 (try simp (disch:=first|exact bk rfl|omega|(simp only [ln];omega)|(simp only [go_sem];done)|decide) only [go_sem,Nat.reduceAdd,Nat.reduceMul,Nat.reduceEqDiff,Nat.reduceLT,Nat.reduceLeDiff,reduceIte,h53,r53,len_sl hx un44,len_sl hy un44,e1]);repeat' first|((with_reducible first|apply gJoin_split|apply cond_split|apply gJoinD_split)<;>intro h<;>(try simp only [spl] at h)<;>try simp (disch:=first|exact bk rfl|omega|(simp only [ln];omega)|(simp only [go_sem];done)|decide) only [go_sem,Nat.reduceAdd,Nat.reduceMul,Nat.reduceEqDiff,Nat.reduceLT,Nat.reduceLeDiff,reduceIte,h53,r53,len_sl hx un44,len_sl hy un44,e1,h])
 refine loop_rule (I53 xs ys dx dy) (fun m e H hi=> ?_) (m:=xs.length) ?_
 rotate_left
 ·refine⟨0,Nat.zero_le _,rfl,rfl, ?_, ?_, ?_, ?_, ?_,rfl⟩<;>(first|rfl|(simp (disch:=first|exact bk rfl|omega|(simp only [ln];omega)|(simp only [go_sem];done)|decide) only [go_sem,Nat.reduceAdd,Nat.reduceMul,Nat.reduceEqDiff,Nat.reduceLT,Nat.reduceLeDiff,reduceIte]<;>rfl))
 obtain⟨n,hn1,rfl,hdm,g0,g1,g2,gi,gl,hs⟩:=hi
 obtain⟨t,dm⟩:=e
 dsimp only at hdm g0 g1 g2 gi gl
 subst hdm
 refine semC_run 200 ?_
 rw [h53_1]
 by_cases hlt:n<xs.length
 ·have hlt':n<ys.length:=by omega
  have e2:((n:Int)<(xs.length:Int))=True:=by simp;omega
  have o1:=ox _ (List.getElem_mem hlt)
  have o2:=oy _ (List.getElem_mem hlt')
  obtain⟨a,b,c1,c2,c3⟩:=one72 o1
  obtain⟨a',b',c1',c2',c3'⟩:=one72 o2
  have z1:(H.nx=H.nx+1)=False:=by simp
  have n1:isNoEsc P 49=false:=by kernel_rfl
  have n2:enters P 49=true:=by kernel_rfl
  rw [sameL_at hlt hlt'] at hs
  (try simp (disch:=first|exact bk rfl|omega|(simp only [ln];omega)|(simp only [go_sem];done)|decide) only [go_sem,Nat.reduceAdd,Nat.reduceMul,Nat.reduceEqDiff,Nat.reduceLT,Nat.reduceLeDiff,reduceIte,g0,g1,g2,gi,gl,e2,len_sl hx un44,idx_sl hx un44 in72 ce72 hlt,idx_sl hy un44 in72 ce72 hlt',rows_take eReading_len hlt,rows_take eReading_len hlt',c1,c2,c3,c1',c2',c3',z1,clv_fn n1 n2,List.nil_append,List.append_nil]);repeat' first|((with_reducible first|apply gJoin_split|apply cond_split|apply gJoinD_split)<;>intro h<;>(try simp only [spl] at h)<;>try simp (disch:=first|exact bk rfl|omega|(simp only [ln];omega)|(simp only [go_sem];done)|decide) only [go_sem,Nat.reduceAdd,Nat.reduceMul,Nat.reduceEqDiff,Nat.reduceLT,Nat.reduceLeDiff,reduceIte,g0,g1,g2,gi,gl,e2,len_sl hx un44,idx_sl hx un44 in72 ce72 hlt,idx_sl hy un44 in72 ce72 hlt',rows_take eReading_len hlt,rows_take eReading_len hlt',c1,c2,c3,c1',c2',c3',z1,clv_fn n1 n2,List.nil_append,List.append_nil,h])
  rw [←c1,←c1']
  refine cl_eq (hG K) [.agg (eReading xs[n]), .agg (eReading ys[n])] (same49_c o1 o2) rfl ?_
  cases hq:eqReading xs[n] ys[n] with
  | false=>
   (try simp (disch:=first|exact bk rfl|omega|(simp only [ln];omega)|(simp only [go_sem];done)|decide) only [go_sem,Nat.reduceAdd,Nat.reduceMul,Nat.reduceEqDiff,Nat.reduceLT,Nat.reduceLeDiff,reduceIte,h53,r53,h53_0,h53_1]);repeat' first|((with_reducible first|apply gJoin_split|apply cond_split|apply gJoinD_split)<;>intro h<;>(try simp only [spl] at h)<;>try simp (disch:=first|exact bk rfl|omega|(simp only [ln];omega)|(simp only [go_sem];done)|decide) only [go_sem,Nat.reduceAdd,Nat.reduceMul,Nat.reduceEqDiff,Nat.reduceLT,Nat.reduceLeDiff,reduceIte,h53,r53,h53_0,h53_1,h])
   exact endQ_fro (.bool _) (by rw [hs,hq];rfl)
  | true=>
   (try simp (disch:=first|exact bk rfl|omega|(simp only [ln];omega)|(simp only [go_sem];done)|decide) only [go_sem,Nat.reduceAdd,Nat.reduceMul,Nat.reduceEqDiff,Nat.reduceLT,Nat.reduceLeDiff,reduceIte,h53,r53,h53_0,h53_1,gi]);repeat' first|((with_reducible first|apply gJoin_split|apply cond_split|apply gJoinD_split)<;>intro h<;>(try simp only [spl] at h)<;>try simp (disch:=first|exact bk rfl|omega|(simp only [ln];omega)|(simp only [go_sem];done)|decide) only [go_sem,Nat.reduceAdd,Nat.reduceMul,Nat.reduceEqDiff,Nat.reduceLT,Nat.reduceLeDiff,reduceIte,h53,r53,h53_0,h53_1,gi,h])
   refine again_mk (m':=xs.length - (n+1)) (by omega) ⟨n+1,hlt,rfl,rfl, ?_, ?_, ?_, ?_, ?_,by rw [hs,hq];rfl⟩<;>(first|rfl|(simp (disch:=first|exact bk rfl|omega|(simp only [ln];omega)|(simp only [go_sem];done)|decide) only [go_sem,Nat.reduceAdd,Nat.reduceMul,Nat.reduceEqDiff,Nat.reduceLT,Nat.reduceLeDiff,reduceIte,g0,g1,g2,gi,gl]<;>rfl))
 ·have e2:((n:Int)<(xs.length:Int))=False:=by simp;omega
  (try simp (disch:=first|exact bk rfl|omega|(simp only [ln];omega)|(simp only [go_sem];done)|decide) only [go_sem,Nat.reduceAdd,Nat.reduceMul,Nat.reduceEqDiff,Nat.reduceLT,Nat.reduceLeDiff,reduceIte,h53,r53,h53_0,h53_1,g0,g1,g2,gi,gl,e2,len_sl hx un44]);repeat' first|((with_reducible first|apply gJoin_split|apply cond_split|apply gJoinD_split)<;>intro h<;>(try simp only [spl] at h)<;>try simp (disch:=first|exact bk rfl|omega|(simp only [ln];omega)|(simp only [go_sem];done)|decide) only [go_sem,Nat.reduceAdd,Nat.reduceMul,Nat.reduceEqDiff,Nat.reduceLT,Nat.reduceLeDiff,reduceIte,h53,r53,h53_0,h53_1,g0,g1,g2,gi,gl,e2,len_sl hx un44,h])
  exact endQ_fro (.bool _) (by rw [hs,sameL_end (by omega) (by omega)])
def I54 (xs ys:List Proof) (dx dy:D) (m:Nat) (e:En) (H:Hp):Prop:=∃n,n≤xs.length∧m=xs.length - n∧e.dm=[]∧E2.get e.t 15=ofD dx∧E2.get e.t 1=ofD dy∧E2.get e.t 2= .fn 55 [] []∧E2.get e.t 17= .int .i64 (n:Int)∧E2.get e.t 16= .int .i64 (xs.length:Int)∧sameL eqProof xs ys=sameL eqProof (xs.drop n) (ys.drop n)
theorem same54_c {xs ys:List Proof} {dx dy:D} (hx:Sl 1 eProof xs dx) (hy:Sl 1 eProof ys dy) (ox:∀x∈xs,PfOK x) (oy:∀y∈ys,PfOK y) (hl:xs.length≤9223372036854775807) (hl':ys.length≤9223372036854775807):
  CQ P (G K) 54 [dx,dy, .fn 55 [] []] (·= .bool (sameL eqProof xs ys)):=by
 refine CQ.enter (hG K) ?_
 by_cases hn:xs.length=ys.length
 rotate_left
 ·have e1:((xs.length:Int)=(ys.length:Int))=False:=by simp;omega
  (try simp (disch:=first|exact bk rfl|omega|(simp only [ln];omega)|(simp only [go_sem];done)|decide) only [go_sem,Nat.reduceAdd,Nat.reduceMul,Nat.reduceEqDiff,Nat.reduceLT,Nat.reduceLeDiff,reduceIte,h54,r54,h54_0,h54_1,len_sl hx un45,len_sl hy un45,e1]);repeat' first|((with_reducible first|apply gJoin_split|apply cond_split|apply gJoinD_split)<;>intro h<;>(try simp only [spl] at h)<;>try simp (disch:=first|exact bk rfl|omega|(simp only [ln];omega)|(simp only [go_sem];done)|decide) only [go_sem,Nat.reduceAdd,Nat.reduceMul,Nat.reduceEqDiff,Nat.reduceLT,Nat.reduceLeDiff,reduceIte,h54,r54,h54_0,h54_1,len_sl hx un45,len_sl hy un45,e1,h])
  exact endQ_fro (.bool _) (by rw [sameL_ne hn])
 have e1:((xs.length:Int)=(ys.length:Int))=True:=by simp;omega
 (try simp (disch:=first|exact bk rfl|omega|(simp only [ln];omega)|(simp only [go_sem];done)|decide) only [go_sem,Nat.reduceAdd,Nat.reduceMul,Nat.reduceEqDiff,Nat.reduceLT,Nat.reduceLeDiff,reduceIte,h54,r54,len_sl hx un45,len_sl hy un45,e1]);repeat' first|((with_reducible first|apply gJoin_split|apply cond_split|apply gJoinD_split)<;>intro h<;>(try simp only [spl] at h)<;>try simp (disch:=first|exact bk rfl|omega|(simp only [ln];omega)|(simp only [go_sem];done)|decide) only [go_sem,Nat.reduceAdd,Nat.reduceMul,Nat.reduceEqDiff,Nat.reduceLT,Nat.reduceLeDiff,reduceIte,h54,r54,len_sl hx un45,len_sl hy un45,e1,h])
 refine loop_rule (I54 xs ys dx dy) (fun m e H hi=> ?_) (m:=xs.length) ?_
 rotate_left
 ·refine⟨0,Nat.zero_le _,rfl,rfl, ?_, ?_, ?_, ?_, ?_,rfl⟩<;>(first|rfl|(simp (disch:=first|exact bk rfl|omega|(simp only [ln];omega)|(simp only [go_sem];done)|decide) only [go_sem,Nat.reduceAdd,Nat.reduceMul,Nat.reduceEqDiff,Nat.reduceLT,Nat.reduceLeDiff,reduceIte]<;>rfl))
 obtain⟨n,hn1,rfl,hdm,g0,g1,g2,gi,gl,hs⟩:=hi
 obtain⟨t,dm⟩:=e
 dsimp only at hdm g0 g1 g2 gi gl
 subst hdm
 refine semC_run 200 ?_
 rw [h54_1]
 by_cases hlt:n<xs.length
 ·have hlt':n<ys.length:=by omega
  have e2:((n:Int)<(xs.length:Int))=True:=by simp;omega
  have o1:=ox _ (List.getElem_mem hlt)
  have o2:=oy _ (List.getElem_mem hlt')
  have n1:isNoEsc P 55=false:=by kernel_rfl
  have n2:enters P 55=true:=by kernel_rfl
  rw [sameL_at hlt hlt'] at hs
  (try simp (disch:=first|exact bk rfl|omega|(simp only [ln];omega)|(simp only [go_sem];done)|decide) only [go_sem,Nat.reduceAdd,Nat.reduceMul,Nat.reduceEqDiff,Nat.reduceLT,Nat.reduceLeDiff,reduceIte,g0,g1,g2,gi,gl,e2,len_sl hx un45,idx_sl hx un45 in91 ce91 hlt,idx_sl hy un45 in91 ce91 hlt',rows_get0 eProof_len hlt (by decide:0<1),rows_get0 eProof_len hlt' (by decide:0<1),eProof,clv_fn n1 n2,List.nil_append,List.append_nil]);repeat' first|((with_reducible first|apply gJoin_split|apply cond_split|apply gJoinD_split)<;>intro h<;>(try simp only [spl] at h)<;>try simp (disch:=first|exact bk rfl|omega|(simp only [ln];omega)|(simp only [go_sem];done)|decide) only [go_sem,Nat.reduceAdd,Nat.reduceMul,Nat.reduceEqDiff,Nat.reduceLT,Nat.reduceLeDiff,reduceIte,g0,g1,g2,gi,gl,e2,len_sl hx un45,idx_sl hx un45 in91 ce91 hlt,idx_sl hy un45 in91 ce91 hlt',rows_get0 eProof_len hlt (by decide:0<1),rows_get0 eProof_len hlt' (by decide:0<1),eProof,clv_fn n1 n2,List.nil_append,List.append_nil,h])
  refine cl_eq (hG K) [xs[n].d,ys[n].d] (same55_c o1.s o2.s o1.l o2.l) rfl ?_
  cases hq:eqProof xs[n] ys[n] with
  | false=>
   have hq':sameL eqRaise xs[n].raises ys[n].raises=false:=hq
   (try simp (disch:=first|exact bk rfl|omega|(simp only [ln];omega)|(simp only [go_sem];done)|decide) only [go_sem,Nat.reduceAdd,Nat.reduceMul,Nat.reduceEqDiff,Nat.reduceLT,Nat.reduceLeDiff,reduceIte,h54,r54,h54_0,h54_1,hq']);repeat' first|((with_reducible first|apply gJoin_split|apply cond_split|apply gJoinD_split)<;>intro h<;>(try simp only [spl] at h)<;>try simp (disch:=first|exact bk rfl|omega|(simp only [ln];omega)|(simp only [go_sem];done)|decide) only [go_sem,Nat.reduceAdd,Nat.reduceMul,Nat.reduceEqDiff,Nat.reduceLT,Nat.reduceLeDiff,reduceIte,h54,r54,h54_0,h54_1,hq',h])
   exact endQ_fro (.bool _) (by rw [hs,hq];rfl)
  | true=>
   have hq':sameL eqRaise xs[n].raises ys[n].raises=true:=hq
   (try simp (disch:=first|exact bk rfl|omega|(simp only [ln];omega)|(simp only [go_sem];done)|decide) only [go_sem,Nat.reduceAdd,Nat.reduceMul,Nat.reduceEqDiff,Nat.reduceLT,Nat.reduceLeDiff,reduceIte,h54,r54,h54_0,h54_1,gi,hq']);repeat' first|((with_reducible first|apply gJoin_split|apply cond_split|apply gJoinD_split)<;>intro h<;>(try simp only [spl] at h)<;>try simp (disch:=first|exact bk rfl|omega|(simp only [ln];omega)|(simp only [go_sem];done)|decide) only [go_sem,Nat.reduceAdd,Nat.reduceMul,Nat.reduceEqDiff,Nat.reduceLT,Nat.reduceLeDiff,reduceIte,h54,r54,h54_0,h54_1,gi,hq',h])
   refine again_mk (m':=xs.length - (n+1)) (by omega) ⟨n+1,hlt,rfl,rfl, ?_, ?_, ?_, ?_, ?_,by rw [hs,hq];rfl⟩<;>(first|rfl|(simp (disch:=first|exact bk rfl|omega|(simp only [ln];omega)|(simp only [go_sem];done)|decide) only [go_sem,Nat.reduceAdd,Nat.reduceMul,Nat.reduceEqDiff,Nat.reduceLT,Nat.reduceLeDiff,reduceIte,g0,g1,g2,gi,gl]<;>rfl))
 ·have e2:((n:Int)<(xs.length:Int))=False:=by simp;omega
  (try simp (disch:=first|exact bk rfl|omega|(simp only [ln];omega)|(simp only [go_sem];done)|decide) only [go_sem,Nat.reduceAdd,Nat.reduceMul,Nat.reduceEqDiff,Nat.reduceLT,Nat.reduceLeDiff,reduceIte,h54,r54,h54_0,h54_1,g0,g1,g2,gi,gl,e2,len_sl hx un45]);repeat' first|((with_reducible first|apply gJoin_split|apply cond_split|apply gJoinD_split)<;>intro h<;>(try simp only [spl] at h)<;>try simp (disch:=first|exact bk rfl|omega|(simp only [ln];omega)|(simp only [go_sem];done)|decide) only [go_sem,Nat.reduceAdd,Nat.reduceMul,Nat.reduceEqDiff,Nat.reduceLT,Nat.reduceLeDiff,reduceIte,h54,r54,h54_0,h54_1,g0,g1,g2,gi,gl,e2,len_sl hx un45,h])
  exact endQ_fro (.bool _) (by rw [hs,sameL_end (by omega) (by omega)])
end Go.S9
namespace Go.S9
open Go.Ev Go.Proofs
set_option maxRecDepth 100000
set_option linter.unusedVariables false
set_option linter.unusedSimpArgs false
variable {K : Int} {H : Hp} {k : AV → Bool}
structure ReplyOK (r:Reply):Prop where
 e0:inR r.errno
 e1:inR r.j0
 e2:inR r.j1
 e3:inR r.j2
 e4:inR r.j3
 e5:inR r.j4
 e6:inR r.j5
 e7:inR r.lo
 e8:inR r.hi
 e9:inR r.pence
 l:Sl 1 eInt r.list r.dl
 ll:r.list.length≤9223372036854775807
 lr:∀y∈r.list,inR y
 p:Sl 5 ePost r.postings r.dp
 pl:r.postings.length≤9223372036854775807
 g:Sl 2 eReading r.readings r.dg
 gl:r.readings.length≤9223372036854775807
 go:∀y∈r.readings,RdOK y
 f:Sl 1 eProof r.proofs r.df
 fl:r.proofs.length≤9223372036854775807
 fo:∀y∈r.proofs,PfOK y
theorem avs_of {α:Type} {sz:Nat} {enc:α→List D} {xs:List α} {d:D} (h:Sl sz enc xs d) (n:Nat):avSame (n+1) (ofD d) (ofD d)=true:=by
 rcases h with⟨rfl,rfl⟩| rfl
 ·rfl
 ·exact avs_dat n _
theorem eqbool (nc:Bool) (a b:Bool):binK P .eql 4 nc (.bool a) (.bool b) k=k (.bool (a==b)):=by cases nc<;>cases a<;>cases b<;>kernel_rfl
theorem neqbool (nc:Bool) (a b:Bool):binK P .neq 4 nc (.bool a) (.bool b) k=k (.bool (!(a==b))):=by cases nc<;>cases a<;>cases b<;>kernel_rfl
def eq6 (a0 a1 a2 a3 a4 a5 b0 b1 b2 b3 b4 b5:Int):Bool:=decide (a0=b0)&&(decide (a1=b1)&&(decide (a2=b2)&&(decide (a3=b3)&&(decide (a4=b4)&&decide (a5=b5)))))
def eq2 (a0 a1 b0 b1:Int):Bool:=decide (a0=b0)&&decide (a1=b1)
theorem eql41' (a0 a1 a2 a3 a4 a5 b0 b1 b2 b3 b4 b5:Int):binK P .eql 41 false (.agg [.int .i64 a0, .int .i64 a1, .int .i64 a2, .int .i64 a3, .int .i64 a4, .int .i64 a5]) (.agg [.int .i64 b0, .int .i64 b1, .int .i64 b2, .int .i64 b3, .int .i64 b4, .int .i64 b5]) k=(match scEqs [.i, .i, .i, .i, .i, .i] [.int .i64 a0, .int .i64 a1, .int .i64 a2, .int .i64 a3, .int .i64 a4, .int .i64 a5] [.int .i64 b0, .int .i64 b1, .int .i64 b2, .int .i64 b3, .int .i64 b4, .int .i64 b5] with | some r=>forceB r fun r=>k (.bool r)| none=>false):=by kernel_rfl
theorem neq41' (a0 a1 a2 a3 a4 a5 b0 b1 b2 b3 b4 b5:Int):binK P .neq 41 false (.agg [.int .i64 a0, .int .i64 a1, .int .i64 a2, .int .i64 a3, .int .i64 a4, .int .i64 a5]) (.agg [.int .i64 b0, .int .i64 b1, .int .i64 b2, .int .i64 b3, .int .i64 b4, .int .i64 b5]) k=(match scEqs [.i, .i, .i, .i, .i, .i] [.int .i64 a0, .int .i64 a1, .int .i64 a2, .int .i64 a3, .int .i64 a4, .int .i64 a5] [.int .i64 b0, .int .i64 b1, .int .i64 b2, .int .i64 b3, .int .i64 b4, .int .i64 b5] with | some r=>forceB (!r) fun r=>k (.bool r)| none=>false):=by kernel_rfl
theorem scEqs6 (a0 a1 a2 a3 a4 a5 b0 b1 b2 b3 b4 b5:Int):scEqs [.i, .i, .i, .i, .i, .i] [.int .i64 a0, .int .i64 a1, .int .i64 a2, .int .i64 a3, .int .i64 a4, .int .i64 a5] [.int .i64 b0, .int .i64 b1, .int .i64 b2, .int .i64 b3, .int .i64 b4, .int .i64 b5]=some (eq6 a0 a1 a2 a3 a4 a5 b0 b1 b2 b3 b4 b5):=by
 simp only [scEqs,scEq,Nat.beq_refl,ieq_r,Bool.and_true];rfl
theorem eql41 (a0 a1 a2 a3 a4 a5 b0 b1 b2 b3 b4 b5:Int):binK P .eql 41 false (.agg [.int .i64 a0, .int .i64 a1, .int .i64 a2, .int .i64 a3, .int .i64 a4, .int .i64 a5]) (.agg [.int .i64 b0, .int .i64 b1, .int .i64 b2, .int .i64 b3, .int .i64 b4, .int .i64 b5]) k=k (.bool (eq6 a0 a1 a2 a3 a4 a5 b0 b1 b2 b3 b4 b5)):=by
 rw [eql41',scEqs6];exact forceB_eq _ _
theorem neq41 (a0 a1 a2 a3 a4 a5 b0 b1 b2 b3 b4 b5:Int):binK P .neq 41 false (.agg [.int .i64 a0, .int .i64 a1, .int .i64 a2, .int .i64 a3, .int .i64 a4, .int .i64 a5]) (.agg [.int .i64 b0, .int .i64 b1, .int .i64 b2, .int .i64 b3, .int .i64 b4, .int .i64 b5]) k=k (.bool (!eq6 a0 a1 a2 a3 a4 a5 b0 b1 b2 b3 b4 b5)):=by
 rw [neq41',scEqs6];exact forceB_eq _ _
theorem eql23' (a0 a1 b0 b1:Int):binK P .eql 23 false (.agg [.int .i64 a0, .int .i64 a1]) (.agg [.int .i64 b0, .int .i64 b1]) k=(match scEqs [.i, .i] [.int .i64 a0, .int .i64 a1] [.int .i64 b0, .int .i64 b1] with | some r=>forceB r fun r=>k (.bool r)| none=>false):=by kernel_rfl
theorem neq23' (a0 a1 b0 b1:Int):binK P .neq 23 false (.agg [.int .i64 a0, .int .i64 a1]) (.agg [.int .i64 b0, .int .i64 b1]) k=(match scEqs [.i, .i] [.int .i64 a0, .int .i64 a1] [.int .i64 b0, .int .i64 b1] with | some r=>forceB (!r) fun r=>k (.bool r)| none=>false):=by kernel_rfl
theorem scEqs2 (a0 a1 b0 b1:Int):scEqs [.i, .i] [.int .i64 a0, .int .i64 a1] [.int .i64 b0, .int .i64 b1]=some (eq2 a0 a1 b0 b1):=by
 simp only [scEqs,scEq,Nat.beq_refl,ieq_r,Bool.and_true];rfl
theorem eql23 (a0 a1 b0 b1:Int):binK P .eql 23 false (.agg [.int .i64 a0, .int .i64 a1]) (.agg [.int .i64 b0, .int .i64 b1]) k=k (.bool (eq2 a0 a1 b0 b1)):=by
 rw [eql23',scEqs2];exact forceB_eq _ _
theorem neq23 (a0 a1 b0 b1:Int):binK P .neq 23 false (.agg [.int .i64 a0, .int .i64 a1]) (.agg [.int .i64 b0, .int .i64 b1]) k=k (.bool (!eq2 a0 a1 b0 b1)):=by
 rw [neq23',scEqs2];exact forceB_eq _ _
def plainB (a b:Reply):Bool:=decide (a.errno=b.errno)&&(a.yes==b.yes)&&eq6 a.j0 a.j1 a.j2 a.j3 a.j4 a.j5 b.j0 b.j1 b.j2 b.j3 b.j4 b.j5&&eq2 a.lo a.hi b.lo b.hi&&decide (a.pence=b.pence)&&sameL eqI a.list b.list&&sameL eqPost a.postings b.postings
theorem plain52_c {a b:Reply} (ha:ReplyOK a) (hb:ReplyOK b):CQ P (G K) 52 [.agg (eReply a), .agg (eReply b)] (·= .bool (plainB a b)):=by
 refine CQ.enter (hG K) ?_
 (try simp (disch:=first|exact bk rfl|omega|(simp only [ln];omega)|(simp only [go_sem];done)|decide) only [go_sem,Nat.reduceAdd,Nat.reduceMul,Nat.reduceEqDiff,Nat.reduceLT,Nat.reduceLeDiff,reduceIte,eReply,h52,r52,h52_0,h52_1,eqbool,eql41,eql23, *]);repeat' first|((with_reducible first|apply gJoin_split|apply cond_split|apply gJoinD_split)<;>intro h<;>(try simp only [spl] at h)<;>try simp (disch:=first|exact bk rfl|omega|(simp only [ln];omega)|(simp only [go_sem];done)|decide) only [go_sem,Nat.reduceAdd,Nat.reduceMul,Nat.reduceEqDiff,Nat.reduceLT,Nat.reduceLeDiff,reduceIte,eReply,h52,r52,h52_0,h52_1,eqbool,eql41,eql23, *])|((with_reducible refine cl_guard ?_;first|refine cl_eq (hG K) _ (same51_c ha.l hb.l ha.ll hb.ll) rfl ?_|refine cl_eq (hG K) _ (same83_c ha.p hb.p ha.pl hb.pl) rfl ?_)<;>try simp (disch:=first|exact bk rfl|omega|(simp only [ln];omega)|(simp only [go_sem];done)|decide) only [go_sem,Nat.reduceAdd,Nat.reduceMul,Nat.reduceEqDiff,Nat.reduceLT,Nat.reduceLeDiff,reduceIte,eReply,h52,r52,h52_0,h52_1,eqbool,eql41,eql23, *])
 all_goals (refine endQ_fro (.bool _) ?_;first | (simp [plainB, *];done)| (congr 1;rw [Bool.eq_iff_iff];simp [plainB, *];omega)| (congr 1;rw [Bool.eq_iff_iff];simp [plainB];omega)| (simp [plainB, *]<;>omega))
def sameB (a b:Reply):Bool:=plainB a b&&sameL eqReading a.readings b.readings&&sameL eqProof a.proofs b.proofs
theorem same16_c {a b:Reply} (ha:ReplyOK a) (hb:ReplyOK b):CQ P (G K) 16 [.agg (eReply a), .agg (eReply b)] (·= .bool (sameB a b)):=by
 refine CQ.enter (hG K) ?_
 (try simp (disch:=first|exact bk rfl|omega|(simp only [ln];omega)|(simp only [go_sem];done)|decide) only [go_sem,Nat.reduceAdd,Nat.reduceMul,Nat.reduceEqDiff,Nat.reduceLT,Nat.reduceLeDiff,reduceIte,eReply,h16,r16,h16_0,h16_1, *]);repeat' first|((with_reducible first|apply gJoin_split|apply cond_split|apply gJoinD_split)<;>intro h<;>(try simp only [spl] at h)<;>try simp (disch:=first|exact bk rfl|omega|(simp only [ln];omega)|(simp only [go_sem];done)|decide) only [go_sem,Nat.reduceAdd,Nat.reduceMul,Nat.reduceEqDiff,Nat.reduceLT,Nat.reduceLeDiff,reduceIte,eReply,h16,r16,h16_0,h16_1, *])|((with_reducible refine cl_guard ?_;first|refine cl_eq (hG K) _ (plain52_c ha hb) rfl ?_|refine cl_eq (hG K) _ (same53_c ha.g hb.g ha.go hb.go ha.gl hb.gl) rfl ?_|refine cl_eq (hG K) _ (same54_c ha.f hb.f ha.fo hb.fo ha.fl hb.fl) rfl ?_)<;>try simp (disch:=first|exact bk rfl|omega|(simp only [ln];omega)|(simp only [go_sem];done)|decide) only [go_sem,Nat.reduceAdd,Nat.reduceMul,Nat.reduceEqDiff,Nat.reduceLT,Nat.reduceLeDiff,reduceIte,eReply,h16,r16,h16_0,h16_1, *])
 all_goals (refine endQ_fro (.bool _) ?_;first | (simp [sameB, *];done)| (congr 1;rw [Bool.eq_iff_iff];simp [sameB, *];omega)| (congr 1;rw [Bool.eq_iff_iff];simp [sameB];omega)| (simp [sameB, *]<;>omega))
end Go.S9
namespace Go.S9
open Go.Ev Go.Proofs
set_option maxRecDepth 100000
set_option linter.unusedVariables false
set_option linter.unusedSimpArgs false
variable {K : Int} {H : Hp} {k : AV → Bool}
theorem av_reading {x:Reading} (h:RdOK x) (n:Nat):avSame (n+4) (.agg (ofDs (eReading x))) (.agg (ofDs (eReading x)))=true:=by
 show avSames (n+3) [ofD x.dr,ofD x.dt] [ofD x.dr,ofD x.dt]=true
 rw [avs_cons,avs_cons,avs_nil,avs_of h.r,avs_of h.t]
 rfl
structure Bx (a b:Reply) (e:En) (H:Hp):Prop where
 dm:e.dm=[]
 g2:E2.get e.t 2= .ptr 0 0
 g3:E2.get e.t 3= .ptr 1 0
 h0:H.get 0=some (.cells (some 47) false (ofDs (eReply a)))
 h1:H.get 1=some (.cells (some 47) false (ofDs (eReply b)))
def I17 (a b:Reply) (m:Nat) (e:En) (H:Hp):Prop:=∃n,n≤a.readings.length∧m=a.readings.length - n∧Bx a b e H∧E2.get e.t 5= .int .i64 (n:Int)∧sameL eqReading a.readings b.readings=sameL eqReading (a.readings.drop n) (b.readings.drop n)
def J17 (a b:Reply) (m:Nat) (e:En) (H:Hp):Prop:=∃n,n≤a.proofs.length∧m=a.proofs.length - n∧Bx a b e H∧E2.get e.t 6= .int .i64 (n:Int)∧sameL eqProof a.proofs b.proofs=sameL eqProof (a.proofs.drop n) (b.proofs.drop n)
theorem tail17 {a b:Reply} (ha:ReplyOK a) (hb:ReplyOK b) {e:En} {H:Hp} (hx:Bx a b e H) {Q:D→Prop} {kk:AEx→En→Hp→Bool} (hk:∀t H,kk .ret ⟨t,[]⟩ H=endQ Q (.ret (E2.get t 4)) H)
  (hq:Q (.bool (sameL eqI a.list b.list&&sameL eqPost a.postings b.postings))):cd P (G K) 196 108 (subC 17 [1,1,1,1]) none e H kk=true:=by
 obtain⟨hdm,g2,g3,h0,h1⟩:=hx
 obtain⟨t,dm⟩:=e
 dsimp only at hdm g2 g3
 subst hdm
 (try simp (disch:=first|exact bk rfl|omega|(simp only [ln];omega)|(simp only [go_sem];done)|decide) only [go_sem,Nat.reduceAdd,Nat.reduceMul,Nat.reduceEqDiff,Nat.reduceLT,Nat.reduceLeDiff,reduceIte,eReply,h17_7,h17_8,h17_9,hk,g2,g3,h0,h1, *]);repeat' first|((with_reducible first|apply gJoin_split|apply cond_split|apply gJoinD_split)<;>intro h<;>(try simp only [spl] at h)<;>try simp (disch:=first|exact bk rfl|omega|(simp only [ln];omega)|(simp only [go_sem];done)|decide) only [go_sem,Nat.reduceAdd,Nat.reduceMul,Nat.reduceEqDiff,Nat.reduceLT,Nat.reduceLeDiff,reduceIte,eReply,h17_7,h17_8,h17_9,hk,g2,g3,h0,h1, *])|((with_reducible refine cl_guard ?_;first|refine cl_eq (hG K) _ (same58_c ha.l hb.l ha.ll hb.ll) rfl ?_|refine cl_eq (hG K) _ (same59_c ha.p hb.p ha.pl hb.pl) rfl ?_)<;>try simp (disch:=first|exact bk rfl|omega|(simp only [ln];omega)|(simp only [go_sem];done)|decide) only [go_sem,Nat.reduceAdd,Nat.reduceMul,Nat.reduceEqDiff,Nat.reduceLT,Nat.reduceLeDiff,reduceIte,eReply,h17_7,h17_8,h17_9,hk,g2,g3,h0,h1, *])
 all_goals (refine endQ_fro (.bool _) ?_;simpa [*] using hq)
theorem mid17 {a b:Reply} (ha:ReplyOK a) (hb:ReplyOK b) (hl:a.proofs.length=b.proofs.length) {e:En} {H:Hp} (hx:Bx a b e H) {Q:D→Prop} {kk:AEx→En→Hp→Bool} (hk:∀t H,kk .ret ⟨t,[]⟩ H=endQ Q (.ret (E2.get t 4)) H)
  (hq:Q (.bool (sameL eqProof a.proofs b.proofs&&(sameL eqI a.list b.list&&sameL eqPost a.postings b.postings)))):cd P (G K) 197 108 (subC 17 [1,1,1]) none e H kk=true:=by
 obtain⟨hdm,g2,g3,h0,h1⟩:=hx
 obtain⟨t,dm⟩:=e
 dsimp only at hdm g2 g3
 subst hdm
 simp (disch:=first|exact bk rfl|omega|(simp only [ln];omega)|(simp only [go_sem];done)|decide) only [go_sem,Nat.reduceAdd,Nat.reduceMul,Nat.reduceEqDiff,Nat.reduceLT,Nat.reduceLeDiff,reduceIte,h17_6]
 refine loop_rule (J17 a b) (fun m e H hi=> ?_) (m:=a.proofs.length) ?_
 rotate_left
 ·refine⟨0,Nat.zero_le _,rfl,⟨rfl, ?_, ?_,h0,h1⟩, ?_,rfl⟩<;>(first|rfl|(simp (disch:=first|exact bk rfl|omega|(simp only [ln];omega)|(simp only [go_sem];done)|decide) only [go_sem,Nat.reduceAdd,Nat.reduceMul,Nat.reduceEqDiff,Nat.reduceLT,Nat.reduceLeDiff,reduceIte,g2,g3]<;>rfl))
 obtain⟨n,hn1,rfl,hb2,gi,hs⟩:=hi
 have hb3:=hb2
 obtain⟨hdm,g2,g3,h0,h1⟩:=hb2
 obtain⟨t,dm⟩:=e
 dsimp only at hdm g2 g3 gi
 subst hdm
 refine semC_run 200 ?_
 rw [h17_3]
 by_cases hlt:n<a.proofs.length
 ·have hlt':n<b.proofs.length:=by omega
  have e2:((n:Int)<(a.proofs.length:Int))=True:=by simp;omega
  have hb4:=ha.fl
  have o1:=ha.fo _ (List.getElem_mem hlt)
  have o2:=hb.fo _ (List.getElem_mem hlt')
  rw [sameL_at hlt hlt'] at hs
  cases hq2:eqProof a.proofs[n] b.proofs[n] with
  | false=>
   have hq':sameL eqRaise a.proofs[n].raises b.proofs[n].raises=false:=hq2
   (try simp (disch:=first|exact bk rfl|omega|(simp only [ln];omega)|(simp only [go_sem];done)|decide) only [go_sem,Nat.reduceAdd,Nat.reduceMul,Nat.reduceEqDiff,Nat.reduceLT,Nat.reduceLeDiff,reduceIte,eReply,g2,g3,gi,h0,h1,e2,hk,hq',len_sl ha.f un45,idx_sl ha.f un45 in91 ce91 hlt,idx_sl hb.f un45 in91 ce91 hlt',rows_get0 eProof_len hlt (by decide:0<1),rows_get0 eProof_len hlt' (by decide:0<1),eProof,avs_of o1.s,avs_of o2.s,avs_of ha.f,avs_of hb.f]);repeat' first|((with_reducible first|apply gJoin_split|apply cond_split|apply gJoinD_split)<;>intro h<;>(try simp only [spl] at h)<;>try simp (disch:=first|exact bk rfl|omega|(simp only [ln];omega)|(simp only [go_sem];done)|decide) only [go_sem,Nat.reduceAdd,Nat.reduceMul,Nat.reduceEqDiff,Nat.reduceLT,Nat.reduceLeDiff,reduceIte,eReply,g2,g3,gi,h0,h1,e2,hk,hq',len_sl ha.f un45,idx_sl ha.f un45 in91 ce91 hlt,idx_sl hb.f un45 in91 ce91 hlt',rows_get0 eProof_len hlt (by decide:0<1),rows_get0 eProof_len hlt' (by decide:0<1),eProof,avs_of o1.s,avs_of o2.s,avs_of ha.f,avs_of hb.f,h])|((with_reducible refine cl_guard ?_;refine cl_eq (hG K) _ (same57_c o1.s o2.s o1.l o2.l) rfl ?_)<;>try simp (disch:=first|exact bk rfl|omega|(simp only [ln];omega)|(simp only [go_sem];done)|decide) only [go_sem,Nat.reduceAdd,Nat.reduceMul,Nat.reduceEqDiff,Nat.reduceLT,Nat.reduceLeDiff,reduceIte,eReply,g2,g3,gi,h0,h1,e2,hk,hq',len_sl ha.f un45,idx_sl ha.f un45 in91 ce91 hlt,idx_sl hb.f un45 in91 ce91 hlt',rows_get0 eProof_len hlt (by decide:0<1),rows_get0 eProof_len hlt' (by decide:0<1),eProof,avs_of o1.s,avs_of o2.s,avs_of ha.f,avs_of hb.f])
   refine endQ_fro (.bool _) ?_
   rw [hs,hq2] at hq
   exact hq
  | true=>
   have hq':sameL eqRaise a.proofs[n].raises b.proofs[n].raises=true:=hq2
   (try simp (disch:=first|exact bk rfl|omega|(simp only [ln];omega)|(simp only [go_sem];done)|decide) only [go_sem,Nat.reduceAdd,Nat.reduceMul,Nat.reduceEqDiff,Nat.reduceLT,Nat.reduceLeDiff,reduceIte,eReply,g2,g3,gi,h0,h1,e2,hk,hq',len_sl ha.f un45,idx_sl ha.f un45 in91 ce91 hlt,idx_sl hb.f un45 in91 ce91 hlt',rows_get0 eProof_len hlt (by decide:0<1),rows_get0 eProof_len hlt' (by decide:0<1),eProof,avs_of o1.s,avs_of o2.s,avs_of ha.f,avs_of hb.f]);repeat' first|((with_reducible first|apply gJoin_split|apply cond_split|apply gJoinD_split)<;>intro h<;>(try simp only [spl] at h)<;>try simp (disch:=first|exact bk rfl|omega|(simp only [ln];omega)|(simp only [go_sem];done)|decide) only [go_sem,Nat.reduceAdd,Nat.reduceMul,Nat.reduceEqDiff,Nat.reduceLT,Nat.reduceLeDiff,reduceIte,eReply,g2,g3,gi,h0,h1,e2,hk,hq',len_sl ha.f un45,idx_sl ha.f un45 in91 ce91 hlt,idx_sl hb.f un45 in91 ce91 hlt',rows_get0 eProof_len hlt (by decide:0<1),rows_get0 eProof_len hlt' (by decide:0<1),eProof,avs_of o1.s,avs_of o2.s,avs_of ha.f,avs_of hb.f,h])|((with_reducible refine cl_guard ?_;refine cl_eq (hG K) _ (same57_c o1.s o2.s o1.l o2.l) rfl ?_)<;>try simp (disch:=first|exact bk rfl|omega|(simp only [ln];omega)|(simp only [go_sem];done)|decide) only [go_sem,Nat.reduceAdd,Nat.reduceMul,Nat.reduceEqDiff,Nat.reduceLT,Nat.reduceLeDiff,reduceIte,eReply,g2,g3,gi,h0,h1,e2,hk,hq',len_sl ha.f un45,idx_sl ha.f un45 in91 ce91 hlt,idx_sl hb.f un45 in91 ce91 hlt',rows_get0 eProof_len hlt (by decide:0<1),rows_get0 eProof_len hlt' (by decide:0<1),eProof,avs_of o1.s,avs_of o2.s,avs_of ha.f,avs_of hb.f])
   refine again_mk (m':=a.proofs.length - (n+1)) (by omega) ⟨n+1,hlt,rfl,⟨rfl, ?_, ?_,h0,h1⟩, ?_,by rw [hs,hq2];rfl⟩<;>(first|rfl|(simp (disch:=first|exact bk rfl|omega|(simp only [ln];omega)|(simp only [go_sem];done)|decide) only [go_sem,Nat.reduceAdd,Nat.reduceMul,Nat.reduceEqDiff,Nat.reduceLT,Nat.reduceLeDiff,reduceIte,g2,g3,gi]<;>rfl))
 ·have e2:((n:Int)<(a.proofs.length:Int))=False:=by simp;omega
  (try simp (disch:=first|exact bk rfl|omega|(simp only [ln];omega)|(simp only [go_sem];done)|decide) only [go_sem,Nat.reduceAdd,Nat.reduceMul,Nat.reduceEqDiff,Nat.reduceLT,Nat.reduceLeDiff,reduceIte,eReply,g2,g3,gi,h0,h1,e2,len_sl ha.f un45]);repeat' first|((with_reducible first|apply gJoin_split|apply cond_split|apply gJoinD_split)<;>intro h<;>(try simp only [spl] at h)<;>try simp (disch:=first|exact bk rfl|omega|(simp only [ln];omega)|(simp only [go_sem];done)|decide) only [go_sem,Nat.reduceAdd,Nat.reduceMul,Nat.reduceEqDiff,Nat.reduceLT,Nat.reduceLeDiff,reduceIte,eReply,g2,g3,gi,h0,h1,e2,len_sl ha.f un45,h])
  refine tail17 ha hb ⟨rfl, ?_, ?_,h0,h1⟩ hk ?_
  ·first|rfl|(simp (disch:=first|exact bk rfl|omega|(simp only [ln];omega)|(simp only [go_sem];done)|decide) only [go_sem,Nat.reduceAdd,Nat.reduceMul,Nat.reduceEqDiff,Nat.reduceLT,Nat.reduceLeDiff,reduceIte,g2,g3]<;>rfl)
  ·first|rfl|(simp (disch:=first|exact bk rfl|omega|(simp only [ln];omega)|(simp only [go_sem];done)|decide) only [go_sem,Nat.reduceAdd,Nat.reduceMul,Nat.reduceEqDiff,Nat.reduceLT,Nat.reduceLeDiff,reduceIte,g2,g3]<;>rfl)
  ·rw [hs,sameL_end (by omega) (by omega)] at hq
   exact hq
theorem fst17 {a b:Reply} (ha:ReplyOK a) (hb:ReplyOK b) (hl0:a.readings.length=b.readings.length) (hl:a.proofs.length=b.proofs.length) {e:En} {H:Hp} (hx:Bx a b e H) {Q:D→Prop} {kk:AEx→En→Hp→Bool} (hk:∀t H,kk .ret ⟨t,[]⟩ H=endQ Q (.ret (E2.get t 4)) H)
  (hq:Q (.bool (sameL eqReading a.readings b.readings&&(sameL eqProof a.proofs b.proofs&&(sameL eqI a.list b.list&&sameL eqPost a.postings b.postings))))):cd P (G K) 198 108 (subC 17 [1,1]) none e H kk=true:=by
 obtain⟨hdm,g2,g3,h0,h1⟩:=hx
 obtain⟨t,dm⟩:=e
 dsimp only at hdm g2 g3
 subst hdm
 simp (disch:=first|exact bk rfl|omega|(simp only [ln];omega)|(simp only [go_sem];done)|decide) only [go_sem,Nat.reduceAdd,Nat.reduceMul,Nat.reduceEqDiff,Nat.reduceLT,Nat.reduceLeDiff,reduceIte,h17_1]
 refine loop_rule (I17 a b) (fun m e H hi=> ?_) (m:=a.readings.length) ?_
 rotate_left
 ·refine⟨0,Nat.zero_le _,rfl,⟨rfl, ?_, ?_,h0,h1⟩, ?_,rfl⟩<;>(first|rfl|(simp (disch:=first|exact bk rfl|omega|(simp only [ln];omega)|(simp only [go_sem];done)|decide) only [go_sem,Nat.reduceAdd,Nat.reduceMul,Nat.reduceEqDiff,Nat.reduceLT,Nat.reduceLeDiff,reduceIte,g2,g3]<;>rfl))
 obtain⟨n,hn1,rfl,hb2,gi,hs⟩:=hi
 obtain⟨hdm,g2,g3,h0,h1⟩:=hb2
 obtain⟨t,dm⟩:=e
 dsimp only at hdm g2 g3 gi
 subst hdm
 refine semC_run 200 ?_
 rw [h17_2]
 by_cases hlt:n<a.readings.length
 ·have hlt':n<b.readings.length:=by omega
  have e2:((n:Int)<(a.readings.length:Int))=True:=by simp;omega
  have hb4:=ha.gl
  have o1:=ha.go _ (List.getElem_mem hlt)
  have o2:=hb.go _ (List.getElem_mem hlt')
  rw [sameL_at hlt hlt'] at hs
  cases hq2:eqReading a.readings[n] b.readings[n] with
  | false=>
   (try simp (disch:=first|exact bk rfl|omega|(simp only [ln];omega)|(simp only [go_sem];done)|decide) only [go_sem,Nat.reduceAdd,Nat.reduceMul,Nat.reduceEqDiff,Nat.reduceLT,Nat.reduceLeDiff,reduceIte,eReply,g2,g3,gi,h0,h1,e2,hk,hq2,len_sl ha.g un44,idx_sl ha.g un44 in72 ce72 hlt,idx_sl hb.g un44 in72 ce72 hlt',rows_take eReading_len hlt,rows_take eReading_len hlt',av_reading o1,av_reading o2,avs_of ha.g,avs_of hb.g]);repeat' first|((with_reducible first|apply gJoin_split|apply cond_split|apply gJoinD_split)<;>intro h<;>(try simp only [spl] at h)<;>try simp (disch:=first|exact bk rfl|omega|(simp only [ln];omega)|(simp only [go_sem];done)|decide) only [go_sem,Nat.reduceAdd,Nat.reduceMul,Nat.reduceEqDiff,Nat.reduceLT,Nat.reduceLeDiff,reduceIte,eReply,g2,g3,gi,h0,h1,e2,hk,hq2,len_sl ha.g un44,idx_sl ha.g un44 in72 ce72 hlt,idx_sl hb.g un44 in72 ce72 hlt',rows_take eReading_len hlt,rows_take eReading_len hlt',av_reading o1,av_reading o2,avs_of ha.g,avs_of hb.g,h])|((with_reducible refine cl_guard ?_;refine cl_eq (hG K) _ (same56_c o1 o2) rfl ?_)<;>try simp (disch:=first|exact bk rfl|omega|(simp only [ln];omega)|(simp only [go_sem];done)|decide) only [go_sem,Nat.reduceAdd,Nat.reduceMul,Nat.reduceEqDiff,Nat.reduceLT,Nat.reduceLeDiff,reduceIte,eReply,g2,g3,gi,h0,h1,e2,hk,hq2,len_sl ha.g un44,idx_sl ha.g un44 in72 ce72 hlt,idx_sl hb.g un44 in72 ce72 hlt',rows_take eReading_len hlt,rows_take eReading_len hlt',av_reading o1,av_reading o2,avs_of ha.g,avs_of hb.g])
   refine endQ_fro (.bool _) ?_
   rw [hs,hq2] at hq
   exact hq
  | true=>
   (try simp (disch:=first|exact bk rfl|omega|(simp only [ln];omega)|(simp only [go_sem];done)|decide) only [go_sem,Nat.reduceAdd,Nat.reduceMul,Nat.reduceEqDiff,Nat.reduceLT,Nat.reduceLeDiff,reduceIte,eReply,g2,g3,gi,h0,h1,e2,hk,hq2,len_sl ha.g un44,idx_sl ha.g un44 in72 ce72 hlt,idx_sl hb.g un44 in72 ce72 hlt',rows_take eReading_len hlt,rows_take eReading_len hlt',av_reading o1,av_reading o2,avs_of ha.g,avs_of hb.g]);repeat' first|((with_reducible first|apply gJoin_split|apply cond_split|apply gJoinD_split)<;>intro h<;>(try simp only [spl] at h)<;>try simp (disch:=first|exact bk rfl|omega|(simp only [ln];omega)|(simp only [go_sem];done)|decide) only [go_sem,Nat.reduceAdd,Nat.reduceMul,Nat.reduceEqDiff,Nat.reduceLT,Nat.reduceLeDiff,reduceIte,eReply,g2,g3,gi,h0,h1,e2,hk,hq2,len_sl ha.g un44,idx_sl ha.g un44 in72 ce72 hlt,idx_sl hb.g un44 in72 ce72 hlt',rows_take eReading_len hlt,rows_take eReading_len hlt',av_reading o1,av_reading o2,avs_of ha.g,avs_of hb.g,h])|((with_reducible refine cl_guard ?_;refine cl_eq (hG K) _ (same56_c o1 o2) rfl ?_)<;>try simp (disch:=first|exact bk rfl|omega|(simp only [ln];omega)|(simp only [go_sem];done)|decide) only [go_sem,Nat.reduceAdd,Nat.reduceMul,Nat.reduceEqDiff,Nat.reduceLT,Nat.reduceLeDiff,reduceIte,eReply,g2,g3,gi,h0,h1,e2,hk,hq2,len_sl ha.g un44,idx_sl ha.g un44 in72 ce72 hlt,idx_sl hb.g un44 in72 ce72 hlt',rows_take eReading_len hlt,rows_take eReading_len hlt',av_reading o1,av_reading o2,avs_of ha.g,avs_of hb.g])
   refine again_mk (m':=a.readings.length - (n+1)) (by omega) ⟨n+1,hlt,rfl,⟨rfl, ?_, ?_,h0,h1⟩, ?_,by rw [hs,hq2];rfl⟩<;>(first|rfl|(simp (disch:=first|exact bk rfl|omega|(simp only [ln];omega)|(simp only [go_sem];done)|decide) only [go_sem,Nat.reduceAdd,Nat.reduceMul,Nat.reduceEqDiff,Nat.reduceLT,Nat.reduceLeDiff,reduceIte,g2,g3,gi]<;>rfl))
 ·have e2:((n:Int)<(a.readings.length:Int))=False:=by simp;omega
  (try simp (disch:=first|exact bk rfl|omega|(simp only [ln];omega)|(simp only [go_sem];done)|decide) only [go_sem,Nat.reduceAdd,Nat.reduceMul,Nat.reduceEqDiff,Nat.reduceLT,Nat.reduceLeDiff,reduceIte,eReply,g2,g3,gi,h0,h1,e2,len_sl ha.g un44]);repeat' first|((with_reducible first|apply gJoin_split|apply cond_split|apply gJoinD_split)<;>intro h<;>(try simp only [spl] at h)<;>try simp (disch:=first|exact bk rfl|omega|(simp only [ln];omega)|(simp only [go_sem];done)|decide) only [go_sem,Nat.reduceAdd,Nat.reduceMul,Nat.reduceEqDiff,Nat.reduceLT,Nat.reduceLeDiff,reduceIte,eReply,g2,g3,gi,h0,h1,e2,len_sl ha.g un44,h])
  refine mid17 ha hb hl ⟨rfl, ?_, ?_,h0,h1⟩ hk ?_
  ·first|rfl|(simp (disch:=first|exact bk rfl|omega|(simp only [ln];omega)|(simp only [go_sem];done)|decide) only [go_sem,Nat.reduceAdd,Nat.reduceMul,Nat.reduceEqDiff,Nat.reduceLT,Nat.reduceLeDiff,reduceIte,g2,g3]<;>rfl)
  ·first|rfl|(simp (disch:=first|exact bk rfl|omega|(simp only [ln];omega)|(simp only [go_sem];done)|decide) only [go_sem,Nat.reduceAdd,Nat.reduceMul,Nat.reduceEqDiff,Nat.reduceLT,Nat.reduceLeDiff,reduceIte,g2,g3]<;>rfl)
  ·rw [hs,sameL_end (by omega) (by omega)] at hq
   exact hq
set_option maxHeartbeats 4000000 in
theorem same17_c {a b:Reply} (ha:ReplyOK a) (hb:ReplyOK b):CQ P (G K) 17 [.agg (eReply a), .agg (eReply b)] (·= .bool (sameB a b)):=by
 refine CQ.enter (hG K) ?_
 by_cases hl0:a.readings.length=b.readings.length
 ·have f0:((a.readings.length:Int)=(b.readings.length:Int))=True:=by simp;omega
  by_cases hl:a.proofs.length=b.proofs.length
  ·have f1:((a.proofs.length:Int)=(b.proofs.length:Int))=True:=by simp;omega
   (try simp (disch:=first|exact bk rfl|omega|(simp only [ln];omega)|(simp only [go_sem];done)|decide) only [go_sem,Nat.reduceAdd,Nat.reduceMul,Nat.reduceEqDiff,Nat.reduceLT,Nat.reduceLeDiff,reduceIte,eReply,h17,r17,h17_0,h17_4,h17_5,neqbool,neq41,neq23,f0,f1,len_sl ha.g un44,len_sl hb.g un44,len_sl ha.f un45,len_sl hb.f un45, *]);repeat' first|((with_reducible first|apply gJoin_split|apply cond_split|apply gJoinD_split)<;>intro h<;>(try simp only [spl] at h)<;>try simp (disch:=first|exact bk rfl|omega|(simp only [ln];omega)|(simp only [go_sem];done)|decide) only [go_sem,Nat.reduceAdd,Nat.reduceMul,Nat.reduceEqDiff,Nat.reduceLT,Nat.reduceLeDiff,reduceIte,eReply,h17,r17,h17_0,h17_4,h17_5,neqbool,neq41,neq23,f0,f1,len_sl ha.g un44,len_sl hb.g un44,len_sl ha.f un45,len_sl hb.f un45, *])
   all_goals first
    | (refine endQ_fro (.bool _) ?_;simp [sameB,plainB, *];done)
    | skip
   refine fst17 (Q:=(·= .bool (sameB a b))) ha hb hl0 hl ⟨rfl, ?_, ?_, ?_, ?_⟩ (fun t H=>by simp (disch:=first|exact bk rfl|omega|(simp only [ln];omega)|(simp only [go_sem];done)|decide) only [go_sem,Nat.reduceAdd,Nat.reduceMul,Nat.reduceEqDiff,Nat.reduceLT,Nat.reduceLeDiff,reduceIte,r17]) ?_
   ·first|rfl|(simp (disch:=first|exact bk rfl|omega|(simp only [ln];omega)|(simp only [go_sem];done)|decide) only [go_sem,Nat.reduceAdd,Nat.reduceMul,Nat.reduceEqDiff,Nat.reduceLT,Nat.reduceLeDiff,reduceIte]<;>rfl)
   ·first|rfl|(simp (disch:=first|exact bk rfl|omega|(simp only [ln];omega)|(simp only [go_sem];done)|decide) only [go_sem,Nat.reduceAdd,Nat.reduceMul,Nat.reduceEqDiff,Nat.reduceLT,Nat.reduceLeDiff,reduceIte]<;>rfl)
   ·simp (disch:=first|exact bk rfl|omega|(simp only [ln];omega)|(simp only [go_sem];done)|decide) only [go_sem,Nat.reduceAdd,Nat.reduceMul,Nat.reduceEqDiff,Nat.reduceLT,Nat.reduceLeDiff,reduceIte,eReply,ofDs,ofD, *]
   ·simp (disch:=first|exact bk rfl|omega|(simp only [ln];omega)|(simp only [go_sem];done)|decide) only [go_sem,Nat.reduceAdd,Nat.reduceMul,Nat.reduceEqDiff,Nat.reduceLT,Nat.reduceLeDiff,reduceIte,eReply,ofDs,ofD, *]
   ·simp [sameB,plainB, *]
    cases sameL eqReading a.readings b.readings<;>cases sameL eqProof a.proofs b.proofs<;>simp
  ·have f1:((a.proofs.length:Int)=(b.proofs.length:Int))=False:=by simp;omega
   (try simp (disch:=first|exact bk rfl|omega|(simp only [ln];omega)|(simp only [go_sem];done)|decide) only [go_sem,Nat.reduceAdd,Nat.reduceMul,Nat.reduceEqDiff,Nat.reduceLT,Nat.reduceLeDiff,reduceIte,eReply,h17,r17,h17_0,h17_4,h17_5,neqbool,neq41,neq23,f0,f1,len_sl ha.g un44,len_sl hb.g un44,len_sl ha.f un45,len_sl hb.f un45, *]);repeat' first|((with_reducible first|apply gJoin_split|apply cond_split|apply gJoinD_split)<;>intro h<;>(try simp only [spl] at h)<;>try simp (disch:=first|exact bk rfl|omega|(simp only [ln];omega)|(simp only [go_sem];done)|decide) only [go_sem,Nat.reduceAdd,Nat.reduceMul,Nat.reduceEqDiff,Nat.reduceLT,Nat.reduceLeDiff,reduceIte,eReply,h17,r17,h17_0,h17_4,h17_5,neqbool,neq41,neq23,f0,f1,len_sl ha.g un44,len_sl hb.g un44,len_sl ha.f un45,len_sl hb.f un45, *])
   all_goals (refine endQ_fro (.bool _) ?_;simp [sameB,plainB,sameL_ne hl, *];done)
 ·have f0:((a.readings.length:Int)=(b.readings.length:Int))=False:=by simp;omega
  (try simp (disch:=first|exact bk rfl|omega|(simp only [ln];omega)|(simp only [go_sem];done)|decide) only [go_sem,Nat.reduceAdd,Nat.reduceMul,Nat.reduceEqDiff,Nat.reduceLT,Nat.reduceLeDiff,reduceIte,eReply,h17,r17,h17_0,h17_4,h17_5,neqbool,neq41,neq23,f0,len_sl ha.g un44,len_sl hb.g un44,len_sl ha.f un45,len_sl hb.f un45, *]);repeat' first|((with_reducible first|apply gJoin_split|apply cond_split|apply gJoinD_split)<;>intro h<;>(try simp only [spl] at h)<;>try simp (disch:=first|exact bk rfl|omega|(simp only [ln];omega)|(simp only [go_sem];done)|decide) only [go_sem,Nat.reduceAdd,Nat.reduceMul,Nat.reduceEqDiff,Nat.reduceLT,Nat.reduceLeDiff,reduceIte,eReply,h17,r17,h17_0,h17_4,h17_5,neqbool,neq41,neq23,f0,len_sl ha.g un44,len_sl hb.g un44,len_sl ha.f un45,len_sl hb.f un45, *])
  all_goals (refine endQ_fro (.bool _) ?_;simp [sameB,plainB,sameL_ne hl0, *];done)
end Go.S9
namespace Go.S9
open Go.Ev Go.Proofs
set_option maxRecDepth 100000
set_option linter.unusedVariables false
set_option linter.unusedSimpArgs false
variable {K : Int} {H : Hp} {k : AV → Bool}
def shortR (x:Reading):Bool:=decide (x.reads.length≤40)&&decide (x.times.length≤40)
def briefB (r:Reply):Bool:=(decide (r.list.length≤40)&&decide (r.postings.length≤100)&&decide (r.readings.length≤4)&&decide (r.proofs.length≤40))&&r.readings.all shortR
theorem all_drop {α:Type} {p:α→Bool} {xs:List α} {n:Nat} (h:n<xs.length):(xs.drop n).all p=(p xs[n]&&(xs.drop (n+1)).all p):=by
 rw [drop_at h];rfl
theorem all_end {α:Type} {p:α→Bool} {xs:List α} {n:Nat} (h:xs.length≤n):(xs.drop n).all p=true:=by rw [List.drop_of_length_le h];rfl
theorem get2 {xs:List Reading} {n:Nat} (h:n<xs.length):(ofDs (rows eReading xs))[n * 2]? =some (ofD xs[n].dr):=by rw [rows_get0 eReading_len h (by decide)];rfl
theorem get2' {xs:List Reading} {n:Nat} (h:n<xs.length):(ofDs (rows eReading xs))[n * 2+1]? =some (ofD xs[n].dt):=by rw [rows_get eReading_len xs n 1 h (by decide)];rfl
def I13 (r:Reply) (m:Nat) (e:En) (H:Hp):Prop:=∃n,n≤r.readings.length∧m=r.readings.length - n∧e.dm=[]∧E2.get e.t 1= .ptr 0 0∧H.get 0=some (.cells (some 47) false (ofDs (eReply r)))∧E2.get e.t 3= .int .i64 (n:Int)∧r.readings.all shortR=(r.readings.drop n).all shortR
theorem brief13_c {r:Reply} (hr:ReplyOK r):CQ P (G K) 13 [.agg (eReply r)] (·= .bool (briefB r)):=by
 have b1:=hr.gl
 refine CQ.enter (hG K) ?_
 have f1:((40:Int)<(r.list.length:Int))=¬r.list.length≤40:=by simp;omega
 have f2:((100:Int)<(r.postings.length:Int))=¬r.postings.length≤100:=by simp;omega
 have f3:((4:Int)<(r.readings.length:Int))=¬r.readings.length≤4:=by simp;omega
 have f4:((40:Int)<(r.proofs.length:Int))=¬r.proofs.length≤40:=by simp;omega
 by_cases c1:r.list.length≤40
 rotate_left
 ·(try simp (disch:=first|exact bk rfl|omega|(simp only [ln];omega)|(simp only [go_sem];done)|decide) only [go_sem,Nat.reduceAdd,Nat.reduceMul,Nat.reduceEqDiff,Nat.reduceLT,Nat.reduceLeDiff,reduceIte,eReply,h13,r13,h13_0,h13_3,h13_4,f1,len_sl hr.l un42,not_false_iff, *]);repeat' first|((with_reducible first|apply gJoin_split|apply cond_split|apply gJoinD_split)<;>intro h<;>(try simp only [spl] at h)<;>try simp (disch:=first|exact bk rfl|omega|(simp only [ln];omega)|(simp only [go_sem];done)|decide) only [go_sem,Nat.reduceAdd,Nat.reduceMul,Nat.reduceEqDiff,Nat.reduceLT,Nat.reduceLeDiff,reduceIte,eReply,h13,r13,h13_0,h13_3,h13_4,f1,len_sl hr.l un42,not_false_iff, *])
  exact endQ_fro (.bool _) (by simp [briefB,c1])
 by_cases c2:r.postings.length≤100
 rotate_left
 ·(try simp (disch:=first|exact bk rfl|omega|(simp only [ln];omega)|(simp only [go_sem];done)|decide) only [go_sem,Nat.reduceAdd,Nat.reduceMul,Nat.reduceEqDiff,Nat.reduceLT,Nat.reduceLeDiff,reduceIte,eReply,h13,r13,h13_0,h13_3,h13_4,f1,f2,len_sl hr.l un42,len_sl hr.p un43,not_false_iff,not_true, *]);repeat' first|((with_reducible first|apply gJoin_split|apply cond_split|apply gJoinD_split)<;>intro h<;>(try simp only [spl] at h)<;>try simp (disch:=first|exact bk rfl|omega|(simp only [ln];omega)|(simp only [go_sem];done)|decide) only [go_sem,Nat.reduceAdd,Nat.reduceMul,Nat.reduceEqDiff,Nat.reduceLT,Nat.reduceLeDiff,reduceIte,eReply,h13,r13,h13_0,h13_3,h13_4,f1,f2,len_sl hr.l un42,len_sl hr.p un43,not_false_iff,not_true, *])
  exact endQ_fro (.bool _) (by simp [briefB,c2])
 by_cases c3:r.readings.length≤4
 rotate_left
 ·(try simp (disch:=first|exact bk rfl|omega|(simp only [ln];omega)|(simp only [go_sem];done)|decide) only [go_sem,Nat.reduceAdd,Nat.reduceMul,Nat.reduceEqDiff,Nat.reduceLT,Nat.reduceLeDiff,reduceIte,eReply,h13,r13,h13_0,h13_3,h13_4,f1,f2,f3,len_sl hr.l un42,len_sl hr.p un43,len_sl hr.g un44,not_false_iff,not_true, *]);repeat' first|((with_reducible first|apply gJoin_split|apply cond_split|apply gJoinD_split)<;>intro h<;>(try simp only [spl] at h)<;>try simp (disch:=first|exact bk rfl|omega|(simp only [ln];omega)|(simp only [go_sem];done)|decide) only [go_sem,Nat.reduceAdd,Nat.reduceMul,Nat.reduceEqDiff,Nat.reduceLT,Nat.reduceLeDiff,reduceIte,eReply,h13,r13,h13_0,h13_3,h13_4,f1,f2,f3,len_sl hr.l un42,len_sl hr.p un43,len_sl hr.g un44,not_false_iff,not_true, *])
  exact endQ_fro (.bool _) (by simp [briefB,c3])
 by_cases c4:r.proofs.length≤40
 rotate_left
 ·(try simp (disch:=first|exact bk rfl|omega|(simp only [ln];omega)|(simp only [go_sem];done)|decide) only [go_sem,Nat.reduceAdd,Nat.reduceMul,Nat.reduceEqDiff,Nat.reduceLT,Nat.reduceLeDiff,reduceIte,eReply,h13,r13,h13_0,h13_3,h13_4,f1,f2,f3,f4,len_sl hr.l un42,len_sl hr.p un43,len_sl hr.g un44,len_sl hr.f un45,not_false_iff,not_true, *]);repeat' first|((with_reducible first|apply gJoin_split|apply cond_split|apply gJoinD_split)<;>intro h<;>(try simp only [spl] at h)<;>try simp (disch:=first|exact bk rfl|omega|(simp only [ln];omega)|(simp only [go_sem];done)|decide) only [go_sem,Nat.reduceAdd,Nat.reduceMul,Nat.reduceEqDiff,Nat.reduceLT,Nat.reduceLeDiff,reduceIte,eReply,h13,r13,h13_0,h13_3,h13_4,f1,f2,f3,f4,len_sl hr.l un42,len_sl hr.p un43,len_sl hr.g un44,len_sl hr.f un45,not_false_iff,not_true, *])
  exact endQ_fro (.bool _) (by simp [briefB,c4])
 have hB:briefB r=r.readings.all shortR:=by simp [briefB,c1,c2,c3,c4]
 (try simp (disch:=first|exact bk rfl|omega|(simp only [ln];omega)|(simp only [go_sem];done)|decide) only [go_sem,Nat.reduceAdd,Nat.reduceMul,Nat.reduceEqDiff,Nat.reduceLT,Nat.reduceLeDiff,reduceIte,eReply,h13,r13,h13_0,h13_1,h13_3,h13_4,f1,f2,f3,f4,len_sl hr.l un42,len_sl hr.p un43,len_sl hr.g un44,len_sl hr.f un45,not_false_iff,not_true, *]);repeat' first|((with_reducible first|apply gJoin_split|apply cond_split|apply gJoinD_split)<;>intro h<;>(try simp only [spl] at h)<;>try simp (disch:=first|exact bk rfl|omega|(simp only [ln];omega)|(simp only [go_sem];done)|decide) only [go_sem,Nat.reduceAdd,Nat.reduceMul,Nat.reduceEqDiff,Nat.reduceLT,Nat.reduceLeDiff,reduceIte,eReply,h13,r13,h13_0,h13_1,h13_3,h13_4,f1,f2,f3,f4,len_sl hr.l un42,len_sl hr.p un43,len_sl hr.g un44,len_sl hr.f un45,not_false_iff,not_true, *])
 refine loop_rule (I13 r) (fun m e H hi=> ?_) (m:=r.readings.length) ?_
 rotate_left
 ·refine⟨0,Nat.zero_le _,rfl,rfl, ?_, ?_, ?_,rfl⟩<;>(first|rfl|(simp (disch:=first|exact bk rfl|omega|(simp only [ln];omega)|(simp only [go_sem];done)|decide) only [go_sem,Nat.reduceAdd,Nat.reduceMul,Nat.reduceEqDiff,Nat.reduceLT,Nat.reduceLeDiff,reduceIte,eReply]<;>rfl))
 obtain⟨n,hn1,rfl,hdm,g1,h0,g3,hs⟩:=hi
 obtain⟨t,dm⟩:=e
 dsimp only at hdm g1 g3
 subst hdm
 refine semC_run 200 ?_
 rw [h13_2]
 by_cases hlt:n<r.readings.length
 ·have e2:((n:Int)<(r.readings.length:Int))=True:=by simp;omega
  have o1:=hr.go _ (List.getElem_mem hlt)
  have q1:((40:Int)<(r.readings[n].reads.length:Int))=¬r.readings[n].reads.length≤40:=by simp;omega
  have q2:((40:Int)<(r.readings[n].times.length:Int))=¬r.readings[n].times.length≤40:=by simp;omega
  rw [all_drop hlt] at hs
  by_cases d1:r.readings[n].reads.length≤40
  rotate_left
  ·(try simp (disch:=first|exact bk rfl|omega|(simp only [ln];omega)|(simp only [go_sem];done)|decide) only [go_sem,Nat.reduceAdd,Nat.reduceMul,Nat.reduceEqDiff,Nat.reduceLT,Nat.reduceLeDiff,reduceIte,eReply,g1,g3,h0,e2,len_sl hr.g un44,idx_sl hr.g un44 in72 ce72 hlt,get2 hlt,get2' hlt,len_sl o1.r un70,len_sl o1.t un42,q1,d1,not_false_iff,not_true,h13,r13,h13_0,h13_1,h13_2,h13_3,h13_4,h13_5,h13_6,h13_7,h13_8,h13_9]);repeat' first|((with_reducible first|apply gJoin_split|apply cond_split|apply gJoinD_split)<;>intro h<;>(try simp only [spl] at h)<;>try simp (disch:=first|exact bk rfl|omega|(simp only [ln];omega)|(simp only [go_sem];done)|decide) only [go_sem,Nat.reduceAdd,Nat.reduceMul,Nat.reduceEqDiff,Nat.reduceLT,Nat.reduceLeDiff,reduceIte,eReply,g1,g3,h0,e2,len_sl hr.g un44,idx_sl hr.g un44 in72 ce72 hlt,get2 hlt,get2' hlt,len_sl o1.r un70,len_sl o1.t un42,q1,d1,not_false_iff,not_true,h13,r13,h13_0,h13_1,h13_2,h13_3,h13_4,h13_5,h13_6,h13_7,h13_8,h13_9,h])
   exact endQ_fro (.bool _) (by rw [hs];simp [shortR,d1])
  by_cases d2:r.readings[n].times.length≤40
  rotate_left
  ·(try simp (disch:=first|exact bk rfl|omega|(simp only [ln];omega)|(simp only [go_sem];done)|decide) only [go_sem,Nat.reduceAdd,Nat.reduceMul,Nat.reduceEqDiff,Nat.reduceLT,Nat.reduceLeDiff,reduceIte,eReply,g1,g3,h0,e2,len_sl hr.g un44,idx_sl hr.g un44 in72 ce72 hlt,get2 hlt,get2' hlt,len_sl o1.r un70,len_sl o1.t un42,q1,d1,q2,d2,not_false_iff,not_true,h13,r13,h13_0,h13_1,h13_2,h13_3,h13_4,h13_5,h13_6,h13_7,h13_8,h13_9]);repeat' first|((with_reducible first|apply gJoin_split|apply cond_split|apply gJoinD_split)<;>intro h<;>(try simp only [spl] at h)<;>try simp (disch:=first|exact bk rfl|omega|(simp only [ln];omega)|(simp only [go_sem];done)|decide) only [go_sem,Nat.reduceAdd,Nat.reduceMul,Nat.reduceEqDiff,Nat.reduceLT,Nat.reduceLeDiff,reduceIte,eReply,g1,g3,h0,e2,len_sl hr.g un44,idx_sl hr.g un44 in72 ce72 hlt,get2 hlt,get2' hlt,len_sl o1.r un70,len_sl o1.t un42,q1,d1,q2,d2,not_false_iff,not_true,h13,r13,h13_0,h13_1,h13_2,h13_3,h13_4,h13_5,h13_6,h13_7,h13_8,h13_9,h])
   exact endQ_fro (.bool _) (by rw [hs];simp [shortR,d2])
  (try simp (disch:=first|exact bk rfl|omega|(simp only [ln];omega)|(simp only [go_sem];done)|decide) only [go_sem,Nat.reduceAdd,Nat.reduceMul,Nat.reduceEqDiff,Nat.reduceLT,Nat.reduceLeDiff,reduceIte,eReply,g1,g3,h0,e2,len_sl hr.g un44,idx_sl hr.g un44 in72 ce72 hlt,get2 hlt,get2' hlt,len_sl o1.r un70,len_sl o1.t un42,q1,d1,q2,d2,not_false_iff,not_true,h13,r13,h13_0,h13_1,h13_2,h13_3,h13_4,h13_5,h13_6,h13_7,h13_8,h13_9]);repeat' first|((with_reducible first|apply gJoin_split|apply cond_split|apply gJoinD_split)<;>intro h<;>(try simp only [spl] at h)<;>try simp (disch:=first|exact bk rfl|omega|(simp only [ln];omega)|(simp only [go_sem];done)|decide) only [go_sem,Nat.reduceAdd,Nat.reduceMul,Nat.reduceEqDiff,Nat.reduceLT,Nat.reduceLeDiff,reduceIte,eReply,g1,g3,h0,e2,len_sl hr.g un44,idx_sl hr.g un44 in72 ce72 hlt,get2 hlt,get2' hlt,len_sl o1.r un70,len_sl o1.t un42,q1,d1,q2,d2,not_false_iff,not_true,h13,r13,h13_0,h13_1,h13_2,h13_3,h13_4,h13_5,h13_6,h13_7,h13_8,h13_9,h])
  refine again_mk (m':=r.readings.length - (n+1)) (by omega) ⟨n+1,hlt,rfl,rfl, ?_,h0, ?_,by rw [hs];simp [shortR,d1,d2]⟩<;>(first|rfl|(simp (disch:=first|exact bk rfl|omega|(simp only [ln];omega)|(simp only [go_sem];done)|decide) only [go_sem,Nat.reduceAdd,Nat.reduceMul,Nat.reduceEqDiff,Nat.reduceLT,Nat.reduceLeDiff,reduceIte,g1,g3]<;>rfl))
 ·have e2:((n:Int)<(r.readings.length:Int))=False:=by simp;omega
  (try simp (disch:=first|exact bk rfl|omega|(simp only [ln];omega)|(simp only [go_sem];done)|decide) only [go_sem,Nat.reduceAdd,Nat.reduceMul,Nat.reduceEqDiff,Nat.reduceLT,Nat.reduceLeDiff,reduceIte,eReply,g1,g3,h0,e2,len_sl hr.g un44,h13,r13,h13_0,h13_1,h13_2,h13_3,h13_4,h13_5,h13_6,h13_7,h13_8,h13_9]);repeat' first|((with_reducible first|apply gJoin_split|apply cond_split|apply gJoinD_split)<;>intro h<;>(try simp only [spl] at h)<;>try simp (disch:=first|exact bk rfl|omega|(simp only [ln];omega)|(simp only [go_sem];done)|decide) only [go_sem,Nat.reduceAdd,Nat.reduceMul,Nat.reduceEqDiff,Nat.reduceLT,Nat.reduceLeDiff,reduceIte,eReply,g1,g3,h0,e2,len_sl hr.g un44,h13,r13,h13_0,h13_1,h13_2,h13_3,h13_4,h13_5,h13_6,h13_7,h13_8,h13_9,h])
  exact endQ_fro (.bool _) (by rw [hs,all_end (by omega)])
structure Brief (r:Reply):Prop where
 l:r.list.length≤40
 p:r.postings.length≤100
 g:r.readings.length≤4
 f:r.proofs.length≤40
 s:∀x∈r.readings,x.reads.length≤40∧x.times.length≤40
theorem brief_of {r:Reply} (h:briefB r=true):Brief r:=by
 simp only [briefB,Bool.and_eq_true,decide_eq_true_eq,List.all_eq_true,shortR] at h
 exact⟨h.1.1.1.1,h.1.1.1.2,h.1.1.2,h.1.2,h.2⟩
def I78 (ps:List Posting) (d:D) (m:Nat) (e:En) (H:Hp):Prop:=∃n,n≤ps.length∧m=ps.length - n∧e.dm=[]∧E2.get e.t 9=ofD d∧E2.get e.t 10= .int .i64 (ps.length:Int)∧E2.get e.t 11= .int .i64 (n:Int)∧ps.all postB=(ps.drop n).all postB
theorem one83 (p:Posting):(ofDs (ePost p)).all one=true:=rfl
theorem set83 (p:Posting) (a b c d e:AV):setW [a,b,c,d,e] (ofDs (ePost p))=some (ofDs (ePost p)):=rfl
theorem cells83 (p:Posting):AV.cells (.agg (ofDs (ePost p)))=ofDs (ePost p):=rfl
theorem len83 (p:Posting):(ofDs (ePost p)).length=5:=rfl
def postR (p:Posting):Bool:=nightB p.night&&(decide (0≤p.no)&&(decide (p.no≤12)&&(accB p.from_&&(accB p.to_&&(decide (p.from_≠p.to_)&&(decide (1≤p.amount)&&decide (p.amount≤1099511627776)))))))
theorem round78 {p:Posting} {t:E2} {H:Hp} {b:Nat} {el:Option TypeId} {kk:AEx→En→Hp→Bool} (g5:E2.get t 5= .ptr b 0) (hb:H.get b=some (.cells el false (ofDs (ePost p))))
  (h1:postB p=true→∀t',E2.get t' 9=E2.get t 9→E2.get t' 10=E2.get t 10→E2.get t' 11=E2.get t 11→kk .normal ⟨t',[]⟩ H=true)
  (h2:postB p=false→∀t',E2.get t' 2= .int .i64 1→E2.get t' 3=E2.get t 4→kk .ret ⟨t',[]⟩ H=true):
  cd P (G K) 194 61 (subC 78 [1,1,0,1,0,0,1,1,0,0,1,0]) none ⟨t,[]⟩ H (fun x e H=>isNormal x (fun _=>cd P (G K) 194 61 (subC 78 [1,1,0,1,0,0,1,1,0,0,1,1]) none e H kk) (fun x=>kk x e H))=true:=by
 have hpB:postB p=(nightB p.night&&decide (0≤p.no∧p.no≤12)&&accB p.from_&&accB p.to_&&decide (p.from_≠p.to_)&&decide (1≤p.amount∧p.amount≤1099511627776)):=rfl
 cases c0:nightB p.night with
 | false=>
  (try simp (disch:=first|exact bk rfl|omega|(simp only [ln];omega)|(simp only [go_sem];done)|decide) only [go_sem,Nat.reduceAdd,Nat.reduceMul,Nat.reduceEqDiff,Nat.reduceLT,Nat.reduceLeDiff,reduceIte,ePost,h78_4,h78_5,g5,hb,c0]);repeat' first|((with_reducible first|apply gJoin_split|apply cond_split|apply gJoinD_split)<;>intro h<;>(try simp only [spl] at h)<;>try simp (disch:=first|exact bk rfl|omega|(simp only [ln];omega)|(simp only [go_sem];done)|decide) only [go_sem,Nat.reduceAdd,Nat.reduceMul,Nat.reduceEqDiff,Nat.reduceLT,Nat.reduceLeDiff,reduceIte,ePost,h78_4,h78_5,g5,hb,c0,h])|((with_reducible refine cl_guard ?_;first|refine cl_eq (hG K) _ (isNight107_c _) rfl ?_|refine cl_eq (hG K) _ (account108_c _) rfl ?_)<;>try simp (disch:=first|exact bk rfl|omega|(simp only [ln];omega)|(simp only [go_sem];done)|decide) only [go_sem,Nat.reduceAdd,Nat.reduceMul,Nat.reduceEqDiff,Nat.reduceLT,Nat.reduceLeDiff,reduceIte,ePost,h78_4,h78_5,g5,hb,c0])
  refine h2 (by rw [hpB,c0];simp) _ ?_ ?_<;>(first|rfl|(simp (disch:=first|exact bk rfl|omega|(simp only [ln];omega)|(simp only [go_sem];done)|decide) only [go_sem,Nat.reduceAdd,Nat.reduceMul,Nat.reduceEqDiff,Nat.reduceLT,Nat.reduceLeDiff,reduceIte]<;>rfl))
 | true=>
 by_cases c1:p.no<0
 ·have e1:=eq_true c1
  (try simp (disch:=first|exact bk rfl|omega|(simp only [ln];omega)|(simp only [go_sem];done)|decide) only [go_sem,Nat.reduceAdd,Nat.reduceMul,Nat.reduceEqDiff,Nat.reduceLT,Nat.reduceLeDiff,reduceIte,ePost,h78_4,h78_5,g5,hb,c0,e1]);repeat' first|((with_reducible first|apply gJoin_split|apply cond_split|apply gJoinD_split)<;>intro h<;>(try simp only [spl] at h)<;>try simp (disch:=first|exact bk rfl|omega|(simp only [ln];omega)|(simp only [go_sem];done)|decide) only [go_sem,Nat.reduceAdd,Nat.reduceMul,Nat.reduceEqDiff,Nat.reduceLT,Nat.reduceLeDiff,reduceIte,ePost,h78_4,h78_5,g5,hb,c0,e1,h])|((with_reducible refine cl_guard ?_;first|refine cl_eq (hG K) _ (isNight107_c _) rfl ?_|refine cl_eq (hG K) _ (account108_c _) rfl ?_)<;>try simp (disch:=first|exact bk rfl|omega|(simp only [ln];omega)|(simp only [go_sem];done)|decide) only [go_sem,Nat.reduceAdd,Nat.reduceMul,Nat.reduceEqDiff,Nat.reduceLT,Nat.reduceLeDiff,reduceIte,ePost,h78_4,h78_5,g5,hb,c0,e1])
  refine h2 (by rw [hpB];simp;omega) _ ?_ ?_<;>(first|rfl|(simp (disch:=first|exact bk rfl|omega|(simp only [ln];omega)|(simp only [go_sem];done)|decide) only [go_sem,Nat.reduceAdd,Nat.reduceMul,Nat.reduceEqDiff,Nat.reduceLT,Nat.reduceLeDiff,reduceIte]<;>rfl))
 have e1:=eq_false c1
 by_cases c2:12<p.no
 ·have e2:=eq_true c2
  (try simp (disch:=first|exact bk rfl|omega|(simp only [ln];omega)|(simp only [go_sem];done)|decide) only [go_sem,Nat.reduceAdd,Nat.reduceMul,Nat.reduceEqDiff,Nat.reduceLT,Nat.reduceLeDiff,reduceIte,ePost,h78_4,h78_5,g5,hb,c0,e1,e2]);repeat' first|((with_reducible first|apply gJoin_split|apply cond_split|apply gJoinD_split)<;>intro h<;>(try simp only [spl] at h)<;>try simp (disch:=first|exact bk rfl|omega|(simp only [ln];omega)|(simp only [go_sem];done)|decide) only [go_sem,Nat.reduceAdd,Nat.reduceMul,Nat.reduceEqDiff,Nat.reduceLT,Nat.reduceLeDiff,reduceIte,ePost,h78_4,h78_5,g5,hb,c0,e1,e2,h])|((with_reducible refine cl_guard ?_;first|refine cl_eq (hG K) _ (isNight107_c _) rfl ?_|refine cl_eq (hG K) _ (account108_c _) rfl ?_)<;>try simp (disch:=first|exact bk rfl|omega|(simp only [ln];omega)|(simp only [go_sem];done)|decide) only [go_sem,Nat.reduceAdd,Nat.reduceMul,Nat.reduceEqDiff,Nat.reduceLT,Nat.reduceLeDiff,reduceIte,ePost,h78_4,h78_5,g5,hb,c0,e1,e2])
  refine h2 (by rw [hpB];simp;omega) _ ?_ ?_<;>(first|rfl|(simp (disch:=first|exact bk rfl|omega|(simp only [ln];omega)|(simp only [go_sem];done)|decide) only [go_sem,Nat.reduceAdd,Nat.reduceMul,Nat.reduceEqDiff,Nat.reduceLT,Nat.reduceLeDiff,reduceIte]<;>rfl))
 have e2:=eq_false c2
 cases c3:accB p.from_ with
 | false=>
  (try simp (disch:=first|exact bk rfl|omega|(simp only [ln];omega)|(simp only [go_sem];done)|decide) only [go_sem,Nat.reduceAdd,Nat.reduceMul,Nat.reduceEqDiff,Nat.reduceLT,Nat.reduceLeDiff,reduceIte,ePost,h78_4,h78_5,g5,hb,c0,e1,e2,c3]);repeat' first|((with_reducible first|apply gJoin_split|apply cond_split|apply gJoinD_split)<;>intro h<;>(try simp only [spl] at h)<;>try simp (disch:=first|exact bk rfl|omega|(simp only [ln];omega)|(simp only [go_sem];done)|decide) only [go_sem,Nat.reduceAdd,Nat.reduceMul,Nat.reduceEqDiff,Nat.reduceLT,Nat.reduceLeDiff,reduceIte,ePost,h78_4,h78_5,g5,hb,c0,e1,e2,c3,h])|((with_reducible refine cl_guard ?_;first|refine cl_eq (hG K) _ (isNight107_c _) rfl ?_|refine cl_eq (hG K) _ (account108_c _) rfl ?_)<;>try simp (disch:=first|exact bk rfl|omega|(simp only [ln];omega)|(simp only [go_sem];done)|decide) only [go_sem,Nat.reduceAdd,Nat.reduceMul,Nat.reduceEqDiff,Nat.reduceLT,Nat.reduceLeDiff,reduceIte,ePost,h78_4,h78_5,g5,hb,c0,e1,e2,c3])
  refine h2 (by rw [hpB,c3];simp) _ ?_ ?_<;>(first|rfl|(simp (disch:=first|exact bk rfl|omega|(simp only [ln];omega)|(simp only [go_sem];done)|decide) only [go_sem,Nat.reduceAdd,Nat.reduceMul,Nat.reduceEqDiff,Nat.reduceLT,Nat.reduceLeDiff,reduceIte]<;>rfl))
 | true=>
 cases c4:accB p.to_ with
 | false=>
  (try simp (disch:=first|exact bk rfl|omega|(simp only [ln];omega)|(simp only [go_sem];done)|decide) only [go_sem,Nat.reduceAdd,Nat.reduceMul,Nat.reduceEqDiff,Nat.reduceLT,Nat.reduceLeDiff,reduceIte,ePost,h78_4,h78_5,g5,hb,c0,e1,e2,c3,c4]);repeat' first|((with_reducible first|apply gJoin_split|apply cond_split|apply gJoinD_split)<;>intro h<;>(try simp only [spl] at h)<;>try simp (disch:=first|exact bk rfl|omega|(simp only [ln];omega)|(simp only [go_sem];done)|decide) only [go_sem,Nat.reduceAdd,Nat.reduceMul,Nat.reduceEqDiff,Nat.reduceLT,Nat.reduceLeDiff,reduceIte,ePost,h78_4,h78_5,g5,hb,c0,e1,e2,c3,c4,h])|((with_reducible refine cl_guard ?_;first|refine cl_eq (hG K) _ (isNight107_c _) rfl ?_|refine cl_eq (hG K) _ (account108_c _) rfl ?_)<;>try simp (disch:=first|exact bk rfl|omega|(simp only [ln];omega)|(simp only [go_sem];done)|decide) only [go_sem,Nat.reduceAdd,Nat.reduceMul,Nat.reduceEqDiff,Nat.reduceLT,Nat.reduceLeDiff,reduceIte,ePost,h78_4,h78_5,g5,hb,c0,e1,e2,c3,c4])
  refine h2 (by rw [hpB,c4];simp) _ ?_ ?_<;>(first|rfl|(simp (disch:=first|exact bk rfl|omega|(simp only [ln];omega)|(simp only [go_sem];done)|decide) only [go_sem,Nat.reduceAdd,Nat.reduceMul,Nat.reduceEqDiff,Nat.reduceLT,Nat.reduceLeDiff,reduceIte]<;>rfl))
 | true=>
 by_cases c5:p.from_=p.to_
 ·have e5:=eq_true c5
  (try simp (disch:=first|exact bk rfl|omega|(simp only [ln];omega)|(simp only [go_sem];done)|decide) only [go_sem,Nat.reduceAdd,Nat.reduceMul,Nat.reduceEqDiff,Nat.reduceLT,Nat.reduceLeDiff,reduceIte,ePost,h78_4,h78_5,g5,hb,c0,e1,e2,c3,c4,e5]);repeat' first|((with_reducible first|apply gJoin_split|apply cond_split|apply gJoinD_split)<;>intro h<;>(try simp only [spl] at h)<;>try simp (disch:=first|exact bk rfl|omega|(simp only [ln];omega)|(simp only [go_sem];done)|decide) only [go_sem,Nat.reduceAdd,Nat.reduceMul,Nat.reduceEqDiff,Nat.reduceLT,Nat.reduceLeDiff,reduceIte,ePost,h78_4,h78_5,g5,hb,c0,e1,e2,c3,c4,e5,h])|((with_reducible refine cl_guard ?_;first|refine cl_eq (hG K) _ (isNight107_c _) rfl ?_|refine cl_eq (hG K) _ (account108_c _) rfl ?_)<;>try simp (disch:=first|exact bk rfl|omega|(simp only [ln];omega)|(simp only [go_sem];done)|decide) only [go_sem,Nat.reduceAdd,Nat.reduceMul,Nat.reduceEqDiff,Nat.reduceLT,Nat.reduceLeDiff,reduceIte,ePost,h78_4,h78_5,g5,hb,c0,e1,e2,c3,c4,e5])
  refine h2 (by rw [hpB];simp;omega) _ ?_ ?_<;>(first|rfl|(simp (disch:=first|exact bk rfl|omega|(simp only [ln];omega)|(simp only [go_sem];done)|decide) only [go_sem,Nat.reduceAdd,Nat.reduceMul,Nat.reduceEqDiff,Nat.reduceLT,Nat.reduceLeDiff,reduceIte]<;>rfl))
 have e5:=eq_false c5
 by_cases c6:p.amount<1
 ·have e6:=eq_true c6
  (try simp (disch:=first|exact bk rfl|omega|(simp only [ln];omega)|(simp only [go_sem];done)|decide) only [go_sem,Nat.reduceAdd,Nat.reduceMul,Nat.reduceEqDiff,Nat.reduceLT,Nat.reduceLeDiff,reduceIte,ePost,h78_4,h78_5,g5,hb,c0,e1,e2,c3,c4,e5,e6]);repeat' first|((with_reducible first|apply gJoin_split|apply cond_split|apply gJoinD_split)<;>intro h<;>(try simp only [spl] at h)<;>try simp (disch:=first|exact bk rfl|omega|(simp only [ln];omega)|(simp only [go_sem];done)|decide) only [go_sem,Nat.reduceAdd,Nat.reduceMul,Nat.reduceEqDiff,Nat.reduceLT,Nat.reduceLeDiff,reduceIte,ePost,h78_4,h78_5,g5,hb,c0,e1,e2,c3,c4,e5,e6,h])|((with_reducible refine cl_guard ?_;first|refine cl_eq (hG K) _ (isNight107_c _) rfl ?_|refine cl_eq (hG K) _ (account108_c _) rfl ?_)<;>try simp (disch:=first|exact bk rfl|omega|(simp only [ln];omega)|(simp only [go_sem];done)|decide) only [go_sem,Nat.reduceAdd,Nat.reduceMul,Nat.reduceEqDiff,Nat.reduceLT,Nat.reduceLeDiff,reduceIte,ePost,h78_4,h78_5,g5,hb,c0,e1,e2,c3,c4,e5,e6])
  refine h2 (by rw [hpB];simp;omega) _ ?_ ?_<;>(first|rfl|(simp (disch:=first|exact bk rfl|omega|(simp only [ln];omega)|(simp only [go_sem];done)|decide) only [go_sem,Nat.reduceAdd,Nat.reduceMul,Nat.reduceEqDiff,Nat.reduceLT,Nat.reduceLeDiff,reduceIte]<;>rfl))
 have e6:=eq_false c6
 by_cases c7:1099511627776<p.amount
 ·have e7:=eq_true c7
  (try simp (disch:=first|exact bk rfl|omega|(simp only [ln];omega)|(simp only [go_sem];done)|decide) only [go_sem,Nat.reduceAdd,Nat.reduceMul,Nat.reduceEqDiff,Nat.reduceLT,Nat.reduceLeDiff,reduceIte,ePost,h78_4,h78_5,g5,hb,c0,e1,e2,c3,c4,e5,e6,e7]);repeat' first|((with_reducible first|apply gJoin_split|apply cond_split|apply gJoinD_split)<;>intro h<;>(try simp only [spl] at h)<;>try simp (disch:=first|exact bk rfl|omega|(simp only [ln];omega)|(simp only [go_sem];done)|decide) only [go_sem,Nat.reduceAdd,Nat.reduceMul,Nat.reduceEqDiff,Nat.reduceLT,Nat.reduceLeDiff,reduceIte,ePost,h78_4,h78_5,g5,hb,c0,e1,e2,c3,c4,e5,e6,e7,h])|((with_reducible refine cl_guard ?_;first|refine cl_eq (hG K) _ (isNight107_c _) rfl ?_|refine cl_eq (hG K) _ (account108_c _) rfl ?_)<;>try simp (disch:=first|exact bk rfl|omega|(simp only [ln];omega)|(simp only [go_sem];done)|decide) only [go_sem,Nat.reduceAdd,Nat.reduceMul,Nat.reduceEqDiff,Nat.reduceLT,Nat.reduceLeDiff,reduceIte,ePost,h78_4,h78_5,g5,hb,c0,e1,e2,c3,c4,e5,e6,e7])
  refine h2 (by rw [hpB];simp;omega) _ ?_ ?_<;>(first|rfl|(simp (disch:=first|exact bk rfl|omega|(simp only [ln];omega)|(simp only [go_sem];done)|decide) only [go_sem,Nat.reduceAdd,Nat.reduceMul,Nat.reduceEqDiff,Nat.reduceLT,Nat.reduceLeDiff,reduceIte]<;>rfl))
 have e7:=eq_false c7
 (try simp (disch:=first|exact bk rfl|omega|(simp only [ln];omega)|(simp only [go_sem];done)|decide) only [go_sem,Nat.reduceAdd,Nat.reduceMul,Nat.reduceEqDiff,Nat.reduceLT,Nat.reduceLeDiff,reduceIte,ePost,h78_4,h78_5,g5,hb,c0,e1,e2,c3,c4,e5,e6,e7]);repeat' first|((with_reducible first|apply gJoin_split|apply cond_split|apply gJoinD_split)<;>intro h<;>(try simp only [spl] at h)<;>try simp (disch:=first|exact bk rfl|omega|(simp only [ln];omega)|(simp only [go_sem];done)|decide) only [go_sem,Nat.reduceAdd,Nat.reduceMul,Nat.reduceEqDiff,Nat.reduceLT,Nat.reduceLeDiff,reduceIte,ePost,h78_4,h78_5,g5,hb,c0,e1,e2,c3,c4,e5,e6,e7,h])|((with_reducible refine cl_guard ?_;first|refine cl_eq (hG K) _ (isNight107_c _) rfl ?_|refine cl_eq (hG K) _ (account108_c _) rfl ?_)<;>try simp (disch:=first|exact bk rfl|omega|(simp only [ln];omega)|(simp only [go_sem];done)|decide) only [go_sem,Nat.reduceAdd,Nat.reduceMul,Nat.reduceEqDiff,Nat.reduceLT,Nat.reduceLeDiff,reduceIte,ePost,h78_4,h78_5,g5,hb,c0,e1,e2,c3,c4,e5,e6,e7])
 have hP:postB p=true:=by rw [hpB,c0,c3,c4];simp;omega
 refine h1 hP _ ?_ ?_ ?_<;>(simp (disch:=first|exact bk rfl|omega|(simp only [ln];omega)|(simp only [go_sem];done)|decide) only [go_sem,Nat.reduceAdd,Nat.reduceMul,Nat.reduceEqDiff,Nat.reduceLT,Nat.reduceLeDiff,reduceIte])
theorem check78_c {ps:List Posting} {d:D} (hs:Sl 5 ePost ps d) (hl:ps.length≤4000):CQ P (G K) 78 [d] (fun x=>∃i,x= .tup [.int .i64 (if ps.all postB then 0 else 1), .int .i64 i]):=by
 refine CQ.enter (hG K) ?_
 have f1:((4000:Int)<(ps.length:Int))=False:=by simp;omega
 (try simp (disch:=first|exact bk rfl|omega|(simp only [ln];omega)|(simp only [go_sem];done)|decide) only [go_sem,Nat.reduceAdd,Nat.reduceMul,Nat.reduceEqDiff,Nat.reduceLT,Nat.reduceLeDiff,reduceIte,h78,r78,f1,len_sl hs un43]);repeat' first|((with_reducible first|apply gJoin_split|apply cond_split|apply gJoinD_split)<;>intro h<;>(try simp only [spl] at h)<;>try simp (disch:=first|exact bk rfl|omega|(simp only [ln];omega)|(simp only [go_sem];done)|decide) only [go_sem,Nat.reduceAdd,Nat.reduceMul,Nat.reduceEqDiff,Nat.reduceLT,Nat.reduceLeDiff,reduceIte,h78,r78,f1,len_sl hs un43,h])
 refine loop_rule (I78 ps d) (fun m e H hi=> ?_) (m:=ps.length) ?_
 rotate_left
 ·refine⟨0,Nat.zero_le _,rfl,rfl, ?_, ?_, ?_,rfl⟩<;>(first|rfl|(simp (disch:=first|exact bk rfl|omega|(simp only [ln];omega)|(simp only [go_sem];done)|decide) only [go_sem,Nat.reduceAdd,Nat.reduceMul,Nat.reduceEqDiff,Nat.reduceLT,Nat.reduceLeDiff,reduceIte]<;>rfl))
 obtain⟨n,hn1,rfl,hdm,g9,g10,g11,ha⟩:=hi
 obtain⟨t,dm⟩:=e
 dsimp only at hdm g9 g10 g11
 subst hdm
 refine semC_run 200 ?_
 rw [h78_1]
 by_cases hlt:n<ps.length
 ·have e2:((n:Int)<(ps.length:Int))=True:=by simp;omega
  rw [all_drop hlt] at ha
  (try simp (disch:=first|exact bk rfl|omega|(simp only [ln];omega)|(simp only [go_sem];done)|decide) only [go_sem,Nat.reduceAdd,Nat.reduceMul,Nat.reduceEqDiff,Nat.reduceLT,Nat.reduceLeDiff,reduceIte,g9,g10,g11,e2,idx_sl hs un43 in83 ce83 hlt,rows_take ePost_len hlt,one83,set83,cells83,len83,h78_2]);repeat' first|((with_reducible first|apply gJoin_split|apply cond_split|apply gJoinD_split)<;>intro h<;>(try simp only [spl] at h)<;>try simp (disch:=first|exact bk rfl|omega|(simp only [ln];omega)|(simp only [go_sem];done)|decide) only [go_sem,Nat.reduceAdd,Nat.reduceMul,Nat.reduceEqDiff,Nat.reduceLT,Nat.reduceLeDiff,reduceIte,g9,g10,g11,e2,idx_sl hs un43 in83 ce83 hlt,rows_take ePost_len hlt,one83,set83,cells83,len83,h78_2,h])
  refine round78 (p:=ps[n]) (b:=H.nx) (el:=some 83) (by first|rfl|(simp (disch:=first|exact bk rfl|omega|(simp only [ln];omega)|(simp only [go_sem];done)|decide) only [go_sem,Nat.reduceAdd,Nat.reduceMul,Nat.reduceEqDiff,Nat.reduceLT,Nat.reduceLeDiff,reduceIte]<;>rfl)) (by first|rfl|(simp (disch:=first|exact bk rfl|omega|(simp only [ln];omega)|(simp only [go_sem];done)|decide) only [go_sem,Nat.reduceAdd,Nat.reduceMul,Nat.reduceEqDiff,Nat.reduceLT,Nat.reduceLeDiff,reduceIte]<;>rfl)) (fun hp t' a b c=> ?_) (fun hp t' a b=> ?_)
  ·(try simp (disch:=first|exact bk rfl|omega|(simp only [ln];omega)|(simp only [go_sem];done)|decide) only [go_sem,Nat.reduceAdd,Nat.reduceMul,Nat.reduceEqDiff,Nat.reduceLT,Nat.reduceLeDiff,reduceIte,a,b,c,g9,g10,g11,h78_3]);repeat' first|((with_reducible first|apply gJoin_split|apply cond_split|apply gJoinD_split)<;>intro h<;>(try simp only [spl] at h)<;>try simp (disch:=first|exact bk rfl|omega|(simp only [ln];omega)|(simp only [go_sem];done)|decide) only [go_sem,Nat.reduceAdd,Nat.reduceMul,Nat.reduceEqDiff,Nat.reduceLT,Nat.reduceLeDiff,reduceIte,a,b,c,g9,g10,g11,h78_3,h])
   refine again_mk (m':=ps.length - (n+1)) (by omega) ⟨n+1,hlt,rfl,rfl, ?_, ?_, ?_,by rw [ha,hp];rfl⟩<;>(first|rfl|(simp (disch:=first|exact bk rfl|omega|(simp only [ln];omega)|(simp only [go_sem];done)|decide) only [go_sem,Nat.reduceAdd,Nat.reduceMul,Nat.reduceEqDiff,Nat.reduceLT,Nat.reduceLeDiff,reduceIte,a,b,c,g9,g10,g11]<;>rfl))
  ·(try simp (disch:=first|exact bk rfl|omega|(simp only [ln];omega)|(simp only [go_sem];done)|decide) only [go_sem,Nat.reduceAdd,Nat.reduceMul,Nat.reduceEqDiff,Nat.reduceLT,Nat.reduceLeDiff,reduceIte,a,b,g11,r78]);repeat' first|((with_reducible first|apply gJoin_split|apply cond_split|apply gJoinD_split)<;>intro h<;>(try simp only [spl] at h)<;>try simp (disch:=first|exact bk rfl|omega|(simp only [ln];omega)|(simp only [go_sem];done)|decide) only [go_sem,Nat.reduceAdd,Nat.reduceMul,Nat.reduceEqDiff,Nat.reduceLT,Nat.reduceLeDiff,reduceIte,a,b,g11,r78,h])
   exact endQ_fro (.tup [.int .i64 1, .int .i64 n]) ⟨_,by rw [ha,hp];rfl⟩
 ·have e2:((n:Int)<(ps.length:Int))=False:=by simp;omega
  (try simp (disch:=first|exact bk rfl|omega|(simp only [ln];omega)|(simp only [go_sem];done)|decide) only [go_sem,Nat.reduceAdd,Nat.reduceMul,Nat.reduceEqDiff,Nat.reduceLT,Nat.reduceLeDiff,reduceIte,g9,g10,g11,e2,h78_0,r78]);repeat' first|((with_reducible first|apply gJoin_split|apply cond_split|apply gJoinD_split)<;>intro h<;>(try simp only [spl] at h)<;>try simp (disch:=first|exact bk rfl|omega|(simp only [ln];omega)|(simp only [go_sem];done)|decide) only [go_sem,Nat.reduceAdd,Nat.reduceMul,Nat.reduceEqDiff,Nat.reduceLT,Nat.reduceLeDiff,reduceIte,g9,g10,g11,e2,h78_0,r78,h])
  exact endQ_fro (.tup [.int .i64 0, .int .i64 (-1)]) ⟨_,by rw [ha,all_end (by omega)];rfl⟩
end Go.S9
namespace Go.S9
open Go.Ev Go.Proofs
set_option maxRecDepth 100000
set_option linter.unusedVariables false
set_option linter.unusedSimpArgs false
variable {K : Int} {H : Hp} {k : AV → Bool}
theorem one_of {α:Type} {sz:Nat} {enc:α→List D} {xs:List α} {d:D} (h:Sl sz enc xs d):one (ofD d)=true:=by
 rcases h with⟨rfl,rfl⟩| rfl<;>rfl
theorem cells_of {α:Type} {sz:Nat} {enc:α→List D} {xs:List α} {d:D} (h:Sl sz enc xs d):AV.cells (ofD d)=[ofD d]:=by
 rcases h with⟨rfl,rfl⟩| rfl<;>rfl
theorem minStep (a b:Int) (rest:List AV):minK true (.int .i64 a) (.int .i64 b::rest) k=minK true (.int .i64 (if a<b then b else a)) rest k:=by
 simp only [minK]
 rw [ilt_r]
 by_cases h:a<b
 ·rw [if_pos h,show decide (a<b)=true from by simp [h]]
 ·rw [if_neg h,show decide (a<b)=false from by simp [h]]
theorem max4 (a b c d:Int) (ha:a≤4000) (hb:b≤4000) (hc:c≤4000) (hd:d≤4000):∃m,m≤4000∧∀k,minV true [.int .i64 a, .int .i64 b, .int .i64 c, .int .i64 d] k=k (.int .i64 m):=by
 refine⟨_, ?_,fun k=>by show minK true (.int .i64 a) [.int .i64 b, .int .i64 c, .int .i64 d] k=_;rw [minStep,minStep,minStep];rfl⟩
 repeat' split
 all_goals omega
@[congr] theorem minV_congrM {mx:Bool} {l l':List AV} {pM:Prop} (h:l=l') (hM:Mk=pM):minV mx l k=minV mx l' k:=by rw [h]
def matchR (x:Reading):Bool:=decide (x.times.length=x.reads.length)
def telE (r:Reply):Int:=if r.readings.all matchR then (if r.postings.all postB then 0 else 1) else 2
def I44 (r:Reply) (m:Nat) (e:En) (H:Hp):Prop:=∃n,n≤r.readings.length∧m=r.readings.length - n∧e.dm=[]∧0<H.nx∧E2.get e.t 1= .ptr 0 0∧H.get 0=some (.cells (some 47) false (ofDs (eReply r)))∧E2.get e.t 22=ofD r.dg∧E2.get e.t 23= .int .i64 (r.readings.length:Int)∧E2.get e.t 24= .int .i64 (n:Int)∧r.readings.all matchR=(r.readings.drop n).all matchR
theorem tellable44_c {r:Reply} (hr:ReplyOK r) (hb:Brief r):CQ P (G K) 44 [.agg (eReply r)] (·= .int .i64 (telE r)):=by
 have b1:=hr.gl
 obtain⟨m4,hm4,hmax⟩:=max4 (r.list.length:Int) (r.postings.length:Int) (r.readings.length:Int) (r.proofs.length:Int) (by have:=hb.l;omega) (by have:=hb.p;omega) (by have:=hb.g;omega) (by have:=hb.f;omega)
 have f1:((4000:Int)<m4)=False:=by simp;omega
 refine CQ.enter (hG K) ?_
 (try simp (disch:=first|exact bk rfl|omega|(simp only [ln];omega)|(simp only [go_sem];done)|decide) only [go_sem,Nat.reduceAdd,Nat.reduceMul,Nat.reduceEqDiff,Nat.reduceLT,Nat.reduceLeDiff,reduceIte,eReply,h44,r44,len_sl hr.l un42,len_sl hr.p un43,len_sl hr.g un44,len_sl hr.f un45,hmax,f1]);repeat' first|((with_reducible first|apply gJoin_split|apply cond_split|apply gJoinD_split)<;>intro h<;>(try simp only [spl] at h)<;>try simp (disch:=first|exact bk rfl|omega|(simp only [ln];omega)|(simp only [go_sem];done)|decide) only [go_sem,Nat.reduceAdd,Nat.reduceMul,Nat.reduceEqDiff,Nat.reduceLT,Nat.reduceLeDiff,reduceIte,eReply,h44,r44,len_sl hr.l un42,len_sl hr.p un43,len_sl hr.g un44,len_sl hr.f un45,hmax,f1,h])
 refine loop_rule (I44 r) (fun m e H hi=> ?_) (m:=r.readings.length) ?_
 rotate_left
 ·refine⟨0,Nat.zero_le _,rfl,rfl, ?_, ?_, ?_, ?_, ?_, ?_,rfl⟩<;>first | (first|rfl|(simp (disch:=first|exact bk rfl|omega|(simp only [ln];omega)|(simp only [go_sem];done)|decide) only [go_sem,Nat.reduceAdd,Nat.reduceMul,Nat.reduceEqDiff,Nat.reduceLT,Nat.reduceLeDiff,reduceIte,eReply]<;>rfl))| (simp (disch:=first|exact bk rfl|omega|(simp only [ln];omega)|(simp only [go_sem];done)|decide) only [go_sem,Nat.reduceAdd,Nat.reduceMul,Nat.reduceEqDiff,Nat.reduceLT,Nat.reduceLeDiff,reduceIte];omega)
 obtain⟨n,hn1,rfl,hdm,hnx,g1,h0,g22,g23,g24,hs⟩:=hi
 obtain⟨t,dm⟩:=e
 dsimp only at hdm g1 g22 g23 g24
 subst hdm
 refine semC_run 200 ?_
 rw [h44_1]
 by_cases hlt:n<r.readings.length
 ·have e2:((n:Int)<(r.readings.length:Int))=True:=by simp;omega
  have o1:=hr.go _ (List.getElem_mem hlt)
  have o2:=(hb.s _ (List.getElem_mem hlt)).2
  have q2:((4000:Int)<(r.readings[n].times.length:Int))=False:=by simp;omega
  have z0:(0=H.nx)=False:=by simp;omega
  rw [all_drop hlt] at hs
  by_cases d1:r.readings[n].times.length=r.readings[n].reads.length
  ·have q1:((r.readings[n].times.length:Int)=(r.readings[n].reads.length:Int))=True:=by simp;omega
   (try simp (disch:=first|exact bk rfl|omega|(simp only [ln];omega)|(simp only [go_sem];done)|decide) only [go_sem,Nat.reduceAdd,Nat.reduceMul,Nat.reduceEqDiff,Nat.reduceLT,Nat.reduceLeDiff,reduceIte,h44,r44,h44_0,h44_1,h44_2,h44_3,h44_4,h44_5,g1,g22,g23,g24,h0,e2,idx_sl hr.g un44 in72 ce72 hlt,rows_take eReading_len hlt,eReading,one_of o1.r,one_of o1.t,len_sl o1.r un70,len_sl o1.t un42,q1,q2]);repeat' first|((with_reducible first|apply gJoin_split|apply cond_split|apply gJoinD_split)<;>intro h<;>(try simp only [spl] at h)<;>try simp (disch:=first|exact bk rfl|omega|(simp only [ln];omega)|(simp only [go_sem];done)|decide) only [go_sem,Nat.reduceAdd,Nat.reduceMul,Nat.reduceEqDiff,Nat.reduceLT,Nat.reduceLeDiff,reduceIte,h44,r44,h44_0,h44_1,h44_2,h44_3,h44_4,h44_5,g1,g22,g23,g24,h0,e2,idx_sl hr.g un44 in72 ce72 hlt,rows_take eReading_len hlt,eReading,one_of o1.r,one_of o1.t,len_sl o1.r un70,len_sl o1.t un42,q1,q2,h])
   refine again_mk (m':=r.readings.length - (n+1)) (by omega) ⟨n+1,hlt,rfl,rfl, ?_, ?_, ?_, ?_, ?_, ?_,by rw [hs];simp [matchR,d1]⟩<;>((simp (disch:=first|exact bk rfl|omega|(simp only [ln];omega)|(simp only [go_sem];done)|decide) only [go_sem,Nat.reduceAdd,Nat.reduceMul,Nat.reduceEqDiff,Nat.reduceLT,Nat.reduceLeDiff,reduceIte,g1,g22,g23,g24,h0,z0]<;>first|rfl|omega))
  ·have q1:((r.readings[n].times.length:Int)=(r.readings[n].reads.length:Int))=False:=by simp;omega
   (try simp (disch:=first|exact bk rfl|omega|(simp only [ln];omega)|(simp only [go_sem];done)|decide) only [go_sem,Nat.reduceAdd,Nat.reduceMul,Nat.reduceEqDiff,Nat.reduceLT,Nat.reduceLeDiff,reduceIte,h44,r44,h44_0,h44_1,h44_2,h44_3,h44_4,h44_5,g1,g22,g23,g24,h0,e2,idx_sl hr.g un44 in72 ce72 hlt,rows_take eReading_len hlt,eReading,one_of o1.r,one_of o1.t,len_sl o1.r un70,len_sl o1.t un42,q1,q2]);repeat' first|((with_reducible first|apply gJoin_split|apply cond_split|apply gJoinD_split)<;>intro h<;>(try simp only [spl] at h)<;>try simp (disch:=first|exact bk rfl|omega|(simp only [ln];omega)|(simp only [go_sem];done)|decide) only [go_sem,Nat.reduceAdd,Nat.reduceMul,Nat.reduceEqDiff,Nat.reduceLT,Nat.reduceLeDiff,reduceIte,h44,r44,h44_0,h44_1,h44_2,h44_3,h44_4,h44_5,g1,g22,g23,g24,h0,e2,idx_sl hr.g un44 in72 ce72 hlt,rows_take eReading_len hlt,eReading,one_of o1.r,one_of o1.t,len_sl o1.r un70,len_sl o1.t un42,q1,q2,h])
   exact endQ_fro (.int .i64 2) (by simp [telE,hs,matchR,d1])
 ·have e2:((n:Int)<(r.readings.length:Int))=False:=by simp;omega
  (try simp (disch:=first|exact bk rfl|omega|(simp only [ln];omega)|(simp only [go_sem];done)|decide) only [go_sem,Nat.reduceAdd,Nat.reduceMul,Nat.reduceEqDiff,Nat.reduceLT,Nat.reduceLeDiff,reduceIte,h44_0,r44,g1,g22,g23,g24,h0,e2,eReply]);repeat' first|((with_reducible first|apply gJoin_split|apply cond_split|apply gJoinD_split)<;>intro h<;>(try simp only [spl] at h)<;>try simp (disch:=first|exact bk rfl|omega|(simp only [ln];omega)|(simp only [go_sem];done)|decide) only [go_sem,Nat.reduceAdd,Nat.reduceMul,Nat.reduceEqDiff,Nat.reduceLT,Nat.reduceLeDiff,reduceIte,h44_0,r44,g1,g22,g23,g24,h0,e2,eReply,h])
  refine cl_any (hG K) [r.dp] (check78_c hr.p (by have:=hb.p;omega)) rfl fun d hd=> ?_
  obtain⟨i,rfl⟩:=hd
  (try simp (disch:=first|exact bk rfl|omega|(simp only [ln];omega)|(simp only [go_sem];done)|decide) only [go_sem,Nat.reduceAdd,Nat.reduceMul,Nat.reduceEqDiff,Nat.reduceLT,Nat.reduceLeDiff,reduceIte,h44_0,r44]);repeat' first|((with_reducible first|apply gJoin_split|apply cond_split|apply gJoinD_split)<;>intro h<;>(try simp only [spl] at h)<;>try simp (disch:=first|exact bk rfl|omega|(simp only [ln];omega)|(simp only [go_sem];done)|decide) only [go_sem,Nat.reduceAdd,Nat.reduceMul,Nat.reduceEqDiff,Nat.reduceLT,Nat.reduceLeDiff,reduceIte,h44_0,r44,h])
  exact endQ_fro (.int .i64 _) (by simp [telE,hs,all_end (show r.readings.length≤n by omega)])
def I47 (r:Reply) (m:Nat) (e:En) (H:Hp):Prop:=∃n,n≤r.readings.length∧m=r.readings.length - n∧e.dm=[]∧E2.get e.t 1= .ptr 0 0∧H.get 0=some (.cells (some 47) false (ofDs (eReply r)))∧E2.get e.t 3= .int .i64 (n:Int)∧r.readings.all matchR=(r.readings.drop n).all matchR
def J47 (r:Reply) (m:Nat) (e:En) (H:Hp):Prop:=∃n,n≤r.postings.length∧m=r.postings.length - n∧e.dm=[]∧E2.get e.t 1= .ptr 0 0∧H.get 0=some (.cells (some 47) false (ofDs (eReply r)))∧E2.get e.t 4= .int .i64 (n:Int)∧r.postings.all postB=(r.postings.drop n).all postB
theorem tail47 {r:Reply} (hr:ReplyOK r) {t:E2} {H:Hp} {Q:D→Prop} {kk:AEx→En→Hp→Bool} (hk:∀t H,kk .ret ⟨t,[]⟩ H=endQ Q (.ret (E2.get t 2)) H) (g1:E2.get t 1= .ptr 0 0) (h0:H.get 0=some (.cells (some 47) false (ofDs (eReply r))))
  (hq:Q (.int .i64 (if r.postings.all postB then 0 else 1))):cd P (G K) 197 73 (subC 47 [1,1,1]) none ⟨t,[]⟩ H kk=true:=by
 have b1:=hr.pl
 simp (disch:=first|exact bk rfl|omega|(simp only [ln];omega)|(simp only [go_sem];done)|decide) only [go_sem,Nat.reduceAdd,Nat.reduceMul,Nat.reduceEqDiff,Nat.reduceLT,Nat.reduceLeDiff,reduceIte,h47_6]
 refine loop_rule (J47 r) (fun m e H hi=> ?_) (m:=r.postings.length) ?_
 rotate_left
 ·refine⟨0,Nat.zero_le _,rfl,rfl, ?_,h0, ?_,rfl⟩<;>(first|rfl|(simp (disch:=first|exact bk rfl|omega|(simp only [ln];omega)|(simp only [go_sem];done)|decide) only [go_sem,Nat.reduceAdd,Nat.reduceMul,Nat.reduceEqDiff,Nat.reduceLT,Nat.reduceLeDiff,reduceIte,g1]<;>rfl))
 obtain⟨n,hn1,rfl,hdm,g1,h0,g4,hs⟩:=hi
 obtain⟨t,dm⟩:=e
 dsimp only at hdm g1 g4
 subst hdm
 refine semC_run 200 ?_
 rw [h47_3]
 by_cases hlt:n<r.postings.length
 ·have e2:((n:Int)<(r.postings.length:Int))=True:=by simp;omega
  rw [all_drop hlt] at hs
  cases hp:postB r.postings[n] with
  | true=>
   (try simp (disch:=first|exact bk rfl|omega|(simp only [ln];omega)|(simp only [go_sem];done)|decide) only [go_sem,Nat.reduceAdd,Nat.reduceMul,Nat.reduceEqDiff,Nat.reduceLT,Nat.reduceLeDiff,reduceIte,eReply,g1,g4,h0,e2,hk,hp,len_sl hr.p un43,idx_sl hr.p un43 in83 ce83 hlt,rows_take ePost_len hlt]);repeat' first|((with_reducible first|apply gJoin_split|apply cond_split|apply gJoinD_split)<;>intro h<;>(try simp only [spl] at h)<;>try simp (disch:=first|exact bk rfl|omega|(simp only [ln];omega)|(simp only [go_sem];done)|decide) only [go_sem,Nat.reduceAdd,Nat.reduceMul,Nat.reduceEqDiff,Nat.reduceLT,Nat.reduceLeDiff,reduceIte,eReply,g1,g4,h0,e2,hk,hp,len_sl hr.p un43,idx_sl hr.p un43 in83 ce83 hlt,rows_take ePost_len hlt,h])|((with_reducible refine cl_guard ?_;refine cl_eq (hG K) _ (posting81_c _) rfl ?_)<;>try simp (disch:=first|exact bk rfl|omega|(simp only [ln];omega)|(simp only [go_sem];done)|decide) only [go_sem,Nat.reduceAdd,Nat.reduceMul,Nat.reduceEqDiff,Nat.reduceLT,Nat.reduceLeDiff,reduceIte,eReply,g1,g4,h0,e2,hk,hp,len_sl hr.p un43,idx_sl hr.p un43 in83 ce83 hlt,rows_take ePost_len hlt])
   refine again_mk (m':=r.postings.length - (n+1)) (by omega) ⟨n+1,hlt,rfl,rfl, ?_,h0, ?_,by rw [hs,hp];rfl⟩<;>(first|rfl|(simp (disch:=first|exact bk rfl|omega|(simp only [ln];omega)|(simp only [go_sem];done)|decide) only [go_sem,Nat.reduceAdd,Nat.reduceMul,Nat.reduceEqDiff,Nat.reduceLT,Nat.reduceLeDiff,reduceIte,g1,g4]<;>rfl))
  | false=>
   (try simp (disch:=first|exact bk rfl|omega|(simp only [ln];omega)|(simp only [go_sem];done)|decide) only [go_sem,Nat.reduceAdd,Nat.reduceMul,Nat.reduceEqDiff,Nat.reduceLT,Nat.reduceLeDiff,reduceIte,eReply,g1,g4,h0,e2,hk,hp,len_sl hr.p un43,idx_sl hr.p un43 in83 ce83 hlt,rows_take ePost_len hlt]);repeat' first|((with_reducible first|apply gJoin_split|apply cond_split|apply gJoinD_split)<;>intro h<;>(try simp only [spl] at h)<;>try simp (disch:=first|exact bk rfl|omega|(simp only [ln];omega)|(simp only [go_sem];done)|decide) only [go_sem,Nat.reduceAdd,Nat.reduceMul,Nat.reduceEqDiff,Nat.reduceLT,Nat.reduceLeDiff,reduceIte,eReply,g1,g4,h0,e2,hk,hp,len_sl hr.p un43,idx_sl hr.p un43 in83 ce83 hlt,rows_take ePost_len hlt,h])|((with_reducible refine cl_guard ?_;refine cl_eq (hG K) _ (posting81_c _) rfl ?_)<;>try simp (disch:=first|exact bk rfl|omega|(simp only [ln];omega)|(simp only [go_sem];done)|decide) only [go_sem,Nat.reduceAdd,Nat.reduceMul,Nat.reduceEqDiff,Nat.reduceLT,Nat.reduceLeDiff,reduceIte,eReply,g1,g4,h0,e2,hk,hp,len_sl hr.p un43,idx_sl hr.p un43 in83 ce83 hlt,rows_take ePost_len hlt])
   refine endQ_fro (.int .i64 1) ?_
   rw [hs,hp] at hq
   exact hq
 ·have e2:((n:Int)<(r.postings.length:Int))=False:=by simp;omega
  (try simp (disch:=first|exact bk rfl|omega|(simp only [ln];omega)|(simp only [go_sem];done)|decide) only [go_sem,Nat.reduceAdd,Nat.reduceMul,Nat.reduceEqDiff,Nat.reduceLT,Nat.reduceLeDiff,reduceIte,eReply,g1,g4,h0,e2,hk,len_sl hr.p un43,h47_9]);repeat' first|((with_reducible first|apply gJoin_split|apply cond_split|apply gJoinD_split)<;>intro h<;>(try simp only [spl] at h)<;>try simp (disch:=first|exact bk rfl|omega|(simp only [ln];omega)|(simp only [go_sem];done)|decide) only [go_sem,Nat.reduceAdd,Nat.reduceMul,Nat.reduceEqDiff,Nat.reduceLT,Nat.reduceLeDiff,reduceIte,eReply,g1,g4,h0,e2,hk,len_sl hr.p un43,h47_9,h])
  refine endQ_fro (.int .i64 0) ?_
  rw [hs,all_end (by omega)] at hq
  exact hq
theorem sizes47_c {r:Reply} (hr:ReplyOK r) (hb:Brief r):CQ P (G K) 47 [.agg (eReply r)] (·= .int .i64 (telE r)):=by
 have b1:=hr.gl
 have f1:((4000:Int)<(r.list.length:Int))=False:=by have:=hb.l;simp;omega
 have f2:((4000:Int)<(r.postings.length:Int))=False:=by have:=hb.p;simp;omega
 have f3:((4000:Int)<(r.readings.length:Int))=False:=by have:=hb.g;simp;omega
 have f4:((4000:Int)<(r.proofs.length:Int))=False:=by have:=hb.f;simp;omega
 refine CQ.enter (hG K) ?_
 (try simp (disch:=first|exact bk rfl|omega|(simp only [ln];omega)|(simp only [go_sem];done)|decide) only [go_sem,Nat.reduceAdd,Nat.reduceMul,Nat.reduceEqDiff,Nat.reduceLT,Nat.reduceLeDiff,reduceIte,eReply,h47,r47,h47_0,h47_1,h47_4,h47_5,f1,f2,f3,f4,len_sl hr.l un42,len_sl hr.p un43,len_sl hr.g un44,len_sl hr.f un45]);repeat' first|((with_reducible first|apply gJoin_split|apply cond_split|apply gJoinD_split)<;>intro h<;>(try simp only [spl] at h)<;>try simp (disch:=first|exact bk rfl|omega|(simp only [ln];omega)|(simp only [go_sem];done)|decide) only [go_sem,Nat.reduceAdd,Nat.reduceMul,Nat.reduceEqDiff,Nat.reduceLT,Nat.reduceLeDiff,reduceIte,eReply,h47,r47,h47_0,h47_1,h47_4,h47_5,f1,f2,f3,f4,len_sl hr.l un42,len_sl hr.p un43,len_sl hr.g un44,len_sl hr.f un45,h])
 refine loop_rule (I47 r) (fun m e H hi=> ?_) (m:=r.readings.length) ?_
 rotate_left
 ·refine⟨0,Nat.zero_le _,rfl,rfl, ?_, ?_, ?_,rfl⟩<;>(first|rfl|(simp (disch:=first|exact bk rfl|omega|(simp only [ln];omega)|(simp only [go_sem];done)|decide) only [go_sem,Nat.reduceAdd,Nat.reduceMul,Nat.reduceEqDiff,Nat.reduceLT,Nat.reduceLeDiff,reduceIte,eReply]<;>rfl))
 obtain⟨n,hn1,rfl,hdm,g1,h0,g3,hs⟩:=hi
 obtain⟨t,dm⟩:=e
 dsimp only at hdm g1 g3
 subst hdm
 refine semC_run 200 ?_
 rw [h47_2]
 by_cases hlt:n<r.readings.length
 ·have e2:((n:Int)<(r.readings.length:Int))=True:=by simp;omega
  have o1:=hr.go _ (List.getElem_mem hlt)
  have o2:=(hb.s _ (List.getElem_mem hlt)).2
  have q2:((4000:Int)<(r.readings[n].times.length:Int))=False:=by simp;omega
  rw [all_drop hlt] at hs
  by_cases d1:r.readings[n].times.length=r.readings[n].reads.length
  ·have q1:((r.readings[n].reads.length:Int)=(r.readings[n].times.length:Int))=True:=by simp;omega
   (try simp (disch:=first|exact bk rfl|omega|(simp only [ln];omega)|(simp only [go_sem];done)|decide) only [go_sem,Nat.reduceAdd,Nat.reduceMul,Nat.reduceEqDiff,Nat.reduceLT,Nat.reduceLeDiff,reduceIte,h47_7,h47_8,h47_10,h47_11,eReply,g1,g3,h0,e2,len_sl hr.g un44,idx_sl hr.g un44 in72 ce72 hlt,get2 hlt,get2' hlt,avs_of hr.g,avs_of o1.r,avs_of o1.t,len_sl o1.r un70,len_sl o1.t un42,q1,q2]);repeat' first|((with_reducible first|apply gJoin_split|apply cond_split|apply gJoinD_split)<;>intro h<;>(try simp only [spl] at h)<;>try simp (disch:=first|exact bk rfl|omega|(simp only [ln];omega)|(simp only [go_sem];done)|decide) only [go_sem,Nat.reduceAdd,Nat.reduceMul,Nat.reduceEqDiff,Nat.reduceLT,Nat.reduceLeDiff,reduceIte,h47_7,h47_8,h47_10,h47_11,eReply,g1,g3,h0,e2,len_sl hr.g un44,idx_sl hr.g un44 in72 ce72 hlt,get2 hlt,get2' hlt,avs_of hr.g,avs_of o1.r,avs_of o1.t,len_sl o1.r un70,len_sl o1.t un42,q1,q2,h])
   refine again_mk (m':=r.readings.length - (n+1)) (by omega) ⟨n+1,hlt,rfl,rfl, ?_,h0, ?_,by rw [hs];simp [matchR,d1]⟩<;>((simp (disch:=first|exact bk rfl|omega|(simp only [ln];omega)|(simp only [go_sem];done)|decide) only [go_sem,Nat.reduceAdd,Nat.reduceMul,Nat.reduceEqDiff,Nat.reduceLT,Nat.reduceLeDiff,reduceIte,g1,g3]<;>first|rfl|omega))
  ·have q1:((r.readings[n].reads.length:Int)=(r.readings[n].times.length:Int))=False:=by simp;omega
   (try simp (disch:=first|exact bk rfl|omega|(simp only [ln];omega)|(simp only [go_sem];done)|decide) only [go_sem,Nat.reduceAdd,Nat.reduceMul,Nat.reduceEqDiff,Nat.reduceLT,Nat.reduceLeDiff,reduceIte,h47_7,h47_8,h47_10,h47_11,r47,eReply,g1,g3,h0,e2,len_sl hr.g un44,idx_sl hr.g un44 in72 ce72 hlt,get2 hlt,get2' hlt,avs_of hr.g,avs_of o1.r,avs_of o1.t,len_sl o1.r un70,len_sl o1.t un42,q1,q2]);repeat' first|((with_reducible first|apply gJoin_split|apply cond_split|apply gJoinD_split)<;>intro h<;>(try simp only [spl] at h)<;>try simp (disch:=first|exact bk rfl|omega|(simp only [ln];omega)|(simp only [go_sem];done)|decide) only [go_sem,Nat.reduceAdd,Nat.reduceMul,Nat.reduceEqDiff,Nat.reduceLT,Nat.reduceLeDiff,reduceIte,h47_7,h47_8,h47_10,h47_11,r47,eReply,g1,g3,h0,e2,len_sl hr.g un44,idx_sl hr.g un44 in72 ce72 hlt,get2 hlt,get2' hlt,avs_of hr.g,avs_of o1.r,avs_of o1.t,len_sl o1.r un70,len_sl o1.t un42,q1,q2,h])
   exact endQ_fro (.int .i64 2) (by simp [telE,hs,matchR,d1])
 ·have e2:((n:Int)<(r.readings.length:Int))=False:=by simp;omega
  (try simp (disch:=first|exact bk rfl|omega|(simp only [ln];omega)|(simp only [go_sem];done)|decide) only [go_sem,Nat.reduceAdd,Nat.reduceMul,Nat.reduceEqDiff,Nat.reduceLT,Nat.reduceLeDiff,reduceIte,eReply,g1,g3,h0,e2,len_sl hr.g un44]);repeat' first|((with_reducible first|apply gJoin_split|apply cond_split|apply gJoinD_split)<;>intro h<;>(try simp only [spl] at h)<;>try simp (disch:=first|exact bk rfl|omega|(simp only [ln];omega)|(simp only [go_sem];done)|decide) only [go_sem,Nat.reduceAdd,Nat.reduceMul,Nat.reduceEqDiff,Nat.reduceLT,Nat.reduceLeDiff,reduceIte,eReply,g1,g3,h0,e2,len_sl hr.g un44,h])
  refine tail47 (Q:=(·= .int .i64 (telE r))) hr (fun t H=>by simp (disch:=first|exact bk rfl|omega|(simp only [ln];omega)|(simp only [go_sem];done)|decide) only [go_sem,Nat.reduceAdd,Nat.reduceMul,Nat.reduceEqDiff,Nat.reduceLT,Nat.reduceLeDiff,reduceIte,r47]) ?_ h0 ?_
  ·first|rfl|(simp (disch:=first|exact bk rfl|omega|(simp only [ln];omega)|(simp only [go_sem];done)|decide) only [go_sem,Nat.reduceAdd,Nat.reduceMul,Nat.reduceEqDiff,Nat.reduceLT,Nat.reduceLeDiff,reduceIte,g1]<;>rfl)
  ·simp [telE,hs,all_end (show r.readings.length≤n by omega)]
end Go.S9
