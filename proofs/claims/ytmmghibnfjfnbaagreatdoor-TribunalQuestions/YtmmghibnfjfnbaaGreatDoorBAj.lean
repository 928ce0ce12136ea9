/- A part of the proof of TribunalQuestions. -/
import Derived.Test.YtmmghibnfjfnbaaGreatDoorBAd
import Derived.Test.YtmmghibnfjfnbaaGreatDoorBAf
import Derived.Test.YtmmghibnfjfnbaaGreatDoorBAg
import Derived.Test.YtmmghibnfjfnbaaGreatDoorBAh
import Derived.Test.YtmmghibnfjfnbaaGreatDoorBAi
import Derived.Test.YtmmghibnfjfnbaaGreatDoorBAe
set_option linter.unusedVariables false
set_option linter.unusedSimpArgs false
namespace Go.S9
open Go.Ev Go.Proofs
set_option maxRecDepth 100000
set_option linter.unusedVariables false
set_option linter.unusedSimpArgs false
attribute [go_sem] Nat.reduceAdd Nat.reduceMul Nat.reduceEqDiff Nat.reduceLT Nat.reduceLeDiff reduceIte
variable {K : GP}
abbrev Str:=List Nat
structure Span where
 lo:Int
 hi:Int
def eSpan (s:Span):List D:=[.int .i64 s.lo, .int .i64 s.hi]
def eInt (n:Int):List D:=[.int .i64 n]
structure Read where
 mark:Int
 station:Int
def eRead (s:Read):List D:=[.int .i64 s.mark, .int .i64 s.station]
structure Posting where
 night:Int
 no:Int
 from_:Int
 to_:Int
 amount:Int
def ePost (s:Posting):List D:=[.int .i64 s.night, .int .i64 s.no, .int .i64 s.from_, .int .i64 s.to_, .int .i64 s.amount]
structure Raise where
 visit:Int
 by_:Int
 to_:Int
def eRaise (s:Raise):List D:=[.int .i64 s.visit, .int .i64 s.by_, .int .i64 s.to_]
structure Reading where
 reads:List Read
 dr:D
 times:List Int
 dt:D
def eReading (s:Reading):List D:=[s.dr,s.dt]
structure Proof where
 raises:List Raise
 d:D
def eProof (s:Proof):List D:=[s.d]
structure Reply where
 errno:Int
 yes:Bool
 j0:Int
 j1:Int
 j2:Int
 j3:Int
 j4:Int
 j5:Int
 lo:Int
 hi:Int
 pence:Int
 list:List Int
 dl:D
 postings:List Posting
 dp:D
 readings:List Reading
 dg:D
 proofs:List Proof
 df:D
def eReply (s:Reply):List D:=[.int .i64 s.errno, .bool s.yes, .int .i64 s.j0, .int .i64 s.j1, .int .i64 s.j2, .int .i64 s.j3, .int .i64 s.j4, .int .i64 s.j5, .int .i64 s.lo, .int .i64 s.hi, .int .i64 s.pence,s.dl,s.dp,s.dg,s.df]
theorem eInt_len (s:Int):(eInt s).length=1:=rfl
theorem eRead_len (s:Read):(eRead s).length=2:=rfl
theorem ePost_len (s:Posting):(ePost s).length=5:=rfl
theorem eRaise_len (s:Raise):(eRaise s).length=3:=rfl
theorem eReading_len (s:Reading):(eReading s).length=2:=rfl
theorem eProof_len (s:Proof):(eProof s).length=1:=rfl
theorem drop_at {α:Type} {xs:List α} {n:Nat} (h:n<xs.length):xs.drop n=xs[n]::xs.drop (n+1):=by simp
def inB (n lo hi:Int):Bool:=decide (lo≤n∧n≤hi)
theorem in67_c (n lo hi:Int):CQ P (G K) 67 [.int .i64 n, .int .i64 lo, .int .i64 hi] (·= .bool (inB n lo hi)):=by
 refine CQ.enter (hG K) ?_
 (try simp (maxSteps:=10000000) (disch:=first|exact bk rfl|omega|(simp only [ln];omega)|(simp only [go_sem];done)|decide) only [go_sem,h67,r67,h67_0,h67_1]);repeat' first|((with_reducible first|apply gJoin_split|apply cond_split|apply gJoinD_split)<;>intro h<;>(try simp only [spl] at h)<;>try simp (maxSteps:=10000000) (disch:=first|exact bk rfl|omega|(simp only [ln];omega)|(simp only [go_sem];done)|decide) only [go_sem,h67,r67,h67_0,h67_1,h])
 all_goals (refine endQ_fro (.bool _) ?_;first | (simp [inB, *];done)| (congr 1;rw [Bool.eq_iff_iff];simp [inB, *];omega)| (congr 1;rw [Bool.eq_iff_iff];simp [inB];omega)| (simp [inB, *]<;>omega))
def accB (a:Int):Bool:=decide (a= -1∨a= -2∨(1≤a∧a≤1099511627776))
theorem account24_c (n:Int):CQ P (G K) 24 [.int .i64 n] (·= .bool (accB n)):=by
 refine CQ.enter (hG K) ?_
 (try simp (maxSteps:=10000000) (disch:=first|exact bk rfl|omega|(simp only [ln];omega)|(simp only [go_sem];done)|decide) only [go_sem,h24,r24,h24_0,h24_1, *]);repeat' first|((with_reducible first|apply gJoin_split|apply cond_split|apply gJoinD_split)<;>intro h<;>(try simp only [spl] at h)<;>try simp (maxSteps:=10000000) (disch:=first|exact bk rfl|omega|(simp only [ln];omega)|(simp only [go_sem];done)|decide) only [go_sem,h24,r24,h24_0,h24_1, *])|((with_reducible refine cl_guard ?_;refine cl_eq (hG K) _ (in67_c _ _ _) rfl ?_)<;>try simp (maxSteps:=10000000) (disch:=first|exact bk rfl|omega|(simp only [ln];omega)|(simp only [go_sem];done)|decide) only [go_sem,h24,r24,h24_0,h24_1, *])
 all_goals (try simp only [inB,decide_eq_true_eq,decide_eq_false_iff_not] at *)
 all_goals (refine endQ_fro (.bool _) ?_;first | (simp [accB,inB, *];done)| (congr 1;rw [Bool.eq_iff_iff];simp [accB,inB, *];omega)| (congr 1;rw [Bool.eq_iff_iff];simp [accB,inB];omega)| (simp [accB,inB, *]<;>omega))
theorem account108_c (n:Int):CQ P (G K) 108 [.int .i64 n] (·= .bool (accB n)):=by
 refine CQ.enter (hG K) ?_
 (try simp (maxSteps:=10000000) (disch:=first|exact bk rfl|omega|(simp only [ln];omega)|(simp only [go_sem];done)|decide) only [go_sem,h108,r108,h108_0,h108_1, *]);repeat' first|((with_reducible first|apply gJoin_split|apply cond_split|apply gJoinD_split)<;>intro h<;>(try simp only [spl] at h)<;>try simp (maxSteps:=10000000) (disch:=first|exact bk rfl|omega|(simp only [ln];omega)|(simp only [go_sem];done)|decide) only [go_sem,h108,r108,h108_0,h108_1, *])
 all_goals (refine endQ_fro (.bool _) ?_;first | (simp [accB, *];done)| (congr 1;rw [Bool.eq_iff_iff];simp [accB, *];omega)| (congr 1;rw [Bool.eq_iff_iff];simp [accB];omega)| (simp [accB, *]<;>omega))
def nightB (n:Int):Bool:=decide (0≤n∧n≤20000)
theorem isNight107_c (n:Int):CQ P (G K) 107 [.int .i64 n] (·= .bool (nightB n)):=by
 refine CQ.enter (hG K) ?_
 (try simp (maxSteps:=10000000) (disch:=first|exact bk rfl|omega|(simp only [ln];omega)|(simp only [go_sem];done)|decide) only [go_sem,h107,r107,h107_0,h107_1]);repeat' first|((with_reducible first|apply gJoin_split|apply cond_split|apply gJoinD_split)<;>intro h<;>(try simp only [spl] at h)<;>try simp (maxSteps:=10000000) (disch:=first|exact bk rfl|omega|(simp only [ln];omega)|(simp only [go_sem];done)|decide) only [go_sem,h107,r107,h107_0,h107_1,h])
 all_goals (refine endQ_fro (.bool _) ?_;first | (simp [nightB, *];done)| (congr 1;rw [Bool.eq_iff_iff];simp [nightB, *];omega)| (congr 1;rw [Bool.eq_iff_iff];simp [nightB];omega)| (simp [nightB, *]<;>omega))
def postB (p:Posting):Bool:=nightB p.night&&decide (0≤p.no∧p.no≤12)&&accB p.from_&&accB p.to_&&decide (p.from_≠p.to_)&&decide (1≤p.amount∧p.amount≤1099511627776)
theorem posting81_c (p:Posting):CQ P (G K) 81 [.agg (ePost p)] (·= .bool (postB p)):=by
 refine CQ.enter (hG K) ?_
 (try simp (maxSteps:=10000000) (disch:=first|exact bk rfl|omega|(simp only [ln];omega)|(simp only [go_sem];done)|decide) only [go_sem,ePost,h81,r81,h81_0,h81_1, *]);repeat' first|((with_reducible first|apply gJoin_split|apply cond_split|apply gJoinD_split)<;>intro h<;>(try simp only [spl] at h)<;>try simp (maxSteps:=10000000) (disch:=first|exact bk rfl|omega|(simp only [ln];omega)|(simp only [go_sem];done)|decide) only [go_sem,ePost,h81,r81,h81_0,h81_1, *])|((with_reducible refine cl_guard ?_;first|refine cl_eq (hG K) _ (account24_c _) rfl ?_|refine cl_eq (hG K) _ (in67_c _ _ _) rfl ?_)<;>try simp (maxSteps:=10000000) (disch:=first|exact bk rfl|omega|(simp only [ln];omega)|(simp only [go_sem];done)|decide) only [go_sem,ePost,h81,r81,h81_0,h81_1, *])
 all_goals (try simp only [inB,decide_eq_true_eq,decide_eq_false_iff_not] at *)
 all_goals (refine endQ_fro (.bool _) ?_;first | (simp [postB,inB,nightB, *];done)| (congr 1;rw [Bool.eq_iff_iff];simp [postB,inB,nightB, *];omega)| (congr 1;rw [Bool.eq_iff_iff];simp [postB,inB,nightB];omega)| (simp [postB,inB,nightB, *]<;>omega))
end Go.S9
namespace Go.S9
open Go.Ev Go.Proofs
set_option maxRecDepth 100000
set_option linter.unusedVariables false
set_option linter.unusedSimpArgs false
variable {K : GP} {H : Hp} {k : AV → Bool}
def inR (n:Int):Prop:= -9223372036854775808≤n∧n≤9223372036854775807
def dg (u:Nat):Str:=(Lib.decDigits u).map UInt8.toNat
theorem dg_lt {u:Nat} (h:u<10):dg u=[48+u]:=by
 unfold dg
 rw [Lib.decDigits_one h]
 simp;omega
theorem dg_ge {u:Nat} (h:¬u<10):dg u=dg (u/10)++[48+u%10]:=by
 unfold dg
 rw [Lib.decDigits,dif_neg h]
 simp;omega
theorem dg_len:∀(j u:Nat),u<10 ^(j+1)→(dg u).length≤j+1
 | 0,u,h=>by rw [dg_lt (by simpa using h)];simp
 | j+1,u,h=>by
  by_cases h1:u<10
  ·rw [dg_lt h1];simp
  ·rw [dg_ge h1,List.length_append]
   have:=dg_len j (u/10) (by rw [Nat.pow_succ] at h;omega)
   simp;omega
theorem dg_byte (u:Nat):∀c∈dg u,c<256:=fun c hc=>by
 obtain⟨x,_,rfl⟩:=List.mem_map.1 hc
 exact x.toNat_lt
def itS (n:Int):Str:=(Lib.itoa n).map UInt8.toNat
theorem itS_nat (m:Nat):itS m=dg m:=by
 unfold itS Lib.itoa
 rw [if_neg (by omega)];rfl
theorem itS_neg {m:Nat} (h:0<m):itS (-(m:Int))=45::dg m:=by
 unfold itS Lib.itoa
 rw [if_pos (by omega)]
 simp [dg]
theorem itS_byte (n:Int):∀c∈itS n,c<256:=fun c hc=>by
 obtain⟨x,_,rfl⟩:=List.mem_map.1 hc
 exact x.toNat_lt
theorem itS_len {n:Int} (h:inR n):(itS n).length≤20:=by
 obtain⟨h1,h2⟩:=h
 rcases Int.eq_nat_or_neg n with⟨m,rfl | rfl⟩
 ·rw [itS_nat]
  have:=dg_len 18 m (by omega)
  omega
 ·rcases Nat.eq_zero_or_pos m with h0 | h0
  ·subst h0
   have:=dg_len 18 0 (by decide)
   rw [show (-((0:Nat):Int))=((0:Nat):Int) by rfl,itS_nat]
   omega
  ·rw [itS_neg h0]
   have:=dg_len 18 m (by omega)
   simp;omega
theorem itoa27_c {n:Int} (h:inR n):CQ P (G K) 27 [.int .i64 n] (·= .str (itS n)):=by
 intro w vs L hg hd
 rw [hd.int1]
 refine callsIn_wide.2 ((Tryz.strconv_Itoa n h.1 h.2 w (hg.tabIs (g:=0) rfl (by kernel_rfl))).mono fun e w' ⟨he,j,os,hw'⟩=> ?_)
 refine⟨_, .str (itS n),[],he,rfl, .strOf _ _ rfl,(fun j hj=>by cases hj), ?_⟩
 rw [hw']
 exact below_grow w j os
def strB (k:AV→Bool) (o:Option Blk):Bool:=match o with
 | some (.cells _ _ cs)=>match bytesOfCells 1 cs with
  | some l=>k (.str l)
  | none=>false
 | _=>false
@[go_sem ↓] theorem p2s (b:Nat) (c:Option Nat):ptrConvK P 74 9 (.sl b 0 1 1 c) H k=strB k (H.get b):=by
 unfold ptrConvK strB
 rw [un74,un9]
 dsimp only
 rw [un5]
 dsimp only
 cases H.get b with
 | none=>rfl
 | some x=>cases x<;>rfl
@[go_sem ↓] theorem strB_one (el:Option TypeId) (ro:Bool) {c:Nat} (h:c<256):strB k (some (.cells el ro [.int .u8 (c:Int)]))=k (.str [c]):=by
 have:Nat.blt c 256=true:=by simpa [Nat.blt_eq] using h
 show (match bytesOfCells 1 [.int .u8 (.ofNat c)] with
  | some l=>k (.str l)
  | none=>false)=_
 simp only [bytesOfCells,this]
@[congr] theorem strB_congrM {o o':Option Blk} {pM:Prop} (h:o=o') (hM:Mk=pM):strB k o=strB k o':=by rw [h]
@[go_sem] theorem retSl_r (n z b:Nat):retSl n z b= .sl b 0 n z (some n):=rfl
@[go_sem ↓] theorem bs74 (v:Int) (kk:Blk→(Nat→AV)→Bool):buildSliceK P 74 1 [(0, .int .u8 v)] kk=kk (.cells (some 5) false [.int .u8 v]) (retSl 1 1):=by
 have h1:zro P 5=some (.int .u8 0):=by kernel_rfl
 unfold buildSliceK
 rw [el74]
 dsimp only
 rw [h1]
 have h2:zeroCs P 5=[.int .u8 0]:=by unfold zeroCs;rw [h1];rfl
 rw [h2,ce5]
 rfl
@[go_sem ↓] theorem convU {d:Nat} (h:d<10):convK P 3 5 (.int .i64 (48+(d:Int))) k=k (.int .u8 ((48+d:Nat):Int)):=by
 unfold convK
 rw [un3,un5]
 dsimp only
 rw [forceI_eq,wrp_eq]
 have:IntKind.wrap .u8 (48+(d:Int))=((48+d:Nat):Int):=by
  simp only [IntKind.wrap,IntKind.bits,IntKind.signed]
  simp
  omega
 rw [this]
theorem wrp_i64 {n:Int} (h:inR n):wrp .i64 n=n:=wrp_in h
@[go_sem] theorem tmodN (m:Nat):(m:Int).tmod 10=((m%10:Nat):Int):=rfl
@[go_sem] theorem tmodM (m:Nat):(-(m:Int)).tmod 10= -((m%10:Nat):Int):=by rw [Int.neg_tmod];rfl
@[go_sem] theorem subneg (a:Int) (d:Nat):a - -(d:Int)=a+(d:Int):=by omega
@[go_sem ↓] theorem bin_quoN (t:TypeId) (nc:Bool) {m:Nat} (h:m≤9223372036854775807):binK P .quo t nc (.int .i64 (m:Int)) (.int .i64 10) k=k (.int .i64 ((m/10:Nat):Int)):=by
 have h1:(m:Int).tdiv 10=((m/10:Nat):Int):=rfl
 simp only [binK,isShift,intBin,Nat.beq_refl,ieq_r,forceI_eq,h1]
 rw [wrp_i64 (by unfold inR;omega)]
 rfl
@[go_sem ↓] theorem bin_quoM (t:TypeId) (nc:Bool) {m:Nat} (h:m≤9223372036854775808):binK P .quo t nc (.int .i64 (-(m:Int))) (.int .i64 10) k=k (.int .i64 (-((m/10:Nat):Int))):=by
 have h1:(-(m:Int)).tdiv 10= -((m/10:Nat):Int):=by rw [Int.neg_tdiv];rfl
 simp only [binK,isShift,intBin,Nat.beq_refl,ieq_r,forceI_eq,h1]
 rw [wrp_i64 (by unfold inR;omega)]
 rfl
@[go_sem ↓] theorem bin_adds (t:TypeId) (nc:Bool) {a b:List Nat} (h:a.length+b.length≤1048576):binK P .add t nc (.str a) (.str b) k=k (.str (a++b)):=by
 simp only [binK,strBin]
 rw [show Nat.ble (a.length+b.length) 1048576=true from by simpa using h]
 exact forceL_eq _ _
def I77 (u m:Nat) (e:En) (H:Hp):Prop:=∃s:Str,m≤9223372036854775807∧e.dm=[]∧E2.get e.t 0= .int .i64 (m:Int)∧E2.get e.t 3= .str s∧dg u=(if m<10 then [] else dg (m/10))++s∧s.length≤20
theorem decimal77_c {u:Nat} (hu:u≤9223372036854775807):CQ P (G K) 77 [.int .i64 (u:Int)] (·= .str (dg u)):=by
 refine CQ.enter (hG K) ?_
 have hm:u%10<10:=Nat.mod_lt _ (by decide)
 (try simp (disch:=first|exact bk rfl|omega|(simp only [ln];omega)|(simp only [go_sem];done)|decide) only [go_sem,h77,hm]);repeat' first|((with_reducible first|apply gJoin_split|apply cond_split|apply gJoinD_split)<;>intro h<;>(try simp only [spl] at h)<;>try simp (disch:=first|exact bk rfl|omega|(simp only [ln];omega)|(simp only [go_sem];done)|decide) only [go_sem,h77,hm,h])
 refine loop_rule (I77 u) (fun m e H hi=> ?_) (m:=u) ?_
 ·obtain⟨s,hm1,hdm,g0,g3,hs,hl⟩:=hi
  obtain⟨t,dm⟩:=e
  dsimp only at hdm g0 g3
  subst hdm
  refine semC_run 200 ?_
  rw [h77_1]
  have hmm:m/10%10<10:=Nat.mod_lt _ (by decide)
  by_cases h9:m<10
  ·have hb:((9:Int)<(m:Int))=False:=by simp;omega
   (try simp (disch:=first|exact bk rfl|omega|(simp only [ln];omega)|(simp only [go_sem];done)|decide) only [go_sem,g0,g3,hb,h77_0,r77]);repeat' first|((with_reducible first|apply gJoin_split|apply cond_split|apply gJoinD_split)<;>intro h<;>(try simp only [spl] at h)<;>try simp (disch:=first|exact bk rfl|omega|(simp only [ln];omega)|(simp only [go_sem];done)|decide) only [go_sem,g0,g3,hb,h77_0,r77,h])
   refine endQ_fro (.str _) ?_
   rw [hs,if_pos h9];rfl
  ·have hb:((9:Int)<(m:Int))=True:=by simp;omega
   have hl2:s.length<20:=by
    have h2:=dg_len 18 u (by omega)
    rw [hs,if_neg h9,List.length_append] at h2
    have h3:1≤(dg (m/10)).length:=by
     by_cases h:m/10<10
     ·rw [dg_lt h];simp
     ·rw [dg_ge h];simp
    omega
   (try simp (disch:=first|exact bk rfl|omega|(simp only [ln];omega)|(simp only [go_sem];done)|decide) only [go_sem,g0,g3,hb,hmm,List.length_cons,List.length_nil]);repeat' first|((with_reducible first|apply gJoin_split|apply cond_split|apply gJoinD_split)<;>intro h<;>(try simp only [spl] at h)<;>try simp (disch:=first|exact bk rfl|omega|(simp only [ln];omega)|(simp only [go_sem];done)|decide) only [go_sem,g0,g3,hb,hmm,List.length_cons,List.length_nil,h])
   refine again_mk (m':=m/10) (by omega) ⟨[48+m/10%10]++s,by omega,rfl, ?_, ?_, ?_,by simp;omega⟩
   ·first|rfl|(simp (disch:=first|exact bk rfl|omega|(simp only [ln];omega)|(simp only [go_sem];done)|decide) only [go_sem,g0,g3]<;>rfl)
   ·first|rfl|(simp (disch:=first|exact bk rfl|omega|(simp only [ln];omega)|(simp only [go_sem];done)|decide) only [go_sem,g0,g3]<;>rfl)
   ·rw [hs,if_neg h9]
    by_cases h:m/10<10
    ·rw [if_pos h,dg_lt h,Nat.mod_eq_of_lt h];rfl
    ·rw [if_neg h,dg_ge h];simp
 ·refine⟨[48+u%10],hu,rfl, ?_, ?_, ?_,by simp⟩
  ·first|rfl|(simp (disch:=first|exact bk rfl|omega|(simp only [ln];omega)|(simp only [go_sem];done)|decide) only [go_sem]<;>rfl)
  ·first|rfl|(simp (disch:=first|exact bk rfl|omega|(simp only [ln];omega)|(simp only [go_sem];done)|decide) only [go_sem]<;>rfl)
  ·by_cases h:u<10
   ·rw [if_pos h,dg_lt h,Nat.mod_eq_of_lt h];rfl
   ·rw [if_neg h,dg_ge h]
end Go.S9
namespace Go.S9
open Go.Ev Go.Proofs
set_option maxRecDepth 100000
set_option linter.unusedVariables false
set_option linter.unusedSimpArgs false
variable {K : GP} {H : Hp} {k : AV → Bool}
@[go_sem] theorem zadd (d:Nat):(0:Int)+(d:Int)=(d:Int):=by omega
theorem number40_c {n:Int} (h:inR n):CQ P (G K) 40 [.int .i64 n] (·= .str (itS n)):=by
 obtain⟨h1,h2⟩:=h
 refine CQ.enter (hG K) ?_
 rcases Int.eq_nat_or_neg n with⟨m,rfl | rfl⟩
 ·have hb:((0:Int)≤(m:Int))=True:=by simp
  (try simp (disch:=first|exact bk rfl|omega|(simp only [ln];omega)|(simp only [go_sem];done)|decide) only [go_sem,h40,hb]);repeat' first|((with_reducible first|apply gJoin_split|apply cond_split|apply gJoinD_split)<;>intro h<;>(try simp only [spl] at h)<;>try simp (disch:=first|exact bk rfl|omega|(simp only [ln];omega)|(simp only [go_sem];done)|decide) only [go_sem,h40,hb,h])|((with_reducible refine cl_guard ?_;refine cl_eq (hG K) _ (decimal77_c (u:=m) (by omega)) rfl ?_)<;>try simp (disch:=first|exact bk rfl|omega|(simp only [ln];omega)|(simp only [go_sem];done)|decide) only [go_sem,h40,hb])
  exact endQ_fro (.str _) (by rw [itS_nat])
 ·rcases Nat.eq_zero_or_pos m with h0 | h0
  ·subst h0
   have hb:((0:Int)≤ -((0:Nat):Int))=True:=by simp
   (try simp (disch:=first|exact bk rfl|omega|(simp only [ln];omega)|(simp only [go_sem];done)|decide) only [go_sem,h40,hb]);repeat' first|((with_reducible first|apply gJoin_split|apply cond_split|apply gJoinD_split)<;>intro h<;>(try simp only [spl] at h)<;>try simp (disch:=first|exact bk rfl|omega|(simp only [ln];omega)|(simp only [go_sem];done)|decide) only [go_sem,h40,hb,h])
   exact cl_eq (hG K) [.int .i64 ((0:Nat):Int)] (decimal77_c (by omega)) rfl (endQ_fro (.str _) (by rw [show (-((0:Nat):Int))=((0:Nat):Int) by rfl,itS_nat]))
  ·have hb:((0:Int)≤ -(m:Int))=False:=by simp;omega
   have hm:m%10<10:=Nat.mod_lt _ (by decide)
   have hm2:m≤9223372036854775808:=by omega
   by_cases h9:m<10
   ·have hc:((-10:Int)< -(m:Int))=True:=by simp;omega
    (try simp (disch:=first|exact bk rfl|omega|(simp only [ln];omega)|(simp only [go_sem];done)|decide) only [go_sem,h40,hb,hm,hc]);repeat' first|((with_reducible first|apply gJoin_split|apply cond_split|apply gJoinD_split)<;>intro h<;>(try simp only [spl] at h)<;>try simp (disch:=first|exact bk rfl|omega|(simp only [ln];omega)|(simp only [go_sem];done)|decide) only [go_sem,h40,hb,hm,hc,h])
    refine endQ_fro (.str _) ?_
    rw [itS_neg h0,dg_lt h9,Nat.mod_eq_of_lt h9];rfl
   ·have hc:((-10:Int)< -(m:Int))=False:=by simp;omega
    have hl:(dg (m/10)).length≤19:=dg_len 18 _ (by omega)
    (try simp (disch:=first|exact bk rfl|omega|(simp only [ln];omega)|(simp only [go_sem];done)|decide) only [go_sem,h40,hb,hm,hc,hl]);repeat' first|((with_reducible first|apply gJoin_split|apply cond_split|apply gJoinD_split)<;>intro h<;>(try simp only [spl] at h)<;>try simp (disch:=first|exact bk rfl|omega|(simp only [ln];omega)|(simp only [go_sem];done)|decide) only [go_sem,h40,hb,hm,hc,hl,h])|((with_reducible refine cl_guard ?_;refine cl_eq (hG K) _ (decimal77_c (u:=m/10) (by omega)) rfl ?_)<;>try simp (disch:=first|exact bk rfl|omega|(simp only [ln];omega)|(simp only [go_sem];done)|decide) only [go_sem,h40,hb,hm,hc,hl])
    refine endQ_fro (.str _) ?_
    rw [itS_neg h0,dg_ge h9];simp
theorem decimal111n:∀(j u:Nat),u<j→u≤9223372036854775807→CQ P (G K) 111 [.int .i64 (u:Int)] (·= .str (dg u))
 | 0,u,h,_=>absurd h (by omega)
 | j+1,u,hj,hu=>by
  refine CQ.enter (hG K) ?_
  have hb:((u:Int)<0)=False:=by simp
  have hm:u%10<10:=Nat.mod_lt _ (by decide)
  by_cases h9:u<10
  ·have hc:((9:Int)<(u:Int))=False:=by simp;omega
   (try simp (disch:=first|exact bk rfl|omega|(simp only [ln];omega)|(simp only [go_sem];done)|decide) only [go_sem,h111,hb,hm,hc]);repeat' first|((with_reducible first|apply gJoin_split|apply cond_split|apply gJoinD_split)<;>intro h<;>(try simp only [spl] at h)<;>try simp (disch:=first|exact bk rfl|omega|(simp only [ln];omega)|(simp only [go_sem];done)|decide) only [go_sem,h111,hb,hm,hc,h])
   refine endQ_fro (.str _) ?_
   rw [dg_lt h9,Nat.mod_eq_of_lt h9]
  ·have hc:((9:Int)<(u:Int))=True:=by simp;omega
   have hl:(dg (u/10)).length≤19:=dg_len 18 _ (by omega)
   (try simp (disch:=first|exact bk rfl|omega|(simp only [ln];omega)|(simp only [go_sem];done)|decide) only [go_sem,h111,hb,hm,hc,hl]);repeat' first|((with_reducible first|apply gJoin_split|apply cond_split|apply gJoinD_split)<;>intro h<;>(try simp only [spl] at h)<;>try simp (disch:=first|exact bk rfl|omega|(simp only [ln];omega)|(simp only [go_sem];done)|decide) only [go_sem,h111,hb,hm,hc,hl,h])|((with_reducible refine cl_guard ?_;refine cl_eq (hG K) _ (decimal111n j (u/10) (by omega) (by omega)) rfl ?_)<;>try simp (disch:=first|exact bk rfl|omega|(simp only [ln];omega)|(simp only [go_sem];done)|decide) only [go_sem,h111,hb,hm,hc,hl])
   refine endQ_fro (.str _) ?_
   rw [dg_ge h9]
theorem decimal111_c {n:Int} (h: -9223372036854775807≤n∧n≤9223372036854775807):CQ P (G K) 111 [.int .i64 n] (·= .str (itS n)):=by
 rcases Int.eq_nat_or_neg n with⟨m,rfl | rfl⟩
 ·rw [itS_nat]
  exact decimal111n (m+1) m (by omega) (by omega)
 ·rcases Nat.eq_zero_or_pos m with h0 | h0
  ·subst h0
   rw [show (-((0:Nat):Int))=((0:Nat):Int) by rfl,itS_nat]
   exact decimal111n 1 0 (by omega) (by omega)
  ·refine CQ.enter (hG K) ?_
   have hb:(-(m:Int)<0)=True:=by simp;omega
   have hl:(dg m).length≤19:=dg_len 18 _ (by omega)
   (try simp (disch:=first|exact bk rfl|omega|(simp only [ln];omega)|(simp only [go_sem];done)|decide) only [go_sem,h111,hb,hl]);repeat' first|((with_reducible first|apply gJoin_split|apply cond_split|apply gJoinD_split)<;>intro h<;>(try simp only [spl] at h)<;>try simp (disch:=first|exact bk rfl|omega|(simp only [ln];omega)|(simp only [go_sem];done)|decide) only [go_sem,h111,hb,hl,h])|((with_reducible refine cl_guard ?_;refine cl_eq (hG K) _ (decimal111n (m+1) m (by omega) (by omega)) rfl ?_)<;>try simp (disch:=first|exact bk rfl|omega|(simp only [ln];omega)|(simp only [go_sem];done)|decide) only [go_sem,h111,hb,hl])
   refine endQ_fro (.str _) ?_
   rw [itS_neg h0];rfl
def spS (lo hi:Int):Str:=itS lo++[45]++itS hi
theorem spS_len {lo hi:Int} (h1:inR lo) (h2:inR hi):(spS lo hi).length≤41:=by
 have:=itS_len h1
 have:=itS_len h2
 simp [spS];omega
theorem span41_c {lo hi:Int} (h1:inR lo) (h2:inR hi):CQ P (G K) 41 [.agg [.int .i64 lo, .int .i64 hi]] (·= .str (spS lo hi)):=by
 refine CQ.enter (hG K) ?_
 have l1:=itS_len h1
 have l2:=itS_len h2
 (try simp (disch:=first|exact bk rfl|omega|(simp only [ln];omega)|(simp only [go_sem];done)|decide) only [go_sem,h41]);repeat' first|((with_reducible first|apply gJoin_split|apply cond_split|apply gJoinD_split)<;>intro h<;>(try simp only [spl] at h)<;>try simp (disch:=first|exact bk rfl|omega|(simp only [ln];omega)|(simp only [go_sem];done)|decide) only [go_sem,h41,h])|((with_reducible refine cl_guard ?_;first|refine cl_eq (hG K) _ (number40_c h1) rfl ?_|refine cl_eq (hG K) _ (number40_c h2) rfl ?_)<;>try simp (disch:=first|exact bk rfl|omega|(simp only [ln];omega)|(simp only [go_sem];done)|decide) only [go_sem,h41])
 exact endQ_fro (.str _) rfl
theorem span28_c {lo hi:Int} (h1:inR lo) (h2:inR hi):CQ P (G K) 28 [.agg [.int .i64 lo, .int .i64 hi]] (·= .str (spS lo hi)):=by
 refine CQ.enter (hG K) ?_
 have l1:=itS_len h1
 have l2:=itS_len h2
 (try simp (disch:=first|exact bk rfl|omega|(simp only [ln];omega)|(simp only [go_sem];done)|decide) only [go_sem,h28]);repeat' first|((with_reducible first|apply gJoin_split|apply cond_split|apply gJoinD_split)<;>intro h<;>(try simp only [spl] at h)<;>try simp (disch:=first|exact bk rfl|omega|(simp only [ln];omega)|(simp only [go_sem];done)|decide) only [go_sem,h28,h])|((with_reducible refine cl_guard ?_;first|refine cl_eq (hG K) _ (itoa27_c h1) rfl ?_|refine cl_eq (hG K) _ (itoa27_c h2) rfl ?_)<;>try simp (disch:=first|exact bk rfl|omega|(simp only [ln];omega)|(simp only [go_sem];done)|decide) only [go_sem,h28])
 exact endQ_fro (.str _) rfl
def lineS (p:Posting):Str:=itS p.night++[32]++itS p.no++[32]++itS p.from_++[32]++itS p.to_++[32]++itS p.amount++[10]
theorem postB_in {p:Posting} (h:postB p=true):(0≤p.night∧p.night≤20000)∧(0≤p.no∧p.no≤12)∧(-2≤p.from_∧p.from_≤1099511627776)∧(-2≤p.to_∧p.to_≤1099511627776)∧(1≤p.amount∧p.amount≤1099511627776):=by
 simp only [postB,nightB,accB,Bool.and_eq_true,decide_eq_true_eq] at h
 omega
theorem lineS_len {p:Posting} (h:postB p=true):(lineS p).length≤105:=by
 obtain⟨⟨a1,a2⟩,⟨b1,b2⟩,⟨c1,c2⟩,⟨d1,d2⟩,⟨e1,e2⟩⟩:=postB_in h
 have:=itS_len (n:=p.night) ⟨by omega,by omega⟩
 have:=itS_len (n:=p.no) ⟨by omega,by omega⟩
 have:=itS_len (n:=p.from_) ⟨by omega,by omega⟩
 have:=itS_len (n:=p.to_) ⟨by omega,by omega⟩
 have:=itS_len (n:=p.amount) ⟨by omega,by omega⟩
 simp [lineS];omega
theorem line82_c {p:Posting} (h:postB p=true):CQ P (G K) 82 [.agg (ePost p)] (·= .str (lineS p)):=by
 obtain⟨⟨a1,a2⟩,⟨b1,b2⟩,⟨c1,c2⟩,⟨d1,d2⟩,⟨e1,e2⟩⟩:=postB_in h
 have l1:=itS_len (n:=p.night) ⟨by omega,by omega⟩
 have l2:=itS_len (n:=p.no) ⟨by omega,by omega⟩
 have l3:=itS_len (n:=p.from_) ⟨by omega,by omega⟩
 have l4:=itS_len (n:=p.to_) ⟨by omega,by omega⟩
 have l5:=itS_len (n:=p.amount) ⟨by omega,by omega⟩
 refine CQ.enter (hG K) ?_
 (try simp (disch:=first|exact bk rfl|omega|(simp only [ln];omega)|(simp only [go_sem];done)|decide) only [go_sem,ePost,h82]);repeat' first|((with_reducible first|apply gJoin_split|apply cond_split|apply gJoinD_split)<;>intro h<;>(try simp only [spl] at h)<;>try simp (disch:=first|exact bk rfl|omega|(simp only [ln];omega)|(simp only [go_sem];done)|decide) only [go_sem,ePost,h82,h])|((with_reducible refine cl_guard ?_;first|refine cl_eq (hG K) _ (decimal111_c (n:=p.night) ⟨by omega,by omega⟩) rfl ?_|refine cl_eq (hG K) _ (decimal111_c (n:=p.no) ⟨by omega,by omega⟩) rfl ?_|refine cl_eq (hG K) _ (decimal111_c (n:=p.from_) ⟨by omega,by omega⟩) rfl ?_|refine cl_eq (hG K) _ (decimal111_c (n:=p.to_) ⟨by omega,by omega⟩) rfl ?_|refine cl_eq (hG K) _ (decimal111_c (n:=p.amount) ⟨by omega,by omega⟩) rfl ?_)<;>try simp (disch:=first|exact bk rfl|omega|(simp only [ln];omega)|(simp only [go_sem];done)|decide) only [go_sem,ePost,h82])
 exact endQ_fro (.str _) (by simp [lineS])
end Go.S9
namespace Go.S9
open Go.Ev Go.Proofs
set_option maxRecDepth 100000
set_option linter.unusedVariables false
set_option linter.unusedSimpArgs false
variable {K : GP} {H : Hp} {k : AV → Bool}
def chB (c:Nat):Bool:=decide ((97≤c∧c≤122)∨(48≤c∧c≤57))
def nameB (s:Str):Bool:=s.all chB&&decide (1≤s.length∧s.length≤16)
theorem ch_bad {s:Str} {n:Nat} (h:n<s.length) (hc:chB s[n]=false):nameB s=false:=by
 have:s.all chB=false:=List.all_eq_false.2 ⟨s[n],List.getElem_mem _,by simp [hc]⟩
 unfold nameB;rw [this];rfl
theorem ch_step {s:Str} {n:Nat} (h:n<s.length) (ha:(s.take n).all chB=true) (hc:chB s[n]=true):(s.take (n+1)).all chB=true:=by
 rw [List.take_succ_eq_append_getElem h,List.all_append,ha];simp [hc]
theorem ch_end {s:Str} {n:Nat} (h:¬n<s.length) (ha:(s.take n).all chB=true):s.all chB=true:=by
 rwa [List.take_of_length_le (by omega)] at ha
theorem ch_f {c:Nat} (h:(¬((97:Int)≤c∧(c:Int)≤122))∧¬((48:Int)≤c∧(c:Int)≤57)):chB c=false:=by unfold chB;rw [decide_eq_false_iff_not];omega
theorem ch_t {c:Nat} (h:((97:Int)≤c∧(c:Int)≤122)∨((48:Int)≤c∧(c:Int)≤57)):chB c=true:=by unfold chB;rw [decide_eq_true_eq];omega
def I164 (s:Str) (m:Nat) (e:En) (H:Hp):Prop:=∃n:Nat,n≤s.length∧m=s.length - n∧e.dm=[]∧(s.take n).all chB=true∧E2.get e.t 6= .int .i64 n∧E2.get e.t 5= .int .i64 s.length∧E2.get e.t 0= .str s
set_option maxHeartbeats 1000000 in
theorem named164_c (s:Str) (hl:s.length≤9223372036854775807):CQ P (G K) 164 [.str s] (·= .bool (nameB s)):=by
 refine CQ.enter (hG K) ?_
 (try simp (disch:=first|exact bk rfl|omega|(simp only [ln];omega)|(simp only [go_sem];done)|decide) only [go_sem,h164,r164,h164_0,h164_1,h164_2,h164_3,h164_4,h164_5,h164_6,h164_7,len_str un9]);repeat' first|((with_reducible first|apply gJoin_split|apply cond_split|apply gJoinD_split)<;>intro h<;>(try simp only [spl] at h)<;>try simp (disch:=first|exact bk rfl|omega|(simp only [ln];omega)|(simp only [go_sem];done)|decide) only [go_sem,h164,r164,h164_0,h164_1,h164_2,h164_3,h164_4,h164_5,h164_6,h164_7,len_str un9,h])
 refine loop_rule (I164 s) (fun m e H hi=> ?_) (m:=s.length) ?_
 ·obtain⟨n,hn,rfl,hdm,ha,g6,g5,g0⟩:=hi
  obtain⟨t,dm⟩:=e
  dsimp only at hdm g6 g5 g0
  subst hdm
  refine semC_run 200 ?_
  by_cases hlt:n<s.length
  ·(try simp (disch:=first|exact bk rfl|omega|(simp only [ln];omega)|(simp only [go_sem];done)|decide) only [go_sem,len_str un9,idx_str un9 hlt,Int.ofNat_lt,h164,r164,h164_0,h164_1,h164_2,h164_3,h164_4,h164_5,h164_6,h164_7, *]);repeat' first|((with_reducible first|apply gJoin_split|apply cond_split|apply gJoinD_split)<;>intro h<;>(try simp only [spl] at h)<;>try simp (disch:=first|exact bk rfl|omega|(simp only [ln];omega)|(simp only [go_sem];done)|decide) only [go_sem,len_str un9,idx_str un9 hlt,Int.ofNat_lt,h164,r164,h164_0,h164_1,h164_2,h164_3,h164_4,h164_5,h164_6,h164_7, *])
   all_goals first
    | (refine endQ_fro (.bool false) ?_;rw [ch_bad hlt (ch_f (by omega))])
    | (refine again_mk (m':=s.length - (n+1)) (by omega) ⟨n+1,by omega,rfl,rfl,ch_step hlt ha (ch_t (by omega)), ?_, ?_, ?_⟩<;>(first|rfl|(simp (disch:=first|exact bk rfl|omega|(simp only [ln];omega)|(simp only [go_sem];done)|decide) only [go_sem,g6,g5,g0]<;>rfl)))
  ·have ha':=ch_end hlt ha
   (try simp (disch:=first|exact bk rfl|omega|(simp only [ln];omega)|(simp only [go_sem];done)|decide) only [go_sem,g6,g5,g0,len_str un9,Int.ofNat_lt,hlt,h164,r164,h164_0,h164_1,h164_2,h164_3,h164_4,h164_5,h164_6,h164_7]);repeat' first|((with_reducible first|apply gJoin_split|apply cond_split|apply gJoinD_split)<;>intro h<;>(try simp only [spl] at h)<;>try simp (disch:=first|exact bk rfl|omega|(simp only [ln];omega)|(simp only [go_sem];done)|decide) only [go_sem,g6,g5,g0,len_str un9,Int.ofNat_lt,hlt,h164,r164,h164_0,h164_1,h164_2,h164_3,h164_4,h164_5,h164_6,h164_7,h])
   all_goals (refine endQ_fro (.bool _) ?_;congr 1;rw [Bool.eq_iff_iff];simp [nameB,ha', *];try omega)
 ·exact⟨0,Nat.zero_le _,rfl,rfl,rfl,by first|rfl|(simp (disch:=first|exact bk rfl|omega|(simp only [ln];omega)|(simp only [go_sem];done)|decide) only [go_sem]<;>rfl),by first|rfl|(simp (disch:=first|exact bk rfl|omega|(simp only [ln];omega)|(simp only [go_sem];done)|decide) only [go_sem]<;>rfl),by first|rfl|(simp (disch:=first|exact bk rfl|omega|(simp only [ln];omega)|(simp only [go_sem];done)|decide) only [go_sem]<;>rfl)⟩
def I23 (s:Str) (m:Nat) (e:En) (H:Hp):Prop:=∃n:Nat,n≤s.length∧m=s.length - n∧e.dm=[]∧(s.take n).all chB=true∧E2.get e.t 3= .int .i64 n∧E2.get e.t 0= .str s
set_option maxHeartbeats 1000000 in
theorem named23_c (s:Str) (hl:s.length≤9223372036854775807):CQ P (G K) 23 [.str s] (·= .bool (nameB s)):=by
 refine CQ.enter (hG K) ?_
 (try simp (disch:=first|exact bk rfl|omega|(simp only [ln];omega)|(simp only [go_sem];done)|decide) only [go_sem,h23,r23,h23_0,h23_1,h23_2,h23_3,h23_4,h23_5,h23_6,h23_7,h23_8,h23_9,h23_10,h23_11,h23_12,h23_13,len_str un9]);repeat' first|((with_reducible first|apply gJoin_split|apply cond_split|apply gJoinD_split)<;>intro h<;>(try simp only [spl] at h)<;>try simp (disch:=first|exact bk rfl|omega|(simp only [ln];omega)|(simp only [go_sem];done)|decide) only [go_sem,h23,r23,h23_0,h23_1,h23_2,h23_3,h23_4,h23_5,h23_6,h23_7,h23_8,h23_9,h23_10,h23_11,h23_12,h23_13,len_str un9,h])
 all_goals first
  | (refine endQ_fro (.bool false) ?_;congr 1;symm;rw [←Bool.not_eq_true,nameB,Bool.and_eq_true,decide_eq_true_eq];omega)
  | skip
 refine loop_rule (I23 s) (fun m e H hi=> ?_) (m:=s.length) ?_
 ·obtain⟨n,hn,rfl,hdm,ha,g3,g0⟩:=hi
  obtain⟨t,dm⟩:=e
  dsimp only at hdm g3 g0
  subst hdm
  refine semC_run 200 ?_
  by_cases hlt:n<s.length
  ·(try simp (disch:=first|exact bk rfl|omega|(simp only [ln];omega)|(simp only [go_sem];done)|decide) only [go_sem,len_str un9,idx_str un9 hlt,Int.ofNat_lt,h23,r23,h23_0,h23_1,h23_2,h23_3,h23_4,h23_5,h23_6,h23_7,h23_8,h23_9,h23_10,h23_11,h23_12,h23_13, *]);repeat' first|((with_reducible first|apply gJoin_split|apply cond_split|apply gJoinD_split)<;>intro h<;>(try simp only [spl] at h)<;>try simp (disch:=first|exact bk rfl|omega|(simp only [ln];omega)|(simp only [go_sem];done)|decide) only [go_sem,len_str un9,idx_str un9 hlt,Int.ofNat_lt,h23,r23,h23_0,h23_1,h23_2,h23_3,h23_4,h23_5,h23_6,h23_7,h23_8,h23_9,h23_10,h23_11,h23_12,h23_13, *])
   all_goals first
    | (refine endQ_fro (.bool false) ?_;rw [ch_bad hlt (ch_f (by omega))])
    | (refine again_mk (m':=s.length - (n+1)) (by omega) ⟨n+1,by omega,rfl,rfl,ch_step hlt ha (ch_t (by omega)), ?_, ?_⟩<;>(first|rfl|(simp (disch:=first|exact bk rfl|omega|(simp only [ln];omega)|(simp only [go_sem];done)|decide) only [go_sem,g3,g0]<;>rfl)))
  ·have ha':=ch_end hlt ha
   (try simp (disch:=first|exact bk rfl|omega|(simp only [ln];omega)|(simp only [go_sem];done)|decide) only [go_sem,g3,g0,len_str un9,Int.ofNat_lt,hlt,h23,r23,h23_0,h23_1,h23_2,h23_3,h23_4,h23_5,h23_6,h23_7,h23_8,h23_9,h23_10,h23_11,h23_12,h23_13]);repeat' first|((with_reducible first|apply gJoin_split|apply cond_split|apply gJoinD_split)<;>intro h<;>(try simp only [spl] at h)<;>try simp (disch:=first|exact bk rfl|omega|(simp only [ln];omega)|(simp only [go_sem];done)|decide) only [go_sem,g3,g0,len_str un9,Int.ofNat_lt,hlt,h23,r23,h23_0,h23_1,h23_2,h23_3,h23_4,h23_5,h23_6,h23_7,h23_8,h23_9,h23_10,h23_11,h23_12,h23_13,h])
   all_goals (refine endQ_fro (.bool _) ?_;congr 1;symm;rw [nameB,ha',Bool.true_and,decide_eq_true_eq];omega)
 ·exact⟨0,Nat.zero_le _,rfl,rfl,rfl,by first|rfl|(simp (disch:=first|exact bk rfl|omega|(simp only [ln];omega)|(simp only [go_sem];done)|decide) only [go_sem]<;>rfl),by first|rfl|(simp (disch:=first|exact bk rfl|omega|(simp only [ln];omega)|(simp only [go_sem];done)|decide) only [go_sem]<;>rfl)⟩
def timeB (n:Int):Bool:=decide (0≤n∧n≤1073741823)
theorem in22_c (n lo hi:Int):CQ P (G K) 22 [.int .i64 n, .int .i64 lo, .int .i64 hi] (·= .bool (inB n lo hi)):=by
 refine CQ.enter (hG K) ?_
 (try simp (disch:=first|exact bk rfl|omega|(simp only [ln];omega)|(simp only [go_sem];done)|decide) only [go_sem,h22,r22,h22_0,h22_1]);repeat' first|((with_reducible first|apply gJoin_split|apply cond_split|apply gJoinD_split)<;>intro h<;>(try simp only [spl] at h)<;>try simp (disch:=first|exact bk rfl|omega|(simp only [ln];omega)|(simp only [go_sem];done)|decide) only [go_sem,h22,r22,h22_0,h22_1,h])
 all_goals (refine endQ_fro (.bool _) ?_;first | (simp [inB, *];done)| (congr 1;rw [Bool.eq_iff_iff];simp [inB, *];omega)| (congr 1;rw [Bool.eq_iff_iff];simp [inB];omega)| (simp [inB, *]<;>omega))
theorem in66_c (n lo hi:Int):CQ P (G K) 66 [.int .i64 n, .int .i64 lo, .int .i64 hi] (·= .bool (inB n lo hi)):=by
 refine CQ.enter (hG K) ?_
 (try simp (disch:=first|exact bk rfl|omega|(simp only [ln];omega)|(simp only [go_sem];done)|decide) only [go_sem,h66,r66,h66_0,h66_1]);repeat' first|((with_reducible first|apply gJoin_split|apply cond_split|apply gJoinD_split)<;>intro h<;>(try simp only [spl] at h)<;>try simp (disch:=first|exact bk rfl|omega|(simp only [ln];omega)|(simp only [go_sem];done)|decide) only [go_sem,h66,r66,h66_0,h66_1,h])
 all_goals (refine endQ_fro (.bool _) ?_;first | (simp [inB, *];done)| (congr 1;rw [Bool.eq_iff_iff];simp [inB, *];omega)| (congr 1;rw [Bool.eq_iff_iff];simp [inB];omega)| (simp [inB, *]<;>omega))
theorem time21_c (n:Int):CQ P (G K) 21 [.int .i64 n] (·= .bool (timeB n)):=by
 refine CQ.enter (hG K) ?_
 (try simp (disch:=first|exact bk rfl|omega|(simp only [ln];omega)|(simp only [go_sem];done)|decide) only [go_sem,h21, *]);repeat' first|((with_reducible first|apply gJoin_split|apply cond_split|apply gJoinD_split)<;>intro h<;>(try simp only [spl] at h)<;>try simp (disch:=first|exact bk rfl|omega|(simp only [ln];omega)|(simp only [go_sem];done)|decide) only [go_sem,h21, *])|((with_reducible refine cl_guard ?_;refine cl_eq (hG K) _ (in66_c _ _ _) rfl ?_)<;>try simp (disch:=first|exact bk rfl|omega|(simp only [ln];omega)|(simp only [go_sem];done)|decide) only [go_sem,h21, *])
 all_goals exact endQ_fro (.bool _) (by simp [inB,timeB])
theorem time39_c (n:Int):CQ P (G K) 39 [.int .i64 n] (·= .bool (timeB n)):=by
 refine CQ.enter (hG K) ?_
 (try simp (disch:=first|exact bk rfl|omega|(simp only [ln];omega)|(simp only [go_sem];done)|decide) only [go_sem,h39,r39,h39_0,h39_1]);repeat' first|((with_reducible first|apply gJoin_split|apply cond_split|apply gJoinD_split)<;>intro h<;>(try simp only [spl] at h)<;>try simp (disch:=first|exact bk rfl|omega|(simp only [ln];omega)|(simp only [go_sem];done)|decide) only [go_sem,h39,r39,h39_0,h39_1,h])
 all_goals (refine endQ_fro (.bool _) ?_;first | (simp [timeB, *];done)| (congr 1;rw [Bool.eq_iff_iff];simp [timeB, *];omega)| (congr 1;rw [Bool.eq_iff_iff];simp [timeB];omega)| (simp [timeB, *]<;>omega))
def nightsE (lo hi:Int):Int:=if lo>hi∨nightB lo=false∨nightB hi=false then 1 else if hi - lo≥400 then 2 else 0
theorem nightB_t {n:Int} (h0:0≤n) (h1:n≤20000):nightB n=true:=by simp [nightB];omega
theorem nightB_f {n:Int} (h:¬(0≤n∧n≤20000)):nightB n=false:=by simp only [nightB,decide_eq_false_iff_not];omega
theorem spanned257_c (lo hi:Int):CQ P (G K) 257 [.agg [.int .i64 lo, .int .i64 hi]] (·= .int .i64 (nightsE lo hi)):=by
 refine CQ.enter (hG K) ?_
 by_cases h0:0≤lo∧lo≤20000
 ·by_cases h1:0≤hi∧hi≤20000
  ·have n0:=nightB_t h0.1 h0.2
   have n1:=nightB_t h1.1 h1.2
   (try simp (disch:=first|exact bk rfl|omega|(simp only [ln];omega)|(simp only [go_sem];done)|decide) only [go_sem,h257,r257,h257_0,h257_1,h257_2,h257_3,n0,n1]);repeat' first|((with_reducible first|apply gJoin_split|apply cond_split|apply gJoinD_split)<;>intro h<;>(try simp only [spl] at h)<;>try simp (disch:=first|exact bk rfl|omega|(simp only [ln];omega)|(simp only [go_sem];done)|decide) only [go_sem,h257,r257,h257_0,h257_1,h257_2,h257_3,n0,n1,h])|((with_reducible refine cl_guard ?_;refine cl_eq (hG K) _ (isNight107_c _) rfl ?_)<;>try simp (disch:=first|exact bk rfl|omega|(simp only [ln];omega)|(simp only [go_sem];done)|decide) only [go_sem,h257,r257,h257_0,h257_1,h257_2,h257_3,n0,n1])
   all_goals first
    | (refine endQ_fro (.int .i64 1) ?_;simp only [nightsE,n0,n1];rw [if_pos (by simp at *;omega)];done)
    | (refine endQ_fro (.int .i64 2) ?_;simp only [nightsE,n0,n1];rw [if_neg (by simp at *;omega),if_pos (by omega)];done)
    | (refine endQ_fro (.int .i64 0) ?_;simp only [nightsE,n0,n1];rw [if_neg (by simp at *;omega),if_neg (by omega)];done)
  ·have n0:=nightB_t h0.1 h0.2
   have n1:=nightB_f h1
   (try simp (disch:=first|exact bk rfl|omega|(simp only [ln];omega)|(simp only [go_sem];done)|decide) only [go_sem,h257,r257,h257_0,h257_1,h257_2,h257_3,n0,n1]);repeat' first|((with_reducible first|apply gJoin_split|apply cond_split|apply gJoinD_split)<;>intro h<;>(try simp only [spl] at h)<;>try simp (disch:=first|exact bk rfl|omega|(simp only [ln];omega)|(simp only [go_sem];done)|decide) only [go_sem,h257,r257,h257_0,h257_1,h257_2,h257_3,n0,n1,h])|((with_reducible refine cl_guard ?_;refine cl_eq (hG K) _ (isNight107_c _) rfl ?_)<;>try simp (disch:=first|exact bk rfl|omega|(simp only [ln];omega)|(simp only [go_sem];done)|decide) only [go_sem,h257,r257,h257_0,h257_1,h257_2,h257_3,n0,n1])
   all_goals exact endQ_fro (.int .i64 1) (by simp [nightsE,n1])
 ·have n0:=nightB_f h0
  (try simp (disch:=first|exact bk rfl|omega|(simp only [ln];omega)|(simp only [go_sem];done)|decide) only [go_sem,h257,r257,h257_0,h257_1,h257_2,h257_3,n0]);repeat' first|((with_reducible first|apply gJoin_split|apply cond_split|apply gJoinD_split)<;>intro h<;>(try simp only [spl] at h)<;>try simp (disch:=first|exact bk rfl|omega|(simp only [ln];omega)|(simp only [go_sem];done)|decide) only [go_sem,h257,r257,h257_0,h257_1,h257_2,h257_3,n0,h])|((with_reducible refine cl_guard ?_;refine cl_eq (hG K) _ (isNight107_c _) rfl ?_)<;>try simp (disch:=first|exact bk rfl|omega|(simp only [ln];omega)|(simp only [go_sem];done)|decide) only [go_sem,h257,r257,h257_0,h257_1,h257_2,h257_3,n0])
  all_goals exact endQ_fro (.int .i64 1) (by simp [nightsE,n0])
end Go.S9
namespace Go.S9
open Go.Ev Go.Proofs
set_option maxRecDepth 100000
set_option linter.unusedVariables false
set_option linter.unusedSimpArgs false
variable {K : GP} {H : Hp} {k : AV → Bool}
@[go_sem ↓] theorem bl27 (ps:List (Nat×AV)) (k:AV→Bool):buildK P 27 ps k=bldF [(0,1),(1,1),(2,1),(3,1),(4,2),(6,1),(7,1),(8,2)] ps [.int .i64 0, .int .i64 0, .int .i64 0, .str [], .int .i64 0, .int .i64 0, .int .i64 0, .int .i64 0, .int .i64 0, .int .i64 0] k:=buildK_bld (by kernel_rfl) (by kernel_rfl) ps
@[go_sem ↓] theorem bl103 (ps:List (Nat×AV)) (k:AV→Bool):buildK P 103 ps k=bldF [(0,1),(1,1)] ps [.str [], .int .i64 0] k:=buildK_bld (by kernel_rfl) (by kernel_rfl) ps
@[go_sem ↓] theorem bl113 (ps:List (Nat×AV)) (k:AV→Bool):buildK P 113 ps k=bldF [(0,1),(1,1),(2,1)] ps [.nils, .nils, .nils] k:=buildK_bld (by kernel_rfl) (by kernel_rfl) ps
@[go_sem ↓] theorem bl140 (ps:List (Nat×AV)) (k:AV→Bool):buildK P 140 ps k=bldF [(0,1),(1,1),(2,1),(3,1),(4,1),(5,1),(6,1)] ps [.int .i64 0, .int .i64 0, .int .i64 0, .int .i64 0, .int .i64 0, .int .i64 0, .int .i64 0] k:=buildK_bld (by kernel_rfl) (by kernel_rfl) ps
@[go_sem ↓] theorem bl25 (ps:List (Nat×AV)) (k:AV→Bool):buildK P 25 ps k=bldF [(0,1),(1,1)] ps [.int .i64 0, .int .i64 0] k:=buildK_bld (by kernel_rfl) (by kernel_rfl) ps
theorem inB_n (n:Int):inB n 0 20000=nightB n:=rfl
theorem nights68_c (lo hi:Int):CQ P (G K) 68 [.agg [.int .i64 lo, .int .i64 hi]] (·= .int .i64 (nightsE lo hi)):=by
 refine CQ.enter (hG K) ?_
 by_cases h0:0≤lo∧lo≤20000
 ·by_cases h1:0≤hi∧hi≤20000
  ·have n0:=nightB_t h0.1 h0.2
   have n1:=nightB_t h1.1 h1.2
   (try simp (disch:=first|exact bk rfl|omega|(simp only [ln];omega)|(simp only [go_sem];done)|decide) only [go_sem,h68,r68,h68_0,h68_1,h68_2,h68_3,inB_n,n0,n1]);repeat' first|((with_reducible first|apply gJoin_split|apply cond_split|apply gJoinD_split)<;>intro h<;>(try simp only [spl] at h)<;>try simp (disch:=first|exact bk rfl|omega|(simp only [ln];omega)|(simp only [go_sem];done)|decide) only [go_sem,h68,r68,h68_0,h68_1,h68_2,h68_3,inB_n,n0,n1,h])|((with_reducible refine cl_guard ?_;refine cl_eq (hG K) _ (in67_c _ _ _) rfl ?_)<;>try simp (disch:=first|exact bk rfl|omega|(simp only [ln];omega)|(simp only [go_sem];done)|decide) only [go_sem,h68,r68,h68_0,h68_1,h68_2,h68_3,inB_n,n0,n1])
   all_goals first
    | (refine endQ_fro (.int .i64 1) ?_;simp only [nightsE,n0,n1];rw [if_pos (by simp at *;omega)];done)
    | (refine endQ_fro (.int .i64 2) ?_;simp only [nightsE,n0,n1];rw [if_neg (by simp at *;omega),if_pos (by omega)];done)
    | (refine endQ_fro (.int .i64 0) ?_;simp only [nightsE,n0,n1];rw [if_neg (by simp at *;omega),if_neg (by omega)];done)
  ·have n0:=nightB_t h0.1 h0.2
   have n1:=nightB_f h1
   (try simp (disch:=first|exact bk rfl|omega|(simp only [ln];omega)|(simp only [go_sem];done)|decide) only [go_sem,h68,r68,h68_0,h68_1,h68_2,h68_3,inB_n,n0,n1]);repeat' first|((with_reducible first|apply gJoin_split|apply cond_split|apply gJoinD_split)<;>intro h<;>(try simp only [spl] at h)<;>try simp (disch:=first|exact bk rfl|omega|(simp only [ln];omega)|(simp only [go_sem];done)|decide) only [go_sem,h68,r68,h68_0,h68_1,h68_2,h68_3,inB_n,n0,n1,h])|((with_reducible refine cl_guard ?_;refine cl_eq (hG K) _ (in67_c _ _ _) rfl ?_)<;>try simp (disch:=first|exact bk rfl|omega|(simp only [ln];omega)|(simp only [go_sem];done)|decide) only [go_sem,h68,r68,h68_0,h68_1,h68_2,h68_3,inB_n,n0,n1])
   all_goals exact endQ_fro (.int .i64 1) (by simp [nightsE,n1])
 ·have n0:=nightB_f h0
  (try simp (disch:=first|exact bk rfl|omega|(simp only [ln];omega)|(simp only [go_sem];done)|decide) only [go_sem,h68,r68,h68_0,h68_1,h68_2,h68_3,inB_n,n0]);repeat' first|((with_reducible first|apply gJoin_split|apply cond_split|apply gJoinD_split)<;>intro h<;>(try simp only [spl] at h)<;>try simp (disch:=first|exact bk rfl|omega|(simp only [ln];omega)|(simp only [go_sem];done)|decide) only [go_sem,h68,r68,h68_0,h68_1,h68_2,h68_3,inB_n,n0,h])|((with_reducible refine cl_guard ?_;refine cl_eq (hG K) _ (in67_c _ _ _) rfl ?_)<;>try simp (disch:=first|exact bk rfl|omega|(simp only [ln];omega)|(simp only [go_sem];done)|decide) only [go_sem,h68,r68,h68_0,h68_1,h68_2,h68_3,inB_n,n0])
  all_goals exact endQ_fro (.int .i64 1) (by simp [nightsE,n0])
def nightsB (lo hi:Int):Bool:=decide (nightsE lo hi=0)
theorem nights25_c (lo hi:Int):CQ P (G K) 25 [.agg [.int .i64 lo, .int .i64 hi]] (·= .bool (nightsB lo hi)):=by
 refine CQ.enter (hG K) ?_
 (try simp (disch:=first|exact bk rfl|omega|(simp only [ln];omega)|(simp only [go_sem];done)|decide) only [go_sem,h25]);repeat' first|((with_reducible first|apply gJoin_split|apply cond_split|apply gJoinD_split)<;>intro h<;>(try simp only [spl] at h)<;>try simp (disch:=first|exact bk rfl|omega|(simp only [ln];omega)|(simp only [go_sem];done)|decide) only [go_sem,h25,h])|((with_reducible refine cl_guard ?_;refine cl_eq (hG K) _ (nights68_c _ _) rfl ?_)<;>try simp (disch:=first|exact bk rfl|omega|(simp only [ln];omega)|(simp only [go_sem];done)|decide) only [go_sem,h25])
 all_goals exact endQ_fro (.bool _) (by simp [nightsB])
theorem o0:Int.ofNat 0=0:=rfl
theorem lt00:((0:Int)<0)=False:=by simp
theorem lt40:((4000:Int)<0)=False:=by simp
theorem policies255_c:CQ P (G K) 255 [.nils] (·= .tup [.int .i64 0, .int .i64 (-1)]):=by
 refine CQ.enter (hG K) ?_
 (try simp (disch:=first|exact bk rfl|omega|(simp only [ln];omega)|(simp only [go_sem];done)|decide) only [go_sem,h255,r255,h255_0,h255_1,h255_2,h255_3,h255_4,h255_5,h255_6,h255_7,h255_8,h255_9,o0,lt00]);repeat' first|((with_reducible first|apply gJoin_split|apply cond_split|apply gJoinD_split)<;>intro h<;>(try simp only [spl] at h)<;>try simp (disch:=first|exact bk rfl|omega|(simp only [ln];omega)|(simp only [go_sem];done)|decide) only [go_sem,h255,r255,h255_0,h255_1,h255_2,h255_3,h255_4,h255_5,h255_6,h255_7,h255_8,h255_9,o0,lt00,h])
 refine loop_n 1 (loopN_step ?_)
 (try simp (disch:=first|exact bk rfl|omega|(simp only [ln];omega)|(simp only [go_sem];done)|decide) only [go_sem,h255,r255,h255_0,h255_1,h255_2,h255_3,h255_4,h255_5,h255_6,h255_7,h255_8,h255_9,o0,lt00]);repeat' first|((with_reducible first|apply gJoin_split|apply cond_split|apply gJoinD_split)<;>intro h<;>(try simp only [spl] at h)<;>try simp (disch:=first|exact bk rfl|omega|(simp only [ln];omega)|(simp only [go_sem];done)|decide) only [go_sem,h255,r255,h255_0,h255_1,h255_2,h255_3,h255_4,h255_5,h255_6,h255_7,h255_8,h255_9,o0,lt00,h])
 exact endQ_fro (.tup [.int .i64 0, .int .i64 (-1)]) rfl
theorem rounds256_c:CQ P (G K) 256 [.nils] (·= .tup [.int .i64 0, .int .i64 (-1)]):=by
 refine CQ.enter (hG K) ?_
 (try simp (disch:=first|exact bk rfl|omega|(simp only [ln];omega)|(simp only [go_sem];done)|decide) only [go_sem,h256,r256,h256_0,h256_1,h256_2,h256_3,h256_4,h256_5,o0,lt00]);repeat' first|((with_reducible first|apply gJoin_split|apply cond_split|apply gJoinD_split)<;>intro h<;>(try simp only [spl] at h)<;>try simp (disch:=first|exact bk rfl|omega|(simp only [ln];omega)|(simp only [go_sem];done)|decide) only [go_sem,h256,r256,h256_0,h256_1,h256_2,h256_3,h256_4,h256_5,o0,lt00,h])
 refine loop_n 1 (loopN_step ?_)
 (try simp (disch:=first|exact bk rfl|omega|(simp only [ln];omega)|(simp only [go_sem];done)|decide) only [go_sem,h256,r256,h256_0,h256_1,h256_2,h256_3,h256_4,h256_5,o0,lt00]);repeat' first|((with_reducible first|apply gJoin_split|apply cond_split|apply gJoinD_split)<;>intro h<;>(try simp only [spl] at h)<;>try simp (disch:=first|exact bk rfl|omega|(simp only [ln];omega)|(simp only [go_sem];done)|decide) only [go_sem,h256,r256,h256_0,h256_1,h256_2,h256_3,h256_4,h256_5,o0,lt00,h])
 exact endQ_fro (.tup [.int .i64 0, .int .i64 (-1)]) rfl
theorem asked168_c (lo hi:Int):CQ P (G K) 168 [.nils, .nils, .agg [.int .i64 lo, .int .i64 hi]] (·= .int .i64 (nightsE lo hi)):=by
 refine CQ.enter (hG K) ?_
 (try simp (disch:=first|exact bk rfl|omega|(simp only [ln];omega)|(simp only [go_sem];done)|decide) only [go_sem,h168]);repeat' first|((with_reducible first|apply gJoin_split|apply cond_split|apply gJoinD_split)<;>intro h<;>(try simp only [spl] at h)<;>try simp (disch:=first|exact bk rfl|omega|(simp only [ln];omega)|(simp only [go_sem];done)|decide) only [go_sem,h168,h])|((with_reducible refine cl_guard ?_;first|refine cl_eq (hG K) _ (policies255_c) rfl ?_|refine cl_eq (hG K) _ (rounds256_c) rfl ?_|refine cl_eq (hG K) _ (spanned257_c _ _) rfl ?_)<;>try simp (disch:=first|exact bk rfl|omega|(simp only [ln];omega)|(simp only [go_sem];done)|decide) only [go_sem,h168])
 all_goals exact endQ_fro (.int .i64 _) rfl
def zPol:D:= .agg [.int .i64 0, .int .i64 0, .int .i64 0, .int .i64 0, .int .i64 0, .int .i64 0, .int .i64 0]
theorem force258_c (n:Int):CQ P (G K) 258 [.nils, .int .i64 n] (·= .tup [zPol, .bool false]):=by
 refine CQ.enter (hG K) ?_
 (try simp (disch:=first|exact bk rfl|omega|(simp only [ln];omega)|(simp only [go_sem];done)|decide) only [go_sem,h258,r258,h258_0,h258_1,h258_2,o0,lt00]);repeat' first|((with_reducible first|apply gJoin_split|apply cond_split|apply gJoinD_split)<;>intro h<;>(try simp only [spl] at h)<;>try simp (disch:=first|exact bk rfl|omega|(simp only [ln];omega)|(simp only [go_sem];done)|decide) only [go_sem,h258,r258,h258_0,h258_1,h258_2,o0,lt00,h])
 refine loop_n 1 (loopN_step ?_)
 (try simp (disch:=first|exact bk rfl|omega|(simp only [ln];omega)|(simp only [go_sem];done)|decide) only [go_sem,h258,r258,h258_0,h258_1,h258_2,o0,lt00]);repeat' first|((with_reducible first|apply gJoin_split|apply cond_split|apply gJoinD_split)<;>intro h<;>(try simp only [spl] at h)<;>try simp (disch:=first|exact bk rfl|omega|(simp only [ln];omega)|(simp only [go_sem];done)|decide) only [go_sem,h258,r258,h258_0,h258_1,h258_2,o0,lt00,h])
 exact endQ_fro (.tup [zPol, .bool false]) rfl
theorem check78_c:CQ P (G K) 78 [.nils] (·= .tup [.int .i64 0, .int .i64 (-1)]):=by
 refine CQ.enter (hG K) ?_
 (try simp (disch:=first|exact bk rfl|omega|(simp only [ln];omega)|(simp only [go_sem];done)|decide) only [go_sem,h78,r78,h78_0,h78_1,h78_2,h78_3,h78_4,h78_5,o0,lt00,lt40]);repeat' first|((with_reducible first|apply gJoin_split|apply cond_split|apply gJoinD_split)<;>intro h<;>(try simp only [spl] at h)<;>try simp (disch:=first|exact bk rfl|omega|(simp only [ln];omega)|(simp only [go_sem];done)|decide) only [go_sem,h78,r78,h78_0,h78_1,h78_2,h78_3,h78_4,h78_5,o0,lt00,lt40,h])
 refine loop_n 1 (loopN_step ?_)
 (try simp (disch:=first|exact bk rfl|omega|(simp only [ln];omega)|(simp only [go_sem];done)|decide) only [go_sem,h78,r78,h78_0,h78_1,h78_2,h78_3,h78_4,h78_5,o0,lt00]);repeat' first|((with_reducible first|apply gJoin_split|apply cond_split|apply gJoinD_split)<;>intro h<;>(try simp only [spl] at h)<;>try simp (disch:=first|exact bk rfl|omega|(simp only [ln];omega)|(simp only [go_sem];done)|decide) only [go_sem,h78,r78,h78_0,h78_1,h78_2,h78_3,h78_4,h78_5,o0,lt00,h])
 exact endQ_fro (.tup [.int .i64 0, .int .i64 (-1)]) rfl
theorem balance105_c (n:Int):CQ P (G K) 105 [.nils, .int .i64 n] (·= .tup [.int .i64 0, .int .i64 (if accB n then 0 else 1)]):=by
 refine CQ.enter (hG K) ?_
 cases ha:accB n with
 | false=>
  (try simp (disch:=first|exact bk rfl|omega|(simp only [ln];omega)|(simp only [go_sem];done)|decide) only [go_sem,h105,r105,h105_0,h105_1,ha,o0,lt00]);repeat' first|((with_reducible first|apply gJoin_split|apply cond_split|apply gJoinD_split)<;>intro h<;>(try simp only [spl] at h)<;>try simp (disch:=first|exact bk rfl|omega|(simp only [ln];omega)|(simp only [go_sem];done)|decide) only [go_sem,h105,r105,h105_0,h105_1,ha,o0,lt00,h])|((with_reducible refine cl_guard ?_;first|refine cl_eq (hG K) _ (check78_c) rfl ?_|refine cl_eq (hG K) _ (account108_c _) rfl ?_)<;>try simp (disch:=first|exact bk rfl|omega|(simp only [ln];omega)|(simp only [go_sem];done)|decide) only [go_sem,h105,r105,h105_0,h105_1,ha,o0,lt00])
  exact endQ_fro (.tup [.int .i64 0, .int .i64 1]) (by simp)
 | true=>
  (try simp (disch:=first|exact bk rfl|omega|(simp only [ln];omega)|(simp only [go_sem];done)|decide) only [go_sem,h105,r105,h105_0,h105_1,ha,o0,lt00]);repeat' first|((with_reducible first|apply gJoin_split|apply cond_split|apply gJoinD_split)<;>intro h<;>(try simp only [spl] at h)<;>try simp (disch:=first|exact bk rfl|omega|(simp only [ln];omega)|(simp only [go_sem];done)|decide) only [go_sem,h105,r105,h105_0,h105_1,ha,o0,lt00,h])|((with_reducible refine cl_guard ?_;first|refine cl_eq (hG K) _ (check78_c) rfl ?_|refine cl_eq (hG K) _ (account108_c _) rfl ?_)<;>try simp (disch:=first|exact bk rfl|omega|(simp only [ln];omega)|(simp only [go_sem];done)|decide) only [go_sem,h105,r105,h105_0,h105_1,ha,o0,lt00])
  refine loop_n 1 (loopN_step ?_)
  (try simp (disch:=first|exact bk rfl|omega|(simp only [ln];omega)|(simp only [go_sem];done)|decide) only [go_sem,h105,r105,h105_0,h105_1,ha,o0,lt00]);repeat' first|((with_reducible first|apply gJoin_split|apply cond_split|apply gJoinD_split)<;>intro h<;>(try simp only [spl] at h)<;>try simp (disch:=first|exact bk rfl|omega|(simp only [ln];omega)|(simp only [go_sem];done)|decide) only [go_sem,h105,r105,h105_0,h105_1,ha,o0,lt00,h])
  exact endQ_fro (.tup [.int .i64 0, .int .i64 0]) (by simp)
theorem account75_c (n:Int):CQ P (G K) 75 [.int .i64 n] (·= .bool (accB n)):=by
 refine CQ.enter (hG K) ?_
 (try simp (disch:=first|exact bk rfl|omega|(simp only [ln];omega)|(simp only [go_sem];done)|decide) only [go_sem,h75]);repeat' first|((with_reducible first|apply gJoin_split|apply cond_split|apply gJoinD_split)<;>intro h<;>(try simp only [spl] at h)<;>try simp (disch:=first|exact bk rfl|omega|(simp only [ln];omega)|(simp only [go_sem];done)|decide) only [go_sem,h75,h])|((with_reducible refine cl_guard ?_;refine cl_eq (hG K) _ (balance105_c _) rfl ?_)<;>try simp (disch:=first|exact bk rfl|omega|(simp only [ln];omega)|(simp only [go_sem];done)|decide) only [go_sem,h75])
 all_goals exact endQ_fro (.bool _) (by cases accB n<;>simp)
end Go.S9
