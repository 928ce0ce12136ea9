/- A part of the proof of TribunalQuestions. -/
import Derived.Test.YtmmghibnfjfnbaaGreatDoorBAl
import Derived.Test.YtmmghibnfjfnbaaGreatDoorBAk
import Derived.Lib.AtoiAll
import Derived.Lib.AtoiAllCases
import Derived.Test.YtmmghibnfjfnbaaGreatDoorBAd
set_option linter.unusedVariables false
set_option linter.unusedSimpArgs false
namespace Go.S9
open Go.Ev Go.Proofs
set_option maxRecDepth 100000
set_option linter.unusedVariables false
set_option linter.unusedSimpArgs false
variable {K : GP} {H : Hp} {k : AV → Bool}
set_option maxHeartbeats 8000000 in
theorem bare38_8 {q:Quest} (hk:q.kind=8) (hp:q.place.length≤9223372036854775807):CQ P (G K) 38 [.agg (eQ q)] (·= .tup [.agg (eQ (bareQ q)), .bool (okB q)]):=by
 refine CQ.enter (hG K) ?_
 have f1:(q.kind=1)=False:=by simp [hk]
 have f2:(q.kind=2)=False:=by simp [hk]
 have f3:(q.kind=3)=False:=by simp [hk]
 have f4:(q.kind=4)=False:=by simp [hk]
 have f5:(q.kind=5)=False:=by simp [hk]
 have f6:(q.kind=6)=False:=by simp [hk]
 have f7:(q.kind=7)=False:=by simp [hk]
 have f8:(q.kind=8)=True:=by simp [hk]
 have hX:bareQ q={q0 q with off:=q.off,no:=q.no}:=by simp [bareQ,hk]
 have hY:okB q=decide (1≤q.off∧q.off≤8∧1≤q.no∧q.no≤60):=by simp [okB,hk]
 rw [hX,hY]
 (try simp (maxSteps:=10000000) (disch:=first|exact bk rfl|omega|(simp only [ln];omega)|(simp only [go_sem];done)|decide) only [go_sem,h38,r38,h38_0,h38_1,h38_2,h38_3,h38_4,h38_5,h38_6,h38_7,h38_8,h38_9,h38_10,h38_11,h38_12,h38_13,h38_14,eQ,pick_and,f1,f2,f3,f4,f5,f6,f7,f8]);repeat' first|((with_reducible first|apply gJoin_split|apply cond_split|apply gJoinD_split)<;>intro h<;>(try simp only [spl] at h)<;>try simp (maxSteps:=10000000) (disch:=first|exact bk rfl|omega|(simp only [ln];omega)|(simp only [go_sem];done)|decide) only [go_sem,h38,r38,h38_0,h38_1,h38_2,h38_3,h38_4,h38_5,h38_6,h38_7,h38_8,h38_9,h38_10,h38_11,h38_12,h38_13,h38_14,eQ,pick_and,f1,f2,f3,f4,f5,f6,f7,f8,h])
 all_goals (refine endQ_fro (.tup [.agg (eQ {q0 q with off:=q.off,no:=q.no}), .bool _]) (tupb ?_);first | (symm;simp only [decide_eq_false_iff_not];omega)| (rw [Bool.eq_iff_iff];simp only [decide_eq_true_eq];omega)| (rw [Bool.eq_iff_iff];simp only [decide_eq_true_eq,Bool.and_eq_true];omega))
set_option maxHeartbeats 8000000 in
theorem bare38_0 {q:Quest} (hk:¬(1≤q.kind∧q.kind≤8)):CQ P (G K) 38 [.agg (eQ q)] (·= .tup [.agg (eQ (bareQ q)), .bool (okB q)]):=by
 refine CQ.enter (hG K) ?_
 have n1:q.kind≠1:=by omega
 have n2:q.kind≠2:=by omega
 have n3:q.kind≠3:=by omega
 have n4:q.kind≠4:=by omega
 have n5:q.kind≠5:=by omega
 have n6:q.kind≠6:=by omega
 have n7:q.kind≠7:=by omega
 have n8:q.kind≠8:=by omega
 have f1:=eq_false n1
 have f2:=eq_false n2
 have f3:=eq_false n3
 have f4:=eq_false n4
 have f5:=eq_false n5
 have f6:=eq_false n6
 have f7:=eq_false n7
 have f8:=eq_false n8
 have hX:bareQ q=q0 q:=by simp [bareQ,n1,n2,n3,n4,n5,n6,n7,n8]
 have hY:okB q=false:=by simp [okB,n1,n2,n3,n4,n5,n6,n7,n8]
 rw [hX,hY]
 (try simp (maxSteps:=10000000) (disch:=first|exact bk rfl|omega|(simp only [ln];omega)|(simp only [go_sem];done)|decide) only [go_sem,h38,r38,h38_0,h38_1,h38_2,h38_3,h38_4,h38_5,h38_6,h38_7,h38_8,h38_9,h38_10,h38_11,h38_12,h38_13,h38_14,eQ,f1,f2,f3,f4,f5,f6,f7,f8]);repeat' first|((with_reducible first|apply gJoin_split|apply cond_split|apply gJoinD_split)<;>intro h<;>(try simp only [spl] at h)<;>try simp (maxSteps:=10000000) (disch:=first|exact bk rfl|omega|(simp only [ln];omega)|(simp only [go_sem];done)|decide) only [go_sem,h38,r38,h38_0,h38_1,h38_2,h38_3,h38_4,h38_5,h38_6,h38_7,h38_8,h38_9,h38_10,h38_11,h38_12,h38_13,h38_14,eQ,f1,f2,f3,f4,f5,f6,f7,f8,h])
 all_goals exact endQ_fro (.tup [.agg (eQ (q0 q)), .bool false]) rfl
end Go.S9
namespace Go.S9
open Go
set_option linter.unusedVariables false
set_option linter.unusedSimpArgs false
def numE (s:Str):Int:=match Lib.atoiAll (s.map UInt8.ofNat) with
 | .ok v=>v
 | _=>0
def valN:Nat→Str→Option Nat
 | a,[]=>some a
 | a,c::r=>if 48≤c∧c≤57 then valN (min (10 * a+(c - 48)) 4398046511104) r else none
def valM (s:Str):Int:=match valN 0 s with
 | some n=>(n:Int)
 | none=>0
def valE (s:Str):Int:=match s with
 | 45::r=> -(valM r)
 | s=>valM s
theorem dig_le {u:Nat}:∀c∈dg u,48≤c∧c≤57:=by
 induction u using Nat.strongRecOn with
 | _ u ih=>
  intro c hc
  by_cases h:u<10
  ·rw [dg_lt h] at hc;simp at hc;omega
  ·rw [dg_ge h] at hc
   rcases List.mem_append.1 hc with hc | hc
   ·exact ih (u/10) (by omega) c hc
   ·simp at hc;omega
theorem valN_append:∀(l r:Str) (a u:Nat),valN a l=some u→valN a (l++r)=valN u r
 | [],r,a,u,h=>by simp only [valN,Option.some.injEq] at h;subst h;rfl
 | c::l,r,a,u,h=>by
  simp only [valN,List.cons_append] at h⊢
  split at h
  ·rename_i hc;rw [if_pos hc];exact valN_append l r _ u h
  ·cases h
theorem valN_dg {u:Nat}:u≤4398046511104→valN 0 (dg u)=some u:=by
 induction u using Nat.strongRecOn with
 | _ u ih=>
  intro hu
  by_cases h:u<10
  ·rw [dg_lt h];simp only [valN];rw [if_pos (by omega)];congr 1;omega
  ·rw [dg_ge h,valN_append _ _ 0 (u/10) (ih (u/10) (by omega) (by omega))]
   simp only [valN];rw [if_pos (by omega)];congr 1;omega
theorem dg_ne (u:Nat):dg u≠[]:=by
 intro e
 by_cases h:u<10
 ·rw [dg_lt h] at e;cases e
 ·rw [dg_ge h] at e;simp at e
theorem dg_no (c u:Nat) (h:¬(48≤c∧c≤57)):c∉dg u:=fun hc=>h (dig_le c hc)
theorem dg_cons (u:Nat):∃c r,dg u=c::r∧48≤c∧c≤57:=by
 cases h:dg u with
 | nil=>exact absurd h (dg_ne u)
 | cons c r=>exact⟨c,r,rfl,dig_le (u:=u) c (by rw [h];simp)⟩
theorem valE_pos {u:Nat} (h:u≤4398046511104):valE (dg u)=u:=by
 obtain⟨c,r,e,h1,h2⟩:=dg_cons u
 have:valE (dg u)=valM (dg u):=by
  rw [e];unfold valE;split
  ·rename_i heq;simp at heq;omega
  ·rfl
 rw [this,valM,valN_dg h]
theorem valE_neg {u:Nat} (h:u≤4398046511104):valE (45::dg u)= -(u:Int):=by
 show -(valM (dg u))=_
 rw [valM,valN_dg h]
def inQ (n:Int):Prop:= -2≤n∧n≤1099511627776
theorem valE_it {n:Int} (h:inQ n):valE (itS n)=n:=by
 obtain⟨h1,h2⟩:=h
 rcases Int.eq_nat_or_neg n with⟨m,rfl | rfl⟩
 ·rw [itS_nat];exact valE_pos (by omega)
 ·rcases Nat.eq_zero_or_pos m with h0 | h0
  ·subst h0;exact valE_pos (u:=0) (by decide)
  ·rw [itS_neg h0];exact valE_neg (by omega)
theorem pu_append:∀(l r:List UInt8) (a u:Nat),Lib.parseUint10 a l= .ok u→Lib.parseUint10 a (l++r)=Lib.parseUint10 u r
 | [],r,a,u,h=>by simp only [Lib.parseUint10,Lib.NumEnd.ok.injEq] at h;subst h;rfl
 | c::l,r,a,u,h=>by
  simp only [Lib.parseUint10,List.cons_append] at h⊢
  split at h
  ·rename_i hc
   rw [if_pos hc]
   split at h
   ·cases h
   ·rename_i h2
    rw [if_neg h2]
    split at h
    ·cases h
    ·rename_i h3
     rw [if_neg h3]
     exact pu_append l r _ u h
  ·cases h
theorem mapback (l:List UInt8):(l.map UInt8.toNat).map UInt8.ofNat=l:=by
 rw [List.map_map]
 exact (List.map_congr_left (g:=id) fun a _=>by simp).trans (List.map_id _)
def bt (s:Str):List UInt8:=s.map UInt8.ofNat
theorem bt_app (a b:Str):bt (a++b)=bt a++bt b:=by simp [bt]
theorem pu_dg {u:Nat}:u≤4398046511104→Lib.parseUint10 0 (bt (dg u))= .ok u:=by
 induction u using Nat.strongRecOn with
 | _ u ih=>
  intro hu
  have hd:∀d,d<10→(UInt8.ofNat (48+d)).toNat=48+d:=fun d hd=>by
   rw [UInt8.toNat_ofNat'];omega
  by_cases h:u<10
  ·rw [dg_lt h];simp only [bt,List.map_cons,List.map_nil,Lib.parseUint10]
   rw [hd _ h,if_pos (by omega),if_neg (by omega),if_neg (by omega)];congr 1;omega
  ·rw [dg_ge h,bt_app,pu_append _ _ 0 (u/10) (ih (u/10) (by omega) (by omega))]
   simp only [bt,List.map_cons,List.map_nil,Lib.parseUint10]
   rw [hd _ (Nat.mod_lt _ (by decide)),if_pos (by omega),if_neg (by omega),if_neg (by omega)];congr 1;omega
theorem pm_dg {u:Nat} (h:u≤4398046511104):Lib.parseMag (bt (dg u))= .ok u:=by
 unfold Lib.parseMag
 rw [if_neg (by simpa [bt] using dg_ne u)]
 exact pu_dg h
theorem numE_pos {u:Nat} (h:u≤4398046511104):numE (dg u)=u:=by
 obtain⟨c,r,e,h1,h2⟩:=dg_cons u
 have hm:=pm_dg h
 have hc:(UInt8.ofNat c).toNat=c:=by rw [UInt8.toNat_ofNat'];omega
 unfold numE
 rw [show (dg u).map UInt8.ofNat=bt (dg u) from rfl]
 rw [e] at hm⊢
 simp only [bt,List.map_cons] at hm⊢
 rw [Lib.atoiAll_plain _ _ (by rw [hc];omega) (by rw [hc];omega),hm]
 unfold Lib.signless
 simp only
 rw [if_neg (by omega)]
theorem numE_neg {u:Nat} (h:u≤4398046511104):numE (45::dg u)= -(u:Int):=by
 have hm:=pm_dg h
 unfold numE
 rw [List.map_cons,show (dg u).map UInt8.ofNat=bt (dg u) from rfl,show UInt8.ofNat 45=45 from rfl,Lib.atoiAll_minus,hm]
 unfold Lib.signed
 simp only
 rw [if_neg (by omega)]
theorem numE_it {n:Int} (h:inQ n):numE (itS n)=n:=by
 obtain⟨h1,h2⟩:=h
 rcases Int.eq_nat_or_neg n with⟨m,rfl | rfl⟩
 ·rw [itS_nat];exact numE_pos (by omega)
 ·rcases Nat.eq_zero_or_pos m with h0 | h0
  ·subst h0;exact numE_pos (u:=0) (by decide)
  ·rw [itS_neg h0];exact numE_neg (by omega)
theorem it_no {n:Int} {c:Nat} (h:inQ n) (hc:¬(48≤c∧c≤57)) (h5:0≤n∨c≠45):c∉itS n:=by
 obtain⟨h1,h2⟩:=h
 rcases Int.eq_nat_or_neg n with⟨m,rfl | rfl⟩
 ·rw [itS_nat];exact dg_no _ _ hc
 ·rcases Nat.eq_zero_or_pos m with h0 | h0
  ·subst h0;exact dg_no _ 0 hc
  ·rw [itS_neg h0]
   intro hx
   rcases List.mem_cons.1 hx with hx | hx
   ·omega
   ·exact dg_no _ _ hc hx
def wd (c:Nat):Str→List Str
 | []=>[[]]
 | x::r=>if x=c then []::wd c r else match wd c r with
  | []=>[[x]]
  | w::ws=>(x::w)::ws
theorem wd_ne (c:Nat) (s:Str):wd c s≠[]:=by
 cases s with
 | nil=>simp [wd]
 | cons x r=>
  unfold wd
  split
  ·simp
  ·split<;>simp
theorem wd_one {c:Nat}:∀{a:Str},c∉a→wd c a=[a]
 | [],_=>rfl
 | x::a,h=>by
  have h1:x≠c:=fun e=>h (by simp [e])
  have h2:c∉a:=fun e=>h (by simp [e])
  unfold wd
  rw [if_neg h1,wd_one h2]
theorem wd_app {c:Nat}:∀{a:Str} (r:Str),c∉a→wd c (a++c::r)=a::wd c r
 | [],r,_=>by show wd c (c::r)=_;rw [wd,if_pos rfl]
 | x::a,r,h=>by
  have h1:x≠c:=fun e=>h (by simp [e])
  have h2:c∉a:=fun e=>h (by simp [e])
  show wd c (x::(a++c::r))=_
  rw [wd,if_neg h1,wd_app r h2]
def jn:List Str→Str
 | []=>[]
 | [w]=>w
 | w::v::ws=>w++32::jn (v::ws)
theorem wd_jn:∀{ws:List Str},ws≠[]→(∀w∈ws,32∉w)→wd 32 (jn ws)=ws
 | [],h,_=>absurd rfl h
 | [w],_,h=>wd_one (h w (by simp))
 | w::v::ws,_,h=>by
  show wd 32 (w++32::jn (v::ws))=_
  rw [wd_app _ (h w (by simp)),wd_jn (by simp) fun x hx=>h x (by simp [hx])]
def cutE (c:Nat):Str→Option (Str×Str)
 | []=>none
 | x::r=>if x=c then some ([],r) else (cutE c r).map fun p=>(x::p.1,p.2)
theorem cutE_app {c:Nat}:∀{a:Str} (r:Str),c∉a→cutE c (a++c::r)=some (a,r)
 | [],r,_=>by show cutE c (c::r)=_;rw [cutE,if_pos rfl]
 | x::a,r,h=>by
  have h1:x≠c:=fun e=>h (by simp [e])
  have h2:c∉a:=fun e=>h (by simp [e])
  show cutE c (x::(a++c::r))=_
  rw [cutE,if_neg h1,cutE_app r h2];rfl
theorem cutE_none {c:Nat}:∀{a:Str},c∉a→cutE c a=none
 | [],_=>rfl
 | x::a,h=>by
  have h1:x≠c:=fun e=>h (by simp [e])
  have h2:c∉a:=fun e=>h (by simp [e])
  rw [cutE,if_neg h1,cutE_none h2];rfl
theorem cutE_len {c:Nat}:∀{s:Str} {p:Str×Str},cutE c s=some p→p.1.length+p.2.length<s.length
 | [],p,h=>by cases h
 | x::r,p,h=>by
  rw [cutE] at h
  split at h
  ·cases h;simp
  ·obtain⟨q,hq,rfl⟩:=Option.map_eq_some_iff.1 h
   have:=cutE_len hq
   simp;omega
def spE (s:Str):Int×Int:=match cutE 45 s with
 | some p=>(numE p.1,numE p.2)
 | none=>(numE s,0)
def spR (s:Str):Int×Int:=match cutE 45 s with
 | some p=>(valE p.1,valE p.2)
 | none=>(0,0)
theorem cut_sp {lo hi:Int} (h:inQ lo) (h0:0≤lo):cutE 45 (spS lo hi)=some (itS lo,itS hi):=by
 unfold spS
 rw [List.append_assoc]
 exact cutE_app _ (it_no h (by omega) (.inl h0))
theorem spE_sp {lo hi:Int} (h:inQ lo) (h0:0≤lo) (hh:inQ hi):spE (spS lo hi)=(lo,hi):=by
 unfold spE;rw [cut_sp h h0];simp only [numE_it h,numE_it hh]
theorem spR_sp {lo hi:Int} (h:inQ lo) (h0:0≤lo) (hh:inQ hi):spR (spS lo hi)=(lo,hi):=by
 unfold spR;rw [cut_sp h h0];simp only [valE_it h,valE_it hh]
theorem sp_no {lo hi:Int} (h:inQ lo) (hh:inQ hi):32∉spS lo hi:=fun hx=>by
 unfold spS at hx
 rcases List.mem_append.1 hx with hx | hx
 ·rcases List.mem_append.1 hx with hx | hx
  ·exact it_no h (by omega) (.inr (by omega)) hx
  ·simp at hx
 ·exact it_no hh (by omega) (.inr (by omega)) hx
theorem name_no {s:Str} (h:nameB s=true):32∉s:=fun hx=>by
 unfold nameB at h
 rw [Bool.and_eq_true] at h
 have:=List.all_eq_true.1 h.1 _ hx
 exact absurd this (by decide)
def names:List Str:=[[],[118,101,114,100,105,99,116],[109,105,115,115,101,100],[119,104,101,110],[119,104,111],[112,108,97,99,101,100],[98,97,108,97,110,99,101],[97,109,101,110,100],[114,101,115,116,115]]
def nmS (k:Int):Str:=names.getD k.toNat []
def kindE (w:Str):Int:=(((List.range 9).find? fun i=>names.getD i []=w).getD 0:Nat)
def wordsOf (q:Quest):List Str:=nmS q.kind::itS q.known::
 (if q.kind=1 then [itS q.dial] else if q.kind=2∨q.kind=3∨q.kind=4 then [itS q.dial,q.place] else if q.kind=5 then [itS q.dial,q.place,spS q.lo q.hi]
 else if q.kind=6 then [itS q.acc,spS q.lo q.hi] else if q.kind=7 then [itS q.bef,spS q.lo q.hi] else if q.kind=8 then [itS q.off,itS q.no] else [])
def printE (q:Quest):Str:=jn (wordsOf q)
def readE (num:Str→Int) (spn:Str→Int×Int) (ws:List Str):Quest:=
 let k:=kindE (ws.getD 0 [])
 let z:Quest:=⟨k,num (ws.getD 1 []),0,[],0,0,0,0,0,0⟩
 let a:=ws.getD 2 []
 let b:=ws.getD 3 []
 let c:=ws.getD 4 []
 if k=1 then {z with dial:=num a}
 else if k=2∨k=3∨k=4 then {z with dial:=num a,place:=b}
 else if k=5 then {z with dial:=num a,place:=b,lo:=(spn c).1,hi:=(spn c).2}
 else if k=6 then {z with acc:=num a,lo:=(spn b).1,hi:=(spn b).2}
 else if k=7 then {z with bef:=num a,lo:=(spn b).1,hi:=(spn b).2}
 else if k=8 then {z with off:=num a,no:=num b}
 else z
def sameQ (a b:Quest):Bool:=decide (a.kind=b.kind∧a.known=b.known∧a.dial=b.dial∧a.place=b.place∧a.lo=b.lo∧a.hi=b.hi∧a.acc=b.acc∧a.bef=b.bef∧a.off=b.off∧a.no=b.no)
theorem sameQ_iff {a b:Quest}:sameQ a b=true↔a=b:=by
 unfold sameQ
 rw [decide_eq_true_eq]
 cases a;cases b
 simp
def validB (q:Quest):Bool:=okB q&&sameQ (bareQ q) q&&timeB q.known
theorem kind_nm {k:Int} (h1:1≤k) (h8:k≤8):kindE (nmS k)=k:=by
 have:k=1∨k=2∨k=3∨k=4∨k=5∨k=6∨k=7∨k=8:=by omega
 rcases this with rfl | rfl | rfl | rfl | rfl | rfl | rfl | rfl<;>rfl
theorem nm_no {k:Int}:32∉nmS k:=by
 unfold nmS
 rw [List.getD_eq_getElem?_getD]
 rcases Nat.lt_or_ge k.toNat 9 with h | h
 ·have:∀i,i<9→32∉(names[i]?.getD []):=by decide
  exact this _ h
 ·rw [List.getElem?_eq_none (by simpa [names] using h)];simp
theorem kind_ok {q:Quest} (h:okB q=true):1≤q.kind∧q.kind≤8:=by
 unfold okB at h
 repeat' split at h
 all_goals first | omega | cases h
theorem time_q {n:Int} (h:timeB n=true):inQ n∧0≤n:=by
 simp only [timeB,decide_eq_true_eq] at h;exact⟨⟨by omega,by omega⟩,h.1⟩
theorem dial_q {n:Int} (h:dialB n=true):inQ n:=by
 simp only [dialB,decide_eq_true_eq] at h;exact⟨by omega,by omega⟩
theorem acc_q {n:Int} (h:accB n=true):inQ n:=by
 simp only [accB,decide_eq_true_eq] at h;exact⟨by omega,by omega⟩
theorem nights_q {lo hi:Int} (h:nightsB lo hi=true):inQ lo∧0≤lo∧inQ hi:=by
 simp only [nightsB,decide_eq_true_eq] at h
 have:=nights_ok h
 exact⟨⟨by omega,by omega⟩,by omega,⟨by omega,by omega⟩⟩
theorem read_print {num:Str→Int} {spn:Str→Int×Int} (hn:∀n,inQ n→num (itS n)=n) (hs:∀lo hi,inQ lo→0≤lo→inQ hi→spn (spS lo hi)=(lo,hi)) {q:Quest} (h:validB q=true):readE num spn (wd 32 (printE q))=q:=by
 simp only [validB,Bool.and_eq_true] at h
 obtain⟨⟨hok,hb⟩,ht⟩:=h
 have hb:=sameQ_iff.1 hb
 have ht:=time_q ht
 obtain⟨k1,k8⟩:=kind_ok hok
 have hw:(∀w∈wordsOf q,32∉w)∧readE num spn (wordsOf q)=q:=by
  obtain⟨kind,known,dial,place,lo,hi,acc,bef,off,no⟩:=q
  simp only at k1 k8 ht
  have hkn:=it_no (c:=32) ht.1 (by omega) (.inr (by omega))
  have hkv:=hn _ ht.1
  have:kind=1∨kind=2∨kind=3∨kind=4∨kind=5∨kind=6∨kind=7∨kind=8:=by omega
  have w3:∀{a b c:Str},32∉a→32∉b→32∉c→∀w∈[a,b,c],32∉w:=fun ha hb hc w hw=>by
   simp at hw;rcases hw with rfl | rfl | rfl<;>assumption
  have w4:∀{a b c d:Str},32∉a→32∉b→32∉c→32∉d→∀w∈[a,b,c,d],32∉w:=fun ha hb hc hd w hw=>by
   simp at hw;rcases hw with rfl | rfl | rfl | rfl<;>assumption
  have w5:∀{a b c d e:Str},32∉a→32∉b→32∉c→32∉d→32∉e→∀w∈[a,b,c,d,e],32∉w:=fun ha hb hc hd he w hw=>by
   simp at hw;rcases hw with rfl | rfl | rfl | rfl | rfl<;>assumption
  rcases this with rfl | rfl | rfl | rfl | rfl | rfl | rfl | rfl
  ·simp [bareQ,q0] at hb
   simp [okB] at hok
   have h1:=dial_q hok
   refine⟨w3 nm_no hkn (it_no h1 (by omega) (.inr (by omega))), ?_⟩
   simp [readE,wordsOf,kind_nm,hkv,hn _ h1,hb]<;>omega
  iterate 3
   ·simp [bareQ,q0] at hb
    simp [okB] at hok
    have h1:=dial_q hok.1
    refine⟨w4 nm_no hkn (it_no h1 (by omega) (.inr (by omega))) (name_no hok.2), ?_⟩
    simp [readE,wordsOf,kind_nm,hkv,hn _ h1,hb]<;>omega
  ·simp [bareQ,q0] at hb
   simp [okB] at hok
   obtain⟨o1,o2,o3,o4,o5⟩:=hok
   have h1:=dial_q o1
   have h2:=time_q o3
   have h3:=time_q o4
   refine⟨w5 nm_no hkn (it_no h1 (by omega) (.inr (by omega))) (name_no o2) (sp_no h2.1 h3.1), ?_⟩
   simp [readE,wordsOf,kind_nm,hkv,hn _ h1,hs _ _ h2.1 h2.2 h3.1,hb]<;>omega
  ·simp [bareQ,q0] at hb
   simp [okB] at hok
   have h1:=acc_q hok.1
   have h2:=nights_q hok.2
   refine⟨w4 nm_no hkn (it_no h1 (by omega) (.inr (by omega))) (sp_no h2.1 h2.2.2), ?_⟩
   simp [readE,wordsOf,kind_nm,hkv,hn _ h1,hs _ _ h2.1 h2.2.1 h2.2.2,hb]<;>omega
  ·simp [bareQ,q0] at hb
   simp [okB] at hok
   have h1:=time_q hok.1
   have h2:=nights_q hok.2
   refine⟨w4 nm_no hkn (it_no h1.1 (by omega) (.inr (by omega))) (sp_no h2.1 h2.2.2), ?_⟩
   simp [readE,wordsOf,kind_nm,hkv,hn _ h1.1,hs _ _ h2.1 h2.2.1 h2.2.2,hb]<;>omega
  ·simp [bareQ,q0] at hb
   simp [okB] at hok
   have h1:inQ off:=⟨by omega,by omega⟩
   have h2:inQ no:=⟨by omega,by omega⟩
   refine⟨w4 nm_no hkn (it_no h1 (by omega) (.inr (by omega))) (it_no h2 (by omega) (.inr (by omega))), ?_⟩
   simp [readE,wordsOf,kind_nm,hkv,hn _ h1,hn _ h2,hb]<;>omega
 unfold printE
 rw [wd_jn (by simp [wordsOf]) hw.1]
 exact hw.2
def readA (t:Str):Quest:=readE numE spE (wd 32 t)
def readB (t:Str):Quest:=readE valE spR (wd 32 t)
theorem readA_print {q:Quest} (h:validB q=true):readA (printE q)=q:=read_print (fun _=>numE_it) (fun _ _=>spE_sp) h
theorem readB_print {q:Quest} (h:validB q=true):readB (printE q)=q:=read_print (fun _=>valE_it) (fun _ _=>spR_sp) h
def goodB (q:Quest) (t:Str):Bool:=validB q&&decide (printE q=t)
theorem good_iff {q:Quest} {t:Str}:goodB q t=true↔validB q=true∧printE q=t:=by
 unfold goodB;rw [Bool.and_eq_true,decide_eq_true_eq]
theorem good_ab {t:Str} (h:goodB (readA t) t=true):readB t=readA t:=by
 obtain⟨h1,h2⟩:=good_iff.1 h
 have:=readB_print h1
 rwa [h2] at this
theorem good_ba {t:Str} (h:goodB (readB t) t=true):readA t=readB t:=by
 obtain⟨h1,h2⟩:=good_iff.1 h
 have:=readA_print h1
 rwa [h2] at this
theorem good_eq (t:Str):goodB (readA t) t=goodB (readB t) t:=by
 cases ha:goodB (readA t) t with
 | true=>rw [good_ab ha,ha]
 | false=>
  cases hb:goodB (readB t) t with
  | true=>rw [good_ba hb,hb] at ha;cases ha
  | false=>rfl
end Go.S9
namespace Go.S9
open Go
set_option linter.unusedVariables false
set_option linter.unusedSimpArgs false
theorem index_wd (c:UInt8):∀(s:List UInt8),(Lib.index s [c]= -1∧c∉s)∨(∃a r,s=a++c::r∧c∉a∧Lib.index s [c]=a.length)
 | []=> .inl ⟨rfl,by simp⟩
 | b::l=>by
  by_cases h:b=c
  ·subst h
   refine .inr ⟨[],l,rfl,by simp, ?_⟩
   unfold Lib.index
   simp [List.isPrefixOf]
  ·have hp:[c].isPrefixOf (b::l)=false:=by simp [List.isPrefixOf];exact fun e=>h e.symm
   rcases index_wd c l with⟨h1,h2⟩| ⟨a,r,rfl,h2,h3⟩
   ·refine .inl ⟨?_, ?_⟩
    ·unfold Lib.index;rw [hp,h1];rfl
    ·intro hx;rcases List.mem_cons.1 hx with hx | hx
     ·exact h hx.symm
     ·exact h2 hx
   ·refine .inr ⟨b::a,r,rfl, ?_, ?_⟩
    ·intro hx;rcases List.mem_cons.1 hx with hx | hx
     ·exact h hx.symm
     ·exact h2 hx
    ·unfold Lib.index;rw [hp,h3]
     have:((a.length:Int)== -1)=false:=by simp<;>omega
     simp [this]
def nt (l:List UInt8):Str:=l.map UInt8.toNat
theorem nt_no {c:UInt8} {l:List UInt8} (h:c∉l):c.toNat∉nt l:=fun hx=>by
 obtain⟨x,hx,e⟩:=List.mem_map.1 hx
 exact h (UInt8.toNat_inj.1 e▸hx)
theorem cut_nt (c:UInt8) (s:List UInt8):(nt (Lib.cut s [c]).1,nt (Lib.cut s [c]).2.1)=(match cutE c.toNat (nt s) with | some p=>p | none=>(nt s,[])):=by
 rcases index_wd c s with⟨h1,h2⟩| ⟨a,r,rfl,h2,h3⟩
 ·rw [cutE_none (nt_no h2)]
  unfold Lib.cut
  rw [h1,if_neg (by decide)];rfl
 ·have e:nt (a++c::r)=nt a++c.toNat::nt r:=by simp [nt]
  rw [e,cutE_app _ (nt_no h2)]
  unfold Lib.cut
  rw [h3,if_pos (by omega)]
  simp [nt]
theorem countFrom_wd (c:UInt8):∀(f:Nat) (s:List UInt8),s.length<f→Lib.countFrom [c] f s+1=(wd c.toNat (nt s)).length
 | 0,s,h=>by omega
 | f+1,s,h=>by
  unfold Lib.countFrom
  rcases index_wd c s with⟨h1,h2⟩| ⟨a,r,rfl,h2,h3⟩
  ·rw [h1,wd_one (nt_no h2)];rfl
  ·have e:nt (a++c::r)=nt a++c.toNat::nt r:=by simp [nt]
   have hn:((a.length:Int)== -1)=false:=by simp<;>omega
   rw [h3,e,wd_app _ (nt_no h2),hn]
   have hd:(a++c::r).drop ((a.length:Int).toNat+[c].length)=r:=by simp
   rw [hd]
   have:=countFrom_wd c f r (by simp at h;omega)
   simp only [Bool.false_eq_true,if_false,List.length_cons]
   omega
theorem splitK_wd (c:UInt8):∀(k:Nat) (s:List UInt8),(wd c.toNat (nt s)).length≤k+1→(Lib.splitK [c] 0 k s).map nt=wd c.toNat (nt s)
 | 0,s,h=>by
  rcases index_wd c s with⟨h1,h2⟩| ⟨a,r,rfl,h2,h3⟩
  ·rw [wd_one (nt_no h2)];rfl
  ·have e:nt (a++c::r)=nt a++c.toNat::nt r:=by simp [nt]
   rw [e,wd_app _ (nt_no h2)] at h
   have:=wd_ne c.toNat (nt r)
   cases hw:wd c.toNat (nt r) with
   | nil=>exact absurd hw this
   | cons x xs=>rw [hw] at h;simp at h
 | k+1,s,h=>by
  unfold Lib.splitK
  rcases index_wd c s with⟨h1,h2⟩| ⟨a,r,rfl,h2,h3⟩
  ·rw [h1,wd_one (nt_no h2)];rfl
  ·have e:nt (a++c::r)=nt a++c.toNat::nt r:=by simp [nt]
   have hn:((a.length:Int)== -1)=false:=by simp<;>omega
   rw [e,wd_app _ (nt_no h2)] at h⊢
   rw [h3,hn]
   have hd:(a++c::r).drop ((a.length:Int).toNat+[c].length)=r:=by simp
   simp only [hd,Bool.false_eq_true,if_false,List.map_cons]
   rw [splitK_wd c k r (by simpa using h)]
   simp
theorem split_wd (c:UInt8) (s:List UInt8):(Lib.splitK [c] 0 (Lib.count s [c]) s).map nt=wd c.toNat (nt s):=
 splitK_wd c _ s (by have:=countFrom_wd c (s.length+1) s (by omega);unfold Lib.count;omega)
theorem count_wd (c:UInt8) (s:List UInt8):Lib.count s [c]+1=(wd c.toNat (nt s)).length:=countFrom_wd c (s.length+1) s (by omega)
end Go.S9
namespace Go.S9
open Go.Ev Go.Proofs Go.RowKit
set_option maxRecDepth 100000
set_option linter.unusedVariables false
set_option linter.unusedSimpArgs false
variable {K : GP} {H : Hp} {k : AV → Bool}
theorem cl_entry {f:FuncId} {args:List AV} {ds:List D} {d:D} {k:AV→Hp→Bool} (h:EntryOK P (G K) f ds d) (hr:rds 1000 H args=some ds) (hk:al false 1000 d H k=true):cl P (G K) f args H k=true:=
 semF_mk fun μ w vs hh hvs=>h args H hr (fun e H'=>AEnd.casesOn (motive:=fun _=>Bool) e (fun v=>k v H') (fun _=>false)) hk μ w vs hh hvs
def eStr (s:Str):List D:=[.str s]
theorem eStr_len (s:Str):(eStr s).length=1:=rfl
theorem rows_str:∀ws:List Str,rows eStr ws=ws.map D.str
 | []=>rfl
 | w::ws=>by
  have h:=rows_str ws
  unfold rows at h⊢
  rw [List.map_cons,List.flatten_cons,h];rfl
theorem ofDs_str:∀ws:List Str,ofDs (ws.map D.str)=ws.map AV.str
 | []=>rfl
 | w::ws=>by show _::ofDs (ws.map D.str)=_;rw [ofDs_str ws];rfl
theorem rdxs_str (own:Bool):∀(n:Nat) (H:Hp) (ws:List Str),ws.length<n→rdxs own n H (ws.map AV.str)=some (ws.map D.str,[])
 | 0,_,_,h=>by omega
 | n+1,H,[],_=>rfl
 | n+1,H,w::ws,h=>by
  obtain⟨m,rfl⟩:∃m,n=m+1:=⟨n - 1,by simp at h;omega⟩
  show (match rdx own (m+1) H (.str w),rdxs own (m+1) H (ws.map AV.str) with | some (d,I),some (ds,J)=>some (d::ds,I++J)| _,_=>none)=_
  rw [rdxs_str own (m+1) H ws (by simpa using h)];rfl
theorem als_str (ro:Bool):∀(n:Nat) (H:Hp) (ws:List Str) (k:List AV→Hp→Bool),ws.length<n→als ro n (ws.map D.str) H k=k (ws.map AV.str) H
 | 0,_,_,_,h=>by omega
 | n+1,H,[],k,_=>rfl
 | n+1,H,w::ws,k,h=>by
  obtain⟨m,rfl⟩:∃m,n=m+1:=⟨n - 1,by simp at h;omega⟩
  show als ro (m+1) (ws.map D.str) H (fun vs H=>k (.str w::vs) H)=_
  rw [als_str ro (m+1) H ws _ (by simpa using h)];rfl
theorem al_str {ws:List Str} {n:Nat} {k:AV→Hp→Bool} (h:ws.length<999):al false 1000 (.sl 1 (ws.map D.str) n) H k=H.new (.cells none false (ws.map AV.str)) fun b H=>k (.sl b 0 n 1 none) H:=by
 show als false 999 (ws.map D.str) H (fun vs H=>H.new (.cells none false vs) fun b H=>k (.sl b 0 n 1 none) H)=_
 rw [als_str _ _ _ _ _ h]
theorem str1x {w:Nat→Option Obj} {ro:Bool} {l:Str} {vs:Array Value} {L:List Nat} (h:DVs w ro [.str l] vs.toList L):∃x:ByteArray,vs=#[.string x]∧nt x.data.toList=l:=by
 obtain⟨vs⟩:=vs
 cases h with
 | cons _ v _ _ vs' _ h hs=>cases hs;cases h with | str s _ h=>exact⟨s,rfl,h⟩
theorem str2x {w:Nat→Option Obj} {ro:Bool} {l m:Str} {vs:Array Value} {L:List Nat} (h:DVs w ro [.str l, .str m] vs.toList L):∃x y:ByteArray,vs=#[.string x, .string y]∧nt x.data.toList=l∧nt y.data.toList=m:=by
 obtain⟨vs⟩:=vs
 cases h with
 | cons _ v _ _ vs' _ h hs=>
  cases hs with
  | cons _ v _ _ vs' _ h' hs=>
   cases hs
   cases h with
   | str s _ h=>
    cases h' with
    | str s' _ h'=>exact⟨s,s',rfl,h,h'⟩
theorem nt_size {x:ByteArray} {l:Str} (h:nt x.data.toList=l):x.size=l.length:=by rw [←h];unfold nt;rw [List.length_map];exact Array.length_toList.symm
theorem nt_one {l:List UInt8} {c:UInt8} (h:nt l=[c.toNat]):l=[c]:=by
 cases l with
 | nil=>cases h
 | cons x t=>
  obtain⟨h1,h2⟩:=List.cons.inj h
  rw [List.map_eq_nil_iff.1 h2,UInt8.toNat_inj.1 h1]
theorem split30_e {s:Str} (hl:s.length<4294967281):EntryOK P (G K) 30 [.str s, .str [32]] (.sl 1 ((wd 32 s).map D.str) (wd 32 s).length):=by
 refine .of_calls (hG K) fun w vs L hw hvs=> ?_
 obtain⟨x,y,rfl,hx,hy⟩:=str2x hvs
 have hy1:y.data.toList=[32]:=nt_one (c:=32) hy
 have hc:Lib.countB x y+1=(wd 32 s).length:=by
  show Lib.count x.data.toList y.data.toList+1=_
  rw [hy1,←hx];exact count_wd 32 _
 have hm:(Lib.splitB y 0 (Lib.countB x y) x).map (fun z=>nt z.data.toList)=wd 32 s:=by
  have h1:=Lib.splitB_data y 0 (Lib.countB x y) x
  have h2:=split_wd 32 x.data.toList
  have h3:Lib.count x.data.toList [32]=Lib.countB x y:=by show _=Lib.count x.data.toList y.data.toList;rw [hy1]
  rw [h3,←hy1,←h1,List.map_map,hx] at h2
  exact h2
 refine (Tryz.strings_Split x y K.k w (by rw [nt_size hx];exact hl) (hw.int1 rfl) (by rw [nt_size hy];decide)).mono fun e w' ⟨he,hw'⟩=>⟨_,[w.heap.size],he, ?_, ?_,by simp,fun j hj=>by simp at hj;omega⟩
 ·rw [hw']
  exact (Below.refl _ _).alloc (Nat.le_refl _) _
 ·have hlen:=congrArg List.length hm
  rw [List.length_map] at hlen
  have hcell:w'.heap[w.heap.size]? =some (.cells ((Lib.splitB y 0 (Lib.countB x y) x).map Value.string).toArray 9):=by
   rw [hw'];simp [World.alloc, -World.alloc_eq]
  rw [hc]
  refine .sl 1 _ _ _ _ ⟨w.heap.size,0,(wd 32 s).length⟩ _ 9 (0,0) ((Lib.splitB y 0 (Lib.countB x y) x).map Value.string) [] hcell (Nat.le_refl _) (Nat.mul_one _) ?_ ?_ (fun _=>rfl) (fun i x hx=> ?_) (fun _=>rfl) ?_
  ·simp;omega
  ·simp
  ·simpa using hx
  ·rw [←hm,List.map_map]
   exact DVs.ofStrs _ _ _
theorem strsOf_map:∀ws:List Str,strsOf (ws.map D.str)=some ws
 | []=>rfl
 | w::ws=>by
  show (match strsOf (ws.map D.str) with | some ls=>some (w::ls)| none=>none)=_
  rw [strsOf_map ws]
theorem nt_bt {l:Str} (h:∀c∈l,c<256):nt (bt l)=l:=by
 unfold nt bt
 rw [List.map_map]
 exact (List.map_congr_left (g:=id) fun c hc=>by simp only [Function.comp,UInt8.toNat_ofNat',id];have:=h c hc;omega).trans (List.map_id _)
theorem nt_app (a b:List UInt8):nt (a++b)=nt a++nt b:=by simp [nt]
theorem jn_tail:∀(w:Str) (ws:List Str),(∀x∈w::ws,∀c∈x,c<256)→nt (Lib.join ((w::ws).map bt) [32])=jn (w::ws)
 | w,[],h=>by
  rw [List.map_cons,List.map_nil,Lib.join_one];exact nt_bt (h w (by simp))
 | w,v::ws,h=>by
  have ih:=jn_tail v ws fun x hx=>h x (by simp [hx])
  rw [List.map_cons,Lib.join_cons] at ih
  rw [List.map_cons,Lib.join_cons,List.map_cons]
  show nt (bt w++Lib.joinTail [32] (bt v::ws.map bt))=w++32::jn (v::ws)
  rw [nt_app,nt_bt (h w (by simp)),←ih]
  congr 1
theorem join29_e {w:Str} {ws:List Str} {n:Nat} (hn:n=(w::ws).length) (hb:∀x∈w::ws,∀c∈x,c<256) (h1:n≤1000) (h2:(jn (w::ws)).length≤100000):EntryOK P (G K) 29 [.sl 1 ((w::ws).map D.str) n, .str [32]] (.str (jn (w::ws))):=by
 refine join_entry (fun bk o c xs sep w h1 h2 h3 h4 h5=>Tryz.strings_Join bk o c xs sep w h1 h2 h3 h4 h5) (fun a c sep w=>Tryz.strings_Join_none a c sep w) (hG K) ?_
 show (match strsOf ((w::ws).map D.str) with | some ls=>decide (n≤ls.length∧n≤140737488355328∧(jn (w::ws)).length≤140737488355328∧(Lib.join ((ls.take n).map fun l=>l.map UInt8.ofNat) ([32].map UInt8.ofNat)).map UInt8.toNat=jn (w::ws))| none=>false)=true
 rw [strsOf_map]
 refine decide_eq_true ⟨by omega,by omega,by omega, ?_⟩
 rw [List.take_of_length_le (by omega)]
 exact jn_tail w ws hb
def cutD (s:Str):D:=match cutE 45 s with
 | some p=> .tup [.str p.1, .str p.2, .bool true]
 | none=> .tup [.str s, .str [], .bool false]
theorem cut73_c {s:Str} (hl:s.length<4294967281):CQ P (G K) 73 [.str s, .str [45]] (·=cutD s):=by
 intro w vs L hg hd
 obtain⟨x,y,rfl,hx,hy⟩:=str2x hd
 have hy1:y.data.toList=[45]:=nt_one (c:=45) hy
 refine callsIn_wide.2 ((Tryz.strings_Cut x y K.k w (by rw [nt_size hx];exact hl) (hg.int1 rfl)).mono fun e w' ⟨he,n,hw'⟩=> ?_)
 rw [hy1] at he
 have h0:=cut_nt 45 x.data.toList
 have hf:(Lib.cut x.data.toList [45]).2.2=(cutE 45 s).isSome:=by
  rcases index_wd 45 x.data.toList with⟨h1,h2⟩| ⟨a,r,h2,h3,h4⟩
  ·have h5:(45:Nat)∉s:=hx▸nt_no h2
   rw [cutE_none h5]
   unfold Lib.cut;rw [h1,if_neg (by decide)];rfl
  ·have e1:s=nt a++(45:UInt8).toNat::nt r:=by rw [←hx,h2];simp [nt]
   rw [e1]
   rw [show cutE 45 (nt a++(45:UInt8).toNat::nt r)=some (nt a,nt r) from cutE_app _ (nt_no h3)]
   unfold Lib.cut;rw [h4,if_pos (by omega)];rfl
 rw [hx] at h0
 refine⟨_,cutD s,[],he,rfl, ?_,(fun j hj=>by cases hj), ?_⟩
 ·unfold cutD
  have h0:(nt (Lib.cut x.data.toList [45]).1,nt (Lib.cut x.data.toList [45]).2.1)=(match cutE 45 s with | some p=>p | none=>(s,[])):=h0
  rw [hf]
  generalize cutE 45 s=o at h0
  cases o with
  | none=>
   have h1:=(Prod.mk.inj h0).1
   have h2:=(Prod.mk.inj h0).2
   exact .tup _ _ [] (.cons _ _ [] _ _ [] (.strOf _ _ h1) (.cons _ _ [] _ _ [] (.strOf _ _ h2) (.cons _ _ [] _ _ [] (.bool _) .nil)))
  | some p=>
   obtain⟨p1,p2⟩:=p
   have h1:=(Prod.mk.inj h0).1
   have h2:=(Prod.mk.inj h0).2
   exact .tup _ _ [] (.cons _ _ [] _ _ [] (.strOf _ _ h1) (.cons _ _ [] _ _ [] (.strOf _ _ h2) (.cons _ _ [] _ _ [] (.bool _) .nil)))
 ·rw [hw'];exact below_drewN (Below.refl _ _) n
theorem err_cell {w:World} (hg:GlobOK (G K) w) {g t b o:Nat} (h:G K g=some [.ifc t (.gptr b o)]):∃ev,w.cell? ⟨g,0,none⟩=some ev∧(ev= .nilIface∨∃te pe,ev= .iface te pe):=by
 obtain⟨arr,el,fz,h1,h2,h3⟩:=hg g _ h
 obtain⟨v,h4,h5⟩:=h3 0 _ rfl
 refine⟨v, ?_, ?_⟩
 ·simp [World.cell?,h1,h4]
 ·cases h5;exact .inr ⟨_,_,rfl⟩
theorem atoi72_c {s:Str} (hl:s.length≤1048576):CQ P (G K) 72 [.str s] (fun d=>d= .tup [.int .i64 (numE s), .nili]∨(numE s=0∧∃v,d= .tup [.int .i64 v, .ifc 263 (.ptr [] 0)])):=by
 intro w vs L hg hd
 obtain⟨x,rfl,hx⟩:=str1x hd
 have hs:=nt_size hx
 have hb:s.map UInt8.ofNat=x.data.toList:=by rw [←hx];exact mapback _
 have hN:numE s=(match Lib.atoiAll x.data.toList with | .ok v=>v | _=>0):=by unfold numE;rw [hb];try rfl
 have hptr:∀(w':World) (N:Nat) (arr:Array Value) (el:TypeId),w'.heap[N]? =some (.cells arr el (0,0))→DV (hpz w') true (.ptr [] 0) (.pointer (some ⟨N,0,none⟩)) [N]:=fun w' N arr el h=>
  .ptr [] 0 ⟨N,0,0⟩ arr el (0,0) [] [] h (Nat.zero_le _) (Nat.le_refl _) (fun h=>by cases h) (fun i x hx=>by simp at hx) .nil
 rcases hA:Lib.atoiAll x.data.toList with v | _ | _
 ·rw [hA] at hN
  refine callsIn_wide.2 ((Any.strconv_Atoi_ok Tryz.laysC172 x (by omega) v hA w).mono fun e w' ⟨he,hw'⟩=>⟨_, .tup [.int .i64 v, .nili],[],he, .inl (by rw [hN]), .tup _ _ [] (.cons _ _ [] _ _ [] (.int _ _) (.cons _ _ [] _ _ [] .nili .nil)),(fun j hj=>by cases hj), ?_⟩)
  rcases hw' with rfl | ⟨t,rfl⟩
  ·exact Below.refl _ _
  ·exact Joins.below_bytesWorld _ _ _ _ (Nat.le_refl _)
 ·rw [hA] at hN
  obtain⟨ev,h1,h2⟩:=err_cell hg (g:=2) rfl
  exact callsIn_wide.2 ((Any.strconv_Atoi_syntax Tryz.laysC172 x (by omega) hA ev w h1 h2).mono fun e w' ⟨N,he,hn,hc,hb⟩=>⟨_, .tup [.int .i64 0, .ifc 263 (.ptr [] 0)],[N],he, .inr ⟨hN,0,rfl⟩, .tup _ _ [N] (.cons _ _ [] _ _ [N] (.int _ _) (.cons _ _ [N] _ _ [] (.ifc _ _ _ _ (hptr w' N _ _ hc)) .nil)),(fun j hj=> .inl (by simp at hj;omega)),hb⟩)
 ·rw [hA] at hN
  obtain⟨ev,h1,h2⟩:=err_cell hg (g:=3) rfl
  exact callsIn_wide.2 ((Any.strconv_Atoi_range Tryz.laysC172 x (by omega) hA ev w h1 h2).mono fun e w' ⟨N,he,hn,hc,hb⟩=>⟨_, .tup [.int .i64 (Lib.atoiSat x.data.toList), .ifc 263 (.ptr [] 0)],[N],he, .inr ⟨hN,_,rfl⟩, .tup _ _ [N] (.cons _ _ [] _ _ [N] (.int _ _) (.cons _ _ [N] _ _ [] (.ifc _ _ _ _ (hptr w' N _ _ hc)) .nil)),(fun j hj=> .inl (by simp at hj;omega)),hb⟩)
theorem ne86a:binK P .neq 86 true .nili .nili k=k (.bool false):=by kernel_rfl
theorem ne86b:binK P .neq 86 true (.ifc 263 (.dat (.ptr [] 0))) .nili k=k (.bool true):=by kernel_rfl
theorem number32_c {s:Str} (hl:s.length≤1048576):CQ P (G K) 32 [.str s] (·= .int .i64 (numE s)):=by
 refine CQ.enter (hG K) ?_
 (try simp (disch:=first|exact bk rfl|omega|(simp only [ln];omega)|(simp only [go_sem];done)|decide) only [go_sem,h32]);repeat' first|((with_reducible first|apply gJoin_split|apply cond_split|apply gJoinD_split)<;>intro h<;>(try simp only [spl] at h)<;>try simp (disch:=first|exact bk rfl|omega|(simp only [ln];omega)|(simp only [go_sem];done)|decide) only [go_sem,h32,h])
 refine cl_any (hG K) [.str s] (atoi72_c hl) rfl fun d hd=> ?_
 rcases hd with rfl | ⟨h0,v,rfl⟩
 ·(try simp (disch:=first|exact bk rfl|omega|(simp only [ln];omega)|(simp only [go_sem];done)|decide) only [go_sem,h32,ne86a]);repeat' first|((with_reducible first|apply gJoin_split|apply cond_split|apply gJoinD_split)<;>intro h<;>(try simp only [spl] at h)<;>try simp (disch:=first|exact bk rfl|omega|(simp only [ln];omega)|(simp only [go_sem];done)|decide) only [go_sem,h32,ne86a,h])
  exact endQ_fro (.int .i64 _) rfl
 ·(try simp (disch:=first|exact bk rfl|omega|(simp only [ln];omega)|(simp only [go_sem];done)|decide) only [go_sem,h32,ne86b]);repeat' first|((with_reducible first|apply gJoin_split|apply cond_split|apply gJoinD_split)<;>intro h<;>(try simp only [spl] at h)<;>try simp (disch:=first|exact bk rfl|omega|(simp only [ln];omega)|(simp only [go_sem];done)|decide) only [go_sem,h32,ne86b,h])
  exact endQ_fro (.int .i64 0) (by rw [h0])
theorem readSpan33_c {s:Str} (hl:s.length≤1048576):CQ P (G K) 33 [.str s] (·= .agg [.int .i64 (spE s).1, .int .i64 (spE s).2]):=by
 refine CQ.enter (hG K) ?_
 cases hc:cutE 45 s with
 | none=>
  have hD:cutD s= .tup [.str s, .str [], .bool false]:=by unfold cutD;rw [hc]
  have t1:=cut73_c (K:=K) (s:=s) (by omega)
  rw [hD] at t1
  have hsp:spE s=(numE s,numE []):=by unfold spE;rw [hc];rfl
  rw [hsp]
  (try simp (disch:=first|exact bk rfl|omega|(simp only [ln];omega)|(simp only [go_sem];done)|decide) only [go_sem,h33]);repeat' first|((with_reducible first|apply gJoin_split|apply cond_split|apply gJoinD_split)<;>intro h<;>(try simp only [spl] at h)<;>try simp (disch:=first|exact bk rfl|omega|(simp only [ln];omega)|(simp only [go_sem];done)|decide) only [go_sem,h33,h])|((with_reducible refine cl_guard ?_;first|refine cl_eq (hG K) _ (t1) rfl ?_|refine cl_eq (hG K) _ (number32_c hl) rfl ?_|refine cl_eq (hG K) _ (number32_c (s:=[]) (by decide)) rfl ?_)<;>try simp (disch:=first|exact bk rfl|omega|(simp only [ln];omega)|(simp only [go_sem];done)|decide) only [go_sem,h33])
  exact endQ_fro (.agg [.int .i64 _, .int .i64 _]) rfl
 | some p=>
  have hD:cutD s= .tup [.str p.1, .str p.2, .bool true]:=by unfold cutD;rw [hc]
  have t1:=cut73_c (K:=K) (s:=s) (by omega)
  rw [hD] at t1
  have hlen:=cutE_len hc
  have hsp:spE s=(numE p.1,numE p.2):=by unfold spE;rw [hc]
  rw [hsp]
  (try simp (disch:=first|exact bk rfl|omega|(simp only [ln];omega)|(simp only [go_sem];done)|decide) only [go_sem,h33]);repeat' first|((with_reducible first|apply gJoin_split|apply cond_split|apply gJoinD_split)<;>intro h<;>(try simp only [spl] at h)<;>try simp (disch:=first|exact bk rfl|omega|(simp only [ln];omega)|(simp only [go_sem];done)|decide) only [go_sem,h33,h])|((with_reducible refine cl_guard ?_;first|refine cl_eq (hG K) _ (t1) rfl ?_|refine cl_eq (hG K) _ (number32_c (s:=p.1) (by omega)) rfl ?_|refine cl_eq (hG K) _ (number32_c (s:=p.2) (by omega)) rfl ?_)<;>try simp (disch:=first|exact bk rfl|omega|(simp only [ln];omega)|(simp only [go_sem];done)|decide) only [go_sem,h33])
  exact endQ_fro (.agg [.int .i64 _, .int .i64 _]) rfl
end Go.S9
namespace Go.S9
open Go.Ev Go.Proofs Go.RowKit
set_option maxRecDepth 100000
set_option linter.unusedVariables false
set_option linter.unusedSimpArgs false
variable {K : GP} {H : Hp} {k : AV → Bool}
theorem bs58_1 (a:Str) (kk:Blk→(Nat→AV)→Bool):buildSliceK P 58 1 [(0, .str a)] kk=kk (.cells (some 9) false [.str a]) (retSl 1 1):=by kernel_rfl
theorem bs58_2 (a b:Str) (kk:Blk→(Nat→AV)→Bool):buildSliceK P 58 2 [(0, .str a),(1, .str b)] kk=kk (.cells (some 9) false [.str a, .str b]) (retSl 2 1):=by kernel_rfl
theorem bs58_3 (a b c:Str) (kk:Blk→(Nat→AV)→Bool):buildSliceK P 58 3 [(0, .str a),(1, .str b),(2, .str c)] kk=kk (.cells (some 9) false [.str a, .str b, .str c]) (retSl 3 1):=by kernel_rfl
theorem bs58_5 (a b c d e:Str) (kk:Blk→(Nat→AV)→Bool):buildSliceK P 58 5 [(0, .str a),(1, .str b),(2, .str c),(3, .str d),(4, .str e)] kk=kk (.cells (some 9) false [.str a, .str b, .str c, .str d, .str e]) (retSl 5 1):=by kernel_rfl
theorem bs58_9 (a b c d e f g h i:Str) (kk:Blk→(Nat→AV)→Bool):buildSliceK P 58 9 [(0, .str a),(1, .str b),(2, .str c),(3, .str d),(4, .str e),(5, .str f),(6, .str g),(7, .str h),(8, .str i)] kk=kk (.cells (some 9) false [.str a, .str b, .str c, .str d, .str e, .str f, .str g, .str h, .str i]) (retSl 9 1):=by kernel_rfl
def namesD:D:= .sl 1 (names.map D.str) 9
theorem words26_c:CQ P (G K) 26 [] (·=namesD):=by
 refine CQ.enter (hG K) ?_
 (try simp (disch:=first|exact bk rfl|omega|(simp only [ln];omega)|(simp only [go_sem];done)|decide) only [go_sem,h26,bs58_9]);repeat' first|((with_reducible first|apply gJoin_split|apply cond_split|apply gJoinD_split)<;>intro h<;>(try simp only [spl] at h)<;>try simp (disch:=first|exact bk rfl|omega|(simp only [ln];omega)|(simp only [go_sem];done)|decide) only [go_sem,h26,bs58_9,h])
 exact endQ_ret rfl (.sl _ 0 9 1 (some 9) (some 9) false (names.map AV.str) (names.map AV.str) (names.map D.str) [] (by simp (disch:=first|exact bk rfl|omega|(simp only [ln];omega)|(simp only [go_sem];done)|decide) only [go_sem];rfl) rfl (by rw [←ofDs_str];exact .fro _))
theorem names_sl:Sl 1 eStr names namesD:= .inr (by unfold namesD;rw [rows_str];rfl)
def firstI {α:Type} (p:α→Bool):List α→Int
 | []=> -1
 | x::xs=>if p x then 0 else (let r:=firstI p xs;if r<0 then -1 else r+1)
theorem firstI_none {α:Type} {p:α→Bool}:∀{xs:List α},(∀x∈xs,p x=false)→firstI p xs= -1
 | [],_=>rfl
 | x::xs,h=>by simp [firstI,h x List.mem_cons_self,firstI_none fun y hy=>h y (List.mem_cons_of_mem _ hy)]
theorem firstI_found {α:Type} {p:α→Bool}:∀{xs:List α} {n:Nat} (hn:n<xs.length),(∀x∈xs.take n,p x=false)→p xs[n]=true→firstI p xs=n
 | x::xs,0,_,_,h=>by simp at h;simp [firstI,h]
 | x::xs,n+1,hn,ha,h=>by
  have h1:p x=false:=ha x (by simp)
  have h2:=firstI_found (p:=p) (xs:=xs) (n:=n) (by simpa using hn) (fun y hy=>ha y (by simp [hy])) (by simpa using h)
  simp only [firstI,h1,h2]
  rw [if_neg (by simp),if_neg (by omega)];omega
theorem take_all' {α:Type} {p:α→Bool} {xs:List α} {n:Nat} (h:n<xs.length) (ha:∀x∈xs.take n,p x=false) (hc:p xs[n]=false):∀x∈xs.take (n+1),p x=false:=fun x hx=>by
 rw [List.take_succ_eq_append_getElem h] at hx
 rcases List.mem_append.1 hx with hx | hx
 ·exact ha x hx
 ·rw [List.mem_singleton.1 hx];exact hc
theorem take_done' {α:Type} {p:α→Bool} {xs:List α} {n:Nat} (h:¬n<xs.length) (ha:∀x∈xs.take n,p x=false):∀x∈xs,p x=false:=by
 rwa [List.take_of_length_le (by omega)] at ha
def I31 (xs:List Str) (d:D) (v:Str) (m:Nat) (e:En) (H:Hp):Prop:=∃n:Nat,n≤xs.length∧m=xs.length - n∧e.dm=[]∧(∀x∈xs.take n,(decide (v=x))=false)∧E2.get e.t 0=ofD d∧E2.get e.t 8= .int .i64 n∧E2.get e.t 7= .int .i64 xs.length∧E2.get e.t 1= .str v
theorem index31_c (xs:List Str) (d:D) (hs:Sl 1 eStr xs d) (hl:xs.length≤9223372036854775807) (v:Str):CQ P (G K) 31 [d, .str v] (·= .int .i64 (firstI (fun x=>decide (v=x)) xs)):=by
 refine CQ.enter (hG K) ?_
 (try simp (disch:=first|exact bk rfl|omega|(simp only [ln];omega)|(simp only [go_sem];done)|decide) only [go_sem,h31,r31,h31_0,h31_1,len_sl hs un58]);repeat' first|((with_reducible first|apply gJoin_split|apply cond_split|apply gJoinD_split)<;>intro h<;>(try simp only [spl] at h)<;>try simp (disch:=first|exact bk rfl|omega|(simp only [ln];omega)|(simp only [go_sem];done)|decide) only [go_sem,h31,r31,h31_0,h31_1,len_sl hs un58,h])
 refine loop_rule (I31 xs d v) (fun m e H hi=> ?_) (m:=xs.length) ?_
 ·obtain⟨n,hn,rfl,hdm,ha,g0,g8,g7,g1⟩:=hi
  obtain⟨t,dm⟩:=e
  dsimp only at hdm g0 g8 g7 g1
  subst hdm
  refine semC_run 200 ?_
  by_cases hlt:n<xs.length
  ·by_cases h:v=xs[n]
   ·have h':=eq_true h
    (try simp (disch:=first|exact bk rfl|omega|(simp only [ln];omega)|(simp only [go_sem];done)|decide) only [go_sem,h31,r31,h31_0,h31_1,g0,g8,g7,g1,idx_sl hs un58 in9 ce9 hlt,rows_get0 eStr_len hlt (by decide:0<1),eStr,Int.ofNat_lt,hlt,h']);repeat' first|((with_reducible first|apply gJoin_split|apply cond_split|apply gJoinD_split)<;>intro h<;>(try simp only [spl] at h)<;>try simp (disch:=first|exact bk rfl|omega|(simp only [ln];omega)|(simp only [go_sem];done)|decide) only [go_sem,h31,r31,h31_0,h31_1,g0,g8,g7,g1,idx_sl hs un58 in9 ce9 hlt,rows_get0 eStr_len hlt (by decide:0<1),eStr,Int.ofNat_lt,hlt,h',h])
    refine endQ_fro (.int .i64 n) ?_
    rw [firstI_found hlt ha (decide_eq_true h)]
   ·have h':=eq_false h
    (try simp (disch:=first|exact bk rfl|omega|(simp only [ln];omega)|(simp only [go_sem];done)|decide) only [go_sem,h31,r31,h31_0,h31_1,g0,g8,g7,g1,idx_sl hs un58 in9 ce9 hlt,rows_get0 eStr_len hlt (by decide:0<1),eStr,Int.ofNat_lt,hlt,h']);repeat' first|((with_reducible first|apply gJoin_split|apply cond_split|apply gJoinD_split)<;>intro h<;>(try simp only [spl] at h)<;>try simp (disch:=first|exact bk rfl|omega|(simp only [ln];omega)|(simp only [go_sem];done)|decide) only [go_sem,h31,r31,h31_0,h31_1,g0,g8,g7,g1,idx_sl hs un58 in9 ce9 hlt,rows_get0 eStr_len hlt (by decide:0<1),eStr,Int.ofNat_lt,hlt,h',h])
    refine again_mk (m':=xs.length - (n+1)) (by omega) ⟨n+1,by omega,rfl,rfl,take_all' hlt ha (decide_eq_false h), ?_, ?_, ?_, ?_⟩<;>(first|rfl|(simp (disch:=first|exact bk rfl|omega|(simp only [ln];omega)|(simp only [go_sem];done)|decide) only [go_sem,g0,g8,g7,g1]<;>rfl))
  ·(try simp (disch:=first|exact bk rfl|omega|(simp only [ln];omega)|(simp only [go_sem];done)|decide) only [go_sem,h31,r31,h31_0,h31_1,g0,g8,g7,g1,Int.ofNat_lt,hlt]);repeat' first|((with_reducible first|apply gJoin_split|apply cond_split|apply gJoinD_split)<;>intro h<;>(try simp only [spl] at h)<;>try simp (disch:=first|exact bk rfl|omega|(simp only [ln];omega)|(simp only [go_sem];done)|decide) only [go_sem,h31,r31,h31_0,h31_1,g0,g8,g7,g1,Int.ofNat_lt,hlt,h])
   refine endQ_fro (.int .i64 (-1)) ?_
   rw [firstI_none (take_done' hlt ha)]
 ·exact⟨0,Nat.zero_le _,rfl,rfl,fun x hx=>by simp at hx,by first|rfl|(simp (disch:=first|exact bk rfl|omega|(simp only [ln];omega)|(simp only [go_sem];done)|decide) only [go_sem]<;>rfl),by first|rfl|(simp (disch:=first|exact bk rfl|omega|(simp only [ln];omega)|(simp only [go_sem];done)|decide) only [go_sem]<;>rfl),by first|rfl|(simp (disch:=first|exact bk rfl|omega|(simp only [ln];omega)|(simp only [go_sem];done)|decide) only [go_sem]<;>rfl),by first|rfl|(simp (disch:=first|exact bk rfl|omega|(simp only [ln];omega)|(simp only [go_sem];done)|decide) only [go_sem]<;>rfl)⟩
theorem kind_first (w:Str):max 0 (firstI (fun x=>decide (w=x)) names)=kindE w:=by
 by_cases h:w∈names
 ·have:∀x∈names,max 0 (firstI (fun y=>decide (x=y)) names)=kindE x:=by decide
  exact this w h
 ·have hn:∀x∈names,decide (w=x)=false:=fun x hx=>decide_eq_false fun e=>h (e▸hx)
  rw [firstI_none hn]
  have:(List.range 9).find? (fun i=>decide (names.getD i []=w))=none:=by
   rw [List.find?_eq_none]
   intro i hi e
   rw [decide_eq_true_eq] at e
   have hi:i<9:=List.mem_range.1 hi
   refine h ?_
   rw [←e,List.getD_eq_getElem?_getD,List.getElem?_eq_getElem (by simpa [names] using hi)]
   exact List.getElem_mem _
  unfold kindE
  rw [this];rfl
theorem app58 {b b2 n m:Nat} {el el2:Option TypeId} {ro ro2:Bool} {c2:Option Nat} {cs ds:List AV} {k:AV→Hp→Bool} (h1:H.get b=some (.cells el ro cs)) (h2:H.get b2=some (.cells el2 ro2 ds)) (hn:cs.length=n) (hm:ds.length=m+1) (hn':n≤1000) (hm':m≤1000) (hall:ds.all one=true):
  appendK P H 58 58 (.sl b 0 n 1 (some n)) (.sl b2 0 (m+1) 1 c2) k=Hp.new H (.cells (some 9) false (cs++ds)) fun b H=>k (.sl b 0 (n+(m+1)) 1 none) H:=by
 have hz:zeroOk P 9=true:=by kernel_rfl
 have hi:isIntT P 58=false:=by kernel_rfl
 unfold appendK
 rw [el58]
 dsimp only
 rw [hi,hz,ce9,by9_58]
 dsimp only
 have hc:∀kk,cellsOfK H 1 (.sl b2 0 (m+1) 1 c2) kk=kk (m+1) ds:=fun kk=>by
  unfold cellsOfK
  simp only [h2,Nat.beq_refl,Nat.mul_one,List.drop_zero,takeN_take (m+1) ds (by omega),List.take_of_length_le (Nat.le_of_eq hm),forceL_eq]
 show cellsOfK H 1 (.sl b2 0 (m+1) 1 c2) _=_
 rw [hc]
 simp only [hall,Nat.beq_refl,h1,Nat.mul_one,List.drop_zero,takeN_take n cs (by omega),List.take_of_length_le (Nat.le_of_eq hn)]
 rw [show Nat.ble (n+(m+1)) 1048576=true by simp;omega,show capLt (some n) (n+(m+1))=true by simp [capLt]]
 simp only [forceL_eq,Nat.mul_one,List.drop_zero]
 rw [takeN_take n cs (by omega),List.take_of_length_le (Nat.le_of_eq hn)]
 rfl
end Go.S9
