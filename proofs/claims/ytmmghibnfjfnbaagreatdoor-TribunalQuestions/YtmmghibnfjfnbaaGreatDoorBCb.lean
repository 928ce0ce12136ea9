/- A part of the proof of TribunalQuestions. -/
import Derived.Test.YtmmghibnfjfnbaaGreatDoorBCa
set_option linter.unusedVariables false
set_option linter.unusedSimpArgs false
namespace Go.S9
open Go.Ev Go.Proofs Go.RowKit
set_option maxRecDepth 100000
set_option linter.unusedVariables false
set_option linter.unusedSimpArgs false
variable {K : GP} {H : Hp} {k : AV → Bool}
set_option maxHeartbeats 8000000 in
theorem pr12_1 {q:Quest} (hk:q.kind=1) (lp:q.place.length≤100) (ik:inQ q.known) (idial:inQ q.dial):CQ P (G K) 12 [.agg (eQ q)] (·= .str (printE q)):=by
 have f1:(q.kind=1)=True:=eq_true hk
 have ldial:=itS_len (inQR idial)
 have lk:=itS_len (inQR ik)
 refine CQ.enter (hG K) ?_
 (try simp (disch:=first|exact bk rfl|omega|(simp only [ln];omega)|(simp only [go_sem];done)|decide) only [go_sem,h12,eQ,get_mk,f1]);repeat' first|((with_reducible first|apply gJoin_split|apply cond_split|apply gJoinD_split)<;>intro h<;>(try simp only [spl] at h)<;>try simp (disch:=first|exact bk rfl|omega|(simp only [ln];omega)|(simp only [go_sem];done)|decide) only [go_sem,h12,eQ,get_mk,f1,h])|((with_reducible refine cl_guard ?_;first|refine cl_eq (hG K) _ (number40_c (inQR ik)) rfl ?_|refine cl_eq (hG K) _ (number40_c (inQR idial)) rfl ?_)<;>try simp (disch:=first|exact bk rfl|omega|(simp only [ln];omega)|(simp only [go_sem];done)|decide) only [go_sem,h12,eQ,get_mk,f1])
 exact endQ_fro (.str _) (by simp [printE,wordsOf,hk,jn,nmS,names,spS])
set_option maxHeartbeats 8000000 in
theorem pr12_2 {q:Quest} (hk:q.kind=2) (lp:q.place.length≤100) (ik:inQ q.known) (idial:inQ q.dial):CQ P (G K) 12 [.agg (eQ q)] (·= .str (printE q)):=by
 have f1:(q.kind=1)=False:=eq_false (by omega)
 have f2:(q.kind=2)=True:=eq_true hk
 have ldial:=itS_len (inQR idial)
 have lk:=itS_len (inQR ik)
 refine CQ.enter (hG K) ?_
 (try simp (disch:=first|exact bk rfl|omega|(simp only [ln];omega)|(simp only [go_sem];done)|decide) only [go_sem,h12,eQ,get_mk,f1,f2]);repeat' first|((with_reducible first|apply gJoin_split|apply cond_split|apply gJoinD_split)<;>intro h<;>(try simp only [spl] at h)<;>try simp (disch:=first|exact bk rfl|omega|(simp only [ln];omega)|(simp only [go_sem];done)|decide) only [go_sem,h12,eQ,get_mk,f1,f2,h])|((with_reducible refine cl_guard ?_;first|refine cl_eq (hG K) _ (number40_c (inQR ik)) rfl ?_|refine cl_eq (hG K) _ (number40_c (inQR idial)) rfl ?_)<;>try simp (disch:=first|exact bk rfl|omega|(simp only [ln];omega)|(simp only [go_sem];done)|decide) only [go_sem,h12,eQ,get_mk,f1,f2])
 exact endQ_fro (.str _) (by simp [printE,wordsOf,hk,jn,nmS,names,spS])
set_option maxHeartbeats 8000000 in
theorem pr12_3 {q:Quest} (hk:q.kind=3) (lp:q.place.length≤100) (ik:inQ q.known) (idial:inQ q.dial):CQ P (G K) 12 [.agg (eQ q)] (·= .str (printE q)):=by
 have f1:(q.kind=1)=False:=eq_false (by omega)
 have f2:(q.kind=2)=False:=eq_false (by omega)
 have f3:(q.kind=3)=True:=eq_true hk
 have ldial:=itS_len (inQR idial)
 have lk:=itS_len (inQR ik)
 refine CQ.enter (hG K) ?_
 (try simp (disch:=first|exact bk rfl|omega|(simp only [ln];omega)|(simp only [go_sem];done)|decide) only [go_sem,h12,eQ,get_mk,f1,f2,f3]);repeat' first|((with_reducible first|apply gJoin_split|apply cond_split|apply gJoinD_split)<;>intro h<;>(try simp only [spl] at h)<;>try simp (disch:=first|exact bk rfl|omega|(simp only [ln];omega)|(simp only [go_sem];done)|decide) only [go_sem,h12,eQ,get_mk,f1,f2,f3,h])|((with_reducible refine cl_guard ?_;first|refine cl_eq (hG K) _ (number40_c (inQR ik)) rfl ?_|refine cl_eq (hG K) _ (number40_c (inQR idial)) rfl ?_)<;>try simp (disch:=first|exact bk rfl|omega|(simp only [ln];omega)|(simp only [go_sem];done)|decide) only [go_sem,h12,eQ,get_mk,f1,f2,f3])
 exact endQ_fro (.str _) (by simp [printE,wordsOf,hk,jn,nmS,names,spS])
set_option maxHeartbeats 8000000 in
theorem pr12_4 {q:Quest} (hk:q.kind=4) (lp:q.place.length≤100) (ik:inQ q.known) (idial:inQ q.dial):CQ P (G K) 12 [.agg (eQ q)] (·= .str (printE q)):=by
 have f1:(q.kind=1)=False:=eq_false (by omega)
 have f2:(q.kind=2)=False:=eq_false (by omega)
 have f3:(q.kind=3)=False:=eq_false (by omega)
 have f4:(q.kind=4)=True:=eq_true hk
 have ldial:=itS_len (inQR idial)
 have lk:=itS_len (inQR ik)
 refine CQ.enter (hG K) ?_
 (try simp (disch:=first|exact bk rfl|omega|(simp only [ln];omega)|(simp only [go_sem];done)|decide) only [go_sem,h12,eQ,get_mk,f1,f2,f3,f4]);repeat' first|((with_reducible first|apply gJoin_split|apply cond_split|apply gJoinD_split)<;>intro h<;>(try simp only [spl] at h)<;>try simp (disch:=first|exact bk rfl|omega|(simp only [ln];omega)|(simp only [go_sem];done)|decide) only [go_sem,h12,eQ,get_mk,f1,f2,f3,f4,h])|((with_reducible refine cl_guard ?_;first|refine cl_eq (hG K) _ (number40_c (inQR ik)) rfl ?_|refine cl_eq (hG K) _ (number40_c (inQR idial)) rfl ?_)<;>try simp (disch:=first|exact bk rfl|omega|(simp only [ln];omega)|(simp only [go_sem];done)|decide) only [go_sem,h12,eQ,get_mk,f1,f2,f3,f4])
 exact endQ_fro (.str _) (by simp [printE,wordsOf,hk,jn,nmS,names,spS])
set_option maxHeartbeats 8000000 in
theorem pr12_5 {q:Quest} (hk:q.kind=5) (lp:q.place.length≤100) (ik:inQ q.known) (idial:inQ q.dial) (ilo:inQ q.lo) (ihi:inQ q.hi):CQ P (G K) 12 [.agg (eQ q)] (·= .str (printE q)):=by
 have f1:(q.kind=1)=False:=eq_false (by omega)
 have f2:(q.kind=2)=False:=eq_false (by omega)
 have f3:(q.kind=3)=False:=eq_false (by omega)
 have f4:(q.kind=4)=False:=eq_false (by omega)
 have f5:(q.kind=5)=True:=eq_true hk
 have ldial:=itS_len (inQR idial)
 have llo:=itS_len (inQR ilo)
 have lhi:=itS_len (inQR ihi)
 have lk:=itS_len (inQR ik)
 have lsp:=spS_len (inQR ilo) (inQR ihi)
 refine CQ.enter (hG K) ?_
 (try simp (disch:=first|exact bk rfl|omega|(simp only [ln];omega)|(simp only [go_sem];done)|decide) only [go_sem,h12,eQ,get_mk,f1,f2,f3,f4,f5]);repeat' first|((with_reducible first|apply gJoin_split|apply cond_split|apply gJoinD_split)<;>intro h<;>(try simp only [spl] at h)<;>try simp (disch:=first|exact bk rfl|omega|(simp only [ln];omega)|(simp only [go_sem];done)|decide) only [go_sem,h12,eQ,get_mk,f1,f2,f3,f4,f5,h])|((with_reducible refine cl_guard ?_;first|refine cl_eq (hG K) _ (number40_c (inQR ik)) rfl ?_|refine cl_eq (hG K) _ (number40_c (inQR idial)) rfl ?_|refine cl_eq (hG K) _ (span41_c (inQR ilo) (inQR ihi)) rfl ?_)<;>try simp (disch:=first|exact bk rfl|omega|(simp only [ln];omega)|(simp only [go_sem];done)|decide) only [go_sem,h12,eQ,get_mk,f1,f2,f3,f4,f5])
 exact endQ_fro (.str _) (by simp [printE,wordsOf,hk,jn,nmS,names,spS])
set_option maxHeartbeats 8000000 in
theorem pr12_6 {q:Quest} (hk:q.kind=6) (lp:q.place.length≤100) (ik:inQ q.known) (idial:inQ q.dial) (iacc:inQ q.acc) (ilo:inQ q.lo) (ihi:inQ q.hi):CQ P (G K) 12 [.agg (eQ q)] (·= .str (printE q)):=by
 have f1:(q.kind=1)=False:=eq_false (by omega)
 have f2:(q.kind=2)=False:=eq_false (by omega)
 have f3:(q.kind=3)=False:=eq_false (by omega)
 have f4:(q.kind=4)=False:=eq_false (by omega)
 have f5:(q.kind=5)=False:=eq_false (by omega)
 have f6:(q.kind=6)=True:=eq_true hk
 have ldial:=itS_len (inQR idial)
 have lacc:=itS_len (inQR iacc)
 have llo:=itS_len (inQR ilo)
 have lhi:=itS_len (inQR ihi)
 have lk:=itS_len (inQR ik)
 have lsp:=spS_len (inQR ilo) (inQR ihi)
 refine CQ.enter (hG K) ?_
 (try simp (disch:=first|exact bk rfl|omega|(simp only [ln];omega)|(simp only [go_sem];done)|decide) only [go_sem,h12,eQ,get_mk,f1,f2,f3,f4,f5,f6]);repeat' first|((with_reducible first|apply gJoin_split|apply cond_split|apply gJoinD_split)<;>intro h<;>(try simp only [spl] at h)<;>try simp (disch:=first|exact bk rfl|omega|(simp only [ln];omega)|(simp only [go_sem];done)|decide) only [go_sem,h12,eQ,get_mk,f1,f2,f3,f4,f5,f6,h])|((with_reducible refine cl_guard ?_;first|refine cl_eq (hG K) _ (number40_c (inQR ik)) rfl ?_|refine cl_eq (hG K) _ (number40_c (inQR idial)) rfl ?_|refine cl_eq (hG K) _ (number40_c (inQR iacc)) rfl ?_|refine cl_eq (hG K) _ (span41_c (inQR ilo) (inQR ihi)) rfl ?_)<;>try simp (disch:=first|exact bk rfl|omega|(simp only [ln];omega)|(simp only [go_sem];done)|decide) only [go_sem,h12,eQ,get_mk,f1,f2,f3,f4,f5,f6])
 exact endQ_fro (.str _) (by simp [printE,wordsOf,hk,jn,nmS,names,spS])
set_option maxHeartbeats 8000000 in
theorem pr12_7 {q:Quest} (hk:q.kind=7) (lp:q.place.length≤100) (ik:inQ q.known) (idial:inQ q.dial) (ibef:inQ q.bef) (ilo:inQ q.lo) (ihi:inQ q.hi):CQ P (G K) 12 [.agg (eQ q)] (·= .str (printE q)):=by
 have f1:(q.kind=1)=False:=eq_false (by omega)
 have f2:(q.kind=2)=False:=eq_false (by omega)
 have f3:(q.kind=3)=False:=eq_false (by omega)
 have f4:(q.kind=4)=False:=eq_false (by omega)
 have f5:(q.kind=5)=False:=eq_false (by omega)
 have f6:(q.kind=6)=False:=eq_false (by omega)
 have f7:(q.kind=7)=True:=eq_true hk
 have ldial:=itS_len (inQR idial)
 have lbef:=itS_len (inQR ibef)
 have llo:=itS_len (inQR ilo)
 have lhi:=itS_len (inQR ihi)
 have lk:=itS_len (inQR ik)
 have lsp:=spS_len (inQR ilo) (inQR ihi)
 refine CQ.enter (hG K) ?_
 (try simp (disch:=first|exact bk rfl|omega|(simp only [ln];omega)|(simp only [go_sem];done)|decide) only [go_sem,h12,eQ,get_mk,f1,f2,f3,f4,f5,f6,f7]);repeat' first|((with_reducible first|apply gJoin_split|apply cond_split|apply gJoinD_split)<;>intro h<;>(try simp only [spl] at h)<;>try simp (disch:=first|exact bk rfl|omega|(simp only [ln];omega)|(simp only [go_sem];done)|decide) only [go_sem,h12,eQ,get_mk,f1,f2,f3,f4,f5,f6,f7,h])|((with_reducible refine cl_guard ?_;first|refine cl_eq (hG K) _ (number40_c (inQR ik)) rfl ?_|refine cl_eq (hG K) _ (number40_c (inQR idial)) rfl ?_|refine cl_eq (hG K) _ (number40_c (inQR ibef)) rfl ?_|refine cl_eq (hG K) _ (span41_c (inQR ilo) (inQR ihi)) rfl ?_)<;>try simp (disch:=first|exact bk rfl|omega|(simp only [ln];omega)|(simp only [go_sem];done)|decide) only [go_sem,h12,eQ,get_mk,f1,f2,f3,f4,f5,f6,f7])
 exact endQ_fro (.str _) (by simp [printE,wordsOf,hk,jn,nmS,names,spS])
set_option maxHeartbeats 8000000 in
theorem pr12_8 {q:Quest} (hk:q.kind=8) (lp:q.place.length≤100) (ik:inQ q.known) (idial:inQ q.dial) (ioff:inQ q.off) (ino:inQ q.no):CQ P (G K) 12 [.agg (eQ q)] (·= .str (printE q)):=by
 have f1:(q.kind=1)=False:=eq_false (by omega)
 have f2:(q.kind=2)=False:=eq_false (by omega)
 have f3:(q.kind=3)=False:=eq_false (by omega)
 have f4:(q.kind=4)=False:=eq_false (by omega)
 have f5:(q.kind=5)=False:=eq_false (by omega)
 have f6:(q.kind=6)=False:=eq_false (by omega)
 have f7:(q.kind=7)=False:=eq_false (by omega)
 have ldial:=itS_len (inQR idial)
 have loff:=itS_len (inQR ioff)
 have lno:=itS_len (inQR ino)
 have lk:=itS_len (inQR ik)
 refine CQ.enter (hG K) ?_
 (try simp (disch:=first|exact bk rfl|omega|(simp only [ln];omega)|(simp only [go_sem];done)|decide) only [go_sem,h12,eQ,get_mk,f1,f2,f3,f4,f5,f6,f7]);repeat' first|((with_reducible first|apply gJoin_split|apply cond_split|apply gJoinD_split)<;>intro h<;>(try simp only [spl] at h)<;>try simp (disch:=first|exact bk rfl|omega|(simp only [ln];omega)|(simp only [go_sem];done)|decide) only [go_sem,h12,eQ,get_mk,f1,f2,f3,f4,f5,f6,f7,h])|((with_reducible refine cl_guard ?_;first|refine cl_eq (hG K) _ (number40_c (inQR ik)) rfl ?_|refine cl_eq (hG K) _ (number40_c (inQR idial)) rfl ?_|refine cl_eq (hG K) _ (number40_c (inQR ioff)) rfl ?_|refine cl_eq (hG K) _ (number40_c (inQR ino)) rfl ?_)<;>try simp (disch:=first|exact bk rfl|omega|(simp only [ln];omega)|(simp only [go_sem];done)|decide) only [go_sem,h12,eQ,get_mk,f1,f2,f3,f4,f5,f6,f7])
 exact endQ_fro (.str _) (by simp [printE,wordsOf,hk,jn,nmS,names,spS])
theorem print12_c {q:Quest} (hv:validB q=true):CQ P (G K) 12 [.agg (eQ q)] (·= .str (printE q)):=by
 simp only [validB,Bool.and_eq_true] at hv
 obtain⟨⟨hok,hb⟩,ht⟩:=hv
 have hb:=sameQ_iff.1 hb
 have ik:=(time_q ht).1
 obtain⟨k1,k8⟩:=kind_ok hok
 have hd0:q.dial=0→inQ q.dial:=fun h=>by rw [h];exact⟨by decide,by decide⟩
 have hp0:q.place=[]→q.place.length≤100:=fun h=>by rw [h];decide
 have:q.kind=1∨q.kind=2∨q.kind=3∨q.kind=4∨q.kind=5∨q.kind=6∨q.kind=7∨q.kind=8:=by omega
 rcases this with hk | hk | hk | hk | hk | hk | hk | hk<;>simp [okB,hk] at hok<;>simp [bareQ,hk,q0] at hb<;>have hpl:=congrArg Quest.place hb<;>have hdl:=congrArg Quest.dial hb<;>simp only at hpl hdl
 ·exact pr12_1 hk (hp0 hpl.symm) ik (dial_q hok)
 ·exact pr12_2 hk (by have:=name_len hok.2;omega) ik (dial_q hok.1)
 ·exact pr12_3 hk (by have:=name_len hok.2;omega) ik (dial_q hok.1)
 ·exact pr12_4 hk (by have:=name_len hok.2;omega) ik (dial_q hok.1)
 ·exact pr12_5 hk (by have:=name_len hok.2.1;omega) ik (dial_q hok.1) (time_q hok.2.2.1).1 (time_q hok.2.2.2.1).1
 ·exact pr12_6 hk (hp0 hpl.symm) ik (hd0 hdl.symm) (acc_q hok.1) (nights_q hok.2).1 (nights_q hok.2).2.2
 ·exact pr12_7 hk (hp0 hpl.symm) ik (hd0 hdl.symm) (time_q hok.1).1 (nights_q hok.2).1 (nights_q hok.2).2.2
 ·exact pr12_8 hk (hp0 hpl.symm) ik (hd0 hdl.symm) ⟨by omega,by omega⟩ ⟨by omega,by omega⟩
end Go.S9
namespace Go.S9
open Go.Ev Go.Proofs Go.RowKit
set_option maxRecDepth 100000
set_option linter.unusedVariables false
set_option linter.unusedSimpArgs false
variable {K : GP} {H : Hp} {k : AV → Bool}
def ps10 (q:Quest) (text:Str):D:= .tup [.agg (eQ (if goodB q text then q else zQ)), .bool (goodB q text)]
set_option maxHeartbeats 4000000 in
theorem tail10 {q:Quest} {text:Str} {t:E2} {H:Hp} {b b1:Nat} (g0:E2.get t 0= .str text) (g2:E2.get t 2= .ptr b1 0) (g5:E2.get t 5= .ptr b 0) (hq:H.get b=some (.cells (some 27) false (aQ q))) (hz:H.get b1=some (.cells (some 27) false (aQ zQ))) (hbb:(b=b1)=False) (hp:q.place.length≤9223372036854775807):
  cd P (G K) 194 94 (subC 10 [1,1,1,1,1,1]) none ⟨t,[]⟩ H (fun x e H=>bodyEnd P (G K) Tryz.f10 ⟨cd P (G K) 200,callS P (G K)⟩ (endQ (·=ps10 q text)) x e H)=true:=by
 have t1:=question7_c (K:=K) (q:=q) hp
 cases hv:validB q with
 | false=>
  have hX:ps10 q text= .tup [.agg (eQ zQ), .bool false]:=by simp [ps10,goodB,hv]
  rw [hX]
  rw [hv] at t1
  (try simp (disch:=first|exact bk rfl|omega|(simp only [ln];omega)|(simp only [go_sem];done)|decide) only [go_sem,h10,r10,h10_0,h10_1,h10_2,h10_3,h10_4,h10_5,h10_6,h10_7,h10_8,g0,g2,g5,hq,hz,hbb,aQ,zQ,eQ,Bool.not_false,Bool.not_true]);repeat' first|((with_reducible first|apply gJoin_split|apply cond_split|apply gJoinD_split)<;>intro h<;>(try simp only [spl] at h)<;>try simp (disch:=first|exact bk rfl|omega|(simp only [ln];omega)|(simp only [go_sem];done)|decide) only [go_sem,h10,r10,h10_0,h10_1,h10_2,h10_3,h10_4,h10_5,h10_6,h10_7,h10_8,g0,g2,g5,hq,hz,hbb,aQ,zQ,eQ,Bool.not_false,Bool.not_true,h])|((with_reducible refine cl_guard ?_;refine cl_eq (hG K) _ (t1) rfl ?_)<;>try simp (disch:=first|exact bk rfl|omega|(simp only [ln];omega)|(simp only [go_sem];done)|decide) only [go_sem,h10,r10,h10_0,h10_1,h10_2,h10_3,h10_4,h10_5,h10_6,h10_7,h10_8,g0,g2,g5,hq,hz,hbb,aQ,zQ,eQ,Bool.not_false,Bool.not_true])
  exact endQ_fro (.tup [.agg (eQ zQ), .bool false]) rfl
 | true=>
  have t2:=print12_c (K:=K) hv
  rw [hv] at t1
  by_cases ht:printE q=text
  ·have ht':=eq_true ht
   have hX:ps10 q text= .tup [.agg (eQ q), .bool true]:=by simp [ps10,goodB,hv,ht]
   rw [hX]
   (try simp (disch:=first|exact bk rfl|omega|(simp only [ln];omega)|(simp only [go_sem];done)|decide) only [go_sem,h10,r10,h10_0,h10_1,h10_2,h10_3,h10_4,h10_5,h10_6,h10_7,h10_8,g0,g2,g5,hq,hz,hbb,aQ,zQ,eQ,ht',Bool.not_false,Bool.not_true]);repeat' first|((with_reducible first|apply gJoin_split|apply cond_split|apply gJoinD_split)<;>intro h<;>(try simp only [spl] at h)<;>try simp (disch:=first|exact bk rfl|omega|(simp only [ln];omega)|(simp only [go_sem];done)|decide) only [go_sem,h10,r10,h10_0,h10_1,h10_2,h10_3,h10_4,h10_5,h10_6,h10_7,h10_8,g0,g2,g5,hq,hz,hbb,aQ,zQ,eQ,ht',Bool.not_false,Bool.not_true,h])|((with_reducible refine cl_guard ?_;first|refine cl_eq (hG K) _ (t1) rfl ?_|refine cl_eq (hG K) _ (t2) rfl ?_)<;>try simp (disch:=first|exact bk rfl|omega|(simp only [ln];omega)|(simp only [go_sem];done)|decide) only [go_sem,h10,r10,h10_0,h10_1,h10_2,h10_3,h10_4,h10_5,h10_6,h10_7,h10_8,g0,g2,g5,hq,hz,hbb,aQ,zQ,eQ,ht',Bool.not_false,Bool.not_true])
   exact endQ_fro (.tup [.agg (eQ q), .bool true]) rfl
  ·have ht':=eq_false ht
   have hX:ps10 q text= .tup [.agg (eQ zQ), .bool false]:=by simp [ps10,goodB,hv,ht]
   rw [hX]
   (try simp (disch:=first|exact bk rfl|omega|(simp only [ln];omega)|(simp only [go_sem];done)|decide) only [go_sem,h10,r10,h10_0,h10_1,h10_2,h10_3,h10_4,h10_5,h10_6,h10_7,h10_8,g0,g2,g5,hq,hz,hbb,aQ,zQ,eQ,ht',Bool.not_false,Bool.not_true]);repeat' first|((with_reducible first|apply gJoin_split|apply cond_split|apply gJoinD_split)<;>intro h<;>(try simp only [spl] at h)<;>try simp (disch:=first|exact bk rfl|omega|(simp only [ln];omega)|(simp only [go_sem];done)|decide) only [go_sem,h10,r10,h10_0,h10_1,h10_2,h10_3,h10_4,h10_5,h10_6,h10_7,h10_8,g0,g2,g5,hq,hz,hbb,aQ,zQ,eQ,ht',Bool.not_false,Bool.not_true,h])|((with_reducible refine cl_guard ?_;first|refine cl_eq (hG K) _ (t1) rfl ?_|refine cl_eq (hG K) _ (t2) rfl ?_)<;>try simp (disch:=first|exact bk rfl|omega|(simp only [ln];omega)|(simp only [go_sem];done)|decide) only [go_sem,h10,r10,h10_0,h10_1,h10_2,h10_3,h10_4,h10_5,h10_6,h10_7,h10_8,g0,g2,g5,hq,hz,hbb,aQ,zQ,eQ,ht',Bool.not_false,Bool.not_true])
   exact endQ_fro (.tup [.agg (eQ zQ), .bool false]) rfl
theorem kind_inv {w:Str} {n:Nat} (hn:1≤n) (h:kindE w=(n:Int)):w=names.getD n []:=by
 unfold kindE at h
 cases hf:(List.range 9).find? (fun i=>decide (names.getD i []=w)) with
 | none=>rw [hf] at h;simp at h;omega
 | some i=>
  rw [hf] at h
  have:=List.find?_some hf
  rw [decide_eq_true_eq] at this
  simp only [Option.getD_some] at h
  rw [←this];congr 1;omega
set_option maxHeartbeats 8000000 in
theorem parse10_0 {text:Str} (hl:text.length≤900) (hk:kindE ((wd 32 text).getD 0 [])=0):CQ P (G K) 10 [.str text] (·=ps10 (readB text) text):=by
 have f1:(kindE ((wd 32 text).getD 0 [])=1)=False:=eq_false (by omega)
 have f2:(kindE ((wd 32 text).getD 0 [])=2)=False:=eq_false (by omega)
 have f3:(kindE ((wd 32 text).getD 0 [])=3)=False:=eq_false (by omega)
 have f4:(kindE ((wd 32 text).getD 0 [])=4)=False:=eq_false (by omega)
 have f5:(kindE ((wd 32 text).getD 0 [])=5)=False:=eq_false (by omega)
 have f6:(kindE ((wd 32 text).getD 0 [])=6)=False:=eq_false (by omega)
 have f7:(kindE ((wd 32 text).getD 0 [])=7)=False:=eq_false (by omega)
 have f8:(kindE ((wd 32 text).getD 0 [])=8)=False:=eq_false (by omega)
 have e1:(((wd 32 text).getD 0 [])=[118,101,114,100,105,99,116])=False:=eq_false fun h=>by rw [h] at hk;exact absurd hk (by decide)
 have e2:(((wd 32 text).getD 0 [])=[109,105,115,115,101,100])=False:=eq_false fun h=>by rw [h] at hk;exact absurd hk (by decide)
 have e3:(((wd 32 text).getD 0 [])=[119,104,101,110])=False:=eq_false fun h=>by rw [h] at hk;exact absurd hk (by decide)
 have e4:(((wd 32 text).getD 0 [])=[119,104,111])=False:=eq_false fun h=>by rw [h] at hk;exact absurd hk (by decide)
 have e5:(((wd 32 text).getD 0 [])=[112,108,97,99,101,100])=False:=eq_false fun h=>by rw [h] at hk;exact absurd hk (by decide)
 have e6:(((wd 32 text).getD 0 [])=[98,97,108,97,110,99,101])=False:=eq_false fun h=>by rw [h] at hk;exact absurd hk (by decide)
 have e7:(((wd 32 text).getD 0 [])=[97,109,101,110,100])=False:=eq_false fun h=>by rw [h] at hk;exact absurd hk (by decide)
 have e8:(((wd 32 text).getD 0 [])=[114,101,115,116,115])=False:=eq_false fun h=>by rw [h] at hk;exact absurd hk (by decide)
 have hX:readB text=⟨0,valE ((wd 32 text).getD 1 []),0,[],0,0,0,0,0,0⟩:=by simp only [readB,readE,f1,f2,f3,f4,f5,f6,f7,f8,reduceIte,or_true,true_or,or_false,false_or,or_self];rw [hk]
 have w1:((wd 32 text).getD 1 []).length≤1048576:=Nat.le_trans (wd_get 1) (by omega)
 have w2:((wd 32 text).getD 2 []).length≤1048576:=Nat.le_trans (wd_get 2) (by omega)
 have w3:((wd 32 text).getD 3 []).length≤1048576:=Nat.le_trans (wd_get 3) (by omega)
 have w4:((wd 32 text).getD 4 []).length≤1048576:=Nat.le_trans (wd_get 4) (by omega)
 have wl:=(wd_len (c:=32) (s:=text)).1
 have wlt:0<(wd 32 text).length:=List.length_pos_iff.2 (wd_ne 32 text)
 have hg0:(wd 32 text)[0]=(wd 32 text).getD 0 []:=by rw [List.getD_eq_getElem?_getD,List.getElem?_eq_getElem wlt];rfl
 rw [hX]
 refine CQ.enter (hG K) ?_
 (try simp (disch:=first|exact bk rfl|omega|(simp only [ln];omega)|(simp only [go_sem];done)|decide) only [go_sem,h10]);repeat' first|((with_reducible first|apply gJoin_split|apply cond_split|apply gJoinD_split)<;>intro h<;>(try simp only [spl] at h)<;>try simp (disch:=first|exact bk rfl|omega|(simp only [ln];omega)|(simp only [go_sem];done)|decide) only [go_sem,h10,h])
 refine cl_any (hG K) [.str text, .int .u8 32] (words34_c (by omega)) rfl fun d hs=> ?_
 have x0:CQ P (G K) 36 [d, .int .i64 0] (·= .str ((wd 32 text).getD 0 [])):=word36_c hs 0 (by decide) (by omega)
 have x1:CQ P (G K) 36 [d, .int .i64 1] (·= .str ((wd 32 text).getD 1 [])):=word36_c hs 1 (by decide) (by omega)
 have x2:CQ P (G K) 36 [d, .int .i64 2] (·= .str ((wd 32 text).getD 2 [])):=word36_c hs 2 (by decide) (by omega)
 have x3:CQ P (G K) 36 [d, .int .i64 3] (·= .str ((wd 32 text).getD 3 [])):=word36_c hs 3 (by decide) (by omega)
 have x4:CQ P (G K) 36 [d, .int .i64 4] (·= .str ((wd 32 text).getD 4 [])):=word36_c hs 4 (by decide) (by omega)
 have idx0:∀k:AV→Bool,indexAtK P 58 (ofD d) (.int .i64 0) k=k (.dat (.ptr (rows eStr (wd 32 text)) (0 * 1))):=fun k=>idx_sl hs un58 in9 ce9 wlt (n:=0)
 have ld0:(ofDs (rows eStr (wd 32 text)))[0 * 1]? =some (.str ((wd 32 text).getD 0 [])):=by rw [rows_get0 eStr_len wlt (by decide:0<1),hg0];rfl
 (try simp (disch:=first|exact bk rfl|omega|(simp only [ln];omega)|(simp only [go_sem];done)|decide) only [go_sem,h10,r10,h10_1,h10_4,h10_7,h10_8,get_mk,e1,e2,e3,e4,e5,e6,e7,e8]);repeat' first|((with_reducible first|apply gJoin_split|apply cond_split|apply gJoinD_split)<;>intro h<;>(try simp only [spl] at h)<;>try simp (disch:=first|exact bk rfl|omega|(simp only [ln];omega)|(simp only [go_sem];done)|decide) only [go_sem,h10,r10,h10_1,h10_4,h10_7,h10_8,get_mk,e1,e2,e3,e4,e5,e6,e7,e8,h])|((with_reducible refine cl_guard ?_;first|refine cl_eq (hG K) _ (x0) rfl ?_|refine cl_eq (hG K) _ (x1) rfl ?_|refine cl_eq (hG K) _ (x2) rfl ?_|refine cl_eq (hG K) _ (x3) rfl ?_|refine cl_eq (hG K) _ (x4) rfl ?_|refine cl_eq (hG K) _ (value35_c w1) rfl ?_)<;>try simp (disch:=first|exact bk rfl|omega|(simp only [ln];omega)|(simp only [go_sem];done)|decide) only [go_sem,h10,r10,h10_1,h10_4,h10_7,h10_8,get_mk,e1,e2,e3,e4,e5,e6,e7,e8])
 refine tail10 (q:=⟨0,valE ((wd 32 text).getD 1 []),0,[],0,0,0,0,0,0⟩) (text:=text) (b:=1) (b1:=0) ?_ ?_ ?_ ?_ ?_ ?_ ?_
 ·(simp (disch:=first|exact bk rfl|omega|(simp only [ln];omega)|(simp only [go_sem];done)|decide) only [go_sem]<;>first|rfl|omega)
 ·(simp (disch:=first|exact bk rfl|omega|(simp only [ln];omega)|(simp only [go_sem];done)|decide) only [go_sem]<;>first|rfl|omega)
 ·(simp (disch:=first|exact bk rfl|omega|(simp only [ln];omega)|(simp only [go_sem];done)|decide) only [go_sem]<;>first|rfl|omega)
 ·(simp (disch:=first|exact bk rfl|omega|(simp only [ln];omega)|(simp only [go_sem];done)|decide) only [go_sem,aQ,get_mk]<;>first|rfl|omega)
 ·(simp (disch:=first|exact bk rfl|omega|(simp only [ln];omega)|(simp only [go_sem];done)|decide) only [go_sem,aQ,zQ,get_mk]<;>first|rfl|omega)
 ·simp
 ·first | exact Nat.zero_le _ | exact Nat.le_trans w3 (by decide)
set_option maxHeartbeats 8000000 in
theorem parse10_1 {text:Str} (hl:text.length≤900) (hk:kindE ((wd 32 text).getD 0 [])=1):CQ P (G K) 10 [.str text] (·=ps10 (readB text) text):=by
 have f1:(kindE ((wd 32 text).getD 0 [])=1)=True:=eq_true hk
 have hw0:=kind_inv (n:=1) (by decide) hk
 have e1:(((wd 32 text).getD 0 [])=[118,101,114,100,105,99,116])=True:=eq_true hw0
 have e2:(((wd 32 text).getD 0 [])=[109,105,115,115,101,100])=False:=eq_false fun h=>by rw [h] at hw0;exact absurd hw0 (by decide)
 have e3:(((wd 32 text).getD 0 [])=[119,104,101,110])=False:=eq_false fun h=>by rw [h] at hw0;exact absurd hw0 (by decide)
 have e4:(((wd 32 text).getD 0 [])=[119,104,111])=False:=eq_false fun h=>by rw [h] at hw0;exact absurd hw0 (by decide)
 have e5:(((wd 32 text).getD 0 [])=[112,108,97,99,101,100])=False:=eq_false fun h=>by rw [h] at hw0;exact absurd hw0 (by decide)
 have e6:(((wd 32 text).getD 0 [])=[98,97,108,97,110,99,101])=False:=eq_false fun h=>by rw [h] at hw0;exact absurd hw0 (by decide)
 have e7:(((wd 32 text).getD 0 [])=[97,109,101,110,100])=False:=eq_false fun h=>by rw [h] at hw0;exact absurd hw0 (by decide)
 have e8:(((wd 32 text).getD 0 [])=[114,101,115,116,115])=False:=eq_false fun h=>by rw [h] at hw0;exact absurd hw0 (by decide)
 have hX:readB text=⟨1,valE ((wd 32 text).getD 1 []),valE ((wd 32 text).getD 2 []),[],0,0,0,0,0,0⟩:=by simp only [readB,readE,f1,reduceIte,or_true,true_or,or_false,false_or,or_self];rw [hk]
 have w1:((wd 32 text).getD 1 []).length≤1048576:=Nat.le_trans (wd_get 1) (by omega)
 have w2:((wd 32 text).getD 2 []).length≤1048576:=Nat.le_trans (wd_get 2) (by omega)
 have w3:((wd 32 text).getD 3 []).length≤1048576:=Nat.le_trans (wd_get 3) (by omega)
 have w4:((wd 32 text).getD 4 []).length≤1048576:=Nat.le_trans (wd_get 4) (by omega)
 have wl:=(wd_len (c:=32) (s:=text)).1
 have wlt:0<(wd 32 text).length:=List.length_pos_iff.2 (wd_ne 32 text)
 have hg0:(wd 32 text)[0]=(wd 32 text).getD 0 []:=by rw [List.getD_eq_getElem?_getD,List.getElem?_eq_getElem wlt];rfl
 rw [hX]
 refine CQ.enter (hG K) ?_
 (try simp (disch:=first|exact bk rfl|omega|(simp only [ln];omega)|(simp only [go_sem];done)|decide) only [go_sem,h10]);repeat' first|((with_reducible first|apply gJoin_split|apply cond_split|apply gJoinD_split)<;>intro h<;>(try simp only [spl] at h)<;>try simp (disch:=first|exact bk rfl|omega|(simp only [ln];omega)|(simp only [go_sem];done)|decide) only [go_sem,h10,h])
 refine cl_any (hG K) [.str text, .int .u8 32] (words34_c (by omega)) rfl fun d hs=> ?_
 have x0:CQ P (G K) 36 [d, .int .i64 0] (·= .str ((wd 32 text).getD 0 [])):=word36_c hs 0 (by decide) (by omega)
 have x1:CQ P (G K) 36 [d, .int .i64 1] (·= .str ((wd 32 text).getD 1 [])):=word36_c hs 1 (by decide) (by omega)
 have x2:CQ P (G K) 36 [d, .int .i64 2] (·= .str ((wd 32 text).getD 2 [])):=word36_c hs 2 (by decide) (by omega)
 have x3:CQ P (G K) 36 [d, .int .i64 3] (·= .str ((wd 32 text).getD 3 [])):=word36_c hs 3 (by decide) (by omega)
 have x4:CQ P (G K) 36 [d, .int .i64 4] (·= .str ((wd 32 text).getD 4 [])):=word36_c hs 4 (by decide) (by omega)
 have idx0:∀k:AV→Bool,indexAtK P 58 (ofD d) (.int .i64 0) k=k (.dat (.ptr (rows eStr (wd 32 text)) (0 * 1))):=fun k=>idx_sl hs un58 in9 ce9 wlt (n:=0)
 have ld0:(ofDs (rows eStr (wd 32 text)))[0 * 1]? =some (.str ((wd 32 text).getD 0 [])):=by rw [rows_get0 eStr_len wlt (by decide:0<1),hg0];rfl
 (try simp (disch:=first|exact bk rfl|omega|(simp only [ln];omega)|(simp only [go_sem];done)|decide) only [go_sem,h10,r10,h10_1,h10_4,h10_7,h10_8,get_mk,e1,e2,e3,e4,e5,e6,e7,e8]);repeat' first|((with_reducible first|apply gJoin_split|apply cond_split|apply gJoinD_split)<;>intro h<;>(try simp only [spl] at h)<;>try simp (disch:=first|exact bk rfl|omega|(simp only [ln];omega)|(simp only [go_sem];done)|decide) only [go_sem,h10,r10,h10_1,h10_4,h10_7,h10_8,get_mk,e1,e2,e3,e4,e5,e6,e7,e8,h])|((with_reducible refine cl_guard ?_;first|refine cl_eq (hG K) _ (x0) rfl ?_|refine cl_eq (hG K) _ (x1) rfl ?_|refine cl_eq (hG K) _ (x2) rfl ?_|refine cl_eq (hG K) _ (x3) rfl ?_|refine cl_eq (hG K) _ (x4) rfl ?_|refine cl_eq (hG K) _ (value35_c w1) rfl ?_|refine cl_eq (hG K) _ (value35_c w2) rfl ?_)<;>try simp (disch:=first|exact bk rfl|omega|(simp only [ln];omega)|(simp only [go_sem];done)|decide) only [go_sem,h10,r10,h10_1,h10_4,h10_7,h10_8,get_mk,e1,e2,e3,e4,e5,e6,e7,e8])
 refine tail10 (q:=⟨1,valE ((wd 32 text).getD 1 []),valE ((wd 32 text).getD 2 []),[],0,0,0,0,0,0⟩) (text:=text) (b:=1) (b1:=0) ?_ ?_ ?_ ?_ ?_ ?_ ?_
 ·(simp (disch:=first|exact bk rfl|omega|(simp only [ln];omega)|(simp only [go_sem];done)|decide) only [go_sem]<;>first|rfl|omega)
 ·(simp (disch:=first|exact bk rfl|omega|(simp only [ln];omega)|(simp only [go_sem];done)|decide) only [go_sem]<;>first|rfl|omega)
 ·(simp (disch:=first|exact bk rfl|omega|(simp only [ln];omega)|(simp only [go_sem];done)|decide) only [go_sem]<;>first|rfl|omega)
 ·(simp (disch:=first|exact bk rfl|omega|(simp only [ln];omega)|(simp only [go_sem];done)|decide) only [go_sem,aQ,get_mk]<;>first|rfl|omega)
 ·(simp (disch:=first|exact bk rfl|omega|(simp only [ln];omega)|(simp only [go_sem];done)|decide) only [go_sem,aQ,zQ,get_mk]<;>first|rfl|omega)
 ·simp
 ·first | exact Nat.zero_le _ | exact Nat.le_trans w3 (by decide)
set_option maxHeartbeats 8000000 in
theorem parse10_2 {text:Str} (hl:text.length≤900) (hk:kindE ((wd 32 text).getD 0 [])=2):CQ P (G K) 10 [.str text] (·=ps10 (readB text) text):=by
 have f1:(kindE ((wd 32 text).getD 0 [])=1)=False:=eq_false (by omega)
 have f2:(kindE ((wd 32 text).getD 0 [])=2)=True:=eq_true hk
 have hw0:=kind_inv (n:=2) (by decide) hk
 have e1:(((wd 32 text).getD 0 [])=[118,101,114,100,105,99,116])=False:=eq_false fun h=>by rw [h] at hw0;exact absurd hw0 (by decide)
 have e2:(((wd 32 text).getD 0 [])=[109,105,115,115,101,100])=True:=eq_true hw0
 have e3:(((wd 32 text).getD 0 [])=[119,104,101,110])=False:=eq_false fun h=>by rw [h] at hw0;exact absurd hw0 (by decide)
 have e4:(((wd 32 text).getD 0 [])=[119,104,111])=False:=eq_false fun h=>by rw [h] at hw0;exact absurd hw0 (by decide)
 have e5:(((wd 32 text).getD 0 [])=[112,108,97,99,101,100])=False:=eq_false fun h=>by rw [h] at hw0;exact absurd hw0 (by decide)
 have e6:(((wd 32 text).getD 0 [])=[98,97,108,97,110,99,101])=False:=eq_false fun h=>by rw [h] at hw0;exact absurd hw0 (by decide)
 have e7:(((wd 32 text).getD 0 [])=[97,109,101,110,100])=False:=eq_false fun h=>by rw [h] at hw0;exact absurd hw0 (by decide)
 have e8:(((wd 32 text).getD 0 [])=[114,101,115,116,115])=False:=eq_false fun h=>by rw [h] at hw0;exact absurd hw0 (by decide)
 have hX:readB text=⟨2,valE ((wd 32 text).getD 1 []),valE ((wd 32 text).getD 2 []),((wd 32 text).getD 3 []),0,0,0,0,0,0⟩:=by simp only [readB,readE,f1,f2,reduceIte,or_true,true_or,or_false,false_or,or_self];rw [hk]
 have w1:((wd 32 text).getD 1 []).length≤1048576:=Nat.le_trans (wd_get 1) (by omega)
 have w2:((wd 32 text).getD 2 []).length≤1048576:=Nat.le_trans (wd_get 2) (by omega)
 have w3:((wd 32 text).getD 3 []).length≤1048576:=Nat.le_trans (wd_get 3) (by omega)
 have w4:((wd 32 text).getD 4 []).length≤1048576:=Nat.le_trans (wd_get 4) (by omega)
 have wl:=(wd_len (c:=32) (s:=text)).1
 have wlt:0<(wd 32 text).length:=List.length_pos_iff.2 (wd_ne 32 text)
 have hg0:(wd 32 text)[0]=(wd 32 text).getD 0 []:=by rw [List.getD_eq_getElem?_getD,List.getElem?_eq_getElem wlt];rfl
 rw [hX]
 refine CQ.enter (hG K) ?_
 (try simp (disch:=first|exact bk rfl|omega|(simp only [ln];omega)|(simp only [go_sem];done)|decide) only [go_sem,h10]);repeat' first|((with_reducible first|apply gJoin_split|apply cond_split|apply gJoinD_split)<;>intro h<;>(try simp only [spl] at h)<;>try simp (disch:=first|exact bk rfl|omega|(simp only [ln];omega)|(simp only [go_sem];done)|decide) only [go_sem,h10,h])
 refine cl_any (hG K) [.str text, .int .u8 32] (words34_c (by omega)) rfl fun d hs=> ?_
 have x0:CQ P (G K) 36 [d, .int .i64 0] (·= .str ((wd 32 text).getD 0 [])):=word36_c hs 0 (by decide) (by omega)
 have x1:CQ P (G K) 36 [d, .int .i64 1] (·= .str ((wd 32 text).getD 1 [])):=word36_c hs 1 (by decide) (by omega)
 have x2:CQ P (G K) 36 [d, .int .i64 2] (·= .str ((wd 32 text).getD 2 [])):=word36_c hs 2 (by decide) (by omega)
 have x3:CQ P (G K) 36 [d, .int .i64 3] (·= .str ((wd 32 text).getD 3 [])):=word36_c hs 3 (by decide) (by omega)
 have x4:CQ P (G K) 36 [d, .int .i64 4] (·= .str ((wd 32 text).getD 4 [])):=word36_c hs 4 (by decide) (by omega)
 have idx0:∀k:AV→Bool,indexAtK P 58 (ofD d) (.int .i64 0) k=k (.dat (.ptr (rows eStr (wd 32 text)) (0 * 1))):=fun k=>idx_sl hs un58 in9 ce9 wlt (n:=0)
 have ld0:(ofDs (rows eStr (wd 32 text)))[0 * 1]? =some (.str ((wd 32 text).getD 0 [])):=by rw [rows_get0 eStr_len wlt (by decide:0<1),hg0];rfl
 (try simp (disch:=first|exact bk rfl|omega|(simp only [ln];omega)|(simp only [go_sem];done)|decide) only [go_sem,h10,r10,h10_1,h10_4,h10_7,h10_8,get_mk,idx0,ld0,e1,e2,e3,e4,e5,e6,e7,e8]);repeat' first|((with_reducible first|apply gJoin_split|apply cond_split|apply gJoinD_split)<;>intro h<;>(try simp only [spl] at h)<;>try simp (disch:=first|exact bk rfl|omega|(simp only [ln];omega)|(simp only [go_sem];done)|decide) only [go_sem,h10,r10,h10_1,h10_4,h10_7,h10_8,get_mk,idx0,ld0,e1,e2,e3,e4,e5,e6,e7,e8,h])|((with_reducible refine cl_guard ?_;first|refine cl_eq (hG K) _ (x0) rfl ?_|refine cl_eq (hG K) _ (x1) rfl ?_|refine cl_eq (hG K) _ (x2) rfl ?_|refine cl_eq (hG K) _ (x3) rfl ?_|refine cl_eq (hG K) _ (x4) rfl ?_|refine cl_eq (hG K) _ (value35_c w1) rfl ?_|refine cl_eq (hG K) _ (value35_c w2) rfl ?_)<;>try simp (disch:=first|exact bk rfl|omega|(simp only [ln];omega)|(simp only [go_sem];done)|decide) only [go_sem,h10,r10,h10_1,h10_4,h10_7,h10_8,get_mk,idx0,ld0,e1,e2,e3,e4,e5,e6,e7,e8])
 refine tail10 (q:=⟨2,valE ((wd 32 text).getD 1 []),valE ((wd 32 text).getD 2 []),((wd 32 text).getD 3 []),0,0,0,0,0,0⟩) (text:=text) (b:=1) (b1:=0) ?_ ?_ ?_ ?_ ?_ ?_ ?_
 ·(simp (disch:=first|exact bk rfl|omega|(simp only [ln];omega)|(simp only [go_sem];done)|decide) only [go_sem]<;>first|rfl|omega)
 ·(simp (disch:=first|exact bk rfl|omega|(simp only [ln];omega)|(simp only [go_sem];done)|decide) only [go_sem]<;>first|rfl|omega)
 ·(simp (disch:=first|exact bk rfl|omega|(simp only [ln];omega)|(simp only [go_sem];done)|decide) only [go_sem]<;>first|rfl|omega)
 ·(simp (disch:=first|exact bk rfl|omega|(simp only [ln];omega)|(simp only [go_sem];done)|decide) only [go_sem,aQ,get_mk]<;>first|rfl|omega)
 ·(simp (disch:=first|exact bk rfl|omega|(simp only [ln];omega)|(simp only [go_sem];done)|decide) only [go_sem,aQ,zQ,get_mk]<;>first|rfl|omega)
 ·simp
 ·first | exact Nat.zero_le _ | exact Nat.le_trans w3 (by decide)
set_option maxHeartbeats 8000000 in
theorem parse10_3 {text:Str} (hl:text.length≤900) (hk:kindE ((wd 32 text).getD 0 [])=3):CQ P (G K) 10 [.str text] (·=ps10 (readB text) text):=by
 have f1:(kindE ((wd 32 text).getD 0 [])=1)=False:=eq_false (by omega)
 have f2:(kindE ((wd 32 text).getD 0 [])=2)=False:=eq_false (by omega)
 have f3:(kindE ((wd 32 text).getD 0 [])=3)=True:=eq_true hk
 have hw0:=kind_inv (n:=3) (by decide) hk
 have e1:(((wd 32 text).getD 0 [])=[118,101,114,100,105,99,116])=False:=eq_false fun h=>by rw [h] at hw0;exact absurd hw0 (by decide)
 have e2:(((wd 32 text).getD 0 [])=[109,105,115,115,101,100])=False:=eq_false fun h=>by rw [h] at hw0;exact absurd hw0 (by decide)
 have e3:(((wd 32 text).getD 0 [])=[119,104,101,110])=True:=eq_true hw0
 have e4:(((wd 32 text).getD 0 [])=[119,104,111])=False:=eq_false fun h=>by rw [h] at hw0;exact absurd hw0 (by decide)
 have e5:(((wd 32 text).getD 0 [])=[112,108,97,99,101,100])=False:=eq_false fun h=>by rw [h] at hw0;exact absurd hw0 (by decide)
 have e6:(((wd 32 text).getD 0 [])=[98,97,108,97,110,99,101])=False:=eq_false fun h=>by rw [h] at hw0;exact absurd hw0 (by decide)
 have e7:(((wd 32 text).getD 0 [])=[97,109,101,110,100])=False:=eq_false fun h=>by rw [h] at hw0;exact absurd hw0 (by decide)
 have e8:(((wd 32 text).getD 0 [])=[114,101,115,116,115])=False:=eq_false fun h=>by rw [h] at hw0;exact absurd hw0 (by decide)
 have hX:readB text=⟨3,valE ((wd 32 text).getD 1 []),valE ((wd 32 text).getD 2 []),((wd 32 text).getD 3 []),0,0,0,0,0,0⟩:=by simp only [readB,readE,f1,f2,f3,reduceIte,or_true,true_or,or_false,false_or,or_self];rw [hk]
 have w1:((wd 32 text).getD 1 []).length≤1048576:=Nat.le_trans (wd_get 1) (by omega)
 have w2:((wd 32 text).getD 2 []).length≤1048576:=Nat.le_trans (wd_get 2) (by omega)
 have w3:((wd 32 text).getD 3 []).length≤1048576:=Nat.le_trans (wd_get 3) (by omega)
 have w4:((wd 32 text).getD 4 []).length≤1048576:=Nat.le_trans (wd_get 4) (by omega)
 have wl:=(wd_len (c:=32) (s:=text)).1
 have wlt:0<(wd 32 text).length:=List.length_pos_iff.2 (wd_ne 32 text)
 have hg0:(wd 32 text)[0]=(wd 32 text).getD 0 []:=by rw [List.getD_eq_getElem?_getD,List.getElem?_eq_getElem wlt];rfl
 rw [hX]
 refine CQ.enter (hG K) ?_
 (try simp (disch:=first|exact bk rfl|omega|(simp only [ln];omega)|(simp only [go_sem];done)|decide) only [go_sem,h10]);repeat' first|((with_reducible first|apply gJoin_split|apply cond_split|apply gJoinD_split)<;>intro h<;>(try simp only [spl] at h)<;>try simp (disch:=first|exact bk rfl|omega|(simp only [ln];omega)|(simp only [go_sem];done)|decide) only [go_sem,h10,h])
 refine cl_any (hG K) [.str text, .int .u8 32] (words34_c (by omega)) rfl fun d hs=> ?_
 have x0:CQ P (G K) 36 [d, .int .i64 0] (·= .str ((wd 32 text).getD 0 [])):=word36_c hs 0 (by decide) (by omega)
 have x1:CQ P (G K) 36 [d, .int .i64 1] (·= .str ((wd 32 text).getD 1 [])):=word36_c hs 1 (by decide) (by omega)
 have x2:CQ P (G K) 36 [d, .int .i64 2] (·= .str ((wd 32 text).getD 2 [])):=word36_c hs 2 (by decide) (by omega)
 have x3:CQ P (G K) 36 [d, .int .i64 3] (·= .str ((wd 32 text).getD 3 [])):=word36_c hs 3 (by decide) (by omega)
 have x4:CQ P (G K) 36 [d, .int .i64 4] (·= .str ((wd 32 text).getD 4 [])):=word36_c hs 4 (by decide) (by omega)
 have idx0:∀k:AV→Bool,indexAtK P 58 (ofD d) (.int .i64 0) k=k (.dat (.ptr (rows eStr (wd 32 text)) (0 * 1))):=fun k=>idx_sl hs un58 in9 ce9 wlt (n:=0)
 have ld0:(ofDs (rows eStr (wd 32 text)))[0 * 1]? =some (.str ((wd 32 text).getD 0 [])):=by rw [rows_get0 eStr_len wlt (by decide:0<1),hg0];rfl
 (try simp (disch:=first|exact bk rfl|omega|(simp only [ln];omega)|(simp only [go_sem];done)|decide) only [go_sem,h10,r10,h10_1,h10_4,h10_7,h10_8,get_mk,idx0,ld0,e1,e2,e3,e4,e5,e6,e7,e8]);repeat' first|((with_reducible first|apply gJoin_split|apply cond_split|apply gJoinD_split)<;>intro h<;>(try simp only [spl] at h)<;>try simp (disch:=first|exact bk rfl|omega|(simp only [ln];omega)|(simp only [go_sem];done)|decide) only [go_sem,h10,r10,h10_1,h10_4,h10_7,h10_8,get_mk,idx0,ld0,e1,e2,e3,e4,e5,e6,e7,e8,h])|((with_reducible refine cl_guard ?_;first|refine cl_eq (hG K) _ (x0) rfl ?_|refine cl_eq (hG K) _ (x1) rfl ?_|refine cl_eq (hG K) _ (x2) rfl ?_|refine cl_eq (hG K) _ (x3) rfl ?_|refine cl_eq (hG K) _ (x4) rfl ?_|refine cl_eq (hG K) _ (value35_c w1) rfl ?_|refine cl_eq (hG K) _ (value35_c w2) rfl ?_)<;>try simp (disch:=first|exact bk rfl|omega|(simp only [ln];omega)|(simp only [go_sem];done)|decide) only [go_sem,h10,r10,h10_1,h10_4,h10_7,h10_8,get_mk,idx0,ld0,e1,e2,e3,e4,e5,e6,e7,e8])
 refine tail10 (q:=⟨3,valE ((wd 32 text).getD 1 []),valE ((wd 32 text).getD 2 []),((wd 32 text).getD 3 []),0,0,0,0,0,0⟩) (text:=text) (b:=1) (b1:=0) ?_ ?_ ?_ ?_ ?_ ?_ ?_
 ·(simp (disch:=first|exact bk rfl|omega|(simp only [ln];omega)|(simp only [go_sem];done)|decide) only [go_sem]<;>first|rfl|omega)
 ·(simp (disch:=first|exact bk rfl|omega|(simp only [ln];omega)|(simp only [go_sem];done)|decide) only [go_sem]<;>first|rfl|omega)
 ·(simp (disch:=first|exact bk rfl|omega|(simp only [ln];omega)|(simp only [go_sem];done)|decide) only [go_sem]<;>first|rfl|omega)
 ·(simp (disch:=first|exact bk rfl|omega|(simp only [ln];omega)|(simp only [go_sem];done)|decide) only [go_sem,aQ,get_mk]<;>first|rfl|omega)
 ·(simp (disch:=first|exact bk rfl|omega|(simp only [ln];omega)|(simp only [go_sem];done)|decide) only [go_sem,aQ,zQ,get_mk]<;>first|rfl|omega)
 ·simp
 ·first | exact Nat.zero_le _ | exact Nat.le_trans w3 (by decide)
set_option maxHeartbeats 8000000 in
theorem parse10_4 {text:Str} (hl:text.length≤900) (hk:kindE ((wd 32 text).getD 0 [])=4):CQ P (G K) 10 [.str text] (·=ps10 (readB text) text):=by
 have f1:(kindE ((wd 32 text).getD 0 [])=1)=False:=eq_false (by omega)
 have f2:(kindE ((wd 32 text).getD 0 [])=2)=False:=eq_false (by omega)
 have f3:(kindE ((wd 32 text).getD 0 [])=3)=False:=eq_false (by omega)
 have f4:(kindE ((wd 32 text).getD 0 [])=4)=True:=eq_true hk
 have hw0:=kind_inv (n:=4) (by decide) hk
 have e1:(((wd 32 text).getD 0 [])=[118,101,114,100,105,99,116])=False:=eq_false fun h=>by rw [h] at hw0;exact absurd hw0 (by decide)
 have e2:(((wd 32 text).getD 0 [])=[109,105,115,115,101,100])=False:=eq_false fun h=>by rw [h] at hw0;exact absurd hw0 (by decide)
 have e3:(((wd 32 text).getD 0 [])=[119,104,101,110])=False:=eq_false fun h=>by rw [h] at hw0;exact absurd hw0 (by decide)
 have e4:(((wd 32 text).getD 0 [])=[119,104,111])=True:=eq_true hw0
 have e5:(((wd 32 text).getD 0 [])=[112,108,97,99,101,100])=False:=eq_false fun h=>by rw [h] at hw0;exact absurd hw0 (by decide)
 have e6:(((wd 32 text).getD 0 [])=[98,97,108,97,110,99,101])=False:=eq_false fun h=>by rw [h] at hw0;exact absurd hw0 (by decide)
 have e7:(((wd 32 text).getD 0 [])=[97,109,101,110,100])=False:=eq_false fun h=>by rw [h] at hw0;exact absurd hw0 (by decide)
 have e8:(((wd 32 text).getD 0 [])=[114,101,115,116,115])=False:=eq_false fun h=>by rw [h] at hw0;exact absurd hw0 (by decide)
 have hX:readB text=⟨4,valE ((wd 32 text).getD 1 []),valE ((wd 32 text).getD 2 []),((wd 32 text).getD 3 []),0,0,0,0,0,0⟩:=by simp only [readB,readE,f1,f2,f3,f4,reduceIte,or_true,true_or,or_false,false_or,or_self];rw [hk]
 have w1:((wd 32 text).getD 1 []).length≤1048576:=Nat.le_trans (wd_get 1) (by omega)
 have w2:((wd 32 text).getD 2 []).length≤1048576:=Nat.le_trans (wd_get 2) (by omega)
 have w3:((wd 32 text).getD 3 []).length≤1048576:=Nat.le_trans (wd_get 3) (by omega)
 have w4:((wd 32 text).getD 4 []).length≤1048576:=Nat.le_trans (wd_get 4) (by omega)
 have wl:=(wd_len (c:=32) (s:=text)).1
 have wlt:0<(wd 32 text).length:=List.length_pos_iff.2 (wd_ne 32 text)
 have hg0:(wd 32 text)[0]=(wd 32 text).getD 0 []:=by rw [List.getD_eq_getElem?_getD,List.getElem?_eq_getElem wlt];rfl
 rw [hX]
 refine CQ.enter (hG K) ?_
 (try simp (disch:=first|exact bk rfl|omega|(simp only [ln];omega)|(simp only [go_sem];done)|decide) only [go_sem,h10]);repeat' first|((with_reducible first|apply gJoin_split|apply cond_split|apply gJoinD_split)<;>intro h<;>(try simp only [spl] at h)<;>try simp (disch:=first|exact bk rfl|omega|(simp only [ln];omega)|(simp only [go_sem];done)|decide) only [go_sem,h10,h])
 refine cl_any (hG K) [.str text, .int .u8 32] (words34_c (by omega)) rfl fun d hs=> ?_
 have x0:CQ P (G K) 36 [d, .int .i64 0] (·= .str ((wd 32 text).getD 0 [])):=word36_c hs 0 (by decide) (by omega)
 have x1:CQ P (G K) 36 [d, .int .i64 1] (·= .str ((wd 32 text).getD 1 [])):=word36_c hs 1 (by decide) (by omega)
 have x2:CQ P (G K) 36 [d, .int .i64 2] (·= .str ((wd 32 text).getD 2 [])):=word36_c hs 2 (by decide) (by omega)
 have x3:CQ P (G K) 36 [d, .int .i64 3] (·= .str ((wd 32 text).getD 3 [])):=word36_c hs 3 (by decide) (by omega)
 have x4:CQ P (G K) 36 [d, .int .i64 4] (·= .str ((wd 32 text).getD 4 [])):=word36_c hs 4 (by decide) (by omega)
 have idx0:∀k:AV→Bool,indexAtK P 58 (ofD d) (.int .i64 0) k=k (.dat (.ptr (rows eStr (wd 32 text)) (0 * 1))):=fun k=>idx_sl hs un58 in9 ce9 wlt (n:=0)
 have ld0:(ofDs (rows eStr (wd 32 text)))[0 * 1]? =some (.str ((wd 32 text).getD 0 [])):=by rw [rows_get0 eStr_len wlt (by decide:0<1),hg0];rfl
 (try simp (disch:=first|exact bk rfl|omega|(simp only [ln];omega)|(simp only [go_sem];done)|decide) only [go_sem,h10,r10,h10_1,h10_4,h10_7,h10_8,get_mk,idx0,ld0,e1,e2,e3,e4,e5,e6,e7,e8]);repeat' first|((with_reducible first|apply gJoin_split|apply cond_split|apply gJoinD_split)<;>intro h<;>(try simp only [spl] at h)<;>try simp (disch:=first|exact bk rfl|omega|(simp only [ln];omega)|(simp only [go_sem];done)|decide) only [go_sem,h10,r10,h10_1,h10_4,h10_7,h10_8,get_mk,idx0,ld0,e1,e2,e3,e4,e5,e6,e7,e8,h])|((with_reducible refine cl_guard ?_;first|refine cl_eq (hG K) _ (x0) rfl ?_|refine cl_eq (hG K) _ (x1) rfl ?_|refine cl_eq (hG K) _ (x2) rfl ?_|refine cl_eq (hG K) _ (x3) rfl ?_|refine cl_eq (hG K) _ (x4) rfl ?_|refine cl_eq (hG K) _ (value35_c w1) rfl ?_|refine cl_eq (hG K) _ (value35_c w2) rfl ?_)<;>try simp (disch:=first|exact bk rfl|omega|(simp only [ln];omega)|(simp only [go_sem];done)|decide) only [go_sem,h10,r10,h10_1,h10_4,h10_7,h10_8,get_mk,idx0,ld0,e1,e2,e3,e4,e5,e6,e7,e8])
 refine tail10 (q:=⟨4,valE ((wd 32 text).getD 1 []),valE ((wd 32 text).getD 2 []),((wd 32 text).getD 3 []),0,0,0,0,0,0⟩) (text:=text) (b:=1) (b1:=0) ?_ ?_ ?_ ?_ ?_ ?_ ?_
 ·(simp (disch:=first|exact bk rfl|omega|(simp only [ln];omega)|(simp only [go_sem];done)|decide) only [go_sem]<;>first|rfl|omega)
 ·(simp (disch:=first|exact bk rfl|omega|(simp only [ln];omega)|(simp only [go_sem];done)|decide) only [go_sem]<;>first|rfl|omega)
 ·(simp (disch:=first|exact bk rfl|omega|(simp only [ln];omega)|(simp only [go_sem];done)|decide) only [go_sem]<;>first|rfl|omega)
 ·(simp (disch:=first|exact bk rfl|omega|(simp only [ln];omega)|(simp only [go_sem];done)|decide) only [go_sem,aQ,get_mk]<;>first|rfl|omega)
 ·(simp (disch:=first|exact bk rfl|omega|(simp only [ln];omega)|(simp only [go_sem];done)|decide) only [go_sem,aQ,zQ,get_mk]<;>first|rfl|omega)
 ·simp
 ·first | exact Nat.zero_le _ | exact Nat.le_trans w3 (by decide)
set_option maxHeartbeats 8000000 in
theorem parse10_5 {text:Str} (hl:text.length≤900) (hk:kindE ((wd 32 text).getD 0 [])=5):CQ P (G K) 10 [.str text] (·=ps10 (readB text) text):=by
 have f1:(kindE ((wd 32 text).getD 0 [])=1)=False:=eq_false (by omega)
 have f2:(kindE ((wd 32 text).getD 0 [])=2)=False:=eq_false (by omega)
 have f3:(kindE ((wd 32 text).getD 0 [])=3)=False:=eq_false (by omega)
 have f4:(kindE ((wd 32 text).getD 0 [])=4)=False:=eq_false (by omega)
 have f5:(kindE ((wd 32 text).getD 0 [])=5)=True:=eq_true hk
 have hw0:=kind_inv (n:=5) (by decide) hk
 have e1:(((wd 32 text).getD 0 [])=[118,101,114,100,105,99,116])=False:=eq_false fun h=>by rw [h] at hw0;exact absurd hw0 (by decide)
 have e2:(((wd 32 text).getD 0 [])=[109,105,115,115,101,100])=False:=eq_false fun h=>by rw [h] at hw0;exact absurd hw0 (by decide)
 have e3:(((wd 32 text).getD 0 [])=[119,104,101,110])=False:=eq_false fun h=>by rw [h] at hw0;exact absurd hw0 (by decide)
 have e4:(((wd 32 text).getD 0 [])=[119,104,111])=False:=eq_false fun h=>by rw [h] at hw0;exact absurd hw0 (by decide)
 have e5:(((wd 32 text).getD 0 [])=[112,108,97,99,101,100])=True:=eq_true hw0
 have e6:(((wd 32 text).getD 0 [])=[98,97,108,97,110,99,101])=False:=eq_false fun h=>by rw [h] at hw0;exact absurd hw0 (by decide)
 have e7:(((wd 32 text).getD 0 [])=[97,109,101,110,100])=False:=eq_false fun h=>by rw [h] at hw0;exact absurd hw0 (by decide)
 have e8:(((wd 32 text).getD 0 [])=[114,101,115,116,115])=False:=eq_false fun h=>by rw [h] at hw0;exact absurd hw0 (by decide)
 have hX:readB text=⟨5,valE ((wd 32 text).getD 1 []),valE ((wd 32 text).getD 2 []),((wd 32 text).getD 3 []),(spR ((wd 32 text).getD 4 [])).1,(spR ((wd 32 text).getD 4 [])).2,0,0,0,0⟩:=by simp only [readB,readE,f1,f2,f3,f4,f5,reduceIte,or_true,true_or,or_false,false_or,or_self];rw [hk]
 have w1:((wd 32 text).getD 1 []).length≤1048576:=Nat.le_trans (wd_get 1) (by omega)
 have w2:((wd 32 text).getD 2 []).length≤1048576:=Nat.le_trans (wd_get 2) (by omega)
 have w3:((wd 32 text).getD 3 []).length≤1048576:=Nat.le_trans (wd_get 3) (by omega)
 have w4:((wd 32 text).getD 4 []).length≤1048576:=Nat.le_trans (wd_get 4) (by omega)
 have wl:=(wd_len (c:=32) (s:=text)).1
 have wlt:0<(wd 32 text).length:=List.length_pos_iff.2 (wd_ne 32 text)
 have hg0:(wd 32 text)[0]=(wd 32 text).getD 0 []:=by rw [List.getD_eq_getElem?_getD,List.getElem?_eq_getElem wlt];rfl
 rw [hX]
 refine CQ.enter (hG K) ?_
 (try simp (disch:=first|exact bk rfl|omega|(simp only [ln];omega)|(simp only [go_sem];done)|decide) only [go_sem,h10]);repeat' first|((with_reducible first|apply gJoin_split|apply cond_split|apply gJoinD_split)<;>intro h<;>(try simp only [spl] at h)<;>try simp (disch:=first|exact bk rfl|omega|(simp only [ln];omega)|(simp only [go_sem];done)|decide) only [go_sem,h10,h])
 refine cl_any (hG K) [.str text, .int .u8 32] (words34_c (by omega)) rfl fun d hs=> ?_
 have x0:CQ P (G K) 36 [d, .int .i64 0] (·= .str ((wd 32 text).getD 0 [])):=word36_c hs 0 (by decide) (by omega)
 have x1:CQ P (G K) 36 [d, .int .i64 1] (·= .str ((wd 32 text).getD 1 [])):=word36_c hs 1 (by decide) (by omega)
 have x2:CQ P (G K) 36 [d, .int .i64 2] (·= .str ((wd 32 text).getD 2 [])):=word36_c hs 2 (by decide) (by omega)
 have x3:CQ P (G K) 36 [d, .int .i64 3] (·= .str ((wd 32 text).getD 3 [])):=word36_c hs 3 (by decide) (by omega)
 have x4:CQ P (G K) 36 [d, .int .i64 4] (·= .str ((wd 32 text).getD 4 [])):=word36_c hs 4 (by decide) (by omega)
 have idx0:∀k:AV→Bool,indexAtK P 58 (ofD d) (.int .i64 0) k=k (.dat (.ptr (rows eStr (wd 32 text)) (0 * 1))):=fun k=>idx_sl hs un58 in9 ce9 wlt (n:=0)
 have ld0:(ofDs (rows eStr (wd 32 text)))[0 * 1]? =some (.str ((wd 32 text).getD 0 [])):=by rw [rows_get0 eStr_len wlt (by decide:0<1),hg0];rfl
 (try simp (disch:=first|exact bk rfl|omega|(simp only [ln];omega)|(simp only [go_sem];done)|decide) only [go_sem,h10,r10,h10_1,h10_4,h10_7,h10_8,get_mk,idx0,ld0,e1,e2,e3,e4,e5,e6,e7,e8]);repeat' first|((with_reducible first|apply gJoin_split|apply cond_split|apply gJoinD_split)<;>intro h<;>(try simp only [spl] at h)<;>try simp (disch:=first|exact bk rfl|omega|(simp only [ln];omega)|(simp only [go_sem];done)|decide) only [go_sem,h10,r10,h10_1,h10_4,h10_7,h10_8,get_mk,idx0,ld0,e1,e2,e3,e4,e5,e6,e7,e8,h])|((with_reducible refine cl_guard ?_;first|refine cl_eq (hG K) _ (x0) rfl ?_|refine cl_eq (hG K) _ (x1) rfl ?_|refine cl_eq (hG K) _ (x2) rfl ?_|refine cl_eq (hG K) _ (x3) rfl ?_|refine cl_eq (hG K) _ (x4) rfl ?_|refine cl_eq (hG K) _ (value35_c w1) rfl ?_|refine cl_eq (hG K) _ (value35_c w2) rfl ?_|refine cl_eq (hG K) _ (spanned37_c w4) rfl ?_)<;>try simp (disch:=first|exact bk rfl|omega|(simp only [ln];omega)|(simp only [go_sem];done)|decide) only [go_sem,h10,r10,h10_1,h10_4,h10_7,h10_8,get_mk,idx0,ld0,e1,e2,e3,e4,e5,e6,e7,e8])
 refine tail10 (q:=⟨5,valE ((wd 32 text).getD 1 []),valE ((wd 32 text).getD 2 []),((wd 32 text).getD 3 []),(spR ((wd 32 text).getD 4 [])).1,(spR ((wd 32 text).getD 4 [])).2,0,0,0,0⟩) (text:=text) (b:=1) (b1:=0) ?_ ?_ ?_ ?_ ?_ ?_ ?_
 ·(simp (disch:=first|exact bk rfl|omega|(simp only [ln];omega)|(simp only [go_sem];done)|decide) only [go_sem]<;>first|rfl|omega)
 ·(simp (disch:=first|exact bk rfl|omega|(simp only [ln];omega)|(simp only [go_sem];done)|decide) only [go_sem]<;>first|rfl|omega)
 ·(simp (disch:=first|exact bk rfl|omega|(simp only [ln];omega)|(simp only [go_sem];done)|decide) only [go_sem]<;>first|rfl|omega)
 ·(simp (disch:=first|exact bk rfl|omega|(simp only [ln];omega)|(simp only [go_sem];done)|decide) only [go_sem,aQ,get_mk]<;>first|rfl|omega)
 ·(simp (disch:=first|exact bk rfl|omega|(simp only [ln];omega)|(simp only [go_sem];done)|decide) only [go_sem,aQ,zQ,get_mk]<;>first|rfl|omega)
 ·simp
 ·first | exact Nat.zero_le _ | exact Nat.le_trans w3 (by decide)
set_option maxHeartbeats 8000000 in
theorem parse10_6 {text:Str} (hl:text.length≤900) (hk:kindE ((wd 32 text).getD 0 [])=6):CQ P (G K) 10 [.str text] (·=ps10 (readB text) text):=by
 have f1:(kindE ((wd 32 text).getD 0 [])=1)=False:=eq_false (by omega)
 have f2:(kindE ((wd 32 text).getD 0 [])=2)=False:=eq_false (by omega)
 have f3:(kindE ((wd 32 text).getD 0 [])=3)=False:=eq_false (by omega)
 have f4:(kindE ((wd 32 text).getD 0 [])=4)=False:=eq_false (by omega)
 have f5:(kindE ((wd 32 text).getD 0 [])=5)=False:=eq_false (by omega)
 have f6:(kindE ((wd 32 text).getD 0 [])=6)=True:=eq_true hk
 have hw0:=kind_inv (n:=6) (by decide) hk
 have e1:(((wd 32 text).getD 0 [])=[118,101,114,100,105,99,116])=False:=eq_false fun h=>by rw [h] at hw0;exact absurd hw0 (by decide)
 have e2:(((wd 32 text).getD 0 [])=[109,105,115,115,101,100])=False:=eq_false fun h=>by rw [h] at hw0;exact absurd hw0 (by decide)
 have e3:(((wd 32 text).getD 0 [])=[119,104,101,110])=False:=eq_false fun h=>by rw [h] at hw0;exact absurd hw0 (by decide)
 have e4:(((wd 32 text).getD 0 [])=[119,104,111])=False:=eq_false fun h=>by rw [h] at hw0;exact absurd hw0 (by decide)
 have e5:(((wd 32 text).getD 0 [])=[112,108,97,99,101,100])=False:=eq_false fun h=>by rw [h] at hw0;exact absurd hw0 (by decide)
 have e6:(((wd 32 text).getD 0 [])=[98,97,108,97,110,99,101])=True:=eq_true hw0
 have e7:(((wd 32 text).getD 0 [])=[97,109,101,110,100])=False:=eq_false fun h=>by rw [h] at hw0;exact absurd hw0 (by decide)
 have e8:(((wd 32 text).getD 0 [])=[114,101,115,116,115])=False:=eq_false fun h=>by rw [h] at hw0;exact absurd hw0 (by decide)
 have hX:readB text=⟨6,valE ((wd 32 text).getD 1 []),0,[],(spR ((wd 32 text).getD 3 [])).1,(spR ((wd 32 text).getD 3 [])).2,valE ((wd 32 text).getD 2 []),0,0,0⟩:=by simp only [readB,readE,f1,f2,f3,f4,f5,f6,reduceIte,or_true,true_or,or_false,false_or,or_self];rw [hk]
 have w1:((wd 32 text).getD 1 []).length≤1048576:=Nat.le_trans (wd_get 1) (by omega)
 have w2:((wd 32 text).getD 2 []).length≤1048576:=Nat.le_trans (wd_get 2) (by omega)
 have w3:((wd 32 text).getD 3 []).length≤1048576:=Nat.le_trans (wd_get 3) (by omega)
 have w4:((wd 32 text).getD 4 []).length≤1048576:=Nat.le_trans (wd_get 4) (by omega)
 have wl:=(wd_len (c:=32) (s:=text)).1
 have wlt:0<(wd 32 text).length:=List.length_pos_iff.2 (wd_ne 32 text)
 have hg0:(wd 32 text)[0]=(wd 32 text).getD 0 []:=by rw [List.getD_eq_getElem?_getD,List.getElem?_eq_getElem wlt];rfl
 rw [hX]
 refine CQ.enter (hG K) ?_
 (try simp (disch:=first|exact bk rfl|omega|(simp only [ln];omega)|(simp only [go_sem];done)|decide) only [go_sem,h10]);repeat' first|((with_reducible first|apply gJoin_split|apply cond_split|apply gJoinD_split)<;>intro h<;>(try simp only [spl] at h)<;>try simp (disch:=first|exact bk rfl|omega|(simp only [ln];omega)|(simp only [go_sem];done)|decide) only [go_sem,h10,h])
 refine cl_any (hG K) [.str text, .int .u8 32] (words34_c (by omega)) rfl fun d hs=> ?_
 have x0:CQ P (G K) 36 [d, .int .i64 0] (·= .str ((wd 32 text).getD 0 [])):=word36_c hs 0 (by decide) (by omega)
 have x1:CQ P (G K) 36 [d, .int .i64 1] (·= .str ((wd 32 text).getD 1 [])):=word36_c hs 1 (by decide) (by omega)
 have x2:CQ P (G K) 36 [d, .int .i64 2] (·= .str ((wd 32 text).getD 2 [])):=word36_c hs 2 (by decide) (by omega)
 have x3:CQ P (G K) 36 [d, .int .i64 3] (·= .str ((wd 32 text).getD 3 [])):=word36_c hs 3 (by decide) (by omega)
 have x4:CQ P (G K) 36 [d, .int .i64 4] (·= .str ((wd 32 text).getD 4 [])):=word36_c hs 4 (by decide) (by omega)
 have idx0:∀k:AV→Bool,indexAtK P 58 (ofD d) (.int .i64 0) k=k (.dat (.ptr (rows eStr (wd 32 text)) (0 * 1))):=fun k=>idx_sl hs un58 in9 ce9 wlt (n:=0)
 have ld0:(ofDs (rows eStr (wd 32 text)))[0 * 1]? =some (.str ((wd 32 text).getD 0 [])):=by rw [rows_get0 eStr_len wlt (by decide:0<1),hg0];rfl
 (try simp (disch:=first|exact bk rfl|omega|(simp only [ln];omega)|(simp only [go_sem];done)|decide) only [go_sem,h10,r10,h10_1,h10_4,h10_7,h10_8,get_mk,e1,e2,e3,e4,e5,e6,e7,e8]);repeat' first|((with_reducible first|apply gJoin_split|apply cond_split|apply gJoinD_split)<;>intro h<;>(try simp only [spl] at h)<;>try simp (disch:=first|exact bk rfl|omega|(simp only [ln];omega)|(simp only [go_sem];done)|decide) only [go_sem,h10,r10,h10_1,h10_4,h10_7,h10_8,get_mk,e1,e2,e3,e4,e5,e6,e7,e8,h])|((with_reducible refine cl_guard ?_;first|refine cl_eq (hG K) _ (x0) rfl ?_|refine cl_eq (hG K) _ (x1) rfl ?_|refine cl_eq (hG K) _ (x2) rfl ?_|refine cl_eq (hG K) _ (x3) rfl ?_|refine cl_eq (hG K) _ (x4) rfl ?_|refine cl_eq (hG K) _ (value35_c w1) rfl ?_|refine cl_eq (hG K) _ (value35_c w2) rfl ?_|refine cl_eq (hG K) _ (spanned37_c w3) rfl ?_)<;>try simp (disch:=first|exact bk rfl|omega|(simp only [ln];omega)|(simp only [go_sem];done)|decide) only [go_sem,h10,r10,h10_1,h10_4,h10_7,h10_8,get_mk,e1,e2,e3,e4,e5,e6,e7,e8])
 refine tail10 (q:=⟨6,valE ((wd 32 text).getD 1 []),0,[],(spR ((wd 32 text).getD 3 [])).1,(spR ((wd 32 text).getD 3 [])).2,valE ((wd 32 text).getD 2 []),0,0,0⟩) (text:=text) (b:=1) (b1:=0) ?_ ?_ ?_ ?_ ?_ ?_ ?_
 ·(simp (disch:=first|exact bk rfl|omega|(simp only [ln];omega)|(simp only [go_sem];done)|decide) only [go_sem]<;>first|rfl|omega)
 ·(simp (disch:=first|exact bk rfl|omega|(simp only [ln];omega)|(simp only [go_sem];done)|decide) only [go_sem]<;>first|rfl|omega)
 ·(simp (disch:=first|exact bk rfl|omega|(simp only [ln];omega)|(simp only [go_sem];done)|decide) only [go_sem]<;>first|rfl|omega)
 ·(simp (disch:=first|exact bk rfl|omega|(simp only [ln];omega)|(simp only [go_sem];done)|decide) only [go_sem,aQ,get_mk]<;>first|rfl|omega)
 ·(simp (disch:=first|exact bk rfl|omega|(simp only [ln];omega)|(simp only [go_sem];done)|decide) only [go_sem,aQ,zQ,get_mk]<;>first|rfl|omega)
 ·simp
 ·first | exact Nat.zero_le _ | exact Nat.le_trans w3 (by decide)
set_option maxHeartbeats 8000000 in
theorem parse10_7 {text:Str} (hl:text.length≤900) (hk:kindE ((wd 32 text).getD 0 [])=7):CQ P (G K) 10 [.str text] (·=ps10 (readB text) text):=by
 have f1:(kindE ((wd 32 text).getD 0 [])=1)=False:=eq_false (by omega)
 have f2:(kindE ((wd 32 text).getD 0 [])=2)=False:=eq_false (by omega)
 have f3:(kindE ((wd 32 text).getD 0 [])=3)=False:=eq_false (by omega)
 have f4:(kindE ((wd 32 text).getD 0 [])=4)=False:=eq_false (by omega)
 have f5:(kindE ((wd 32 text).getD 0 [])=5)=False:=eq_false (by omega)
 have f6:(kindE ((wd 32 text).getD 0 [])=6)=False:=eq_false (by omega)
 have f7:(kindE ((wd 32 text).getD 0 [])=7)=True:=eq_true hk
 have hw0:=kind_inv (n:=7) (by decide) hk
 have e1:(((wd 32 text).getD 0 [])=[118,101,114,100,105,99,116])=False:=eq_false fun h=>by rw [h] at hw0;exact absurd hw0 (by decide)
 have e2:(((wd 32 text).getD 0 [])=[109,105,115,115,101,100])=False:=eq_false fun h=>by rw [h] at hw0;exact absurd hw0 (by decide)
 have e3:(((wd 32 text).getD 0 [])=[119,104,101,110])=False:=eq_false fun h=>by rw [h] at hw0;exact absurd hw0 (by decide)
 have e4:(((wd 32 text).getD 0 [])=[119,104,111])=False:=eq_false fun h=>by rw [h] at hw0;exact absurd hw0 (by decide)
 have e5:(((wd 32 text).getD 0 [])=[112,108,97,99,101,100])=False:=eq_false fun h=>by rw [h] at hw0;exact absurd hw0 (by decide)
 have e6:(((wd 32 text).getD 0 [])=[98,97,108,97,110,99,101])=False:=eq_false fun h=>by rw [h] at hw0;exact absurd hw0 (by decide)
 have e7:(((wd 32 text).getD 0 [])=[97,109,101,110,100])=True:=eq_true hw0
 have e8:(((wd 32 text).getD 0 [])=[114,101,115,116,115])=False:=eq_false fun h=>by rw [h] at hw0;exact absurd hw0 (by decide)
 have hX:readB text=⟨7,valE ((wd 32 text).getD 1 []),0,[],(spR ((wd 32 text).getD 3 [])).1,(spR ((wd 32 text).getD 3 [])).2,0,valE ((wd 32 text).getD 2 []),0,0⟩:=by simp only [readB,readE,f1,f2,f3,f4,f5,f6,f7,reduceIte,or_true,true_or,or_false,false_or,or_self];rw [hk]
 have w1:((wd 32 text).getD 1 []).length≤1048576:=Nat.le_trans (wd_get 1) (by omega)
 have w2:((wd 32 text).getD 2 []).length≤1048576:=Nat.le_trans (wd_get 2) (by omega)
 have w3:((wd 32 text).getD 3 []).length≤1048576:=Nat.le_trans (wd_get 3) (by omega)
 have w4:((wd 32 text).getD 4 []).length≤1048576:=Nat.le_trans (wd_get 4) (by omega)
 have wl:=(wd_len (c:=32) (s:=text)).1
 have wlt:0<(wd 32 text).length:=List.length_pos_iff.2 (wd_ne 32 text)
 have hg0:(wd 32 text)[0]=(wd 32 text).getD 0 []:=by rw [List.getD_eq_getElem?_getD,List.getElem?_eq_getElem wlt];rfl
 rw [hX]
 refine CQ.enter (hG K) ?_
 (try simp (disch:=first|exact bk rfl|omega|(simp only [ln];omega)|(simp only [go_sem];done)|decide) only [go_sem,h10]);repeat' first|((with_reducible first|apply gJoin_split|apply cond_split|apply gJoinD_split)<;>intro h<;>(try simp only [spl] at h)<;>try simp (disch:=first|exact bk rfl|omega|(simp only [ln];omega)|(simp only [go_sem];done)|decide) only [go_sem,h10,h])
 refine cl_any (hG K) [.str text, .int .u8 32] (words34_c (by omega)) rfl fun d hs=> ?_
 have x0:CQ P (G K) 36 [d, .int .i64 0] (·= .str ((wd 32 text).getD 0 [])):=word36_c hs 0 (by decide) (by omega)
 have x1:CQ P (G K) 36 [d, .int .i64 1] (·= .str ((wd 32 text).getD 1 [])):=word36_c hs 1 (by decide) (by omega)
 have x2:CQ P (G K) 36 [d, .int .i64 2] (·= .str ((wd 32 text).getD 2 [])):=word36_c hs 2 (by decide) (by omega)
 have x3:CQ P (G K) 36 [d, .int .i64 3] (·= .str ((wd 32 text).getD 3 [])):=word36_c hs 3 (by decide) (by omega)
 have x4:CQ P (G K) 36 [d, .int .i64 4] (·= .str ((wd 32 text).getD 4 [])):=word36_c hs 4 (by decide) (by omega)
 have idx0:∀k:AV→Bool,indexAtK P 58 (ofD d) (.int .i64 0) k=k (.dat (.ptr (rows eStr (wd 32 text)) (0 * 1))):=fun k=>idx_sl hs un58 in9 ce9 wlt (n:=0)
 have ld0:(ofDs (rows eStr (wd 32 text)))[0 * 1]? =some (.str ((wd 32 text).getD 0 [])):=by rw [rows_get0 eStr_len wlt (by decide:0<1),hg0];rfl
 (try simp (disch:=first|exact bk rfl|omega|(simp only [ln];omega)|(simp only [go_sem];done)|decide) only [go_sem,h10,r10,h10_1,h10_4,h10_7,h10_8,get_mk,e1,e2,e3,e4,e5,e6,e7,e8]);repeat' first|((with_reducible first|apply gJoin_split|apply cond_split|apply gJoinD_split)<;>intro h<;>(try simp only [spl] at h)<;>try simp (disch:=first|exact bk rfl|omega|(simp only [ln];omega)|(simp only [go_sem];done)|decide) only [go_sem,h10,r10,h10_1,h10_4,h10_7,h10_8,get_mk,e1,e2,e3,e4,e5,e6,e7,e8,h])|((with_reducible refine cl_guard ?_;first|refine cl_eq (hG K) _ (x0) rfl ?_|refine cl_eq (hG K) _ (x1) rfl ?_|refine cl_eq (hG K) _ (x2) rfl ?_|refine cl_eq (hG K) _ (x3) rfl ?_|refine cl_eq (hG K) _ (x4) rfl ?_|refine cl_eq (hG K) _ (value35_c w1) rfl ?_|refine cl_eq (hG K) _ (value35_c w2) rfl ?_|refine cl_eq (hG K) _ (spanned37_c w3) rfl ?_)<;>try simp (disch:=first|exact bk rfl|omega|(simp only [ln];omega)|(simp only [go_sem];done)|decide) only [go_sem,h10,r10,h10_1,h10_4,h10_7,h10_8,get_mk,e1,e2,e3,e4,e5,e6,e7,e8])
 refine tail10 (q:=⟨7,valE ((wd 32 text).getD 1 []),0,[],(spR ((wd 32 text).getD 3 [])).1,(spR ((wd 32 text).getD 3 [])).2,0,valE ((wd 32 text).getD 2 []),0,0⟩) (text:=text) (b:=1) (b1:=0) ?_ ?_ ?_ ?_ ?_ ?_ ?_
 ·(simp (disch:=first|exact bk rfl|omega|(simp only [ln];omega)|(simp only [go_sem];done)|decide) only [go_sem]<;>first|rfl|omega)
 ·(simp (disch:=first|exact bk rfl|omega|(simp only [ln];omega)|(simp only [go_sem];done)|decide) only [go_sem]<;>first|rfl|omega)
 ·(simp (disch:=first|exact bk rfl|omega|(simp only [ln];omega)|(simp only [go_sem];done)|decide) only [go_sem]<;>first|rfl|omega)
 ·(simp (disch:=first|exact bk rfl|omega|(simp only [ln];omega)|(simp only [go_sem];done)|decide) only [go_sem,aQ,get_mk]<;>first|rfl|omega)
 ·(simp (disch:=first|exact bk rfl|omega|(simp only [ln];omega)|(simp only [go_sem];done)|decide) only [go_sem,aQ,zQ,get_mk]<;>first|rfl|omega)
 ·simp
 ·first | exact Nat.zero_le _ | exact Nat.le_trans w3 (by decide)
set_option maxHeartbeats 8000000 in
theorem parse10_8 {text:Str} (hl:text.length≤900) (hk:kindE ((wd 32 text).getD 0 [])=8):CQ P (G K) 10 [.str text] (·=ps10 (readB text) text):=by
 have f1:(kindE ((wd 32 text).getD 0 [])=1)=False:=eq_false (by omega)
 have f2:(kindE ((wd 32 text).getD 0 [])=2)=False:=eq_false (by omega)
 have f3:(kindE ((wd 32 text).getD 0 [])=3)=False:=eq_false (by omega)
 have f4:(kindE ((wd 32 text).getD 0 [])=4)=False:=eq_false (by omega)
 have f5:(kindE ((wd 32 text).getD 0 [])=5)=False:=eq_false (by omega)
 have f6:(kindE ((wd 32 text).getD 0 [])=6)=False:=eq_false (by omega)
 have f7:(kindE ((wd 32 text).getD 0 [])=7)=False:=eq_false (by omega)
 have f8:(kindE ((wd 32 text).getD 0 [])=8)=True:=eq_true hk
 have hw0:=kind_inv (n:=8) (by decide) hk
 have e1:(((wd 32 text).getD 0 [])=[118,101,114,100,105,99,116])=False:=eq_false fun h=>by rw [h] at hw0;exact absurd hw0 (by decide)
 have e2:(((wd 32 text).getD 0 [])=[109,105,115,115,101,100])=False:=eq_false fun h=>by rw [h] at hw0;exact absurd hw0 (by decide)
 have e3:(((wd 32 text).getD 0 [])=[119,104,101,110])=False:=eq_false fun h=>by rw [h] at hw0;exact absurd hw0 (by decide)
 have e4:(((wd 32 text).getD 0 [])=[119,104,111])=False:=eq_false fun h=>by rw [h] at hw0;exact absurd hw0 (by decide)
 have e5:(((wd 32 text).getD 0 [])=[112,108,97,99,101,100])=False:=eq_false fun h=>by rw [h] at hw0;exact absurd hw0 (by decide)
 have e6:(((wd 32 text).getD 0 [])=[98,97,108,97,110,99,101])=False:=eq_false fun h=>by rw [h] at hw0;exact absurd hw0 (by decide)
 have e7:(((wd 32 text).getD 0 [])=[97,109,101,110,100])=False:=eq_false fun h=>by rw [h] at hw0;exact absurd hw0 (by decide)
 have e8:(((wd 32 text).getD 0 [])=[114,101,115,116,115])=True:=eq_true hw0
 have hX:readB text=⟨8,valE ((wd 32 text).getD 1 []),0,[],0,0,0,0,valE ((wd 32 text).getD 2 []),valE ((wd 32 text).getD 3 [])⟩:=by simp only [readB,readE,f1,f2,f3,f4,f5,f6,f7,f8,reduceIte,or_true,true_or,or_false,false_or,or_self];rw [hk]
 have w1:((wd 32 text).getD 1 []).length≤1048576:=Nat.le_trans (wd_get 1) (by omega)
 have w2:((wd 32 text).getD 2 []).length≤1048576:=Nat.le_trans (wd_get 2) (by omega)
 have w3:((wd 32 text).getD 3 []).length≤1048576:=Nat.le_trans (wd_get 3) (by omega)
 have w4:((wd 32 text).getD 4 []).length≤1048576:=Nat.le_trans (wd_get 4) (by omega)
 have wl:=(wd_len (c:=32) (s:=text)).1
 have wlt:0<(wd 32 text).length:=List.length_pos_iff.2 (wd_ne 32 text)
 have hg0:(wd 32 text)[0]=(wd 32 text).getD 0 []:=by rw [List.getD_eq_getElem?_getD,List.getElem?_eq_getElem wlt];rfl
 rw [hX]
 refine CQ.enter (hG K) ?_
 (try simp (disch:=first|exact bk rfl|omega|(simp only [ln];omega)|(simp only [go_sem];done)|decide) only [go_sem,h10]);repeat' first|((with_reducible first|apply gJoin_split|apply cond_split|apply gJoinD_split)<;>intro h<;>(try simp only [spl] at h)<;>try simp (disch:=first|exact bk rfl|omega|(simp only [ln];omega)|(simp only [go_sem];done)|decide) only [go_sem,h10,h])
 refine cl_any (hG K) [.str text, .int .u8 32] (words34_c (by omega)) rfl fun d hs=> ?_
 have x0:CQ P (G K) 36 [d, .int .i64 0] (·= .str ((wd 32 text).getD 0 [])):=word36_c hs 0 (by decide) (by omega)
 have x1:CQ P (G K) 36 [d, .int .i64 1] (·= .str ((wd 32 text).getD 1 [])):=word36_c hs 1 (by decide) (by omega)
 have x2:CQ P (G K) 36 [d, .int .i64 2] (·= .str ((wd 32 text).getD 2 [])):=word36_c hs 2 (by decide) (by omega)
 have x3:CQ P (G K) 36 [d, .int .i64 3] (·= .str ((wd 32 text).getD 3 [])):=word36_c hs 3 (by decide) (by omega)
 have x4:CQ P (G K) 36 [d, .int .i64 4] (·= .str ((wd 32 text).getD 4 [])):=word36_c hs 4 (by decide) (by omega)
 have idx0:∀k:AV→Bool,indexAtK P 58 (ofD d) (.int .i64 0) k=k (.dat (.ptr (rows eStr (wd 32 text)) (0 * 1))):=fun k=>idx_sl hs un58 in9 ce9 wlt (n:=0)
 have ld0:(ofDs (rows eStr (wd 32 text)))[0 * 1]? =some (.str ((wd 32 text).getD 0 [])):=by rw [rows_get0 eStr_len wlt (by decide:0<1),hg0];rfl
 (try simp (disch:=first|exact bk rfl|omega|(simp only [ln];omega)|(simp only [go_sem];done)|decide) only [go_sem,h10,r10,h10_1,h10_4,h10_7,h10_8,get_mk,e1,e2,e3,e4,e5,e6,e7,e8]);repeat' first|((with_reducible first|apply gJoin_split|apply cond_split|apply gJoinD_split)<;>intro h<;>(try simp only [spl] at h)<;>try simp (disch:=first|exact bk rfl|omega|(simp only [ln];omega)|(simp only [go_sem];done)|decide) only [go_sem,h10,r10,h10_1,h10_4,h10_7,h10_8,get_mk,e1,e2,e3,e4,e5,e6,e7,e8,h])|((with_reducible refine cl_guard ?_;first|refine cl_eq (hG K) _ (x0) rfl ?_|refine cl_eq (hG K) _ (x1) rfl ?_|refine cl_eq (hG K) _ (x2) rfl ?_|refine cl_eq (hG K) _ (x3) rfl ?_|refine cl_eq (hG K) _ (x4) rfl ?_|refine cl_eq (hG K) _ (value35_c w1) rfl ?_|refine cl_eq (hG K) _ (value35_c w2) rfl ?_|refine cl_eq (hG K) _ (value35_c w3) rfl ?_)<;>try simp (disch:=first|exact bk rfl|omega|(simp only [ln];omega)|(simp only [go_sem];done)|decide) only [go_sem,h10,r10,h10_1,h10_4,h10_7,h10_8,get_mk,e1,e2,e3,e4,e5,e6,e7,e8])
 refine tail10 (q:=⟨8,valE ((wd 32 text).getD 1 []),0,[],0,0,0,0,valE ((wd 32 text).getD 2 []),valE ((wd 32 text).getD 3 [])⟩) (text:=text) (b:=1) (b1:=0) ?_ ?_ ?_ ?_ ?_ ?_ ?_
 ·(simp (disch:=first|exact bk rfl|omega|(simp only [ln];omega)|(simp only [go_sem];done)|decide) only [go_sem]<;>first|rfl|omega)
 ·(simp (disch:=first|exact bk rfl|omega|(simp only [ln];omega)|(simp only [go_sem];done)|decide) only [go_sem]<;>first|rfl|omega)
 ·(simp (disch:=first|exact bk rfl|omega|(simp only [ln];omega)|(simp only [go_sem];done)|decide) only [go_sem]<;>first|rfl|omega)
 ·(simp (disch:=first|exact bk rfl|omega|(simp only [ln];omega)|(simp only [go_sem];done)|decide) only [go_sem,aQ,get_mk]<;>first|rfl|omega)
 ·(simp (disch:=first|exact bk rfl|omega|(simp only [ln];omega)|(simp only [go_sem];done)|decide) only [go_sem,aQ,zQ,get_mk]<;>first|rfl|omega)
 ·simp
 ·first | exact Nat.zero_le _ | exact Nat.le_trans w3 (by decide)
theorem parse10_c {text:Str} (hl:text.length≤900):CQ P (G K) 10 [.str text] (·=ps10 (readB text) text):=by
 obtain⟨h0,h8⟩:=kind_in ((wd 32 text).getD 0 [])
 have:kindE ((wd 32 text).getD 0 [])=0∨kindE ((wd 32 text).getD 0 [])=1∨kindE ((wd 32 text).getD 0 [])=2∨kindE ((wd 32 text).getD 0 [])=3∨kindE ((wd 32 text).getD 0 [])=4∨kindE ((wd 32 text).getD 0 [])=5∨kindE ((wd 32 text).getD 0 [])=6∨kindE ((wd 32 text).getD 0 [])=7∨kindE ((wd 32 text).getD 0 [])=8:=by omega
 rcases this with h | h | h | h | h | h | h | h | h
 ·exact parse10_0 hl h
 ·exact parse10_1 hl h
 ·exact parse10_2 hl h
 ·exact parse10_3 hl h
 ·exact parse10_4 hl h
 ·exact parse10_5 hl h
 ·exact parse10_6 hl h
 ·exact parse10_7 hl h
 ·exact parse10_8 hl h
end Go.S9
namespace Go.S9
open Go.Ev Go.Proofs Go.RowKit
set_option maxRecDepth 100000
set_option linter.unusedVariables false
set_option linter.unusedSimpArgs false
variable {K : GP} {H : Hp} {k : AV → Bool}
theorem nebb (nc:Bool) (a b:Bool):binK P .neq 4 nc (.bool a) (.bool b) k=k (.bool (!(a==b))):=by cases nc<;>cases a<;>cases b<;>kernel_rfl
theorem eqlz:binK P .eql 27 false (.agg [.int .i64 0, .int .i64 0, .int .i64 0, .str [], .int .i64 0, .int .i64 0, .int .i64 0, .int .i64 0, .int .i64 0, .int .i64 0]) (.agg [.int .i64 0, .int .i64 0, .int .i64 0, .str [], .int .i64 0, .int .i64 0, .int .i64 0, .int .i64 0, .int .i64 0, .int .i64 0]) k=k (.bool true):=by
 have h:=eql27 zQ zQ (k:=k)
 rw [sameQ_refl] at h
 exact h
theorem n11:((1:Int)=1)=True:=by simp
theorem n01:((0:Int)=1)=False:=by simp
theorem n77:((7:Int)=7)=True:=by simp
theorem btt:(true==true)=true:=rfl
theorem bff:(false==false)=true:=rfl
theorem strr (s:Str):(s=s)=True:=by simp
theorem p10_t {t:Str} (h:goodB (readA t) t=true):ps10 (readB t) t= .tup [.agg (eQ (readA t)), .bool true]:=by
 have h2:=good_ab h
 rw [h2];simp [ps10,h]
theorem p10_f {t:Str} (h:goodB (readA t) t=false):ps10 (readB t) t= .tup [.agg (eQ zQ), .bool false]:=by
 rw [good_eq] at h
 simp [ps10,h]
set_option maxHeartbeats 8000000 in
theorem law3_c {q:Quest} {text:Str} (hs:CQ P (G K) 6 [] (·= .bool true)) (hp:q.place.length≤9223372036854775807) (hl:text.length≤9223372036854775807):CQ P (G K) 3 [.agg (eQ q), .str text] (·= .bool true):=by
 refine CQ.enter (hG K) ?_
 by_cases c1:(200:Int)<(text.length:Int)
 ·have e1:=eq_true c1
  (try simp (maxSteps:=10000000) (disch:=first|exact bk rfl|omega|(simp only [ln];omega)|(simp only [go_sem];done)|decide) only [go_sem,h3,r3,h3_0,h3_1,h3_2,h3_3,h3_4,h3_5,h3_6,h3_7,h3_8,h3_9,eQ,len_str un9,e1]);repeat' first|((with_reducible first|apply gJoin_split|apply cond_split|apply gJoinD_split)<;>intro h<;>(try simp only [spl] at h)<;>try simp (maxSteps:=10000000) (disch:=first|exact bk rfl|omega|(simp only [ln];omega)|(simp only [go_sem];done)|decide) only [go_sem,h3,r3,h3_0,h3_1,h3_2,h3_3,h3_4,h3_5,h3_6,h3_7,h3_8,h3_9,eQ,len_str un9,e1,h])|((with_reducible refine cl_guard ?_;refine cl_eq (hG K) _ (hs) rfl ?_)<;>try simp (maxSteps:=10000000) (disch:=first|exact bk rfl|omega|(simp only [ln];omega)|(simp only [go_sem];done)|decide) only [go_sem,h3,r3,h3_0,h3_1,h3_2,h3_3,h3_4,h3_5,h3_6,h3_7,h3_8,h3_9,eQ,len_str un9,e1])
  exact endQ_fro (.bool true) rfl
 have e1:=eq_false c1
 by_cases c2:(100:Int)<(q.place.length:Int)
 ·have e2:=eq_true c2
  (try simp (maxSteps:=10000000) (disch:=first|exact bk rfl|omega|(simp only [ln];omega)|(simp only [go_sem];done)|decide) only [go_sem,h3,r3,h3_0,h3_1,h3_2,h3_3,h3_4,h3_5,h3_6,h3_7,h3_8,h3_9,eQ,len_str un9,e1,e2]);repeat' first|((with_reducible first|apply gJoin_split|apply cond_split|apply gJoinD_split)<;>intro h<;>(try simp only [spl] at h)<;>try simp (maxSteps:=10000000) (disch:=first|exact bk rfl|omega|(simp only [ln];omega)|(simp only [go_sem];done)|decide) only [go_sem,h3,r3,h3_0,h3_1,h3_2,h3_3,h3_4,h3_5,h3_6,h3_7,h3_8,h3_9,eQ,len_str un9,e1,e2,h])|((with_reducible refine cl_guard ?_;refine cl_eq (hG K) _ (hs) rfl ?_)<;>try simp (maxSteps:=10000000) (disch:=first|exact bk rfl|omega|(simp only [ln];omega)|(simp only [go_sem];done)|decide) only [go_sem,h3,r3,h3_0,h3_1,h3_2,h3_3,h3_4,h3_5,h3_6,h3_7,h3_8,h3_9,eQ,len_str un9,e1,e2])
  exact endQ_fro (.bool true) rfl
 have e2:=eq_false c2
 have t7:=question7_c (K:=K) hp
 have t8:=print8_c (K:=K) hp
 have t9:=parse9_c (K:=K) (text:=text) (by omega)
 have t10:=parse10_c (K:=K) (text:=text) (by omega)
 cases hg:goodB (readA text) text with
 | false=>
  rw [ps9_f hg] at t9
  rw [p10_f hg] at t10
  cases hv:validB q with
  | false=>
   have t11:=check11_f (K:=K) hp hv
   rw [hv] at t7
   rw [prD_f hv] at t8
   (try simp (maxSteps:=10000000) (disch:=first|exact bk rfl|omega|(simp only [ln];omega)|(simp only [go_sem];done)|decide) only [go_sem,h3,r3,h3_0,h3_1,h3_2,h3_3,h3_4,h3_5,h3_6,h3_7,h3_8,h3_9,eQ,zQ,len_str un9,e1,e2,n10,n70,n00,n11,n01,n77,btt,bff,nebb,eqlz,strr,Bool.not_true,Bool.not_false]);repeat' first|((with_reducible first|apply gJoin_split|apply cond_split|apply gJoinD_split)<;>intro h<;>(try simp only [spl] at h)<;>try simp (maxSteps:=10000000) (disch:=first|exact bk rfl|omega|(simp only [ln];omega)|(simp only [go_sem];done)|decide) only [go_sem,h3,r3,h3_0,h3_1,h3_2,h3_3,h3_4,h3_5,h3_6,h3_7,h3_8,h3_9,eQ,zQ,len_str un9,e1,e2,n10,n70,n00,n11,n01,n77,btt,bff,nebb,eqlz,strr,Bool.not_true,Bool.not_false,h])|((with_reducible refine cl_guard ?_;first|refine cl_eq (hG K) _ (hs) rfl ?_|refine cl_eq (hG K) _ (t7) rfl ?_|refine cl_eq (hG K) _ (t8) rfl ?_|refine cl_eq (hG K) _ (t9) rfl ?_|refine cl_eq (hG K) _ (t10) rfl ?_|refine cl_eq (hG K) _ (t11) rfl ?_)<;>try simp (maxSteps:=10000000) (disch:=first|exact bk rfl|omega|(simp only [ln];omega)|(simp only [go_sem];done)|decide) only [go_sem,h3,r3,h3_0,h3_1,h3_2,h3_3,h3_4,h3_5,h3_6,h3_7,h3_8,h3_9,eQ,zQ,len_str un9,e1,e2,n10,n70,n00,n11,n01,n77,btt,bff,nebb,eqlz,strr,Bool.not_true,Bool.not_false])
   exact endQ_fro (.bool true) rfl
  | true=>
   have t11:=check11_t (K:=K) hp hv
   have t12:=print12_c (K:=K) hv
   rw [hv] at t7
   rw [prD_t hv] at t8
   (try simp (maxSteps:=10000000) (disch:=first|exact bk rfl|omega|(simp only [ln];omega)|(simp only [go_sem];done)|decide) only [go_sem,h3,r3,h3_0,h3_1,h3_2,h3_3,h3_4,h3_5,h3_6,h3_7,h3_8,h3_9,eQ,zQ,len_str un9,e1,e2,n10,n70,n00,n11,n01,n77,btt,bff,nebb,eqlz,strr,Bool.not_true,Bool.not_false]);repeat' first|((with_reducible first|apply gJoin_split|apply cond_split|apply gJoinD_split)<;>intro h<;>(try simp only [spl] at h)<;>try simp (maxSteps:=10000000) (disch:=first|exact bk rfl|omega|(simp only [ln];omega)|(simp only [go_sem];done)|decide) only [go_sem,h3,r3,h3_0,h3_1,h3_2,h3_3,h3_4,h3_5,h3_6,h3_7,h3_8,h3_9,eQ,zQ,len_str un9,e1,e2,n10,n70,n00,n11,n01,n77,btt,bff,nebb,eqlz,strr,Bool.not_true,Bool.not_false,h])|((with_reducible refine cl_guard ?_;first|refine cl_eq (hG K) _ (hs) rfl ?_|refine cl_eq (hG K) _ (t7) rfl ?_|refine cl_eq (hG K) _ (t8) rfl ?_|refine cl_eq (hG K) _ (t9) rfl ?_|refine cl_eq (hG K) _ (t10) rfl ?_|refine cl_eq (hG K) _ (t11) rfl ?_|refine cl_eq (hG K) _ (t12) rfl ?_)<;>try simp (maxSteps:=10000000) (disch:=first|exact bk rfl|omega|(simp only [ln];omega)|(simp only [go_sem];done)|decide) only [go_sem,h3,r3,h3_0,h3_1,h3_2,h3_3,h3_4,h3_5,h3_6,h3_7,h3_8,h3_9,eQ,zQ,len_str un9,e1,e2,n10,n70,n00,n11,n01,n77,btt,bff,nebb,eqlz,strr,Bool.not_true,Bool.not_false])
   exact endQ_fro (.bool true) rfl
 | true=>
  rw [ps9_t hg] at t9
  rw [p10_t hg] at t10
  have s1:=sameQ_refl (readA text)
  generalize readA text=r at s1 t9 t10
  cases hv:validB q with
  | false=>
   have t11:=check11_f (K:=K) hp hv
   rw [hv] at t7
   rw [prD_f hv] at t8
   (try simp (maxSteps:=10000000) (disch:=first|exact bk rfl|omega|(simp only [ln];omega)|(simp only [go_sem];done)|decide) only [go_sem,h3,r3,h3_0,h3_1,h3_2,h3_3,h3_4,h3_5,h3_6,h3_7,h3_8,h3_9,eQ,len_str un9,e1,e2,n10,n70,n00,n11,n01,n77,btt,bff,nebb,eql27u,s1,strr,Bool.not_true,Bool.not_false]);repeat' first|((with_reducible first|apply gJoin_split|apply cond_split|apply gJoinD_split)<;>intro h<;>(try simp only [spl] at h)<;>try simp (maxSteps:=10000000) (disch:=first|exact bk rfl|omega|(simp only [ln];omega)|(simp only [go_sem];done)|decide) only [go_sem,h3,r3,h3_0,h3_1,h3_2,h3_3,h3_4,h3_5,h3_6,h3_7,h3_8,h3_9,eQ,len_str un9,e1,e2,n10,n70,n00,n11,n01,n77,btt,bff,nebb,eql27u,s1,strr,Bool.not_true,Bool.not_false,h])|((with_reducible refine cl_guard ?_;first|refine cl_eq (hG K) _ (hs) rfl ?_|refine cl_eq (hG K) _ (t7) rfl ?_|refine cl_eq (hG K) _ (t8) rfl ?_|refine cl_eq (hG K) _ (t9) rfl ?_|refine cl_eq (hG K) _ (t10) rfl ?_|refine cl_eq (hG K) _ (t11) rfl ?_)<;>try simp (maxSteps:=10000000) (disch:=first|exact bk rfl|omega|(simp only [ln];omega)|(simp only [go_sem];done)|decide) only [go_sem,h3,r3,h3_0,h3_1,h3_2,h3_3,h3_4,h3_5,h3_6,h3_7,h3_8,h3_9,eQ,len_str un9,e1,e2,n10,n70,n00,n11,n01,n77,btt,bff,nebb,eql27u,s1,strr,Bool.not_true,Bool.not_false])
   exact endQ_fro (.bool true) rfl
  | true=>
   have t11:=check11_t (K:=K) hp hv
   have t12:=print12_c (K:=K) hv
   rw [hv] at t7
   rw [prD_t hv] at t8
   (try simp (maxSteps:=10000000) (disch:=first|exact bk rfl|omega|(simp only [ln];omega)|(simp only [go_sem];done)|decide) only [go_sem,h3,r3,h3_0,h3_1,h3_2,h3_3,h3_4,h3_5,h3_6,h3_7,h3_8,h3_9,eQ,len_str un9,e1,e2,n10,n70,n00,n11,n01,n77,btt,bff,nebb,eql27u,s1,strr,Bool.not_true,Bool.not_false]);repeat' first|((with_reducible first|apply gJoin_split|apply cond_split|apply gJoinD_split)<;>intro h<;>(try simp only [spl] at h)<;>try simp (maxSteps:=10000000) (disch:=first|exact bk rfl|omega|(simp only [ln];omega)|(simp only [go_sem];done)|decide) only [go_sem,h3,r3,h3_0,h3_1,h3_2,h3_3,h3_4,h3_5,h3_6,h3_7,h3_8,h3_9,eQ,len_str un9,e1,e2,n10,n70,n00,n11,n01,n77,btt,bff,nebb,eql27u,s1,strr,Bool.not_true,Bool.not_false,h])|((with_reducible refine cl_guard ?_;first|refine cl_eq (hG K) _ (hs) rfl ?_|refine cl_eq (hG K) _ (t7) rfl ?_|refine cl_eq (hG K) _ (t8) rfl ?_|refine cl_eq (hG K) _ (t9) rfl ?_|refine cl_eq (hG K) _ (t10) rfl ?_|refine cl_eq (hG K) _ (t11) rfl ?_|refine cl_eq (hG K) _ (t12) rfl ?_)<;>try simp (maxSteps:=10000000) (disch:=first|exact bk rfl|omega|(simp only [ln];omega)|(simp only [go_sem];done)|decide) only [go_sem,h3,r3,h3_0,h3_1,h3_2,h3_3,h3_4,h3_5,h3_6,h3_7,h3_8,h3_9,eQ,len_str un9,e1,e2,n10,n70,n00,n11,n01,n77,btt,bff,nebb,eql27u,s1,strr,Bool.not_true,Bool.not_false])
   exact endQ_fro (.bool true) rfl
end Go.S9
