/- A part of the proof of TribunalBack. -/
import Derived.Test.YtmmghibnfjfnbaaGreatDoorBAo
set_option linter.unusedVariables false
set_option linter.unusedSimpArgs false
namespace Go.S9
open Go.Ev Go.Proofs Go.RowKit
set_option maxRecDepth 100000
set_option linter.unusedVariables false
set_option linter.unusedSimpArgs false
variable {K : GP} {H : Hp} {k : AV → Bool}
set_option maxHeartbeats 8000000 in
theorem parse9_0 {text:Str} (hl:text.length≤900) (hk:kindE ((wd 32 text).getD 0 [])=0):CQ P (G K) 9 [.str text] (·=ps9 (readA text) text):=by
 have f1:(kindE ((wd 32 text).getD 0 [])=1)=False:=eq_false (by omega)
 have f2:(kindE ((wd 32 text).getD 0 [])=2)=False:=eq_false (by omega)
 have f3:(kindE ((wd 32 text).getD 0 [])=3)=False:=eq_false (by omega)
 have f4:(kindE ((wd 32 text).getD 0 [])=4)=False:=eq_false (by omega)
 have f5:(kindE ((wd 32 text).getD 0 [])=5)=False:=eq_false (by omega)
 have f6:(kindE ((wd 32 text).getD 0 [])=6)=False:=eq_false (by omega)
 have f7:(kindE ((wd 32 text).getD 0 [])=7)=False:=eq_false (by omega)
 have f8:(kindE ((wd 32 text).getD 0 [])=8)=False:=eq_false (by omega)
 have hX:readA text=⟨kindE ((wd 32 text).getD 0 []),numE ((wd 32 text).getD 1 []),0,[],0,0,0,0,0,0⟩:=by simp only [readA,readE,f1,f2,f3,f4,f5,f6,f7,f8,reduceIte,or_true,true_or,or_false,false_or,or_self]
 have w1:((wd 32 text).getD 1 []).length≤1048576:=Nat.le_trans (wd_get 1) (by omega)
 have w2:((wd 32 text).getD 2 []).length≤1048576:=Nat.le_trans (wd_get 2) (by omega)
 have w3:((wd 32 text).getD 3 []).length≤1048576:=Nat.le_trans (wd_get 3) (by omega)
 have w4:((wd 32 text).getD 4 []).length≤1048576:=Nat.le_trans (wd_get 4) (by omega)
 have wl:=(wd_len (c:=32) (s:=text)).1
 obtain⟨L,hL⟩:=pad5 (wd 32 text)
 rw [hX]
 refine CQ.enter (hG K) ?_
 (try simp (disch:=first|exact bk rfl|omega|(simp only [ln];omega)|(simp only [go_sem];done)|decide) only [go_sem,Nat.reduceAdd,Nat.reduceMul,Nat.reduceEqDiff,Nat.reduceLT,Nat.reduceLeDiff,reduceIte,h9]);repeat' first|((with_reducible first|apply gJoin_split|apply cond_split|apply gJoinD_split)<;>intro h<;>(try simp only [spl] at h)<;>try simp (disch:=first|exact bk rfl|omega|(simp only [ln];omega)|(simp only [go_sem];done)|decide) only [go_sem,Nat.reduceAdd,Nat.reduceMul,Nat.reduceEqDiff,Nat.reduceLT,Nat.reduceLeDiff,reduceIte,h9,h])
 refine cl_entry (split30_e (by omega)) rfl ?_
 rw [al_str (by omega)]
 (try simp (disch:=first|exact bk rfl|omega|(simp only [ln];omega)|(simp only [go_sem];done)|decide) only [go_sem,Nat.reduceAdd,Nat.reduceMul,Nat.reduceEqDiff,Nat.reduceLT,Nat.reduceLeDiff,reduceIte,bs58_5]);repeat' first|((with_reducible first|apply gJoin_split|apply cond_split|apply gJoinD_split)<;>intro h<;>(try simp only [spl] at h)<;>try simp (disch:=first|exact bk rfl|omega|(simp only [ln];omega)|(simp only [go_sem];done)|decide) only [go_sem,Nat.reduceAdd,Nat.reduceMul,Nat.reduceEqDiff,Nat.reduceLT,Nat.reduceLeDiff,reduceIte,bs58_5,h])
 refine app58n_t (el2:=some 9) (ro2:=false) (cs:=(wd 32 text).map AV.str) (ds:=[.str [], .str [], .str [], .str [], .str []]) (m:=5) (by (simp (disch:=first|exact bk rfl|omega|(simp only [ln];omega)|(simp only [go_sem];done)|decide) only [go_sem,Nat.reduceAdd,Nat.reduceMul,Nat.reduceEqDiff,Nat.reduceLT,Nat.reduceLeDiff,reduceIte]<;>first|rfl|omega)) (by (simp (disch:=first|exact bk rfl|omega|(simp only [ln];omega)|(simp only [go_sem];done)|decide) only [go_sem,Nat.reduceAdd,Nat.reduceMul,Nat.reduceEqDiff,Nat.reduceLT,Nat.reduceLeDiff,reduceIte]<;>first|rfl|omega)) (by simp) rfl (by decide) (by omega) (by decide) rfl ?_
 rw [hL]
 (try simp (disch:=first|exact bk rfl|omega|(simp only [ln];omega)|(simp only [go_sem];done)|decide) only [go_sem,Nat.reduceAdd,Nat.reduceMul,Nat.reduceEqDiff,Nat.reduceLT,Nat.reduceLeDiff,reduceIte,h9,r9,h9_1,ixp0,ixp1,ixp2,ixp3,ixp4,maxk,namesD,ofD,get_mk,f1,f2,f3,f4,f5,f6,f7,f8]);repeat' first|((with_reducible first|apply gJoin_split|apply cond_split|apply gJoinD_split)<;>intro h<;>(try simp only [spl] at h)<;>try simp (disch:=first|exact bk rfl|omega|(simp only [ln];omega)|(simp only [go_sem];done)|decide) only [go_sem,Nat.reduceAdd,Nat.reduceMul,Nat.reduceEqDiff,Nat.reduceLT,Nat.reduceLeDiff,reduceIte,h9,r9,h9_1,ixp0,ixp1,ixp2,ixp3,ixp4,maxk,namesD,ofD,get_mk,f1,f2,f3,f4,f5,f6,f7,f8,h])|((with_reducible refine cl_guard ?_;first|refine cl_eq (hG K) _ (words26_c) rfl ?_|refine cl_eq (hG K) _ (index31_c names namesD names_sl (by decide) _) rfl ?_|refine cl_eq (hG K) _ (number32_c w1) rfl ?_)<;>try simp (disch:=first|exact bk rfl|omega|(simp only [ln];omega)|(simp only [go_sem];done)|decide) only [go_sem,Nat.reduceAdd,Nat.reduceMul,Nat.reduceEqDiff,Nat.reduceLT,Nat.reduceLeDiff,reduceIte,h9,r9,h9_1,ixp0,ixp1,ixp2,ixp3,ixp4,maxk,namesD,ofD,get_mk,f1,f2,f3,f4,f5,f6,f7,f8])
 refine tail9 (q:=⟨kindE ((wd 32 text).getD 0 []),numE ((wd 32 text).getD 1 []),0,[],0,0,0,0,0,0⟩) (text:=text) (b:=4) (b1:=0) ?_ ?_ ?_ ?_ ?_ ?_ ?_
 ·(simp (disch:=first|exact bk rfl|omega|(simp only [ln];omega)|(simp only [go_sem];done)|decide) only [go_sem,Nat.reduceAdd,Nat.reduceMul,Nat.reduceEqDiff,Nat.reduceLT,Nat.reduceLeDiff,reduceIte]<;>first|rfl|omega)
 ·(simp (disch:=first|exact bk rfl|omega|(simp only [ln];omega)|(simp only [go_sem];done)|decide) only [go_sem,Nat.reduceAdd,Nat.reduceMul,Nat.reduceEqDiff,Nat.reduceLT,Nat.reduceLeDiff,reduceIte]<;>first|rfl|omega)
 ·(simp (disch:=first|exact bk rfl|omega|(simp only [ln];omega)|(simp only [go_sem];done)|decide) only [go_sem,Nat.reduceAdd,Nat.reduceMul,Nat.reduceEqDiff,Nat.reduceLT,Nat.reduceLeDiff,reduceIte]<;>first|rfl|omega)
 ·(simp (disch:=first|exact bk rfl|omega|(simp only [ln];omega)|(simp only [go_sem];done)|decide) only [go_sem,Nat.reduceAdd,Nat.reduceMul,Nat.reduceEqDiff,Nat.reduceLT,Nat.reduceLeDiff,reduceIte,aQ,get_mk]<;>first|rfl|omega)
 ·(simp (disch:=first|exact bk rfl|omega|(simp only [ln];omega)|(simp only [go_sem];done)|decide) only [go_sem,Nat.reduceAdd,Nat.reduceMul,Nat.reduceEqDiff,Nat.reduceLT,Nat.reduceLeDiff,reduceIte,aQ,zQ,get_mk]<;>first|rfl|omega)
 ·simp
 ·first | exact Nat.zero_le _ | exact Nat.le_trans w3 (by decide)
set_option maxHeartbeats 8000000 in
theorem parse9_1 {text:Str} (hl:text.length≤900) (hk:kindE ((wd 32 text).getD 0 [])=1):CQ P (G K) 9 [.str text] (·=ps9 (readA text) text):=by
 have f1:(kindE ((wd 32 text).getD 0 [])=1)=True:=eq_true hk
 have hX:readA text=⟨kindE ((wd 32 text).getD 0 []),numE ((wd 32 text).getD 1 []),numE ((wd 32 text).getD 2 []),[],0,0,0,0,0,0⟩:=by simp only [readA,readE,f1,reduceIte,or_true,true_or,or_false,false_or,or_self]
 have w1:((wd 32 text).getD 1 []).length≤1048576:=Nat.le_trans (wd_get 1) (by omega)
 have w2:((wd 32 text).getD 2 []).length≤1048576:=Nat.le_trans (wd_get 2) (by omega)
 have w3:((wd 32 text).getD 3 []).length≤1048576:=Nat.le_trans (wd_get 3) (by omega)
 have w4:((wd 32 text).getD 4 []).length≤1048576:=Nat.le_trans (wd_get 4) (by omega)
 have wl:=(wd_len (c:=32) (s:=text)).1
 obtain⟨L,hL⟩:=pad5 (wd 32 text)
 rw [hX]
 refine CQ.enter (hG K) ?_
 (try simp (disch:=first|exact bk rfl|omega|(simp only [ln];omega)|(simp only [go_sem];done)|decide) only [go_sem,Nat.reduceAdd,Nat.reduceMul,Nat.reduceEqDiff,Nat.reduceLT,Nat.reduceLeDiff,reduceIte,h9]);repeat' first|((with_reducible first|apply gJoin_split|apply cond_split|apply gJoinD_split)<;>intro h<;>(try simp only [spl] at h)<;>try simp (disch:=first|exact bk rfl|omega|(simp only [ln];omega)|(simp only [go_sem];done)|decide) only [go_sem,Nat.reduceAdd,Nat.reduceMul,Nat.reduceEqDiff,Nat.reduceLT,Nat.reduceLeDiff,reduceIte,h9,h])
 refine cl_entry (split30_e (by omega)) rfl ?_
 rw [al_str (by omega)]
 (try simp (disch:=first|exact bk rfl|omega|(simp only [ln];omega)|(simp only [go_sem];done)|decide) only [go_sem,Nat.reduceAdd,Nat.reduceMul,Nat.reduceEqDiff,Nat.reduceLT,Nat.reduceLeDiff,reduceIte,bs58_5]);repeat' first|((with_reducible first|apply gJoin_split|apply cond_split|apply gJoinD_split)<;>intro h<;>(try simp only [spl] at h)<;>try simp (disch:=first|exact bk rfl|omega|(simp only [ln];omega)|(simp only [go_sem];done)|decide) only [go_sem,Nat.reduceAdd,Nat.reduceMul,Nat.reduceEqDiff,Nat.reduceLT,Nat.reduceLeDiff,reduceIte,bs58_5,h])
 refine app58n_t (el2:=some 9) (ro2:=false) (cs:=(wd 32 text).map AV.str) (ds:=[.str [], .str [], .str [], .str [], .str []]) (m:=5) (by (simp (disch:=first|exact bk rfl|omega|(simp only [ln];omega)|(simp only [go_sem];done)|decide) only [go_sem,Nat.reduceAdd,Nat.reduceMul,Nat.reduceEqDiff,Nat.reduceLT,Nat.reduceLeDiff,reduceIte]<;>first|rfl|omega)) (by (simp (disch:=first|exact bk rfl|omega|(simp only [ln];omega)|(simp only [go_sem];done)|decide) only [go_sem,Nat.reduceAdd,Nat.reduceMul,Nat.reduceEqDiff,Nat.reduceLT,Nat.reduceLeDiff,reduceIte]<;>first|rfl|omega)) (by simp) rfl (by decide) (by omega) (by decide) rfl ?_
 rw [hL]
 (try simp (disch:=first|exact bk rfl|omega|(simp only [ln];omega)|(simp only [go_sem];done)|decide) only [go_sem,Nat.reduceAdd,Nat.reduceMul,Nat.reduceEqDiff,Nat.reduceLT,Nat.reduceLeDiff,reduceIte,h9,r9,h9_1,ixp0,ixp1,ixp2,ixp3,ixp4,maxk,namesD,ofD,get_mk,f1]);repeat' first|((with_reducible first|apply gJoin_split|apply cond_split|apply gJoinD_split)<;>intro h<;>(try simp only [spl] at h)<;>try simp (disch:=first|exact bk rfl|omega|(simp only [ln];omega)|(simp only [go_sem];done)|decide) only [go_sem,Nat.reduceAdd,Nat.reduceMul,Nat.reduceEqDiff,Nat.reduceLT,Nat.reduceLeDiff,reduceIte,h9,r9,h9_1,ixp0,ixp1,ixp2,ixp3,ixp4,maxk,namesD,ofD,get_mk,f1,h])|((with_reducible refine cl_guard ?_;first|refine cl_eq (hG K) _ (words26_c) rfl ?_|refine cl_eq (hG K) _ (index31_c names namesD names_sl (by decide) _) rfl ?_|refine cl_eq (hG K) _ (number32_c w1) rfl ?_|refine cl_eq (hG K) _ (number32_c w2) rfl ?_)<;>try simp (disch:=first|exact bk rfl|omega|(simp only [ln];omega)|(simp only [go_sem];done)|decide) only [go_sem,Nat.reduceAdd,Nat.reduceMul,Nat.reduceEqDiff,Nat.reduceLT,Nat.reduceLeDiff,reduceIte,h9,r9,h9_1,ixp0,ixp1,ixp2,ixp3,ixp4,maxk,namesD,ofD,get_mk,f1])
 refine tail9 (q:=⟨kindE ((wd 32 text).getD 0 []),numE ((wd 32 text).getD 1 []),numE ((wd 32 text).getD 2 []),[],0,0,0,0,0,0⟩) (text:=text) (b:=4) (b1:=0) ?_ ?_ ?_ ?_ ?_ ?_ ?_
 ·(simp (disch:=first|exact bk rfl|omega|(simp only [ln];omega)|(simp only [go_sem];done)|decide) only [go_sem,Nat.reduceAdd,Nat.reduceMul,Nat.reduceEqDiff,Nat.reduceLT,Nat.reduceLeDiff,reduceIte]<;>first|rfl|omega)
 ·(simp (disch:=first|exact bk rfl|omega|(simp only [ln];omega)|(simp only [go_sem];done)|decide) only [go_sem,Nat.reduceAdd,Nat.reduceMul,Nat.reduceEqDiff,Nat.reduceLT,Nat.reduceLeDiff,reduceIte]<;>first|rfl|omega)
 ·(simp (disch:=first|exact bk rfl|omega|(simp only [ln];omega)|(simp only [go_sem];done)|decide) only [go_sem,Nat.reduceAdd,Nat.reduceMul,Nat.reduceEqDiff,Nat.reduceLT,Nat.reduceLeDiff,reduceIte]<;>first|rfl|omega)
 ·(simp (disch:=first|exact bk rfl|omega|(simp only [ln];omega)|(simp only [go_sem];done)|decide) only [go_sem,Nat.reduceAdd,Nat.reduceMul,Nat.reduceEqDiff,Nat.reduceLT,Nat.reduceLeDiff,reduceIte,aQ,get_mk]<;>first|rfl|omega)
 ·(simp (disch:=first|exact bk rfl|omega|(simp only [ln];omega)|(simp only [go_sem];done)|decide) only [go_sem,Nat.reduceAdd,Nat.reduceMul,Nat.reduceEqDiff,Nat.reduceLT,Nat.reduceLeDiff,reduceIte,aQ,zQ,get_mk]<;>first|rfl|omega)
 ·simp
 ·first | exact Nat.zero_le _ | exact Nat.le_trans w3 (by decide)
set_option maxHeartbeats 8000000 in
theorem parse9_2 {text:Str} (hl:text.length≤900) (hk:kindE ((wd 32 text).getD 0 [])=2):CQ P (G K) 9 [.str text] (·=ps9 (readA text) text):=by
 have f1:(kindE ((wd 32 text).getD 0 [])=1)=False:=eq_false (by omega)
 have f2:(kindE ((wd 32 text).getD 0 [])=2)=True:=eq_true hk
 have hX:readA text=⟨kindE ((wd 32 text).getD 0 []),numE ((wd 32 text).getD 1 []),numE ((wd 32 text).getD 2 []),((wd 32 text).getD 3 []),0,0,0,0,0,0⟩:=by simp only [readA,readE,f1,f2,reduceIte,or_true,true_or,or_false,false_or,or_self]
 have w1:((wd 32 text).getD 1 []).length≤1048576:=Nat.le_trans (wd_get 1) (by omega)
 have w2:((wd 32 text).getD 2 []).length≤1048576:=Nat.le_trans (wd_get 2) (by omega)
 have w3:((wd 32 text).getD 3 []).length≤1048576:=Nat.le_trans (wd_get 3) (by omega)
 have w4:((wd 32 text).getD 4 []).length≤1048576:=Nat.le_trans (wd_get 4) (by omega)
 have wl:=(wd_len (c:=32) (s:=text)).1
 obtain⟨L,hL⟩:=pad5 (wd 32 text)
 rw [hX]
 refine CQ.enter (hG K) ?_
 (try simp (disch:=first|exact bk rfl|omega|(simp only [ln];omega)|(simp only [go_sem];done)|decide) only [go_sem,Nat.reduceAdd,Nat.reduceMul,Nat.reduceEqDiff,Nat.reduceLT,Nat.reduceLeDiff,reduceIte,h9]);repeat' first|((with_reducible first|apply gJoin_split|apply cond_split|apply gJoinD_split)<;>intro h<;>(try simp only [spl] at h)<;>try simp (disch:=first|exact bk rfl|omega|(simp only [ln];omega)|(simp only [go_sem];done)|decide) only [go_sem,Nat.reduceAdd,Nat.reduceMul,Nat.reduceEqDiff,Nat.reduceLT,Nat.reduceLeDiff,reduceIte,h9,h])
 refine cl_entry (split30_e (by omega)) rfl ?_
 rw [al_str (by omega)]
 (try simp (disch:=first|exact bk rfl|omega|(simp only [ln];omega)|(simp only [go_sem];done)|decide) only [go_sem,Nat.reduceAdd,Nat.reduceMul,Nat.reduceEqDiff,Nat.reduceLT,Nat.reduceLeDiff,reduceIte,bs58_5]);repeat' first|((with_reducible first|apply gJoin_split|apply cond_split|apply gJoinD_split)<;>intro h<;>(try simp only [spl] at h)<;>try simp (disch:=first|exact bk rfl|omega|(simp only [ln];omega)|(simp only [go_sem];done)|decide) only [go_sem,Nat.reduceAdd,Nat.reduceMul,Nat.reduceEqDiff,Nat.reduceLT,Nat.reduceLeDiff,reduceIte,bs58_5,h])
 refine app58n_t (el2:=some 9) (ro2:=false) (cs:=(wd 32 text).map AV.str) (ds:=[.str [], .str [], .str [], .str [], .str []]) (m:=5) (by (simp (disch:=first|exact bk rfl|omega|(simp only [ln];omega)|(simp only [go_sem];done)|decide) only [go_sem,Nat.reduceAdd,Nat.reduceMul,Nat.reduceEqDiff,Nat.reduceLT,Nat.reduceLeDiff,reduceIte]<;>first|rfl|omega)) (by (simp (disch:=first|exact bk rfl|omega|(simp only [ln];omega)|(simp only [go_sem];done)|decide) only [go_sem,Nat.reduceAdd,Nat.reduceMul,Nat.reduceEqDiff,Nat.reduceLT,Nat.reduceLeDiff,reduceIte]<;>first|rfl|omega)) (by simp) rfl (by decide) (by omega) (by decide) rfl ?_
 rw [hL]
 (try simp (disch:=first|exact bk rfl|omega|(simp only [ln];omega)|(simp only [go_sem];done)|decide) only [go_sem,Nat.reduceAdd,Nat.reduceMul,Nat.reduceEqDiff,Nat.reduceLT,Nat.reduceLeDiff,reduceIte,h9,r9,h9_1,ixp0,ixp1,ixp2,ixp3,ixp4,maxk,namesD,ofD,get_mk,f1,f2]);repeat' first|((with_reducible first|apply gJoin_split|apply cond_split|apply gJoinD_split)<;>intro h<;>(try simp only [spl] at h)<;>try simp (disch:=first|exact bk rfl|omega|(simp only [ln];omega)|(simp only [go_sem];done)|decide) only [go_sem,Nat.reduceAdd,Nat.reduceMul,Nat.reduceEqDiff,Nat.reduceLT,Nat.reduceLeDiff,reduceIte,h9,r9,h9_1,ixp0,ixp1,ixp2,ixp3,ixp4,maxk,namesD,ofD,get_mk,f1,f2,h])|((with_reducible refine cl_guard ?_;first|refine cl_eq (hG K) _ (words26_c) rfl ?_|refine cl_eq (hG K) _ (index31_c names namesD names_sl (by decide) _) rfl ?_|refine cl_eq (hG K) _ (number32_c w1) rfl ?_|refine cl_eq (hG K) _ (number32_c w2) rfl ?_)<;>try simp (disch:=first|exact bk rfl|omega|(simp only [ln];omega)|(simp only [go_sem];done)|decide) only [go_sem,Nat.reduceAdd,Nat.reduceMul,Nat.reduceEqDiff,Nat.reduceLT,Nat.reduceLeDiff,reduceIte,h9,r9,h9_1,ixp0,ixp1,ixp2,ixp3,ixp4,maxk,namesD,ofD,get_mk,f1,f2])
 refine tail9 (q:=⟨kindE ((wd 32 text).getD 0 []),numE ((wd 32 text).getD 1 []),numE ((wd 32 text).getD 2 []),((wd 32 text).getD 3 []),0,0,0,0,0,0⟩) (text:=text) (b:=4) (b1:=0) ?_ ?_ ?_ ?_ ?_ ?_ ?_
 ·(simp (disch:=first|exact bk rfl|omega|(simp only [ln];omega)|(simp only [go_sem];done)|decide) only [go_sem,Nat.reduceAdd,Nat.reduceMul,Nat.reduceEqDiff,Nat.reduceLT,Nat.reduceLeDiff,reduceIte]<;>first|rfl|omega)
 ·(simp (disch:=first|exact bk rfl|omega|(simp only [ln];omega)|(simp only [go_sem];done)|decide) only [go_sem,Nat.reduceAdd,Nat.reduceMul,Nat.reduceEqDiff,Nat.reduceLT,Nat.reduceLeDiff,reduceIte]<;>first|rfl|omega)
 ·(simp (disch:=first|exact bk rfl|omega|(simp only [ln];omega)|(simp only [go_sem];done)|decide) only [go_sem,Nat.reduceAdd,Nat.reduceMul,Nat.reduceEqDiff,Nat.reduceLT,Nat.reduceLeDiff,reduceIte]<;>first|rfl|omega)
 ·(simp (disch:=first|exact bk rfl|omega|(simp only [ln];omega)|(simp only [go_sem];done)|decide) only [go_sem,Nat.reduceAdd,Nat.reduceMul,Nat.reduceEqDiff,Nat.reduceLT,Nat.reduceLeDiff,reduceIte,aQ,get_mk]<;>first|rfl|omega)
 ·(simp (disch:=first|exact bk rfl|omega|(simp only [ln];omega)|(simp only [go_sem];done)|decide) only [go_sem,Nat.reduceAdd,Nat.reduceMul,Nat.reduceEqDiff,Nat.reduceLT,Nat.reduceLeDiff,reduceIte,aQ,zQ,get_mk]<;>first|rfl|omega)
 ·simp
 ·first | exact Nat.zero_le _ | exact Nat.le_trans w3 (by decide)
set_option maxHeartbeats 8000000 in
theorem parse9_3 {text:Str} (hl:text.length≤900) (hk:kindE ((wd 32 text).getD 0 [])=3):CQ P (G K) 9 [.str text] (·=ps9 (readA text) text):=by
 have f1:(kindE ((wd 32 text).getD 0 [])=1)=False:=eq_false (by omega)
 have f2:(kindE ((wd 32 text).getD 0 [])=2)=False:=eq_false (by omega)
 have f3:(kindE ((wd 32 text).getD 0 [])=3)=True:=eq_true hk
 have hX:readA text=⟨kindE ((wd 32 text).getD 0 []),numE ((wd 32 text).getD 1 []),numE ((wd 32 text).getD 2 []),((wd 32 text).getD 3 []),0,0,0,0,0,0⟩:=by simp only [readA,readE,f1,f2,f3,reduceIte,or_true,true_or,or_false,false_or,or_self]
 have w1:((wd 32 text).getD 1 []).length≤1048576:=Nat.le_trans (wd_get 1) (by omega)
 have w2:((wd 32 text).getD 2 []).length≤1048576:=Nat.le_trans (wd_get 2) (by omega)
 have w3:((wd 32 text).getD 3 []).length≤1048576:=Nat.le_trans (wd_get 3) (by omega)
 have w4:((wd 32 text).getD 4 []).length≤1048576:=Nat.le_trans (wd_get 4) (by omega)
 have wl:=(wd_len (c:=32) (s:=text)).1
 obtain⟨L,hL⟩:=pad5 (wd 32 text)
 rw [hX]
 refine CQ.enter (hG K) ?_
 (try simp (disch:=first|exact bk rfl|omega|(simp only [ln];omega)|(simp only [go_sem];done)|decide) only [go_sem,Nat.reduceAdd,Nat.reduceMul,Nat.reduceEqDiff,Nat.reduceLT,Nat.reduceLeDiff,reduceIte,h9]);repeat' first|((with_reducible first|apply gJoin_split|apply cond_split|apply gJoinD_split)<;>intro h<;>(try simp only [spl] at h)<;>try simp (disch:=first|exact bk rfl|omega|(simp only [ln];omega)|(simp only [go_sem];done)|decide) only [go_sem,Nat.reduceAdd,Nat.reduceMul,Nat.reduceEqDiff,Nat.reduceLT,Nat.reduceLeDiff,reduceIte,h9,h])
 refine cl_entry (split30_e (by omega)) rfl ?_
 rw [al_str (by omega)]
 (try simp (disch:=first|exact bk rfl|omega|(simp only [ln];omega)|(simp only [go_sem];done)|decide) only [go_sem,Nat.reduceAdd,Nat.reduceMul,Nat.reduceEqDiff,Nat.reduceLT,Nat.reduceLeDiff,reduceIte,bs58_5]);repeat' first|((with_reducible first|apply gJoin_split|apply cond_split|apply gJoinD_split)<;>intro h<;>(try simp only [spl] at h)<;>try simp (disch:=first|exact bk rfl|omega|(simp only [ln];omega)|(simp only [go_sem];done)|decide) only [go_sem,Nat.reduceAdd,Nat.reduceMul,Nat.reduceEqDiff,Nat.reduceLT,Nat.reduceLeDiff,reduceIte,bs58_5,h])
 refine app58n_t (el2:=some 9) (ro2:=false) (cs:=(wd 32 text).map AV.str) (ds:=[.str [], .str [], .str [], .str [], .str []]) (m:=5) (by (simp (disch:=first|exact bk rfl|omega|(simp only [ln];omega)|(simp only [go_sem];done)|decide) only [go_sem,Nat.reduceAdd,Nat.reduceMul,Nat.reduceEqDiff,Nat.reduceLT,Nat.reduceLeDiff,reduceIte]<;>first|rfl|omega)) (by (simp (disch:=first|exact bk rfl|omega|(simp only [ln];omega)|(simp only [go_sem];done)|decide) only [go_sem,Nat.reduceAdd,Nat.reduceMul,Nat.reduceEqDiff,Nat.reduceLT,Nat.reduceLeDiff,reduceIte]<;>first|rfl|omega)) (by simp) rfl (by decide) (by omega) (by decide) rfl ?_
 rw [hL]
 (try simp (disch:=first|exact bk rfl|omega|(simp only [ln];omega)|(simp only [go_sem];done)|decide) only [go_sem,Nat.reduceAdd,Nat.reduceMul,Nat.reduceEqDiff,Nat.reduceLT,Nat.reduceLeDiff,reduceIte,h9,r9,h9_1,ixp0,ixp1,ixp2,ixp3,ixp4,maxk,namesD,ofD,get_mk,f1,f2,f3]);repeat' first|((with_reducible first|apply gJoin_split|apply cond_split|apply gJoinD_split)<;>intro h<;>(try simp only [spl] at h)<;>try simp (disch:=first|exact bk rfl|omega|(simp only [ln];omega)|(simp only [go_sem];done)|decide) only [go_sem,Nat.reduceAdd,Nat.reduceMul,Nat.reduceEqDiff,Nat.reduceLT,Nat.reduceLeDiff,reduceIte,h9,r9,h9_1,ixp0,ixp1,ixp2,ixp3,ixp4,maxk,namesD,ofD,get_mk,f1,f2,f3,h])|((with_reducible refine cl_guard ?_;first|refine cl_eq (hG K) _ (words26_c) rfl ?_|refine cl_eq (hG K) _ (index31_c names namesD names_sl (by decide) _) rfl ?_|refine cl_eq (hG K) _ (number32_c w1) rfl ?_|refine cl_eq (hG K) _ (number32_c w2) rfl ?_)<;>try simp (disch:=first|exact bk rfl|omega|(simp only [ln];omega)|(simp only [go_sem];done)|decide) only [go_sem,Nat.reduceAdd,Nat.reduceMul,Nat.reduceEqDiff,Nat.reduceLT,Nat.reduceLeDiff,reduceIte,h9,r9,h9_1,ixp0,ixp1,ixp2,ixp3,ixp4,maxk,namesD,ofD,get_mk,f1,f2,f3])
 refine tail9 (q:=⟨kindE ((wd 32 text).getD 0 []),numE ((wd 32 text).getD 1 []),numE ((wd 32 text).getD 2 []),((wd 32 text).getD 3 []),0,0,0,0,0,0⟩) (text:=text) (b:=4) (b1:=0) ?_ ?_ ?_ ?_ ?_ ?_ ?_
 ·(simp (disch:=first|exact bk rfl|omega|(simp only [ln];omega)|(simp only [go_sem];done)|decide) only [go_sem,Nat.reduceAdd,Nat.reduceMul,Nat.reduceEqDiff,Nat.reduceLT,Nat.reduceLeDiff,reduceIte]<;>first|rfl|omega)
 ·(simp (disch:=first|exact bk rfl|omega|(simp only [ln];omega)|(simp only [go_sem];done)|decide) only [go_sem,Nat.reduceAdd,Nat.reduceMul,Nat.reduceEqDiff,Nat.reduceLT,Nat.reduceLeDiff,reduceIte]<;>first|rfl|omega)
 ·(simp (disch:=first|exact bk rfl|omega|(simp only [ln];omega)|(simp only [go_sem];done)|decide) only [go_sem,Nat.reduceAdd,Nat.reduceMul,Nat.reduceEqDiff,Nat.reduceLT,Nat.reduceLeDiff,reduceIte]<;>first|rfl|omega)
 ·(simp (disch:=first|exact bk rfl|omega|(simp only [ln];omega)|(simp only [go_sem];done)|decide) only [go_sem,Nat.reduceAdd,Nat.reduceMul,Nat.reduceEqDiff,Nat.reduceLT,Nat.reduceLeDiff,reduceIte,aQ,get_mk]<;>first|rfl|omega)
 ·(simp (disch:=first|exact bk rfl|omega|(simp only [ln];omega)|(simp only [go_sem];done)|decide) only [go_sem,Nat.reduceAdd,Nat.reduceMul,Nat.reduceEqDiff,Nat.reduceLT,Nat.reduceLeDiff,reduceIte,aQ,zQ,get_mk]<;>first|rfl|omega)
 ·simp
 ·first | exact Nat.zero_le _ | exact Nat.le_trans w3 (by decide)
set_option maxHeartbeats 8000000 in
theorem parse9_4 {text:Str} (hl:text.length≤900) (hk:kindE ((wd 32 text).getD 0 [])=4):CQ P (G K) 9 [.str text] (·=ps9 (readA text) text):=by
 have f1:(kindE ((wd 32 text).getD 0 [])=1)=False:=eq_false (by omega)
 have f2:(kindE ((wd 32 text).getD 0 [])=2)=False:=eq_false (by omega)
 have f3:(kindE ((wd 32 text).getD 0 [])=3)=False:=eq_false (by omega)
 have f4:(kindE ((wd 32 text).getD 0 [])=4)=True:=eq_true hk
 have hX:readA text=⟨kindE ((wd 32 text).getD 0 []),numE ((wd 32 text).getD 1 []),numE ((wd 32 text).getD 2 []),((wd 32 text).getD 3 []),0,0,0,0,0,0⟩:=by simp only [readA,readE,f1,f2,f3,f4,reduceIte,or_true,true_or,or_false,false_or,or_self]
 have w1:((wd 32 text).getD 1 []).length≤1048576:=Nat.le_trans (wd_get 1) (by omega)
 have w2:((wd 32 text).getD 2 []).length≤1048576:=Nat.le_trans (wd_get 2) (by omega)
 have w3:((wd 32 text).getD 3 []).length≤1048576:=Nat.le_trans (wd_get 3) (by omega)
 have w4:((wd 32 text).getD 4 []).length≤1048576:=Nat.le_trans (wd_get 4) (by omega)
 have wl:=(wd_len (c:=32) (s:=text)).1
 obtain⟨L,hL⟩:=pad5 (wd 32 text)
 rw [hX]
 refine CQ.enter (hG K) ?_
 (try simp (disch:=first|exact bk rfl|omega|(simp only [ln];omega)|(simp only [go_sem];done)|decide) only [go_sem,Nat.reduceAdd,Nat.reduceMul,Nat.reduceEqDiff,Nat.reduceLT,Nat.reduceLeDiff,reduceIte,h9]);repeat' first|((with_reducible first|apply gJoin_split|apply cond_split|apply gJoinD_split)<;>intro h<;>(try simp only [spl] at h)<;>try simp (disch:=first|exact bk rfl|omega|(simp only [ln];omega)|(simp only [go_sem];done)|decide) only [go_sem,Nat.reduceAdd,Nat.reduceMul,Nat.reduceEqDiff,Nat.reduceLT,Nat.reduceLeDiff,reduceIte,h9,h])
 refine cl_entry (split30_e (by omega)) rfl ?_
 rw [al_str (by omega)]
 (try simp (disch:=first|exact bk rfl|omega|(simp only [ln];omega)|(simp only [go_sem];done)|decide) only [go_sem,Nat.reduceAdd,Nat.reduceMul,Nat.reduceEqDiff,Nat.reduceLT,Nat.reduceLeDiff,reduceIte,bs58_5]);repeat' first|((with_reducible first|apply gJoin_split|apply cond_split|apply gJoinD_split)<;>intro h<;>(try simp only [spl] at h)<;>try simp (disch:=first|exact bk rfl|omega|(simp only [ln];omega)|(simp only [go_sem];done)|decide) only [go_sem,Nat.reduceAdd,Nat.reduceMul,Nat.reduceEqDiff,Nat.reduceLT,Nat.reduceLeDiff,reduceIte,bs58_5,h])
 refine app58n_t (el2:=some 9) (ro2:=false) (cs:=(wd 32 text).map AV.str) (ds:=[.str [], .str [], .str [], .str [], .str []]) (m:=5) (by (simp (disch:=first|exact bk rfl|omega|(simp only [ln];omega)|(simp only [go_sem];done)|decide) only [go_sem,Nat.reduceAdd,Nat.reduceMul,Nat.reduceEqDiff,Nat.reduceLT,Nat.reduceLeDiff,reduceIte]<;>first|rfl|omega)) (by (simp (disch:=first|exact bk rfl|omega|(simp only [ln];omega)|(simp only [go_sem];done)|decide) only [go_sem,Nat.reduceAdd,Nat.reduceMul,Nat.reduceEqDiff,Nat.reduceLT,Nat.reduceLeDiff,reduceIte]<;>first|rfl|omega)) (by simp) rfl (by decide) (by omega) (by decide) rfl ?_
 rw [hL]
 (try simp (disch:=first|exact bk rfl|omega|(simp only [ln];omega)|(simp only [go_sem];done)|decide) only [go_sem,Nat.reduceAdd,Nat.reduceMul,Nat.reduceEqDiff,Nat.reduceLT,Nat.reduceLeDiff,reduceIte,h9,r9,h9_1,ixp0,ixp1,ixp2,ixp3,ixp4,maxk,namesD,ofD,get_mk,f1,f2,f3,f4]);repeat' first|((with_reducible first|apply gJoin_split|apply cond_split|apply gJoinD_split)<;>intro h<;>(try simp only [spl] at h)<;>try simp (disch:=first|exact bk rfl|omega|(simp only [ln];omega)|(simp only [go_sem];done)|decide) only [go_sem,Nat.reduceAdd,Nat.reduceMul,Nat.reduceEqDiff,Nat.reduceLT,Nat.reduceLeDiff,reduceIte,h9,r9,h9_1,ixp0,ixp1,ixp2,ixp3,ixp4,maxk,namesD,ofD,get_mk,f1,f2,f3,f4,h])|((with_reducible refine cl_guard ?_;first|refine cl_eq (hG K) _ (words26_c) rfl ?_|refine cl_eq (hG K) _ (index31_c names namesD names_sl (by decide) _) rfl ?_|refine cl_eq (hG K) _ (number32_c w1) rfl ?_|refine cl_eq (hG K) _ (number32_c w2) rfl ?_)<;>try simp (disch:=first|exact bk rfl|omega|(simp only [ln];omega)|(simp only [go_sem];done)|decide) only [go_sem,Nat.reduceAdd,Nat.reduceMul,Nat.reduceEqDiff,Nat.reduceLT,Nat.reduceLeDiff,reduceIte,h9,r9,h9_1,ixp0,ixp1,ixp2,ixp3,ixp4,maxk,namesD,ofD,get_mk,f1,f2,f3,f4])
 refine tail9 (q:=⟨kindE ((wd 32 text).getD 0 []),numE ((wd 32 text).getD 1 []),numE ((wd 32 text).getD 2 []),((wd 32 text).getD 3 []),0,0,0,0,0,0⟩) (text:=text) (b:=4) (b1:=0) ?_ ?_ ?_ ?_ ?_ ?_ ?_
 ·(simp (disch:=first|exact bk rfl|omega|(simp only [ln];omega)|(simp only [go_sem];done)|decide) only [go_sem,Nat.reduceAdd,Nat.reduceMul,Nat.reduceEqDiff,Nat.reduceLT,Nat.reduceLeDiff,reduceIte]<;>first|rfl|omega)
 ·(simp (disch:=first|exact bk rfl|omega|(simp only [ln];omega)|(simp only [go_sem];done)|decide) only [go_sem,Nat.reduceAdd,Nat.reduceMul,Nat.reduceEqDiff,Nat.reduceLT,Nat.reduceLeDiff,reduceIte]<;>first|rfl|omega)
 ·(simp (disch:=first|exact bk rfl|omega|(simp only [ln];omega)|(simp only [go_sem];done)|decide) only [go_sem,Nat.reduceAdd,Nat.reduceMul,Nat.reduceEqDiff,Nat.reduceLT,Nat.reduceLeDiff,reduceIte]<;>first|rfl|omega)
 ·(simp (disch:=first|exact bk rfl|omega|(simp only [ln];omega)|(simp only [go_sem];done)|decide) only [go_sem,Nat.reduceAdd,Nat.reduceMul,Nat.reduceEqDiff,Nat.reduceLT,Nat.reduceLeDiff,reduceIte,aQ,get_mk]<;>first|rfl|omega)
 ·(simp (disch:=first|exact bk rfl|omega|(simp only [ln];omega)|(simp only [go_sem];done)|decide) only [go_sem,Nat.reduceAdd,Nat.reduceMul,Nat.reduceEqDiff,Nat.reduceLT,Nat.reduceLeDiff,reduceIte,aQ,zQ,get_mk]<;>first|rfl|omega)
 ·simp
 ·first | exact Nat.zero_le _ | exact Nat.le_trans w3 (by decide)
set_option maxHeartbeats 8000000 in
theorem parse9_5 {text:Str} (hl:text.length≤900) (hk:kindE ((wd 32 text).getD 0 [])=5):CQ P (G K) 9 [.str text] (·=ps9 (readA text) text):=by
 have f1:(kindE ((wd 32 text).getD 0 [])=1)=False:=eq_false (by omega)
 have f2:(kindE ((wd 32 text).getD 0 [])=2)=False:=eq_false (by omega)
 have f3:(kindE ((wd 32 text).getD 0 [])=3)=False:=eq_false (by omega)
 have f4:(kindE ((wd 32 text).getD 0 [])=4)=False:=eq_false (by omega)
 have f5:(kindE ((wd 32 text).getD 0 [])=5)=True:=eq_true hk
 have hX:readA text=⟨kindE ((wd 32 text).getD 0 []),numE ((wd 32 text).getD 1 []),numE ((wd 32 text).getD 2 []),((wd 32 text).getD 3 []),(spE ((wd 32 text).getD 4 [])).1,(spE ((wd 32 text).getD 4 [])).2,0,0,0,0⟩:=by simp only [readA,readE,f1,f2,f3,f4,f5,reduceIte,or_true,true_or,or_false,false_or,or_self]
 have w1:((wd 32 text).getD 1 []).length≤1048576:=Nat.le_trans (wd_get 1) (by omega)
 have w2:((wd 32 text).getD 2 []).length≤1048576:=Nat.le_trans (wd_get 2) (by omega)
 have w3:((wd 32 text).getD 3 []).length≤1048576:=Nat.le_trans (wd_get 3) (by omega)
 have w4:((wd 32 text).getD 4 []).length≤1048576:=Nat.le_trans (wd_get 4) (by omega)
 have wl:=(wd_len (c:=32) (s:=text)).1
 obtain⟨L,hL⟩:=pad5 (wd 32 text)
 rw [hX]
 refine CQ.enter (hG K) ?_
 (try simp (disch:=first|exact bk rfl|omega|(simp only [ln];omega)|(simp only [go_sem];done)|decide) only [go_sem,Nat.reduceAdd,Nat.reduceMul,Nat.reduceEqDiff,Nat.reduceLT,Nat.reduceLeDiff,reduceIte,h9]);repeat' first|((with_reducible first|apply gJoin_split|apply cond_split|apply gJoinD_split)<;>intro h<;>(try simp only [spl] at h)<;>try simp (disch:=first|exact bk rfl|omega|(simp only [ln];omega)|(simp only [go_sem];done)|decide) only [go_sem,Nat.reduceAdd,Nat.reduceMul,Nat.reduceEqDiff,Nat.reduceLT,Nat.reduceLeDiff,reduceIte,h9,h])
 refine cl_entry (split30_e (by omega)) rfl ?_
 rw [al_str (by omega)]
 (try simp (disch:=first|exact bk rfl|omega|(simp only [ln];omega)|(simp only [go_sem];done)|decide) only [go_sem,Nat.reduceAdd,Nat.reduceMul,Nat.reduceEqDiff,Nat.reduceLT,Nat.reduceLeDiff,reduceIte,bs58_5]);repeat' first|((with_reducible first|apply gJoin_split|apply cond_split|apply gJoinD_split)<;>intro h<;>(try simp only [spl] at h)<;>try simp (disch:=first|exact bk rfl|omega|(simp only [ln];omega)|(simp only [go_sem];done)|decide) only [go_sem,Nat.reduceAdd,Nat.reduceMul,Nat.reduceEqDiff,Nat.reduceLT,Nat.reduceLeDiff,reduceIte,bs58_5,h])
 refine app58n_t (el2:=some 9) (ro2:=false) (cs:=(wd 32 text).map AV.str) (ds:=[.str [], .str [], .str [], .str [], .str []]) (m:=5) (by (simp (disch:=first|exact bk rfl|omega|(simp only [ln];omega)|(simp only [go_sem];done)|decide) only [go_sem,Nat.reduceAdd,Nat.reduceMul,Nat.reduceEqDiff,Nat.reduceLT,Nat.reduceLeDiff,reduceIte]<;>first|rfl|omega)) (by (simp (disch:=first|exact bk rfl|omega|(simp only [ln];omega)|(simp only [go_sem];done)|decide) only [go_sem,Nat.reduceAdd,Nat.reduceMul,Nat.reduceEqDiff,Nat.reduceLT,Nat.reduceLeDiff,reduceIte]<;>first|rfl|omega)) (by simp) rfl (by decide) (by omega) (by decide) rfl ?_
 rw [hL]
 (try simp (disch:=first|exact bk rfl|omega|(simp only [ln];omega)|(simp only [go_sem];done)|decide) only [go_sem,Nat.reduceAdd,Nat.reduceMul,Nat.reduceEqDiff,Nat.reduceLT,Nat.reduceLeDiff,reduceIte,h9,r9,h9_1,ixp0,ixp1,ixp2,ixp3,ixp4,maxk,namesD,ofD,get_mk,f1,f2,f3,f4,f5]);repeat' first|((with_reducible first|apply gJoin_split|apply cond_split|apply gJoinD_split)<;>intro h<;>(try simp only [spl] at h)<;>try simp (disch:=first|exact bk rfl|omega|(simp only [ln];omega)|(simp only [go_sem];done)|decide) only [go_sem,Nat.reduceAdd,Nat.reduceMul,Nat.reduceEqDiff,Nat.reduceLT,Nat.reduceLeDiff,reduceIte,h9,r9,h9_1,ixp0,ixp1,ixp2,ixp3,ixp4,maxk,namesD,ofD,get_mk,f1,f2,f3,f4,f5,h])|((with_reducible refine cl_guard ?_;first|refine cl_eq (hG K) _ (words26_c) rfl ?_|refine cl_eq (hG K) _ (index31_c names namesD names_sl (by decide) _) rfl ?_|refine cl_eq (hG K) _ (number32_c w1) rfl ?_|refine cl_eq (hG K) _ (number32_c w2) rfl ?_|refine cl_eq (hG K) _ (readSpan33_c w4) rfl ?_)<;>try simp (disch:=first|exact bk rfl|omega|(simp only [ln];omega)|(simp only [go_sem];done)|decide) only [go_sem,Nat.reduceAdd,Nat.reduceMul,Nat.reduceEqDiff,Nat.reduceLT,Nat.reduceLeDiff,reduceIte,h9,r9,h9_1,ixp0,ixp1,ixp2,ixp3,ixp4,maxk,namesD,ofD,get_mk,f1,f2,f3,f4,f5])
 refine tail9 (q:=⟨kindE ((wd 32 text).getD 0 []),numE ((wd 32 text).getD 1 []),numE ((wd 32 text).getD 2 []),((wd 32 text).getD 3 []),(spE ((wd 32 text).getD 4 [])).1,(spE ((wd 32 text).getD 4 [])).2,0,0,0,0⟩) (text:=text) (b:=4) (b1:=0) ?_ ?_ ?_ ?_ ?_ ?_ ?_
 ·(simp (disch:=first|exact bk rfl|omega|(simp only [ln];omega)|(simp only [go_sem];done)|decide) only [go_sem,Nat.reduceAdd,Nat.reduceMul,Nat.reduceEqDiff,Nat.reduceLT,Nat.reduceLeDiff,reduceIte]<;>first|rfl|omega)
 ·(simp (disch:=first|exact bk rfl|omega|(simp only [ln];omega)|(simp only [go_sem];done)|decide) only [go_sem,Nat.reduceAdd,Nat.reduceMul,Nat.reduceEqDiff,Nat.reduceLT,Nat.reduceLeDiff,reduceIte]<;>first|rfl|omega)
 ·(simp (disch:=first|exact bk rfl|omega|(simp only [ln];omega)|(simp only [go_sem];done)|decide) only [go_sem,Nat.reduceAdd,Nat.reduceMul,Nat.reduceEqDiff,Nat.reduceLT,Nat.reduceLeDiff,reduceIte]<;>first|rfl|omega)
 ·(simp (disch:=first|exact bk rfl|omega|(simp only [ln];omega)|(simp only [go_sem];done)|decide) only [go_sem,Nat.reduceAdd,Nat.reduceMul,Nat.reduceEqDiff,Nat.reduceLT,Nat.reduceLeDiff,reduceIte,aQ,get_mk]<;>first|rfl|omega)
 ·(simp (disch:=first|exact bk rfl|omega|(simp only [ln];omega)|(simp only [go_sem];done)|decide) only [go_sem,Nat.reduceAdd,Nat.reduceMul,Nat.reduceEqDiff,Nat.reduceLT,Nat.reduceLeDiff,reduceIte,aQ,zQ,get_mk]<;>first|rfl|omega)
 ·simp
 ·first | exact Nat.zero_le _ | exact Nat.le_trans w3 (by decide)
set_option maxHeartbeats 8000000 in
theorem parse9_6 {text:Str} (hl:text.length≤900) (hk:kindE ((wd 32 text).getD 0 [])=6):CQ P (G K) 9 [.str text] (·=ps9 (readA text) text):=by
 have f1:(kindE ((wd 32 text).getD 0 [])=1)=False:=eq_false (by omega)
 have f2:(kindE ((wd 32 text).getD 0 [])=2)=False:=eq_false (by omega)
 have f3:(kindE ((wd 32 text).getD 0 [])=3)=False:=eq_false (by omega)
 have f4:(kindE ((wd 32 text).getD 0 [])=4)=False:=eq_false (by omega)
 have f5:(kindE ((wd 32 text).getD 0 [])=5)=False:=eq_false (by omega)
 have f6:(kindE ((wd 32 text).getD 0 [])=6)=True:=eq_true hk
 have hX:readA text=⟨kindE ((wd 32 text).getD 0 []),numE ((wd 32 text).getD 1 []),0,[],(spE ((wd 32 text).getD 3 [])).1,(spE ((wd 32 text).getD 3 [])).2,numE ((wd 32 text).getD 2 []),0,0,0⟩:=by simp only [readA,readE,f1,f2,f3,f4,f5,f6,reduceIte,or_true,true_or,or_false,false_or,or_self]
 have w1:((wd 32 text).getD 1 []).length≤1048576:=Nat.le_trans (wd_get 1) (by omega)
 have w2:((wd 32 text).getD 2 []).length≤1048576:=Nat.le_trans (wd_get 2) (by omega)
 have w3:((wd 32 text).getD 3 []).length≤1048576:=Nat.le_trans (wd_get 3) (by omega)
 have w4:((wd 32 text).getD 4 []).length≤1048576:=Nat.le_trans (wd_get 4) (by omega)
 have wl:=(wd_len (c:=32) (s:=text)).1
 obtain⟨L,hL⟩:=pad5 (wd 32 text)
 rw [hX]
 refine CQ.enter (hG K) ?_
 (try simp (disch:=first|exact bk rfl|omega|(simp only [ln];omega)|(simp only [go_sem];done)|decide) only [go_sem,Nat.reduceAdd,Nat.reduceMul,Nat.reduceEqDiff,Nat.reduceLT,Nat.reduceLeDiff,reduceIte,h9]);repeat' first|((with_reducible first|apply gJoin_split|apply cond_split|apply gJoinD_split)<;>intro h<;>(try simp only [spl] at h)<;>try simp (disch:=first|exact bk rfl|omega|(simp only [ln];omega)|(simp only [go_sem];done)|decide) only [go_sem,Nat.reduceAdd,Nat.reduceMul,Nat.reduceEqDiff,Nat.reduceLT,Nat.reduceLeDiff,reduceIte,h9,h])
 refine cl_entry (split30_e (by omega)) rfl ?_
 rw [al_str (by omega)]
 (try simp (disch:=first|exact bk rfl|omega|(simp only [ln];omega)|(simp only [go_sem];done)|decide) only [go_sem,Nat.reduceAdd,Nat.reduceMul,Nat.reduceEqDiff,Nat.reduceLT,Nat.reduceLeDiff,reduceIte,bs58_5]);repeat' first|((with_reducible first|apply gJoin_split|apply cond_split|apply gJoinD_split)<;>intro h<;>(try simp only [spl] at h)<;>try simp (disch:=first|exact bk rfl|omega|(simp only [ln];omega)|(simp only [go_sem];done)|decide) only [go_sem,Nat.reduceAdd,Nat.reduceMul,Nat.reduceEqDiff,Nat.reduceLT,Nat.reduceLeDiff,reduceIte,bs58_5,h])
 refine app58n_t (el2:=some 9) (ro2:=false) (cs:=(wd 32 text).map AV.str) (ds:=[.str [], .str [], .str [], .str [], .str []]) (m:=5) (by (simp (disch:=first|exact bk rfl|omega|(simp only [ln];omega)|(simp only [go_sem];done)|decide) only [go_sem,Nat.reduceAdd,Nat.reduceMul,Nat.reduceEqDiff,Nat.reduceLT,Nat.reduceLeDiff,reduceIte]<;>first|rfl|omega)) (by (simp (disch:=first|exact bk rfl|omega|(simp only [ln];omega)|(simp only [go_sem];done)|decide) only [go_sem,Nat.reduceAdd,Nat.reduceMul,Nat.reduceEqDiff,Nat.reduceLT,Nat.reduceLeDiff,reduceIte]<;>first|rfl|omega)) (by simp) rfl (by decide) (by omega) (by decide) rfl ?_
 rw [hL]
 (try simp (disch:=first|exact bk rfl|omega|(simp only [ln];omega)|(simp only [go_sem];done)|decide) only [go_sem,Nat.reduceAdd,Nat.reduceMul,Nat.reduceEqDiff,Nat.reduceLT,Nat.reduceLeDiff,reduceIte,h9,r9,h9_1,ixp0,ixp1,ixp2,ixp3,ixp4,maxk,namesD,ofD,get_mk,f1,f2,f3,f4,f5,f6]);repeat' first|((with_reducible first|apply gJoin_split|apply cond_split|apply gJoinD_split)<;>intro h<;>(try simp only [spl] at h)<;>try simp (disch:=first|exact bk rfl|omega|(simp only [ln];omega)|(simp only [go_sem];done)|decide) only [go_sem,Nat.reduceAdd,Nat.reduceMul,Nat.reduceEqDiff,Nat.reduceLT,Nat.reduceLeDiff,reduceIte,h9,r9,h9_1,ixp0,ixp1,ixp2,ixp3,ixp4,maxk,namesD,ofD,get_mk,f1,f2,f3,f4,f5,f6,h])|((with_reducible refine cl_guard ?_;first|refine cl_eq (hG K) _ (words26_c) rfl ?_|refine cl_eq (hG K) _ (index31_c names namesD names_sl (by decide) _) rfl ?_|refine cl_eq (hG K) _ (number32_c w1) rfl ?_|refine cl_eq (hG K) _ (number32_c w2) rfl ?_|refine cl_eq (hG K) _ (readSpan33_c w3) rfl ?_)<;>try simp (disch:=first|exact bk rfl|omega|(simp only [ln];omega)|(simp only [go_sem];done)|decide) only [go_sem,Nat.reduceAdd,Nat.reduceMul,Nat.reduceEqDiff,Nat.reduceLT,Nat.reduceLeDiff,reduceIte,h9,r9,h9_1,ixp0,ixp1,ixp2,ixp3,ixp4,maxk,namesD,ofD,get_mk,f1,f2,f3,f4,f5,f6])
 refine tail9 (q:=⟨kindE ((wd 32 text).getD 0 []),numE ((wd 32 text).getD 1 []),0,[],(spE ((wd 32 text).getD 3 [])).1,(spE ((wd 32 text).getD 3 [])).2,numE ((wd 32 text).getD 2 []),0,0,0⟩) (text:=text) (b:=4) (b1:=0) ?_ ?_ ?_ ?_ ?_ ?_ ?_
 ·(simp (disch:=first|exact bk rfl|omega|(simp only [ln];omega)|(simp only [go_sem];done)|decide) only [go_sem,Nat.reduceAdd,Nat.reduceMul,Nat.reduceEqDiff,Nat.reduceLT,Nat.reduceLeDiff,reduceIte]<;>first|rfl|omega)
 ·(simp (disch:=first|exact bk rfl|omega|(simp only [ln];omega)|(simp only [go_sem];done)|decide) only [go_sem,Nat.reduceAdd,Nat.reduceMul,Nat.reduceEqDiff,Nat.reduceLT,Nat.reduceLeDiff,reduceIte]<;>first|rfl|omega)
 ·(simp (disch:=first|exact bk rfl|omega|(simp only [ln];omega)|(simp only [go_sem];done)|decide) only [go_sem,Nat.reduceAdd,Nat.reduceMul,Nat.reduceEqDiff,Nat.reduceLT,Nat.reduceLeDiff,reduceIte]<;>first|rfl|omega)
 ·(simp (disch:=first|exact bk rfl|omega|(simp only [ln];omega)|(simp only [go_sem];done)|decide) only [go_sem,Nat.reduceAdd,Nat.reduceMul,Nat.reduceEqDiff,Nat.reduceLT,Nat.reduceLeDiff,reduceIte,aQ,get_mk]<;>first|rfl|omega)
 ·(simp (disch:=first|exact bk rfl|omega|(simp only [ln];omega)|(simp only [go_sem];done)|decide) only [go_sem,Nat.reduceAdd,Nat.reduceMul,Nat.reduceEqDiff,Nat.reduceLT,Nat.reduceLeDiff,reduceIte,aQ,zQ,get_mk]<;>first|rfl|omega)
 ·simp
 ·first | exact Nat.zero_le _ | exact Nat.le_trans w3 (by decide)
set_option maxHeartbeats 8000000 in
theorem parse9_7 {text:Str} (hl:text.length≤900) (hk:kindE ((wd 32 text).getD 0 [])=7):CQ P (G K) 9 [.str text] (·=ps9 (readA text) text):=by
 have f1:(kindE ((wd 32 text).getD 0 [])=1)=False:=eq_false (by omega)
 have f2:(kindE ((wd 32 text).getD 0 [])=2)=False:=eq_false (by omega)
 have f3:(kindE ((wd 32 text).getD 0 [])=3)=False:=eq_false (by omega)
 have f4:(kindE ((wd 32 text).getD 0 [])=4)=False:=eq_false (by omega)
 have f5:(kindE ((wd 32 text).getD 0 [])=5)=False:=eq_false (by omega)
 have f6:(kindE ((wd 32 text).getD 0 [])=6)=False:=eq_false (by omega)
 have f7:(kindE ((wd 32 text).getD 0 [])=7)=True:=eq_true hk
 have hX:readA text=⟨kindE ((wd 32 text).getD 0 []),numE ((wd 32 text).getD 1 []),0,[],(spE ((wd 32 text).getD 3 [])).1,(spE ((wd 32 text).getD 3 [])).2,0,numE ((wd 32 text).getD 2 []),0,0⟩:=by simp only [readA,readE,f1,f2,f3,f4,f5,f6,f7,reduceIte,or_true,true_or,or_false,false_or,or_self]
 have w1:((wd 32 text).getD 1 []).length≤1048576:=Nat.le_trans (wd_get 1) (by omega)
 have w2:((wd 32 text).getD 2 []).length≤1048576:=Nat.le_trans (wd_get 2) (by omega)
 have w3:((wd 32 text).getD 3 []).length≤1048576:=Nat.le_trans (wd_get 3) (by omega)
 have w4:((wd 32 text).getD 4 []).length≤1048576:=Nat.le_trans (wd_get 4) (by omega)
 have wl:=(wd_len (c:=32) (s:=text)).1
 obtain⟨L,hL⟩:=pad5 (wd 32 text)
 rw [hX]
 refine CQ.enter (hG K) ?_
 (try simp (disch:=first|exact bk rfl|omega|(simp only [ln];omega)|(simp only [go_sem];done)|decide) only [go_sem,Nat.reduceAdd,Nat.reduceMul,Nat.reduceEqDiff,Nat.reduceLT,Nat.reduceLeDiff,reduceIte,h9]);repeat' first|((with_reducible first|apply gJoin_split|apply cond_split|apply gJoinD_split)<;>intro h<;>(try simp only [spl] at h)<;>try simp (disch:=first|exact bk rfl|omega|(simp only [ln];omega)|(simp only [go_sem];done)|decide) only [go_sem,Nat.reduceAdd,Nat.reduceMul,Nat.reduceEqDiff,Nat.reduceLT,Nat.reduceLeDiff,reduceIte,h9,h])
 refine cl_entry (split30_e (by omega)) rfl ?_
 rw [al_str (by omega)]
 (try simp (disch:=first|exact bk rfl|omega|(simp only [ln];omega)|(simp only [go_sem];done)|decide) only [go_sem,Nat.reduceAdd,Nat.reduceMul,Nat.reduceEqDiff,Nat.reduceLT,Nat.reduceLeDiff,reduceIte,bs58_5]);repeat' first|((with_reducible first|apply gJoin_split|apply cond_split|apply gJoinD_split)<;>intro h<;>(try simp only [spl] at h)<;>try simp (disch:=first|exact bk rfl|omega|(simp only [ln];omega)|(simp only [go_sem];done)|decide) only [go_sem,Nat.reduceAdd,Nat.reduceMul,Nat.reduceEqDiff,Nat.reduceLT,Nat.reduceLeDiff,reduceIte,bs58_5,h])
 refine app58n_t (el2:=some 9) (ro2:=false) (cs:=(wd 32 text).map AV.str) (ds:=[.str [], .str [], .str [], .str [], .str []]) (m:=5) (by (simp (disch:=first|exact bk rfl|omega|(simp only [ln];omega)|(simp only [go_sem];done)|decide) only [go_sem,Nat.reduceAdd,Nat.reduceMul,Nat.reduceEqDiff,Nat.reduceLT,Nat.reduceLeDiff,reduceIte]<;>first|rfl|omega)) (by (simp (disch:=first|exact bk rfl|omega|(simp only [ln];omega)|(simp only [go_sem];done)|decide) only [go_sem,Nat.reduceAdd,Nat.reduceMul,Nat.reduceEqDiff,Nat.reduceLT,Nat.reduceLeDiff,reduceIte]<;>first|rfl|omega)) (by simp) rfl (by decide) (by omega) (by decide) rfl ?_
 rw [hL]
 (try simp (disch:=first|exact bk rfl|omega|(simp only [ln];omega)|(simp only [go_sem];done)|decide) only [go_sem,Nat.reduceAdd,Nat.reduceMul,Nat.reduceEqDiff,Nat.reduceLT,Nat.reduceLeDiff,reduceIte,h9,r9,h9_1,ixp0,ixp1,ixp2,ixp3,ixp4,maxk,namesD,ofD,get_mk,f1,f2,f3,f4,f5,f6,f7]);repeat' first|((with_reducible first|apply gJoin_split|apply cond_split|apply gJoinD_split)<;>intro h<;>(try simp only [spl] at h)<;>try simp (disch:=first|exact bk rfl|omega|(simp only [ln];omega)|(simp only [go_sem];done)|decide) only [go_sem,Nat.reduceAdd,Nat.reduceMul,Nat.reduceEqDiff,Nat.reduceLT,Nat.reduceLeDiff,reduceIte,h9,r9,h9_1,ixp0,ixp1,ixp2,ixp3,ixp4,maxk,namesD,ofD,get_mk,f1,f2,f3,f4,f5,f6,f7,h])|((with_reducible refine cl_guard ?_;first|refine cl_eq (hG K) _ (words26_c) rfl ?_|refine cl_eq (hG K) _ (index31_c names namesD names_sl (by decide) _) rfl ?_|refine cl_eq (hG K) _ (number32_c w1) rfl ?_|refine cl_eq (hG K) _ (number32_c w2) rfl ?_|refine cl_eq (hG K) _ (readSpan33_c w3) rfl ?_)<;>try simp (disch:=first|exact bk rfl|omega|(simp only [ln];omega)|(simp only [go_sem];done)|decide) only [go_sem,Nat.reduceAdd,Nat.reduceMul,Nat.reduceEqDiff,Nat.reduceLT,Nat.reduceLeDiff,reduceIte,h9,r9,h9_1,ixp0,ixp1,ixp2,ixp3,ixp4,maxk,namesD,ofD,get_mk,f1,f2,f3,f4,f5,f6,f7])
 refine tail9 (q:=⟨kindE ((wd 32 text).getD 0 []),numE ((wd 32 text).getD 1 []),0,[],(spE ((wd 32 text).getD 3 [])).1,(spE ((wd 32 text).getD 3 [])).2,0,numE ((wd 32 text).getD 2 []),0,0⟩) (text:=text) (b:=4) (b1:=0) ?_ ?_ ?_ ?_ ?_ ?_ ?_
 ·(simp (disch:=first|exact bk rfl|omega|(simp only [ln];omega)|(simp only [go_sem];done)|decide) only [go_sem,Nat.reduceAdd,Nat.reduceMul,Nat.reduceEqDiff,Nat.reduceLT,Nat.reduceLeDiff,reduceIte]<;>first|rfl|omega)
 ·(simp (disch:=first|exact bk rfl|omega|(simp only [ln];omega)|(simp only [go_sem];done)|decide) only [go_sem,Nat.reduceAdd,Nat.reduceMul,Nat.reduceEqDiff,Nat.reduceLT,Nat.reduceLeDiff,reduceIte]<;>first|rfl|omega)
 ·(simp (disch:=first|exact bk rfl|omega|(simp only [ln];omega)|(simp only [go_sem];done)|decide) only [go_sem,Nat.reduceAdd,Nat.reduceMul,Nat.reduceEqDiff,Nat.reduceLT,Nat.reduceLeDiff,reduceIte]<;>first|rfl|omega)
 ·(simp (disch:=first|exact bk rfl|omega|(simp only [ln];omega)|(simp only [go_sem];done)|decide) only [go_sem,Nat.reduceAdd,Nat.reduceMul,Nat.reduceEqDiff,Nat.reduceLT,Nat.reduceLeDiff,reduceIte,aQ,get_mk]<;>first|rfl|omega)
 ·(simp (disch:=first|exact bk rfl|omega|(simp only [ln];omega)|(simp only [go_sem];done)|decide) only [go_sem,Nat.reduceAdd,Nat.reduceMul,Nat.reduceEqDiff,Nat.reduceLT,Nat.reduceLeDiff,reduceIte,aQ,zQ,get_mk]<;>first|rfl|omega)
 ·simp
 ·first | exact Nat.zero_le _ | exact Nat.le_trans w3 (by decide)
set_option maxHeartbeats 8000000 in
theorem parse9_8 {text:Str} (hl:text.length≤900) (hk:kindE ((wd 32 text).getD 0 [])=8):CQ P (G K) 9 [.str text] (·=ps9 (readA text) text):=by
 have f1:(kindE ((wd 32 text).getD 0 [])=1)=False:=eq_false (by omega)
 have f2:(kindE ((wd 32 text).getD 0 [])=2)=False:=eq_false (by omega)
 have f3:(kindE ((wd 32 text).getD 0 [])=3)=False:=eq_false (by omega)
 have f4:(kindE ((wd 32 text).getD 0 [])=4)=False:=eq_false (by omega)
 have f5:(kindE ((wd 32 text).getD 0 [])=5)=False:=eq_false (by omega)
 have f6:(kindE ((wd 32 text).getD 0 [])=6)=False:=eq_false (by omega)
 have f7:(kindE ((wd 32 text).getD 0 [])=7)=False:=eq_false (by omega)
 have f8:(kindE ((wd 32 text).getD 0 [])=8)=True:=eq_true hk
 have hX:readA text=⟨kindE ((wd 32 text).getD 0 []),numE ((wd 32 text).getD 1 []),0,[],0,0,0,0,numE ((wd 32 text).getD 2 []),numE ((wd 32 text).getD 3 [])⟩:=by simp only [readA,readE,f1,f2,f3,f4,f5,f6,f7,f8,reduceIte,or_true,true_or,or_false,false_or,or_self]
 have w1:((wd 32 text).getD 1 []).length≤1048576:=Nat.le_trans (wd_get 1) (by omega)
 have w2:((wd 32 text).getD 2 []).length≤1048576:=Nat.le_trans (wd_get 2) (by omega)
 have w3:((wd 32 text).getD 3 []).length≤1048576:=Nat.le_trans (wd_get 3) (by omega)
 have w4:((wd 32 text).getD 4 []).length≤1048576:=Nat.le_trans (wd_get 4) (by omega)
 have wl:=(wd_len (c:=32) (s:=text)).1
 obtain⟨L,hL⟩:=pad5 (wd 32 text)
 rw [hX]
 refine CQ.enter (hG K) ?_
 (try simp (disch:=first|exact bk rfl|omega|(simp only [ln];omega)|(simp only [go_sem];done)|decide) only [go_sem,Nat.reduceAdd,Nat.reduceMul,Nat.reduceEqDiff,Nat.reduceLT,Nat.reduceLeDiff,reduceIte,h9]);repeat' first|((with_reducible first|apply gJoin_split|apply cond_split|apply gJoinD_split)<;>intro h<;>(try simp only [spl] at h)<;>try simp (disch:=first|exact bk rfl|omega|(simp only [ln];omega)|(simp only [go_sem];done)|decide) only [go_sem,Nat.reduceAdd,Nat.reduceMul,Nat.reduceEqDiff,Nat.reduceLT,Nat.reduceLeDiff,reduceIte,h9,h])
 refine cl_entry (split30_e (by omega)) rfl ?_
 rw [al_str (by omega)]
 (try simp (disch:=first|exact bk rfl|omega|(simp only [ln];omega)|(simp only [go_sem];done)|decide) only [go_sem,Nat.reduceAdd,Nat.reduceMul,Nat.reduceEqDiff,Nat.reduceLT,Nat.reduceLeDiff,reduceIte,bs58_5]);repeat' first|((with_reducible first|apply gJoin_split|apply cond_split|apply gJoinD_split)<;>intro h<;>(try simp only [spl] at h)<;>try simp (disch:=first|exact bk rfl|omega|(simp only [ln];omega)|(simp only [go_sem];done)|decide) only [go_sem,Nat.reduceAdd,Nat.reduceMul,Nat.reduceEqDiff,Nat.reduceLT,Nat.reduceLeDiff,reduceIte,bs58_5,h])
 refine app58n_t (el2:=some 9) (ro2:=false) (cs:=(wd 32 text).map AV.str) (ds:=[.str [], .str [], .str [], .str [], .str []]) (m:=5) (by (simp (disch:=first|exact bk rfl|omega|(simp only [ln];omega)|(simp only [go_sem];done)|decide) only [go_sem,Nat.reduceAdd,Nat.reduceMul,Nat.reduceEqDiff,Nat.reduceLT,Nat.reduceLeDiff,reduceIte]<;>first|rfl|omega)) (by (simp (disch:=first|exact bk rfl|omega|(simp only [ln];omega)|(simp only [go_sem];done)|decide) only [go_sem,Nat.reduceAdd,Nat.reduceMul,Nat.reduceEqDiff,Nat.reduceLT,Nat.reduceLeDiff,reduceIte]<;>first|rfl|omega)) (by simp) rfl (by decide) (by omega) (by decide) rfl ?_
 rw [hL]
 (try simp (disch:=first|exact bk rfl|omega|(simp only [ln];omega)|(simp only [go_sem];done)|decide) only [go_sem,Nat.reduceAdd,Nat.reduceMul,Nat.reduceEqDiff,Nat.reduceLT,Nat.reduceLeDiff,reduceIte,h9,r9,h9_1,ixp0,ixp1,ixp2,ixp3,ixp4,maxk,namesD,ofD,get_mk,f1,f2,f3,f4,f5,f6,f7,f8]);repeat' first|((with_reducible first|apply gJoin_split|apply cond_split|apply gJoinD_split)<;>intro h<;>(try simp only [spl] at h)<;>try simp (disch:=first|exact bk rfl|omega|(simp only [ln];omega)|(simp only [go_sem];done)|decide) only [go_sem,Nat.reduceAdd,Nat.reduceMul,Nat.reduceEqDiff,Nat.reduceLT,Nat.reduceLeDiff,reduceIte,h9,r9,h9_1,ixp0,ixp1,ixp2,ixp3,ixp4,maxk,namesD,ofD,get_mk,f1,f2,f3,f4,f5,f6,f7,f8,h])|((with_reducible refine cl_guard ?_;first|refine cl_eq (hG K) _ (words26_c) rfl ?_|refine cl_eq (hG K) _ (index31_c names namesD names_sl (by decide) _) rfl ?_|refine cl_eq (hG K) _ (number32_c w1) rfl ?_|refine cl_eq (hG K) _ (number32_c w2) rfl ?_|refine cl_eq (hG K) _ (number32_c w3) rfl ?_)<;>try simp (disch:=first|exact bk rfl|omega|(simp only [ln];omega)|(simp only [go_sem];done)|decide) only [go_sem,Nat.reduceAdd,Nat.reduceMul,Nat.reduceEqDiff,Nat.reduceLT,Nat.reduceLeDiff,reduceIte,h9,r9,h9_1,ixp0,ixp1,ixp2,ixp3,ixp4,maxk,namesD,ofD,get_mk,f1,f2,f3,f4,f5,f6,f7,f8])
 refine tail9 (q:=⟨kindE ((wd 32 text).getD 0 []),numE ((wd 32 text).getD 1 []),0,[],0,0,0,0,numE ((wd 32 text).getD 2 []),numE ((wd 32 text).getD 3 [])⟩) (text:=text) (b:=4) (b1:=0) ?_ ?_ ?_ ?_ ?_ ?_ ?_
 ·(simp (disch:=first|exact bk rfl|omega|(simp only [ln];omega)|(simp only [go_sem];done)|decide) only [go_sem,Nat.reduceAdd,Nat.reduceMul,Nat.reduceEqDiff,Nat.reduceLT,Nat.reduceLeDiff,reduceIte]<;>first|rfl|omega)
 ·(simp (disch:=first|exact bk rfl|omega|(simp only [ln];omega)|(simp only [go_sem];done)|decide) only [go_sem,Nat.reduceAdd,Nat.reduceMul,Nat.reduceEqDiff,Nat.reduceLT,Nat.reduceLeDiff,reduceIte]<;>first|rfl|omega)
 ·(simp (disch:=first|exact bk rfl|omega|(simp only [ln];omega)|(simp only [go_sem];done)|decide) only [go_sem,Nat.reduceAdd,Nat.reduceMul,Nat.reduceEqDiff,Nat.reduceLT,Nat.reduceLeDiff,reduceIte]<;>first|rfl|omega)
 ·(simp (disch:=first|exact bk rfl|omega|(simp only [ln];omega)|(simp only [go_sem];done)|decide) only [go_sem,Nat.reduceAdd,Nat.reduceMul,Nat.reduceEqDiff,Nat.reduceLT,Nat.reduceLeDiff,reduceIte,aQ,get_mk]<;>first|rfl|omega)
 ·(simp (disch:=first|exact bk rfl|omega|(simp only [ln];omega)|(simp only [go_sem];done)|decide) only [go_sem,Nat.reduceAdd,Nat.reduceMul,Nat.reduceEqDiff,Nat.reduceLT,Nat.reduceLeDiff,reduceIte,aQ,zQ,get_mk]<;>first|rfl|omega)
 ·simp
 ·first | exact Nat.zero_le _ | exact Nat.le_trans w3 (by decide)
theorem parse9_c {text:Str} (hl:text.length≤900):CQ P (G K) 9 [.str text] (·=ps9 (readA text) text):=by
 obtain⟨h0,h8⟩:=kind_in ((wd 32 text).getD 0 [])
 have:kindE ((wd 32 text).getD 0 [])=0∨kindE ((wd 32 text).getD 0 [])=1∨kindE ((wd 32 text).getD 0 [])=2∨kindE ((wd 32 text).getD 0 [])=3∨kindE ((wd 32 text).getD 0 [])=4∨kindE ((wd 32 text).getD 0 [])=5∨kindE ((wd 32 text).getD 0 [])=6∨kindE ((wd 32 text).getD 0 [])=7∨kindE ((wd 32 text).getD 0 [])=8:=by omega
 rcases this with h | h | h | h | h | h | h | h | h
 ·exact parse9_0 hl h
 ·exact parse9_1 hl h
 ·exact parse9_2 hl h
 ·exact parse9_3 hl h
 ·exact parse9_4 hl h
 ·exact parse9_5 hl h
 ·exact parse9_6 hl h
 ·exact parse9_7 hl h
 ·exact parse9_8 hl h
end Go.S9
namespace Go.S9
open Go.Ev Go.Proofs Go.RowKit
set_option maxRecDepth 100000
set_option linter.unusedVariables false
set_option linter.unusedSimpArgs false
variable {K : GP} {H : Hp} {k : AV → Bool}
theorem print_len {q:Quest} (hv:validB q=true):(printE q).length≤900:=by
 simp only [validB,Bool.and_eq_true] at hv
 obtain⟨⟨hok, -⟩,ht⟩:=hv
 have l0:=itS_len (inQR (time_q ht).1)
 obtain⟨k1,k8⟩:=kind_ok hok
 have:q.kind=1∨q.kind=2∨q.kind=3∨q.kind=4∨q.kind=5∨q.kind=6∨q.kind=7∨q.kind=8:=by omega
 rcases this with hk | hk | hk | hk | hk | hk | hk | hk<;>simp [okB,hk] at hok<;>simp [printE,wordsOf,hk,jn,spS,nmS,names]
 ·have:=itS_len (inQR (dial_q hok));omega
 ·have:=itS_len (inQR (dial_q hok.1));have:=name_len hok.2;omega
 ·have:=itS_len (inQR (dial_q hok.1));have:=name_len hok.2;omega
 ·have:=itS_len (inQR (dial_q hok.1));have:=name_len hok.2;omega
 ·have:=itS_len (inQR (dial_q hok.1));have:=name_len hok.2.1;have:=itS_len (inQR (time_q hok.2.2.1).1);have:=itS_len (inQR (time_q hok.2.2.2.1).1);omega
 ·have:=itS_len (inQR (acc_q hok.1));have:=itS_len (inQR (nights_q hok.2).1);have:=itS_len (inQR (nights_q hok.2).2.2);omega
 ·have:=itS_len (inQR (time_q hok.1).1);have:=itS_len (inQR (nights_q hok.2).1);have:=itS_len (inQR (nights_q hok.2).2.2);omega
 ·have:=itS_len (inQR (n:=q.off) ⟨by omega,by omega⟩);have:=itS_len (inQR (n:=q.no) ⟨by omega,by omega⟩);omega
theorem read_place (num:Str→Int) (spn:Str→Int×Int) (ws:List Str):(readE num spn ws).place=[]∨(readE num spn ws).place=ws.getD 3 []:=by
 simp only [readE]
 repeat' split
 all_goals first | exact .inl rfl | exact .inr rfl
theorem readA_place (t:Str):(readA t).place.length≤t.length:=by
 rcases read_place numE spE (wd 32 t) with h | h<;>(unfold readA;rw [h])
 ·exact Nat.zero_le _
 ·exact wd_get 3
theorem readB_place (t:Str):(readB t).place.length≤t.length:=by
 rcases read_place valE spR (wd 32 t) with h | h<;>(unfold readB;rw [h])
 ·exact Nat.zero_le _
 ·exact wd_get 3
theorem sameQ_refl (q:Quest):sameQ q q=true:=sameQ_iff.2 rfl
theorem prD_t {q:Quest} (h:validB q=true):prD q= .tup [.str (printE q), .int .i64 0]:=by simp [prD,h]
theorem prD_f {q:Quest} (h:validB q=false):prD q= .tup [.str [], .int .i64 1]:=by simp [prD,h]
theorem ps9_t {q:Quest} {t:Str} (h:goodB q t=true):ps9 q t= .tup [.agg (eQ q), .int .i64 0]:=by simp [ps9,h]
theorem ps9_f {q:Quest} {t:Str} (h:goodB q t=false):ps9 q t= .tup [.agg (eQ zQ), .int .i64 7]:=by simp [ps9,h]
theorem n70:((7:Int)=0)=False:=by simp
theorem n00:((0:Int)=0)=True:=by simp
end Go.S9
namespace Go.S9
open Go.Ev Go.Proofs Go.RowKit
set_option maxRecDepth 100000
set_option linter.unusedVariables false
set_option linter.unusedSimpArgs false
variable {K : GP} {H : Hp} {k : AV → Bool}
set_option maxHeartbeats 8000000 in
theorem law4_c {q:Quest} {text:Str} (hs:CQ P (G K) 6 [] (·= .bool true)) (hp:q.place.length≤9223372036854775807) (hl:text.length≤9223372036854775807):CQ P (G K) 4 [.agg (eQ q), .str text] (·= .bool true):=by
 refine CQ.enter (hG K) ?_
 by_cases c1:(200:Int)<(text.length:Int)
 ·have e1:=eq_true c1
  (try simp (maxSteps:=10000000) (disch:=first|exact bk rfl|omega|(simp only [ln];omega)|(simp only [go_sem];done)|decide) only [go_sem,Nat.reduceAdd,Nat.reduceMul,Nat.reduceEqDiff,Nat.reduceLT,Nat.reduceLeDiff,reduceIte,h4,r4,h4_0,h4_1,h4_2,h4_3,h4_4,h4_5,h4_6,h4_7,h4_8,h4_9,eQ,len_str un9,e1]);repeat' first|((with_reducible first|apply gJoin_split|apply cond_split|apply gJoinD_split)<;>intro h<;>(try simp only [spl] at h)<;>try simp (maxSteps:=10000000) (disch:=first|exact bk rfl|omega|(simp only [ln];omega)|(simp only [go_sem];done)|decide) only [go_sem,Nat.reduceAdd,Nat.reduceMul,Nat.reduceEqDiff,Nat.reduceLT,Nat.reduceLeDiff,reduceIte,h4,r4,h4_0,h4_1,h4_2,h4_3,h4_4,h4_5,h4_6,h4_7,h4_8,h4_9,eQ,len_str un9,e1,h])|((with_reducible refine cl_guard ?_;refine cl_eq (hG K) _ (hs) rfl ?_)<;>try simp (maxSteps:=10000000) (disch:=first|exact bk rfl|omega|(simp only [ln];omega)|(simp only [go_sem];done)|decide) only [go_sem,Nat.reduceAdd,Nat.reduceMul,Nat.reduceEqDiff,Nat.reduceLT,Nat.reduceLeDiff,reduceIte,h4,r4,h4_0,h4_1,h4_2,h4_3,h4_4,h4_5,h4_6,h4_7,h4_8,h4_9,eQ,len_str un9,e1])
  exact endQ_fro (.bool true) rfl
 have e1:=eq_false c1
 by_cases c2:(100:Int)<(q.place.length:Int)
 ·have e2:=eq_true c2
  (try simp (maxSteps:=10000000) (disch:=first|exact bk rfl|omega|(simp only [ln];omega)|(simp only [go_sem];done)|decide) only [go_sem,Nat.reduceAdd,Nat.reduceMul,Nat.reduceEqDiff,Nat.reduceLT,Nat.reduceLeDiff,reduceIte,h4,r4,h4_0,h4_1,h4_2,h4_3,h4_4,h4_5,h4_6,h4_7,h4_8,h4_9,eQ,len_str un9,e1,e2]);repeat' first|((with_reducible first|apply gJoin_split|apply cond_split|apply gJoinD_split)<;>intro h<;>(try simp only [spl] at h)<;>try simp (maxSteps:=10000000) (disch:=first|exact bk rfl|omega|(simp only [ln];omega)|(simp only [go_sem];done)|decide) only [go_sem,Nat.reduceAdd,Nat.reduceMul,Nat.reduceEqDiff,Nat.reduceLT,Nat.reduceLeDiff,reduceIte,h4,r4,h4_0,h4_1,h4_2,h4_3,h4_4,h4_5,h4_6,h4_7,h4_8,h4_9,eQ,len_str un9,e1,e2,h])|((with_reducible refine cl_guard ?_;refine cl_eq (hG K) _ (hs) rfl ?_)<;>try simp (maxSteps:=10000000) (disch:=first|exact bk rfl|omega|(simp only [ln];omega)|(simp only [go_sem];done)|decide) only [go_sem,Nat.reduceAdd,Nat.reduceMul,Nat.reduceEqDiff,Nat.reduceLT,Nat.reduceLeDiff,reduceIte,h4,r4,h4_0,h4_1,h4_2,h4_3,h4_4,h4_5,h4_6,h4_7,h4_8,h4_9,eQ,len_str un9,e1,e2])
  exact endQ_fro (.bool true) rfl
 have e2:=eq_false c2
 have rp:(readA text).place.length≤9223372036854775807:=Nat.le_trans (readA_place text) hl
 have t9:=parse9_c (K:=K) (text:=text) (by omega)
 have t8:=print8_c (K:=K) hp
 have u8:=print8_c (K:=K) rp
 have s1:=sameQ_refl q
 generalize readA text=r at rp t9 u8
 cases hg:goodB r text with
 | false=>
  rw [ps9_f hg] at t9
  cases hv:validB q with
  | false=>
   rw [prD_f hv] at t8
   (try simp (maxSteps:=10000000) (disch:=first|exact bk rfl|omega|(simp only [ln];omega)|(simp only [go_sem];done)|decide) only [go_sem,Nat.reduceAdd,Nat.reduceMul,Nat.reduceEqDiff,Nat.reduceLT,Nat.reduceLeDiff,reduceIte,h4,r4,h4_0,h4_1,h4_2,h4_3,h4_4,h4_5,h4_6,h4_7,h4_8,h4_9,eQ,zQ,len_str un9,e1,e2,n10,n70,n00]);repeat' first|((with_reducible first|apply gJoin_split|apply cond_split|apply gJoinD_split)<;>intro h<;>(try simp only [spl] at h)<;>try simp (maxSteps:=10000000) (disch:=first|exact bk rfl|omega|(simp only [ln];omega)|(simp only [go_sem];done)|decide) only [go_sem,Nat.reduceAdd,Nat.reduceMul,Nat.reduceEqDiff,Nat.reduceLT,Nat.reduceLeDiff,reduceIte,h4,r4,h4_0,h4_1,h4_2,h4_3,h4_4,h4_5,h4_6,h4_7,h4_8,h4_9,eQ,zQ,len_str un9,e1,e2,n10,n70,n00,h])|((with_reducible refine cl_guard ?_;first|refine cl_eq (hG K) _ (hs) rfl ?_|refine cl_eq (hG K) _ (t8) rfl ?_|refine cl_eq (hG K) _ (t9) rfl ?_)<;>try simp (maxSteps:=10000000) (disch:=first|exact bk rfl|omega|(simp only [ln];omega)|(simp only [go_sem];done)|decide) only [go_sem,Nat.reduceAdd,Nat.reduceMul,Nat.reduceEqDiff,Nat.reduceLT,Nat.reduceLeDiff,reduceIte,h4,r4,h4_0,h4_1,h4_2,h4_3,h4_4,h4_5,h4_6,h4_7,h4_8,h4_9,eQ,zQ,len_str un9,e1,e2,n10,n70,n00])
   exact endQ_fro (.bool true) rfl
  | true=>
   have v9:=parse9_c (K:=K) (text:=printE q) (print_len hv)
   rw [readA_print hv,ps9_t (good_iff.2 ⟨hv,rfl⟩)] at v9
   rw [prD_t hv] at t8
   (try simp (maxSteps:=10000000) (disch:=first|exact bk rfl|omega|(simp only [ln];omega)|(simp only [go_sem];done)|decide) only [go_sem,Nat.reduceAdd,Nat.reduceMul,Nat.reduceEqDiff,Nat.reduceLT,Nat.reduceLeDiff,reduceIte,h4,r4,h4_0,h4_1,h4_2,h4_3,h4_4,h4_5,h4_6,h4_7,h4_8,h4_9,eQ,zQ,len_str un9,e1,e2,n10,n70,n00,neq27u,s1,Bool.not_true,Bool.not_false]);repeat' first|((with_reducible first|apply gJoin_split|apply cond_split|apply gJoinD_split)<;>intro h<;>(try simp only [spl] at h)<;>try simp (maxSteps:=10000000) (disch:=first|exact bk rfl|omega|(simp only [ln];omega)|(simp only [go_sem];done)|decide) only [go_sem,Nat.reduceAdd,Nat.reduceMul,Nat.reduceEqDiff,Nat.reduceLT,Nat.reduceLeDiff,reduceIte,h4,r4,h4_0,h4_1,h4_2,h4_3,h4_4,h4_5,h4_6,h4_7,h4_8,h4_9,eQ,zQ,len_str un9,e1,e2,n10,n70,n00,neq27u,s1,Bool.not_true,Bool.not_false,h])|((with_reducible refine cl_guard ?_;first|refine cl_eq (hG K) _ (hs) rfl ?_|refine cl_eq (hG K) _ (t8) rfl ?_|refine cl_eq (hG K) _ (v9) rfl ?_|refine cl_eq (hG K) _ (t9) rfl ?_)<;>try simp (maxSteps:=10000000) (disch:=first|exact bk rfl|omega|(simp only [ln];omega)|(simp only [go_sem];done)|decide) only [go_sem,Nat.reduceAdd,Nat.reduceMul,Nat.reduceEqDiff,Nat.reduceLT,Nat.reduceLeDiff,reduceIte,h4,r4,h4_0,h4_1,h4_2,h4_3,h4_4,h4_5,h4_6,h4_7,h4_8,h4_9,eQ,zQ,len_str un9,e1,e2,n10,n70,n00,neq27u,s1,Bool.not_true,Bool.not_false])
   exact endQ_fro (.bool true) rfl
 | true=>
  rw [ps9_t hg] at t9
  obtain⟨g1,g2⟩:=good_iff.1 hg
  rw [prD_t g1,g2] at u8
  cases hv:validB q with
  | false=>
   rw [prD_f hv] at t8
   (try simp (maxSteps:=10000000) (disch:=first|exact bk rfl|omega|(simp only [ln];omega)|(simp only [go_sem];done)|decide) only [go_sem,Nat.reduceAdd,Nat.reduceMul,Nat.reduceEqDiff,Nat.reduceLT,Nat.reduceLeDiff,reduceIte,h4,r4,h4_0,h4_1,h4_2,h4_3,h4_4,h4_5,h4_6,h4_7,h4_8,h4_9,eQ,zQ,len_str un9,e1,e2,n10,n70,n00]);repeat' first|((with_reducible first|apply gJoin_split|apply cond_split|apply gJoinD_split)<;>intro h<;>(try simp only [spl] at h)<;>try simp (maxSteps:=10000000) (disch:=first|exact bk rfl|omega|(simp only [ln];omega)|(simp only [go_sem];done)|decide) only [go_sem,Nat.reduceAdd,Nat.reduceMul,Nat.reduceEqDiff,Nat.reduceLT,Nat.reduceLeDiff,reduceIte,h4,r4,h4_0,h4_1,h4_2,h4_3,h4_4,h4_5,h4_6,h4_7,h4_8,h4_9,eQ,zQ,len_str un9,e1,e2,n10,n70,n00,h])|((with_reducible refine cl_guard ?_;first|refine cl_eq (hG K) _ (hs) rfl ?_|refine cl_eq (hG K) _ (t8) rfl ?_|refine cl_eq (hG K) _ (t9) rfl ?_|refine cl_eq (hG K) _ (u8) rfl ?_)<;>try simp (maxSteps:=10000000) (disch:=first|exact bk rfl|omega|(simp only [ln];omega)|(simp only [go_sem];done)|decide) only [go_sem,Nat.reduceAdd,Nat.reduceMul,Nat.reduceEqDiff,Nat.reduceLT,Nat.reduceLeDiff,reduceIte,h4,r4,h4_0,h4_1,h4_2,h4_3,h4_4,h4_5,h4_6,h4_7,h4_8,h4_9,eQ,zQ,len_str un9,e1,e2,n10,n70,n00])
   exact endQ_fro (.bool true) rfl
  | true=>
   have v9:=parse9_c (K:=K) (text:=printE q) (print_len hv)
   rw [readA_print hv,ps9_t (good_iff.2 ⟨hv,rfl⟩)] at v9
   rw [prD_t hv] at t8
   (try simp (maxSteps:=10000000) (disch:=first|exact bk rfl|omega|(simp only [ln];omega)|(simp only [go_sem];done)|decide) only [go_sem,Nat.reduceAdd,Nat.reduceMul,Nat.reduceEqDiff,Nat.reduceLT,Nat.reduceLeDiff,reduceIte,h4,r4,h4_0,h4_1,h4_2,h4_3,h4_4,h4_5,h4_6,h4_7,h4_8,h4_9,eQ,zQ,len_str un9,e1,e2,n10,n70,n00,neq27u,s1,Bool.not_true,Bool.not_false]);repeat' first|((with_reducible first|apply gJoin_split|apply cond_split|apply gJoinD_split)<;>intro h<;>(try simp only [spl] at h)<;>try simp (maxSteps:=10000000) (disch:=first|exact bk rfl|omega|(simp only [ln];omega)|(simp only [go_sem];done)|decide) only [go_sem,Nat.reduceAdd,Nat.reduceMul,Nat.reduceEqDiff,Nat.reduceLT,Nat.reduceLeDiff,reduceIte,h4,r4,h4_0,h4_1,h4_2,h4_3,h4_4,h4_5,h4_6,h4_7,h4_8,h4_9,eQ,zQ,len_str un9,e1,e2,n10,n70,n00,neq27u,s1,Bool.not_true,Bool.not_false,h])|((with_reducible refine cl_guard ?_;first|refine cl_eq (hG K) _ (hs) rfl ?_|refine cl_eq (hG K) _ (t8) rfl ?_|refine cl_eq (hG K) _ (v9) rfl ?_|refine cl_eq (hG K) _ (t9) rfl ?_|refine cl_eq (hG K) _ (u8) rfl ?_)<;>try simp (maxSteps:=10000000) (disch:=first|exact bk rfl|omega|(simp only [ln];omega)|(simp only [go_sem];done)|decide) only [go_sem,Nat.reduceAdd,Nat.reduceMul,Nat.reduceEqDiff,Nat.reduceLT,Nat.reduceLeDiff,reduceIte,h4,r4,h4_0,h4_1,h4_2,h4_3,h4_4,h4_5,h4_6,h4_7,h4_8,h4_9,eQ,zQ,len_str un9,e1,e2,n10,n70,n00,neq27u,s1,Bool.not_true,Bool.not_false])
   exact endQ_fro (.bool true) rfl
end Go.S9
