/- A part of the proof of TribunalQuestions. -/
import Derived.Test.YtmmghibnfjfnbaaGreatDoorBAo
import Derived.Test.YtmmghibnfjfnbaaGreatDoorBAd
set_option linter.unusedVariables false
set_option linter.unusedSimpArgs false
namespace Go.S9
open Go.Ev Go.Proofs Go.RowKit
set_option maxRecDepth 100000
set_option linter.unusedVariables false
set_option linter.unusedSimpArgs false
variable {K : GP} {H : Hp} {k : AV → Bool}
set_option maxHeartbeats 8000000 in
theorem parse9_0 {text:Str} (hl:text.length≤900) (hk:kindE ((wd 32 text).getD 0 [])=0):CQ P (G K) 9 [.str text] (·=ps9 (readA text) text):=by
 have f1:(kindE ((wd 32 text).getD 0 [])=1)=False:=eq_false (by omega)
 have f2:(kindE ((wd 32 text).getD 0 [])=2)=False:=eq_false (by omega)
 have f3:(kindE ((wd 32 text).getD 0 [])=3)=False:=eq_false (by omega)
 have f4:(kindE ((wd 32 text).getD 0 [])=4)=False:=eq_false (by omega)
 have f5:(kindE ((wd 32 text).getD 0 [])=5)=False:=eq_false (by omega)
 have f6:(kindE ((wd 32 text).getD 0 [])=6)=False:=eq_false (by omega)
 have f7:(kindE ((wd 32 text).getD 0 [])=7)=False:=eq_false (by omega)
 have f8:(kindE ((wd 32 text).getD 0 [])=8)=False:=eq_false (by omega)
 have hX:readA text=⟨kindE ((wd 32 text).getD 0 []),numE ((wd 32 text).getD 1 []),0,[],0,0,0,0,0,0⟩:=by simp only [readA,readE,f1,f2,f3,f4,f5,f6,f7,f8,reduceIte,or_true,true_or,or_false,false_or,or_self]
 have w1:((wd 32 text).getD 1 []).length≤1048576:=Nat.le_trans (wd_get 1) (by omega)
 have w2:((wd 32 text).getD 2 []).length≤1048576:=Nat.le_trans (wd_get 2) (by omega)
 have w3:((wd 32 text).getD 3 []).length≤1048576:=Nat.le_trans (wd_get 3) (by omega)
 have w4:((wd 32 text).getD 4 []).length≤1048576:=Nat.le_trans (wd_get 4) (by omega)
 have wl:=(wd_len (c:=32) (s:=text)).1
 obtain⟨L,hL⟩:=pad5 (wd 32 text)
 rw [hX]
 refine CQ.enter (hG K) ?_
 (try simp (disch:=first|exact bk rfl|omega|(simp only [ln];omega)|(simp only [go_sem];done)|decide) only [go_sem,h9]);repeat' first|((with_reducible first|apply gJoin_split|apply cond_split|apply gJoinD_split)<;>intro h<;>(try simp only [spl] at h)<;>try simp (disch:=first|exact bk rfl|omega|(simp only [ln];omega)|(simp only [go_sem];done)|decide) only [go_sem,h9,h])
 refine cl_entry (split30_e (by omega)) rfl ?_
 rw [al_str (by omega)]
 (try simp (disch:=first|exact bk rfl|omega|(simp only [ln];omega)|(simp only [go_sem];done)|decide) only [go_sem,bs58_5]);repeat' first|((with_reducible first|apply gJoin_split|apply cond_split|apply gJoinD_split)<;>intro h<;>(try simp only [spl] at h)<;>try simp (disch:=first|exact bk rfl|omega|(simp only [ln];omega)|(simp only [go_sem];done)|decide) only [go_sem,bs58_5,h])
 refine app58n_t (el2:=some 9) (ro2:=false) (cs:=(wd 32 text).map AV.str) (ds:=[.str [], .str [], .str [], .str [], .str []]) (m:=5) (by (simp (disch:=first|exact bk rfl|omega|(simp only [ln];omega)|(simp only [go_sem];done)|decide) only [go_sem]<;>first|rfl|omega)) (by (simp (disch:=first|exact bk rfl|omega|(simp only [ln];omega)|(simp only [go_sem];done)|decide) only [go_sem]<;>first|rfl|omega)) (by simp) rfl (by decide) (by omega) (by decide) rfl ?_
 rw [hL]
 (try simp (disch:=first|exact bk rfl|omega|(simp only [ln];omega)|(simp only [go_sem];done)|decide) only [go_sem,h9,r9,h9_1,ixp0,ixp1,ixp2,ixp3,ixp4,maxk,namesD,ofD,get_mk,f1,f2,f3,f4,f5,f6,f7,f8]);repeat' first|((with_reducible first|apply gJoin_split|apply cond_split|apply gJoinD_split)<;>intro h<;>(try simp only [spl] at h)<;>try simp (disch:=first|exact bk rfl|omega|(simp only [ln];omega)|(simp only [go_sem];done)|decide) only [go_sem,h9,r9,h9_1,ixp0,ixp1,ixp2,ixp3,ixp4,maxk,namesD,ofD,get_mk,f1,f2,f3,f4,f5,f6,f7,f8,h])|((with_reducible refine cl_guard ?_;first|refine cl_eq (hG K) _ (words26_c) rfl ?_|refine cl_eq (hG K) _ (index31_c names namesD names_sl (by decide) _) rfl ?_|refine cl_eq (hG K) _ (number32_c w1) rfl ?_)<;>try simp (disch:=first|exact bk rfl|omega|(simp only [ln];omega)|(simp only [go_sem];done)|decide) only [go_sem,h9,r9,h9_1,ixp0,ixp1,ixp2,ixp3,ixp4,maxk,namesD,ofD,get_mk,f1,f2,f3,f4,f5,f6,f7,f8])
 refine tail9 (q:=⟨kindE ((wd 32 text).getD 0 []),numE ((wd 32 text).getD 1 []),0,[],0,0,0,0,0,0⟩) (text:=text) (b:=4) (b1:=0) ?_ ?_ ?_ ?_ ?_ ?_ ?_
 ·(simp (disch:=first|exact bk rfl|omega|(simp only [ln];omega)|(simp only [go_sem];done)|decide) only [go_sem]<;>first|rfl|omega)
 ·(simp (disch:=first|exact bk rfl|omega|(simp only [ln];omega)|(simp only [go_sem];done)|decide) only [go_sem]<;>first|rfl|omega)
 ·(simp (disch:=first|exact bk rfl|omega|(simp only [ln];omega)|(simp only [go_sem];done)|decide) only [go_sem]<;>first|rfl|omega)
 ·(simp (disch:=first|exact bk rfl|omega|(simp only [ln];omega)|(simp only [go_sem];done)|decide) only [go_sem,aQ,get_mk]<;>first|rfl|omega)
 ·(simp (disch:=first|exact bk rfl|omega|(simp only [ln];omega)|(simp only [go_sem];done)|decide) only [go_sem,aQ,zQ,get_mk]<;>first|rfl|omega)
 ·simp
 ·first | exact Nat.zero_le _ | exact Nat.le_trans w3 (by decide)
set_option maxHeartbeats 8000000 in
theorem parse9_1 {text:Str} (hl:text.length≤900) (hk:kindE ((wd 32 text).getD 0 [])=1):CQ P (G K) 9 [.str text] (·=ps9 (readA text) text):=by
 have f1:(kindE ((wd 32 text).getD 0 [])=1)=True:=eq_true hk
 have hX:readA text=⟨kindE ((wd 32 text).getD 0 []),numE ((wd 32 text).getD 1 []),numE ((wd 32 text).getD 2 []),[],0,0,0,0,0,0⟩:=by simp only [readA,readE,f1,reduceIte,or_true,true_or,or_false,false_or,or_self]
 have w1:((wd 32 text).getD 1 []).length≤1048576:=Nat.le_trans (wd_get 1) (by omega)
 have w2:((wd 32 text).getD 2 []).length≤1048576:=Nat.le_trans (wd_get 2) (by omega)
 have w3:((wd 32 text).getD 3 []).length≤1048576:=Nat.le_trans (wd_get 3) (by omega)
 have w4:((wd 32 text).getD 4 []).length≤1048576:=Nat.le_trans (wd_get 4) (by omega)
 have wl:=(wd_len (c:=32) (s:=text)).1
 obtain⟨L,hL⟩:=pad5 (wd 32 text)
 rw [hX]
 refine CQ.enter (hG K) ?_
 (try simp (disch:=first|exact bk rfl|omega|(simp only [ln];omega)|(simp only [go_sem];done)|decide) only [go_sem,h9]);repeat' first|((with_reducible first|apply gJoin_split|apply cond_split|apply gJoinD_split)<;>intro h<;>(try simp only [spl] at h)<;>try simp (disch:=first|exact bk rfl|omega|(simp only [ln];omega)|(simp only [go_sem];done)|decide) only [go_sem,h9,h])
 refine cl_entry (split30_e (by omega)) rfl ?_
 rw [al_str (by omega)]
 (try simp (disch:=first|exact bk rfl|omega|(simp only [ln];omega)|(simp only [go_sem];done)|decide) only [go_sem,bs58_5]);repeat' first|((with_reducible first|apply gJoin_split|apply cond_split|apply gJoinD_split)<;>intro h<;>(try simp only [spl] at h)<;>try simp (disch:=first|exact bk rfl|omega|(simp only [ln];omega)|(simp only [go_sem];done)|decide) only [go_sem,bs58_5,h])
 refine app58n_t (el2:=some 9) (ro2:=false) (cs:=(wd 32 text).map AV.str) (ds:=[.str [], .str [], .str [], .str [], .str []]) (m:=5) (by (simp (disch:=first|exact bk rfl|omega|(simp only [ln];omega)|(simp only [go_sem];done)|decide) only [go_sem]<;>first|rfl|omega)) (by (simp (disch:=first|exact bk rfl|omega|(simp only [ln];omega)|(simp only [go_sem];done)|decide) only [go_sem]<;>first|rfl|omega)) (by simp) rfl (by decide) (by omega) (by decide) rfl ?_
 rw [hL]
 (try simp (disch:=first|exact bk rfl|omega|(simp only [ln];omega)|(simp only [go_sem];done)|decide) only [go_sem,h9,r9,h9_1,ixp0,ixp1,ixp2,ixp3,ixp4,maxk,namesD,ofD,get_mk,f1]);repeat' first|((with_reducible first|apply gJoin_split|apply cond_split|apply gJoinD_split)<;>intro h<;>(try simp only [spl] at h)<;>try simp (disch:=first|exact bk rfl|omega|(simp only [ln];omega)|(simp only [go_sem];done)|decide) only [go_sem,h9,r9,h9_1,ixp0,ixp1,ixp2,ixp3,ixp4,maxk,namesD,ofD,get_mk,f1,h])|((with_reducible refine cl_guard ?_;first|refine cl_eq (hG K) _ (words26_c) rfl ?_|refine cl_eq (hG K) _ (index31_c names namesD names_sl (by decide) _) rfl ?_|refine cl_eq (hG K) _ (number32_c w1) rfl ?_|refine cl_eq (hG K) _ (number32_c w2) rfl ?_)<;>try simp (disch:=first|exact bk rfl|omega|(simp only [ln];omega)|(simp only [go_sem];done)|decide) only [go_sem,h9,r9,h9_1,ixp0,ixp1,ixp2,ixp3,ixp4,maxk,namesD,ofD,get_mk,f1])
 refine tail9 (q:=⟨kindE ((wd 32 text).getD 0 []),numE ((wd 32 text).getD 1 []),numE ((wd 32 text).getD 2 []),[],0,0,0,0,0,0⟩) (text:=text) (b:=4) (b1:=0) ?_ ?_ ?_ ?_ ?_ ?_ ?_
 ·(simp (disch:=first|exact bk rfl|omega|(simp only [ln];omega)|(simp only [go_sem];done)|decide) only [go_sem]<;>first|rfl|omega)
 ·(simp (disch:=first|exact bk rfl|omega|(simp only [ln];omega)|(simp only [go_sem];done)|decide) only [go_sem]<;>first|rfl|omega)
 ·(simp (disch:=first|exact bk rfl|omega|(simp only [ln];omega)|(simp only [go_sem];done)|decide) only [go_sem]<;>first|rfl|omega)
 ·(simp (disch:=first|exact bk rfl|omega|(simp only [ln];omega)|(simp only [go_sem];done)|decide) only [go_sem,aQ,get_mk]<;>first|rfl|omega)
 ·(simp (disch:=first|exact bk rfl|omega|(simp only [ln];omega)|(simp only [go_sem];done)|decide) only [go_sem,aQ,zQ,get_mk]<;>first|rfl|omega)
 ·simp
 ·first | exact Nat.zero_le _ | exact Nat.le_trans w3 (by decide)
set_option maxHeartbeats 8000000 in
theorem parse9_2 {text:Str} (hl:text.length≤900) (hk:kindE ((wd 32 text).getD 0 [])=2):CQ P (G K) 9 [.str text] (·=ps9 (readA text) text):=by
 have f1:(kindE ((wd 32 text).getD 0 [])=1)=False:=eq_false (by omega)
 have f2:(kindE ((wd 32 text).getD 0 [])=2)=True:=eq_true hk
 have hX:readA text=⟨kindE ((wd 32 text).getD 0 []),numE ((wd 32 text).getD 1 []),numE ((wd 32 text).getD 2 []),((wd 32 text).getD 3 []),0,0,0,0,0,0⟩:=by simp only [readA,readE,f1,f2,reduceIte,or_true,true_or,or_false,false_or,or_self]
 have w1:((wd 32 text).getD 1 []).length≤1048576:=Nat.le_trans (wd_get 1) (by omega)
 have w2:((wd 32 text).getD 2 []).length≤1048576:=Nat.le_trans (wd_get 2) (by omega)
 have w3:((wd 32 text).getD 3 []).length≤1048576:=Nat.le_trans (wd_get 3) (by omega)
 have w4:((wd 32 text).getD 4 []).length≤1048576:=Nat.le_trans (wd_get 4) (by omega)
 have wl:=(wd_len (c:=32) (s:=text)).1
 obtain⟨L,hL⟩:=pad5 (wd 32 text)
 rw [hX]
 refine CQ.enter (hG K) ?_
 (try simp (disch:=first|exact bk rfl|omega|(simp only [ln];omega)|(simp only [go_sem];done)|decide) only [go_sem,h9]);repeat' first|((with_reducible first|apply gJoin_split|apply cond_split|apply gJoinD_split)<;>intro h<;>(try simp only [spl] at h)<;>try simp (disch:=first|exact bk rfl|omega|(simp only [ln];omega)|(simp only [go_sem];done)|decide) only [go_sem,h9,h])
 refine cl_entry (split30_e (by omega)) rfl ?_
 rw [al_str (by omega)]
 (try simp (disch:=first|exact bk rfl|omega|(simp only [ln];omega)|(simp only [go_sem];done)|decide) only [go_sem,bs58_5]);repeat' first|((with_reducible first|apply gJoin_split|apply cond_split|apply gJoinD_split)<;>intro h<;>(try simp only [spl] at h)<;>try simp (disch:=first|exact bk rfl|omega|(simp only [ln];omega)|(simp only [go_sem];done)|decide) only [go_sem,bs58_5,h])
 refine app58n_t (el2:=some 9) (ro2:=false) (cs:=(wd 32 text).map AV.str) (ds:=[.str [], .str [], .str [], .str [], .str []]) (m:=5) (by (simp (disch:=first|exact bk rfl|omega|(simp only [ln];omega)|(simp only [go_sem];done)|decide) only [go_sem]<;>first|rfl|omega)) (by (simp (disch:=first|exact bk rfl|omega|(simp only [ln];omega)|(simp only [go_sem];done)|decide) only [go_sem]<;>first|rfl|omega)) (by simp) rfl (by decide) (by omega) (by decide) rfl ?_
 rw [hL]
 (try simp (disch:=first|exact bk rfl|omega|(simp only [ln];omega)|(simp only [go_sem];done)|decide) only [go_sem,h9,r9,h9_1,ixp0,ixp1,ixp2,ixp3,ixp4,maxk,namesD,ofD,get_mk,f1,f2]);repeat' first|((with_reducible first|apply gJoin_split|apply cond_split|apply gJoinD_split)<;>intro h<;>(try simp only [spl] at h)<;>try simp (disch:=first|exact bk rfl|omega|(simp only [ln];omega)|(simp only [go_sem];done)|decide) only [go_sem,h9,r9,h9_1,ixp0,ixp1,ixp2,ixp3,ixp4,maxk,namesD,ofD,get_mk,f1,f2,h])|((with_reducible refine cl_guard ?_;first|refine cl_eq (hG K) _ (words26_c) rfl ?_|refine cl_eq (hG K) _ (index31_c names namesD names_sl (by decide) _) rfl ?_|refine cl_eq (hG K) _ (number32_c w1) rfl ?_|refine cl_eq (hG K) _ (number32_c w2) rfl ?_)<;>try simp (disch:=first|exact bk rfl|omega|(simp only [ln];omega)|(simp only [go_sem];done)|decide) only [go_sem,h9,r9,h9_1,ixp0,ixp1,ixp2,ixp3,ixp4,maxk,namesD,ofD,get_mk,f1,f2])
 refine tail9 (q:=⟨kindE ((wd 32 text).getD 0 []),numE ((wd 32 text).getD 1 []),numE ((wd 32 text).getD 2 []),((wd 32 text).getD 3 []),0,0,0,0,0,0⟩) (text:=text) (b:=4) (b1:=0) ?_ ?_ ?_ ?_ ?_ ?_ ?_
 ·(simp (disch:=first|exact bk rfl|omega|(simp only [ln];omega)|(simp only [go_sem];done)|decide) only [go_sem]<;>first|rfl|omega)
 ·(simp (disch:=first|exact bk rfl|omega|(simp only [ln];omega)|(simp only [go_sem];done)|decide) only [go_sem]<;>first|rfl|omega)
 ·(simp (disch:=first|exact bk rfl|omega|(simp only [ln];omega)|(simp only [go_sem];done)|decide) only [go_sem]<;>first|rfl|omega)
 ·(simp (disch:=first|exact bk rfl|omega|(simp only [ln];omega)|(simp only [go_sem];done)|decide) only [go_sem,aQ,get_mk]<;>first|rfl|omega)
 ·(simp (disch:=first|exact bk rfl|omega|(simp only [ln];omega)|(simp only [go_sem];done)|decide) only [go_sem,aQ,zQ,get_mk]<;>first|rfl|omega)
 ·simp
 ·first | exact Nat.zero_le _ | exact Nat.le_trans w3 (by decide)
set_option maxHeartbeats 8000000 in
theorem parse9_3 {text:Str} (hl:text.length≤900) (hk:kindE ((wd 32 text).getD 0 [])=3):CQ P (G K) 9 [.str text] (·=ps9 (readA text) text):=by
 have f1:(kindE ((wd 32 text).getD 0 [])=1)=False:=eq_false (by omega)
 have f2:(kindE ((wd 32 text).getD 0 [])=2)=False:=eq_false (by omega)
 have f3:(kindE ((wd 32 text).getD 0 [])=3)=True:=eq_true hk
 have hX:readA text=⟨kindE ((wd 32 text).getD 0 []),numE ((wd 32 text).getD 1 []),numE ((wd 32 text).getD 2 []),((wd 32 text).getD 3 []),0,0,0,0,0,0⟩:=by simp only [readA,readE,f1,f2,f3,reduceIte,or_true,true_or,or_false,false_or,or_self]
 have w1:((wd 32 text).getD 1 []).length≤1048576:=Nat.le_trans (wd_get 1) (by omega)
 have w2:((wd 32 text).getD 2 []).length≤1048576:=Nat.le_trans (wd_get 2) (by omega)
 have w3:((wd 32 text).getD 3 []).length≤1048576:=Nat.le_trans (wd_get 3) (by omega)
 have w4:((wd 32 text).getD 4 []).length≤1048576:=Nat.le_trans (wd_get 4) (by omega)
 have wl:=(wd_len (c:=32) (s:=text)).1
 obtain⟨L,hL⟩:=pad5 (wd 32 text)
 rw [hX]
 refine CQ.enter (hG K) ?_
 (try simp (disch:=first|exact bk rfl|omega|(simp only [ln];omega)|(simp only [go_sem];done)|decide) only [go_sem,h9]);repeat' first|((with_reducible first|apply gJoin_split|apply cond_split|apply gJoinD_split)<;>intro h<;>(try simp only [spl] at h)<;>try simp (disch:=first|exact bk rfl|omega|(simp only [ln];omega)|(simp only [go_sem];done)|decide) only [go_sem,h9,h])
 refine cl_entry (split30_e (by omega)) rfl ?_
 rw [al_str (by omega)]
 (try simp (disch:=first|exact bk rfl|omega|(simp only [ln];omega)|(simp only [go_sem];done)|decide) only [go_sem,bs58_5]);repeat' first|((with_reducible first|apply gJoin_split|apply cond_split|apply gJoinD_split)<;>intro h<;>(try simp only [spl] at h)<;>try simp (disch:=first|exact bk rfl|omega|(simp only [ln];omega)|(simp only [go_sem];done)|decide) only [go_sem,bs58_5,h])
 refine app58n_t (el2:=some 9) (ro2:=false) (cs:=(wd 32 text).map AV.str) (ds:=[.str [], .str [], .str [], .str [], .str []]) (m:=5) (by (simp (disch:=first|exact bk rfl|omega|(simp only [ln];omega)|(simp only [go_sem];done)|decide) only [go_sem]<;>first|rfl|omega)) (by (simp (disch:=first|exact bk rfl|omega|(simp only [ln];omega)|(simp only [go_sem];done)|decide) only [go_sem]<;>first|rfl|omega)) (by simp) rfl (by decide) (by omega) (by decide) rfl ?_
 rw [hL]
 (try simp (disch:=first|exact bk rfl|omega|(simp only [ln];omega)|(simp only [go_sem];done)|decide) only [go_sem,h9,r9,h9_1,ixp0,ixp1,ixp2,ixp3,ixp4,maxk,namesD,ofD,get_mk,f1,f2,f3]);repeat' first|((with_reducible first|apply gJoin_split|apply cond_split|apply gJoinD_split)<;>intro h<;>(try simp only [spl] at h)<;>try simp (disch:=first|exact bk rfl|omega|(simp only [ln];omega)|(simp only [go_sem];done)|decide) only [go_sem,h9,r9,h9_1,ixp0,ixp1,ixp2,ixp3,ixp4,maxk,namesD,ofD,get_mk,f1,f2,f3,h])|((with_reducible refine cl_guard ?_;first|refine cl_eq (hG K) _ (words26_c) rfl ?_|refine cl_eq (hG K) _ (index31_c names namesD names_sl (by decide) _) rfl ?_|refine cl_eq (hG K) _ (number32_c w1) rfl ?_|refine cl_eq (hG K) _ (number32_c w2) rfl ?_)<;>try simp (disch:=first|exact bk rfl|omega|(simp only [ln];omega)|(simp only [go_sem];done)|decide) only [go_sem,h9,r9,h9_1,ixp0,ixp1,ixp2,ixp3,ixp4,maxk,namesD,ofD,get_mk,f1,f2,f3])
 refine tail9 (q:=⟨kindE ((wd 32 text).getD 0 []),numE ((wd 32 text).getD 1 []),numE ((wd 32 text).getD 2 []),((wd 32 text).getD 3 []),0,0,0,0,0,0⟩) (text:=text) (b:=4) (b1:=0) ?_ ?_ ?_ ?_ ?_ ?_ ?_
 ·(simp (disch:=first|exact bk rfl|omega|(simp only [ln];omega)|(simp only [go_sem];done)|decide) only [go_sem]<;>first|rfl|omega)
 ·(simp (disch:=first|exact bk rfl|omega|(simp only [ln];omega)|(simp only [go_sem];done)|decide) only [go_sem]<;>first|rfl|omega)
 ·(simp (disch:=first|exact bk rfl|omega|(simp only [ln];omega)|(simp only [go_sem];done)|decide) only [go_sem]<;>first|rfl|omega)
 ·(simp (disch:=first|exact bk rfl|omega|(simp only [ln];omega)|(simp only [go_sem];done)|decide) only [go_sem,aQ,get_mk]<;>first|rfl|omega)
 ·(simp (disch:=first|exact bk rfl|omega|(simp only [ln];omega)|(simp only [go_sem];done)|decide) only [go_sem,aQ,zQ,get_mk]<;>first|rfl|omega)
 ·simp
 ·first | exact Nat.zero_le _ | exact Nat.le_trans w3 (by decide)
set_option maxHeartbeats 8000000 in
theorem parse9_4 {text:Str} (hl:text.length≤900) (hk:kindE ((wd 32 text).getD 0 [])=4):CQ P (G K) 9 [.str text] (·=ps9 (readA text) text):=by
 have f1:(kindE ((wd 32 text).getD 0 [])=1)=False:=eq_false (by omega)
 have f2:(kindE ((wd 32 text).getD 0 [])=2)=False:=eq_false (by omega)
 have f3:(kindE ((wd 32 text).getD 0 [])=3)=False:=eq_false (by omega)
 have f4:(kindE ((wd 32 text).getD 0 [])=4)=True:=eq_true hk
 have hX:readA text=⟨kindE ((wd 32 text).getD 0 []),numE ((wd 32 text).getD 1 []),numE ((wd 32 text).getD 2 []),((wd 32 text).getD 3 []),0,0,0,0,0,0⟩:=by simp only [readA,readE,f1,f2,f3,f4,reduceIte,or_true,true_or,or_false,false_or,or_self]
 have w1:((wd 32 text).getD 1 []).length≤1048576:=Nat.le_trans (wd_get 1) (by omega)
 have w2:((wd 32 text).getD 2 []).length≤1048576:=Nat.le_trans (wd_get 2) (by omega)
 have w3:((wd 32 text).getD 3 []).length≤1048576:=Nat.le_trans (wd_get 3) (by omega)
 have w4:((wd 32 text).getD 4 []).length≤1048576:=Nat.le_trans (wd_get 4) (by omega)
 have wl:=(wd_len (c:=32) (s:=text)).1
 obtain⟨L,hL⟩:=pad5 (wd 32 text)
 rw [hX]
 refine CQ.enter (hG K) ?_
 (try simp (disch:=first|exact bk rfl|omega|(simp only [ln];omega)|(simp only [go_sem];done)|decide) only [go_sem,h9]);repeat' first|((with_reducible first|apply gJoin_split|apply cond_split|apply gJoinD_split)<;>intro h<;>(try simp only [spl] at h)<;>try simp (disch:=first|exact bk rfl|omega|(simp only [ln];omega)|(simp only [go_sem];done)|decide) only [go_sem,h9,h])
 refine cl_entry (split30_e (by omega)) rfl ?_
 rw [al_str (by omega)]
 (try simp (disch:=first|exact bk rfl|omega|(simp only [ln];omega)|(simp only [go_sem];done)|decide) only [go_sem,bs58_5]);repeat' first|((with_reducible first|apply gJoin_split|apply cond_split|apply gJoinD_split)<;>intro h<;>(try simp only [spl] at h)<;>try simp (disch:=first|exact bk rfl|omega|(simp only [ln];omega)|(simp only [go_sem];done)|decide) only [go_sem,bs58_5,h])
 refine app58n_t (el2:=some 9) (ro2:=false) (cs:=(wd 32 text).map AV.str) (ds:=[.str [], .str [], .str [], .str [], .str []]) (m:=5) (by (simp (disch:=first|exact bk rfl|omega|(simp only [ln];omega)|(simp only [go_sem];done)|decide) only [go_sem]<;>first|rfl|omega)) (by (simp (disch:=first|exact bk rfl|omega|(simp only [ln];omega)|(simp only [go_sem];done)|decide) only [go_sem]<;>first|rfl|omega)) (by simp) rfl (by decide) (by omega) (by decide) rfl ?_
 rw [hL]
 (try simp (disch:=first|exact bk rfl|omega|(simp only [ln];omega)|(simp only [go_sem];done)|decide) only [go_sem,h9,r9,h9_1,ixp0,ixp1,ixp2,ixp3,ixp4,maxk,namesD,ofD,get_mk,f1,f2,f3,f4]);repeat' first|((with_reducible first|apply gJoin_split|apply cond_split|apply gJoinD_split)<;>intro h<;>(try simp only [spl] at h)<;>try simp (disch:=first|exact bk rfl|omega|(simp only [ln];omega)|(simp only [go_sem];done)|decide) only [go_sem,h9,r9,h9_1,ixp0,ixp1,ixp2,ixp3,ixp4,maxk,namesD,ofD,get_mk,f1,f2,f3,f4,h])|((with_reducible refine cl_guard ?_;first|refine cl_eq (hG K) _ (words26_c) rfl ?_|refine cl_eq (hG K) _ (index31_c names namesD names_sl (by decide) _) rfl ?_|refine cl_eq (hG K) _ (number32_c w1) rfl ?_|refine cl_eq (hG K) _ (number32_c w2) rfl ?_)<;>try simp (disch:=first|exact bk rfl|omega|(simp only [ln];omega)|(simp only [go_sem];done)|decide) only [go_sem,h9,r9,h9_1,ixp0,ixp1,ixp2,ixp3,ixp4,maxk,namesD,ofD,get_mk,f1,f2,f3,f4])
 refine tail9 (q:=⟨kindE ((wd 32 text).getD 0 []),numE ((wd 32 text).getD 1 []),numE ((wd 32 text).getD 2 []),((wd 32 text).getD 3 []),0,0,0,0,0,0⟩) (text:=text) (b:=4) (b1:=0) ?_ ?_ ?_ ?_ ?_ ?_ ?_
 ·(simp (disch:=first|exact bk rfl|omega|(simp only [ln];omega)|(simp only [go_sem];done)|decide) only [go_sem]<;>first|rfl|omega)
 ·(simp (disch:=first|exact bk rfl|omega|(simp only [ln];omega)|(simp only [go_sem];done)|decide) only [go_sem]<;>first|rfl|omega)
 ·(simp (disch:=first|exact bk rfl|omega|(simp only [ln];omega)|(simp only [go_sem];done)|decide) only [go_sem]<;>first|rfl|omega)
 ·(simp (disch:=first|exact bk rfl|omega|(simp only [ln];omega)|(simp only [go_sem];done)|decide) only [go_sem,aQ,get_mk]<;>first|rfl|omega)
 ·(simp (disch:=first|exact bk rfl|omega|(simp only [ln];omega)|(simp only [go_sem];done)|decide) only [go_sem,aQ,zQ,get_mk]<;>first|rfl|omega)
 ·simp
 ·first | exact Nat.zero_le _ | exact Nat.le_trans w3 (by decide)
set_option maxHeartbeats 8000000 in
theorem parse9_5 {text:Str} (hl:text.length≤900) (hk:kindE ((wd 32 text).getD 0 [])=5):CQ P (G K) 9 [.str text] (·=ps9 (readA text) text):=by
 have f1:(kindE ((wd 32 text).getD 0 [])=1)=False:=eq_false (by omega)
 have f2:(kindE ((wd 32 text).getD 0 [])=2)=False:=eq_false (by omega)
 have f3:(kindE ((wd 32 text).getD 0 [])=3)=False:=eq_false (by omega)
 have f4:(kindE ((wd 32 text).getD 0 [])=4)=False:=eq_false (by omega)
 have f5:(kindE ((wd 32 text).getD 0 [])=5)=True:=eq_true hk
 have hX:readA text=⟨kindE ((wd 32 text).getD 0 []),numE ((wd 32 text).getD 1 []),numE ((wd 32 text).getD 2 []),((wd 32 text).getD 3 []),(spE ((wd 32 text).getD 4 [])).1,(spE ((wd 32 text).getD 4 [])).2,0,0,0,0⟩:=by simp only [readA,readE,f1,f2,f3,f4,f5,reduceIte,or_true,true_or,or_false,false_or,or_self]
 have w1:((wd 32 text).getD 1 []).length≤1048576:=Nat.le_trans (wd_get 1) (by omega)
 have w2:((wd 32 text).getD 2 []).length≤1048576:=Nat.le_trans (wd_get 2) (by omega)
 have w3:((wd 32 text).getD 3 []).length≤1048576:=Nat.le_trans (wd_get 3) (by omega)
 have w4:((wd 32 text).getD 4 []).length≤1048576:=Nat.le_trans (wd_get 4) (by omega)
 have wl:=(wd_len (c:=32) (s:=text)).1
 obtain⟨L,hL⟩:=pad5 (wd 32 text)
 rw [hX]
 refine CQ.enter (hG K) ?_
 (try simp (disch:=first|exact bk rfl|omega|(simp only [ln];omega)|(simp only [go_sem];done)|decide) only [go_sem,h9]);repeat' first|((with_reducible first|apply gJoin_split|apply cond_split|apply gJoinD_split)<;>intro h<;>(try simp only [spl] at h)<;>try simp (disch:=first|exact bk rfl|omega|(simp only [ln];omega)|(simp only [go_sem];done)|decide) only [go_sem,h9,h])
 refine cl_entry (split30_e (by omega)) rfl ?_
 rw [al_str (by omega)]
 (try simp (disch:=first|exact bk rfl|omega|(simp only [ln];omega)|(simp only [go_sem];done)|decide) only [go_sem,bs58_5]);repeat' first|((with_reducible first|apply gJoin_split|apply cond_split|apply gJoinD_split)<;>intro h<;>(try simp only [spl] at h)<;>try simp (disch:=first|exact bk rfl|omega|(simp only [ln];omega)|(simp only [go_sem];done)|decide) only [go_sem,bs58_5,h])
 refine app58n_t (el2:=some 9) (ro2:=false) (cs:=(wd 32 text).map AV.str) (ds:=[.str [], .str [], .str [], .str [], .str []]) (m:=5) (by (simp (disch:=first|exact bk rfl|omega|(simp only [ln];omega)|(simp only [go_sem];done)|decide) only [go_sem]<;>first|rfl|omega)) (by (simp (disch:=first|exact bk rfl|omega|(simp only [ln];omega)|(simp only [go_sem];done)|decide) only [go_sem]<;>first|rfl|omega)) (by simp) rfl (by decide) (by omega) (by decide) rfl ?_
 rw [hL]
 (try simp (disch:=first|exact bk rfl|omega|(simp only [ln];omega)|(simp only [go_sem];done)|decide) only [go_sem,h9,r9,h9_1,ixp0,ixp1,ixp2,ixp3,ixp4,maxk,namesD,ofD,get_mk,f1,f2,f3,f4,f5]);repeat' first|((with_reducible first|apply gJoin_split|apply cond_split|apply gJoinD_split)<;>intro h<;>(try simp only [spl] at h)<;>try simp (disch:=first|exact bk rfl|omega|(simp only [ln];omega)|(simp only [go_sem];done)|decide) only [go_sem,h9,r9,h9_1,ixp0,ixp1,ixp2,ixp3,ixp4,maxk,namesD,ofD,get_mk,f1,f2,f3,f4,f5,h])|((with_reducible refine cl_guard ?_;first|refine cl_eq (hG K) _ (words26_c) rfl ?_|refine cl_eq (hG K) _ (index31_c names namesD names_sl (by decide) _) rfl ?_|refine cl_eq (hG K) _ (number32_c w1) rfl ?_|refine cl_eq (hG K) _ (number32_c w2) rfl ?_|refine cl_eq (hG K) _ (readSpan33_c w4) rfl ?_)<;>try simp (disch:=first|exact bk rfl|omega|(simp only [ln];omega)|(simp only [go_sem];done)|decide) only [go_sem,h9,r9,h9_1,ixp0,ixp1,ixp2,ixp3,ixp4,maxk,namesD,ofD,get_mk,f1,f2,f3,f4,f5])
 refine tail9 (q:=⟨kindE ((wd 32 text).getD 0 []),numE ((wd 32 text).getD 1 []),numE ((wd 32 text).getD 2 []),((wd 32 text).getD 3 []),(spE ((wd 32 text).getD 4 [])).1,(spE ((wd 32 text).getD 4 [])).2,0,0,0,0⟩) (text:=text) (b:=4) (b1:=0) ?_ ?_ ?_ ?_ ?_ ?_ ?_
 ·(simp (disch:=first|exact bk rfl|omega|(simp only [ln];omega)|(simp only [go_sem];done)|decide) only [go_sem]<;>first|rfl|omega)
 ·(simp (disch:=first|exact bk rfl|omega|(simp only [ln];omega)|(simp only [go_sem];done)|decide) only [go_sem]<;>first|rfl|omega)
 ·(simp (disch:=first|exact bk rfl|omega|(simp only [ln];omega)|(simp only [go_sem];done)|decide) only [go_sem]<;>first|rfl|omega)
 ·(simp (disch:=first|exact bk rfl|omega|(simp only [ln];omega)|(simp only [go_sem];done)|decide) only [go_sem,aQ,get_mk]<;>first|rfl|omega)
 ·(simp (disch:=first|exact bk rfl|omega|(simp only [ln];omega)|(simp only [go_sem];done)|decide) only [go_sem,aQ,zQ,get_mk]<;>first|rfl|omega)
 ·simp
 ·first | exact Nat.zero_le _ | exact Nat.le_trans w3 (by decide)
set_option maxHeartbeats 8000000 in
theorem parse9_6 {text:Str} (hl:text.length≤900) (hk:kindE ((wd 32 text).getD 0 [])=6):CQ P (G K) 9 [.str text] (·=ps9 (readA text) text):=by
 have f1:(kindE ((wd 32 text).getD 0 [])=1)=False:=eq_false (by omega)
 have f2:(kindE ((wd 32 text).getD 0 [])=2)=False:=eq_false (by omega)
 have f3:(kindE ((wd 32 text).getD 0 [])=3)=False:=eq_false (by omega)
 have f4:(kindE ((wd 32 text).getD 0 [])=4)=False:=eq_false (by omega)
 have f5:(kindE ((wd 32 text).getD 0 [])=5)=False:=eq_false (by omega)
 have f6:(kindE ((wd 32 text).getD 0 [])=6)=True:=eq_true hk
 have hX:readA text=⟨kindE ((wd 32 text).getD 0 []),numE ((wd 32 text).getD 1 []),0,[],(spE ((wd 32 text).getD 3 [])).1,(spE ((wd 32 text).getD 3 [])).2,numE ((wd 32 text).getD 2 []),0,0,0⟩:=by simp only [readA,readE,f1,f2,f3,f4,f5,f6,reduceIte,or_true,true_or,or_false,false_or,or_self]
 have w1:((wd 32 text).getD 1 []).length≤1048576:=Nat.le_trans (wd_get 1) (by omega)
 have w2:((wd 32 text).getD 2 []).length≤1048576:=Nat.le_trans (wd_get 2) (by omega)
 have w3:((wd 32 text).getD 3 []).length≤1048576:=Nat.le_trans (wd_get 3) (by omega)
 have w4:((wd 32 text).getD 4 []).length≤1048576:=Nat.le_trans (wd_get 4) (by omega)
 have wl:=(wd_len (c:=32) (s:=text)).1
 obtain⟨L,hL⟩:=pad5 (wd 32 text)
 rw [hX]
 refine CQ.enter (hG K) ?_
 (try simp (disch:=first|exact bk rfl|omega|(simp only [ln];omega)|(simp only [go_sem];done)|decide) only [go_sem,h9]);repeat' first|((with_reducible first|apply gJoin_split|apply cond_split|apply gJoinD_split)<;>intro h<;>(try simp only [spl] at h)<;>try simp (disch:=first|exact bk rfl|omega|(simp only [ln];omega)|(simp only [go_sem];done)|decide) only [go_sem,h9,h])
 refine cl_entry (split30_e (by omega)) rfl ?_
 rw [al_str (by omega)]
 (try simp (disch:=first|exact bk rfl|omega|(simp only [ln];omega)|(simp only [go_sem];done)|decide) only [go_sem,bs58_5]);repeat' first|((with_reducible first|apply gJoin_split|apply cond_split|apply gJoinD_split)<;>intro h<;>(try simp only [spl] at h)<;>try simp (disch:=first|exact bk rfl|omega|(simp only [ln];omega)|(simp only [go_sem];done)|decide) only [go_sem,bs58_5,h])
 refine app58n_t (el2:=some 9) (ro2:=false) (cs:=(wd 32 text).map AV.str) (ds:=[.str [], .str [], .str [], .str [], .str []]) (m:=5) (by (simp (disch:=first|exact bk rfl|omega|(simp only [ln];omega)|(simp only [go_sem];done)|decide) only [go_sem]<;>first|rfl|omega)) (by (simp (disch:=first|exact bk rfl|omega|(simp only [ln];omega)|(simp only [go_sem];done)|decide) only [go_sem]<;>first|rfl|omega)) (by simp) rfl (by decide) (by omega) (by decide) rfl ?_
 rw [hL]
 (try simp (disch:=first|exact bk rfl|omega|(simp only [ln];omega)|(simp only [go_sem];done)|decide) only [go_sem,h9,r9,h9_1,ixp0,ixp1,ixp2,ixp3,ixp4,maxk,namesD,ofD,get_mk,f1,f2,f3,f4,f5,f6]);repeat' first|((with_reducible first|apply gJoin_split|apply cond_split|apply gJoinD_split)<;>intro h<;>(try simp only [spl] at h)<;>try simp (disch:=first|exact bk rfl|omega|(simp only [ln];omega)|(simp only [go_sem];done)|decide) only [go_sem,h9,r9,h9_1,ixp0,ixp1,ixp2,ixp3,ixp4,maxk,namesD,ofD,get_mk,f1,f2,f3,f4,f5,f6,h])|((with_reducible refine cl_guard ?_;first|refine cl_eq (hG K) _ (words26_c) rfl ?_|refine cl_eq (hG K) _ (index31_c names namesD names_sl (by decide) _) rfl ?_|refine cl_eq (hG K) _ (number32_c w1) rfl ?_|refine cl_eq (hG K) _ (number32_c w2) rfl ?_|refine cl_eq (hG K) _ (readSpan33_c w3) rfl ?_)<;>try simp (disch:=first|exact bk rfl|omega|(simp only [ln];omega)|(simp only [go_sem];done)|decide) only [go_sem,h9,r9,h9_1,ixp0,ixp1,ixp2,ixp3,ixp4,maxk,namesD,ofD,get_mk,f1,f2,f3,f4,f5,f6])
 refine tail9 (q:=⟨kindE ((wd 32 text).getD 0 []),numE ((wd 32 text).getD 1 []),0,[],(spE ((wd 32 text).getD 3 [])).1,(spE ((wd 32 text).getD 3 [])).2,numE ((wd 32 text).getD 2 []),0,0,0⟩) (text:=text) (b:=4) (b1:=0) ?_ ?_ ?_ ?_ ?_ ?_ ?_
 ·(simp (disch:=first|exact bk rfl|omega|(simp only [ln];omega)|(simp only [go_sem];done)|decide) only [go_sem]<;>first|rfl|omega)
 ·(simp (disch:=first|exact bk rfl|omega|(simp only [ln];omega)|(simp only [go_sem];done)|decide) only [go_sem]<;>first|rfl|omega)
 ·(simp (disch:=first|exact bk rfl|omega|(simp only [ln];omega)|(simp only [go_sem];done)|decide) only [go_sem]<;>first|rfl|omega)
 ·(simp (disch:=first|exact bk rfl|omega|(simp only [ln];omega)|(simp only [go_sem];done)|decide) only [go_sem,aQ,get_mk]<;>first|rfl|omega)
 ·(simp (disch:=first|exact bk rfl|omega|(simp only [ln];omega)|(simp only [go_sem];done)|decide) only [go_sem,aQ,zQ,get_mk]<;>first|rfl|omega)
 ·simp
 ·first | exact Nat.zero_le _ | exact Nat.le_trans w3 (by decide)
set_option maxHeartbeats 8000000 in
theorem parse9_7 {text:Str} (hl:text.length≤900) (hk:kindE ((wd 32 text).getD 0 [])=7):CQ P (G K) 9 [.str text] (·=ps9 (readA text) text):=by
 have f1:(kindE ((wd 32 text).getD 0 [])=1)=False:=eq_false (by omega)
 have f2:(kindE ((wd 32 text).getD 0 [])=2)=False:=eq_false (by omega)
 have f3:(kindE ((wd 32 text).getD 0 [])=3)=False:=eq_false (by omega)
 have f4:(kindE ((wd 32 text).getD 0 [])=4)=False:=eq_false (by omega)
 have f5:(kindE ((wd 32 text).getD 0 [])=5)=False:=eq_false (by omega)
 have f6:(kindE ((wd 32 text).getD 0 [])=6)=False:=eq_false (by omega)
 have f7:(kindE ((wd 32 text).getD 0 [])=7)=True:=eq_true hk
 have hX:readA text=⟨kindE ((wd 32 text).getD 0 []),numE ((wd 32 text).getD 1 []),0,[],(spE ((wd 32 text).getD 3 [])).1,(spE ((wd 32 text).getD 3 [])).2,0,numE ((wd 32 text).getD 2 []),0,0⟩:=by simp only [readA,readE,f1,f2,f3,f4,f5,f6,f7,reduceIte,or_true,true_or,or_false,false_or,or_self]
 have w1:((wd 32 text).getD 1 []).length≤1048576:=Nat.le_trans (wd_get 1) (by omega)
 have w2:((wd 32 text).getD 2 []).length≤1048576:=Nat.le_trans (wd_get 2) (by omega)
 have w3:((wd 32 text).getD 3 []).length≤1048576:=Nat.le_trans (wd_get 3) (by omega)
 have w4:((wd 32 text).getD 4 []).length≤1048576:=Nat.le_trans (wd_get 4) (by omega)
 have wl:=(wd_len (c:=32) (s:=text)).1
 obtain⟨L,hL⟩:=pad5 (wd 32 text)
 rw [hX]
 refine CQ.enter (hG K) ?_
 (try simp (disch:=first|exact bk rfl|omega|(simp only [ln];omega)|(simp only [go_sem];done)|decide) only [go_sem,h9]);repeat' first|((with_reducible first|apply gJoin_split|apply cond_split|apply gJoinD_split)<;>intro h<;>(try simp only [spl] at h)<;>try simp (disch:=first|exact bk rfl|omega|(simp only [ln];omega)|(simp only [go_sem];done)|decide) only [go_sem,h9,h])
 refine cl_entry (split30_e (by omega)) rfl ?_
 rw [al_str (by omega)]
 (try simp (disch:=first|exact bk rfl|omega|(simp only [ln];omega)|(simp only [go_sem];done)|decide) only [go_sem,bs58_5]);repeat' first|((with_reducible first|apply gJoin_split|apply cond_split|apply gJoinD_split)<;>intro h<;>(try simp only [spl] at h)<;>try simp (disch:=first|exact bk rfl|omega|(simp only [ln];omega)|(simp only [go_sem];done)|decide) only [go_sem,bs58_5,h])
 refine app58n_t (el2:=some 9) (ro2:=false) (cs:=(wd 32 text).map AV.str) (ds:=[.str [], .str [], .str [], .str [], .str []]) (m:=5) (by (simp (disch:=first|exact bk rfl|omega|(simp only [ln];omega)|(simp only [go_sem];done)|decide) only [go_sem]<;>first|rfl|omega)) (by (simp (disch:=first|exact bk rfl|omega|(simp only [ln];omega)|(simp only [go_sem];done)|decide) only [go_sem]<;>first|rfl|omega)) (by simp) rfl (by decide) (by omega) (by decide) rfl ?_
 rw [hL]
 (try simp (disch:=first|exact bk rfl|omega|(simp only [ln];omega)|(simp only [go_sem];done)|decide) only [go_sem,h9,r9,h9_1,ixp0,ixp1,ixp2,ixp3,ixp4,maxk,namesD,ofD,get_mk,f1,f2,f3,f4,f5,f6,f7]);repeat' first|((with_reducible first|apply gJoin_split|apply cond_split|apply gJoinD_split)<;>intro h<;>(try simp only [spl] at h)<;>try simp (disch:=first|exact bk rfl|omega|(simp only [ln];omega)|(simp only [go_sem];done)|decide) only [go_sem,h9,r9,h9_1,ixp0,ixp1,ixp2,ixp3,ixp4,maxk,namesD,ofD,get_mk,f1,f2,f3,f4,f5,f6,f7,h])|((with_reducible refine cl_guard ?_;first|refine cl_eq (hG K) _ (words26_c) rfl ?_|refine cl_eq (hG K) _ (index31_c names namesD names_sl (by decide) _) rfl ?_|refine cl_eq (hG K) _ (number32_c w1) rfl ?_|refine cl_eq (hG K) _ (number32_c w2) rfl ?_|refine cl_eq (hG K) _ (readSpan33_c w3) rfl ?_)<;>try simp (disch:=first|exact bk rfl|omega|(simp only [ln];omega)|(simp only [go_sem];done)|decide) only [go_sem,h9,r9,h9_1,ixp0,ixp1,ixp2,ixp3,ixp4,maxk,namesD,ofD,get_mk,f1,f2,f3,f4,f5,f6,f7])
 refine tail9 (q:=⟨kindE ((wd 32 text).getD 0 []),numE ((wd 32 text).getD 1 []),0,[],(spE ((wd 32 text).getD 3 [])).1,(spE ((wd 32 text).getD 3 [])).2,0,numE ((wd 32 text).getD 2 []),0,0⟩) (text:=text) (b:=4) (b1:=0) ?_ ?_ ?_ ?_ ?_ ?_ ?_
 ·(simp (disch:=first|exact bk rfl|omega|(simp only [ln];omega)|(simp only [go_sem];done)|decide) only [go_sem]<;>first|rfl|omega)
 ·(simp (disch:=first|exact bk rfl|omega|(simp only [ln];omega)|(simp only [go_sem];done)|decide) only [go_sem]<;>first|rfl|omega)
 ·(simp (disch:=first|exact bk rfl|omega|(simp only [ln];omega)|(simp only [go_sem];done)|decide) only [go_sem]<;>first|rfl|omega)
 ·(simp (disch:=first|exact bk rfl|omega|(simp only [ln];omega)|(simp only [go_sem];done)|decide) only [go_sem,aQ,get_mk]<;>first|rfl|omega)
 ·(simp (disch:=first|exact bk rfl|omega|(simp only [ln];omega)|(simp only [go_sem];done)|decide) only [go_sem,aQ,zQ,get_mk]<;>first|rfl|omega)
 ·simp
 ·first | exact Nat.zero_le _ | exact Nat.le_trans w3 (by decide)
set_option maxHeartbeats 8000000 in
theorem parse9_8 {text:Str} (hl:text.length≤900) (hk:kindE ((wd 32 text).getD 0 [])=8):CQ P (G K) 9 [.str text] (·=ps9 (readA text) text):=by
 have f1:(kindE ((wd 32 text).getD 0 [])=1)=False:=eq_false (by omega)
 have f2:(kindE ((wd 32 text).getD 0 [])=2)=False:=eq_false (by omega)
 have f3:(kindE ((wd 32 text).getD 0 [])=3)=False:=eq_false (by omega)
 have f4:(kindE ((wd 32 text).getD 0 [])=4)=False:=eq_false (by omega)
 have f5:(kindE ((wd 32 text).getD 0 [])=5)=False:=eq_false (by omega)
 have f6:(kindE ((wd 32 text).getD 0 [])=6)=False:=eq_false (by omega)
 have f7:(kindE ((wd 32 text).getD 0 [])=7)=False:=eq_false (by omega)
 have f8:(kindE ((wd 32 text).getD 0 [])=8)=True:=eq_true hk
 have hX:readA text=⟨kindE ((wd 32 text).getD 0 []),numE ((wd 32 text).getD 1 []),0,[],0,0,0,0,numE ((wd 32 text).getD 2 []),numE ((wd 32 text).getD 3 [])⟩:=by simp only [readA,readE,f1,f2,f3,f4,f5,f6,f7,f8,reduceIte,or_true,true_or,or_false,false_or,or_self]
 have w1:((wd 32 text).getD 1 []).length≤1048576:=Nat.le_trans (wd_get 1) (by omega)
 have w2:((wd 32 text).getD 2 []).length≤1048576:=Nat.le_trans (wd_get 2) (by omega)
 have w3:((wd 32 text).getD 3 []).length≤1048576:=Nat.le_trans (wd_get 3) (by omega)
 have w4:((wd 32 text).getD 4 []).length≤1048576:=Nat.le_trans (wd_get 4) (by omega)
 have wl:=(wd_len (c:=32) (s:=text)).1
 obtain⟨L,hL⟩:=pad5 (wd 32 text)
 rw [hX]
 refine CQ.enter (hG K) ?_
 (try simp (disch:=first|exact bk rfl|omega|(simp only [ln];omega)|(simp only [go_sem];done)|decide) only [go_sem,h9]);repeat' first|((with_reducible first|apply gJoin_split|apply cond_split|apply gJoinD_split)<;>intro h<;>(try simp only [spl] at h)<;>try simp (disch:=first|exact bk rfl|omega|(simp only [ln];omega)|(simp only [go_sem];done)|decide) only [go_sem,h9,h])
 refine cl_entry (split30_e (by omega)) rfl ?_
 rw [al_str (by omega)]
 (try simp (disch:=first|exact bk rfl|omega|(simp only [ln];omega)|(simp only [go_sem];done)|decide) only [go_sem,bs58_5]);repeat' first|((with_reducible first|apply gJoin_split|apply cond_split|apply gJoinD_split)<;>intro h<;>(try simp only [spl] at h)<;>try simp (disch:=first|exact bk rfl|omega|(simp only [ln];omega)|(simp only [go_sem];done)|decide) only [go_sem,bs58_5,h])
 refine app58n_t (el2:=some 9) (ro2:=false) (cs:=(wd 32 text).map AV.str) (ds:=[.str [], .str [], .str [], .str [], .str []]) (m:=5) (by (simp (disch:=first|exact bk rfl|omega|(simp only [ln];omega)|(simp only [go_sem];done)|decide) only [go_sem]<;>first|rfl|omega)) (by (simp (disch:=first|exact bk rfl|omega|(simp only [ln];omega)|(simp only [go_sem];done)|decide) only [go_sem]<;>first|rfl|omega)) (by simp) rfl (by decide) (by omega) (by decide) rfl ?_
 rw [hL]
 (try simp (disch:=first|exact bk rfl|omega|(simp only [ln];omega)|(simp only [go_sem];done)|decide) only [go_sem,h9,r9,h9_1,ixp0,ixp1,ixp2,ixp3,ixp4,maxk,namesD,ofD,get_mk,f1,f2,f3,f4,f5,f6,f7,f8]);repeat' first|((with_reducible first|apply gJoin_split|apply cond_split|apply gJoinD_split)<;>intro h<;>(try simp only [spl] at h)<;>try simp (disch:=first|exact bk rfl|omega|(simp only [ln];omega)|(simp only [go_sem];done)|decide) only [go_sem,h9,r9,h9_1,ixp0,ixp1,ixp2,ixp3,ixp4,maxk,namesD,ofD,get_mk,f1,f2,f3,f4,f5,f6,f7,f8,h])|((with_reducible refine cl_guard ?_;first|refine cl_eq (hG K) _ (words26_c) rfl ?_|refine cl_eq (hG K) _ (index31_c names namesD names_sl (by decide) _) rfl ?_|refine cl_eq (hG K) _ (number32_c w1) rfl ?_|refine cl_eq (hG K) _ (number32_c w2) rfl ?_|refine cl_eq (hG K) _ (number32_c w3) rfl ?_)<;>try simp (disch:=first|exact bk rfl|omega|(simp only [ln];omega)|(simp only [go_sem];done)|decide) only [go_sem,h9,r9,h9_1,ixp0,ixp1,ixp2,ixp3,ixp4,maxk,namesD,ofD,get_mk,f1,f2,f3,f4,f5,f6,f7,f8])
 refine tail9 (q:=⟨kindE ((wd 32 text).getD 0 []),numE ((wd 32 text).getD 1 []),0,[],0,0,0,0,numE ((wd 32 text).getD 2 []),numE ((wd 32 text).getD 3 [])⟩) (text:=text) (b:=4) (b1:=0) ?_ ?_ ?_ ?_ ?_ ?_ ?_
 ·(simp (disch:=first|exact bk rfl|omega|(simp only [ln];omega)|(simp only [go_sem];done)|decide) only [go_sem]<;>first|rfl|omega)
 ·(simp (disch:=first|exact bk rfl|omega|(simp only [ln];omega)|(simp only [go_sem];done)|decide) only [go_sem]<;>first|rfl|omega)
 ·(simp (disch:=first|exact bk rfl|omega|(simp only [ln];omega)|(simp only [go_sem];done)|decide) only [go_sem]<;>first|rfl|omega)
 ·(simp (disch:=first|exact bk rfl|omega|(simp only [ln];omega)|(simp only [go_sem];done)|decide) only [go_sem,aQ,get_mk]<;>first|rfl|omega)
 ·(simp (disch:=first|exact bk rfl|omega|(simp only [ln];omega)|(simp only [go_sem];done)|decide) only [go_sem,aQ,zQ,get_mk]<;>first|rfl|omega)
 ·simp
 ·first | exact Nat.zero_le _ | exact Nat.le_trans w3 (by decide)
theorem parse9_c {text:Str} (hl:text.length≤900):CQ P (G K) 9 [.str text] (·=ps9 (readA text) text):=by
 obtain⟨h0,h8⟩:=kind_in ((wd 32 text).getD 0 [])
 have:kindE ((wd 32 text).getD 0 [])=0∨kindE ((wd 32 text).getD 0 [])=1∨kindE ((wd 32 text).getD 0 [])=2∨kindE ((wd 32 text).getD 0 [])=3∨kindE ((wd 32 text).getD 0 [])=4∨kindE ((wd 32 text).getD 0 [])=5∨kindE ((wd 32 text).getD 0 [])=6∨kindE ((wd 32 text).getD 0 [])=7∨kindE ((wd 32 text).getD 0 [])=8:=by omega
 rcases this with h | h | h | h | h | h | h | h | h
 ·exact parse9_0 hl h
 ·exact parse9_1 hl h
 ·exact parse9_2 hl h
 ·exact parse9_3 hl h
 ·exact parse9_4 hl h
 ·exact parse9_5 hl h
 ·exact parse9_6 hl h
 ·exact parse9_7 hl h
 ·exact parse9_8 hl h
end Go.S9
namespace Go.S9
open Go.Ev Go.Proofs Go.RowKit
set_option maxRecDepth 100000
set_option linter.unusedVariables false
set_option linter.unusedSimpArgs false
variable {K : GP} {H : Hp} {k : AV → Bool}
theorem print_len {q:Quest} (hv:validB q=true):(printE q).length≤900:=by
 simp only [validB,Bool.and_eq_true] at hv
 obtain⟨⟨hok, -⟩,ht⟩:=hv
 have l0:=itS_len (inQR (time_q ht).1)
 obtain⟨k1,k8⟩:=kind_ok hok
 have:q.kind=1∨q.kind=2∨q.kind=3∨q.kind=4∨q.kind=5∨q.kind=6∨q.kind=7∨q.kind=8:=by omega
 rcases this with hk | hk | hk | hk | hk | hk | hk | hk<;>simp [okB,hk] at hok<;>simp [printE,wordsOf,hk,jn,spS,nmS,names]
 ·have:=itS_len (inQR (dial_q hok));omega
 ·have:=itS_len (inQR (dial_q hok.1));have:=name_len hok.2;omega
 ·have:=itS_len (inQR (dial_q hok.1));have:=name_len hok.2;omega
 ·have:=itS_len (inQR (dial_q hok.1));have:=name_len hok.2;omega
 ·have:=itS_len (inQR (dial_q hok.1));have:=name_len hok.2.1;have:=itS_len (inQR (time_q hok.2.2.1).1);have:=itS_len (inQR (time_q hok.2.2.2.1).1);omega
 ·have:=itS_len (inQR (acc_q hok.1));have:=itS_len (inQR (nights_q hok.2).1);have:=itS_len (inQR (nights_q hok.2).2.2);omega
 ·have:=itS_len (inQR (time_q hok.1).1);have:=itS_len (inQR (nights_q hok.2).1);have:=itS_len (inQR (nights_q hok.2).2.2);omega
 ·have:=itS_len (inQR (n:=q.off) ⟨by omega,by omega⟩);have:=itS_len (inQR (n:=q.no) ⟨by omega,by omega⟩);omega
theorem read_place (num:Str→Int) (spn:Str→Int×Int) (ws:List Str):(readE num spn ws).place=[]∨(readE num spn ws).place=ws.getD 3 []:=by
 simp only [readE]
 repeat' split
 all_goals first | exact .inl rfl | exact .inr rfl
theorem readA_place (t:Str):(readA t).place.length≤t.length:=by
 rcases read_place numE spE (wd 32 t) with h | h<;>(unfold readA;rw [h])
 ·exact Nat.zero_le _
 ·exact wd_get 3
theorem readB_place (t:Str):(readB t).place.length≤t.length:=by
 rcases read_place valE spR (wd 32 t) with h | h<;>(unfold readB;rw [h])
 ·exact Nat.zero_le _
 ·exact wd_get 3
theorem sameQ_refl (q:Quest):sameQ q q=true:=sameQ_iff.2 rfl
theorem prD_t {q:Quest} (h:validB q=true):prD q= .tup [.str (printE q), .int .i64 0]:=by simp [prD,h]
theorem prD_f {q:Quest} (h:validB q=false):prD q= .tup [.str [], .int .i64 1]:=by simp [prD,h]
theorem ps9_t {q:Quest} {t:Str} (h:goodB q t=true):ps9 q t= .tup [.agg (eQ q), .int .i64 0]:=by simp [ps9,h]
theorem ps9_f {q:Quest} {t:Str} (h:goodB q t=false):ps9 q t= .tup [.agg (eQ zQ), .int .i64 7]:=by simp [ps9,h]
theorem n70:((7:Int)=0)=False:=by simp
theorem n00:((0:Int)=0)=True:=by simp
end Go.S9
namespace Go.S9
open Go.Ev Go.Proofs Go.RowKit
set_option maxRecDepth 100000
set_option linter.unusedVariables false
set_option linter.unusedSimpArgs false
variable {K : GP} {H : Hp} {k : AV → Bool}
theorem is9:isString P 9=true:=by kernel_rfl
theorem optn (d n:Nat):optNat d (some (.int .i64 (n:Int)))=some n:=rfl
theorem sls_lh {s:Str} {l h:Nat} (h1:l≤h) (h2:h≤s.length):sliceAtK P H 9 (.str s) (some (.int .i64 (l:Int))) (some (.int .i64 (h:Int))) none k=k (.str ((s.drop l).take (h - l))):=by
 unfold sliceAtK
 simp only [is9,optn,show Nat.ble l h=true by simpa using h1,show Nat.ble h s.length=true by simpa using h2,forceL_eq]
theorem sls_l {s:Str} {l:Nat} (h1:l≤s.length):sliceAtK P H 9 (.str s) (some (.int .i64 (l:Int))) none none k=k (.str (s.drop l)):=by
 unfold sliceAtK
 simp only [is9,optn,show optNat s.length none=some s.length from rfl,show Nat.ble l s.length=true by simpa using h1,show Nat.ble s.length s.length=true by simp,forceL_eq]
 rw [List.take_of_length_le (by simp)]
theorem sls_h {s:Str} {h:Nat} (h2:h≤s.length):sliceAtK P H 9 (.str s) none (some (.int .i64 (h:Int))) none k=k (.str (s.take h)):=by
 unfold sliceAtK
 simp only [is9,optn,show optNat 0 none=some 0 from rfl,show Nat.ble 0 h=true by simp,show Nat.ble h s.length=true by simpa using h2,forceL_eq,List.drop_zero,Nat.sub_zero]
theorem sub48 {c:Nat} (h1:48≤c) (h2:c≤57):binK P .sub 5 true (.int .u8 (c:Int)) (.int .u8 48) k=k (.int .u8 ((c - 48:Nat):Int)):=by
 have hw:wrp .u8 ((c:Int) - 48)=((c - 48:Nat):Int):=by
  rw [wrp_eq]
  simp only [IntKind.wrap,IntKind.bits,IntKind.signed]
  simp
  omega
 simp [binK,isShift,intBin,forceI_eq,hw]
theorem conv48 {c:Nat} (h2:c≤57):convK P 5 3 (.int .u8 ((c - 48:Nat):Int)) k=k (.int .i64 ((c - 48:Nat):Int)):=by
 unfold convK
 rw [un3,un5]
 dsimp only
 rw [forceI_eq,wrp_in (by omega)]
theorem min42 (a:Nat):minV false [.int .i64 (a:Int), .int .i64 4398046511104] k=k (.int .i64 ((min a 4398046511104:Nat):Int)):=by
 show k (match ilt 4398046511104 (a:Int) with | true=> .int .i64 4398046511104 | false=> .int .i64 (a:Int))=_
 rw [ilt_r]
 by_cases h:(4398046511104:Int)<(a:Int)
 ·rw [decide_eq_true h,Nat.min_eq_right (by omega)];rfl
 ·rw [decide_eq_false h,Nat.min_eq_left (by omega)]
theorem mul10 {a:Nat} (h:a≤4398046511104):binK P .mul 3 true (.int .i64 10) (.int .i64 (a:Int)) k=k (.int .i64 ((10 * a:Nat):Int)):=by
 rw [bin_mul _ _ _ _ (by omega)]
 congr 2
theorem addN {a b:Nat} (h:a+b≤9223372036854775807):binK P .add 3 false (.int .i64 (a:Int)) (.int .i64 (b:Int)) k=k (.int .i64 ((a+b:Nat):Int)):=by
 rw [bin_add _ _ _ _ (by omega)]
 congr 2
theorem mul1 {a:Nat} (h:a≤4398046511104):binK P .mul 3 false (.int .i64 1) (.int .i64 (a:Int)) k=k (.int .i64 (a:Int)):=by
 rw [bin_mul _ _ _ _ (by omega),Int.one_mul]
theorem mulm {a:Nat} (h:a≤4398046511104):binK P .mul 3 false (.int .i64 (-1)) (.int .i64 (a:Int)) k=k (.int .i64 (-(a:Int))):=by
 rw [bin_mul _ _ _ _ (by omega),Int.neg_mul,Int.one_mul]
theorem valN_step {r:Str} {n a:Nat} (h:n<r.length) (h1:48≤r[n]) (h2:r[n]≤57):valN a (r.drop n)=valN (min (10 * a+(r[n] - 48)) 4398046511104) (r.drop (n+1)):=by
 rw [drop_at h]
 simp only [valN]
 rw [if_pos ⟨h1,h2⟩]
theorem valN_bad {r:Str} {n a:Nat} (h:n<r.length) (h1:¬(48≤r[n]∧r[n]≤57)):valN a (r.drop n)=none:=by
 rw [drop_at h]
 simp only [valN]
 rw [if_neg h1]
def I35 (r:Str) (sg:Int) (m:Nat) (e:En) (H:Hp):Prop:=∃n a:Nat,n≤r.length∧m=r.length - n∧e.dm=[]∧a≤4398046511104∧valN 0 r=valN a (r.drop n)∧E2.get e.t 0= .str r∧E2.get e.t 3= .int .i64 sg∧E2.get e.t 4= .int .i64 (a:Int)∧E2.get e.t 5= .int .i64 (n:Int)
set_option maxHeartbeats 4000000 in
theorem loop35 {r:Str} {sg:Int} {t:E2} {Q:D→Prop} (hr:r.length≤9223372036854775807) (hsg:sg=1∨sg= -1) (g0:E2.get t 0= .str r) (g3:E2.get t 3= .int .i64 sg) (hQ:Q (.int .i64 (sg * valM r))):
  cd P (G K) 197 44 (subC 35 [1,1,1]) none ⟨t,[]⟩ H (fun x e H=>bodyEnd P (G K) Tryz.f35 ⟨cd P (G K) 200,callS P (G K)⟩ (endQ Q) x e H)=true:=by
 (try simp (disch:=first|exact bk rfl|omega|(simp only [ln];omega)|(simp only [go_sem];done)|decide) only [go_sem,h35_1]);repeat' first|((with_reducible first|apply gJoin_split|apply cond_split|apply gJoinD_split)<;>intro h<;>(try simp only [spl] at h)<;>try simp (disch:=first|exact bk rfl|omega|(simp only [ln];omega)|(simp only [go_sem];done)|decide) only [go_sem,h35_1,h])
 refine loop_rule (I35 r sg) (fun m e H hi=> ?_) (m:=r.length) ?_
 rotate_left
 ·refine⟨0,0,Nat.zero_le _,rfl,rfl,by decide,by simp, ?_, ?_, ?_, ?_⟩<;>((simp (disch:=first|exact bk rfl|omega|(simp only [ln];omega)|(simp only [go_sem];done)|decide) only [go_sem,g0,g3]<;>first|rfl|omega))
 obtain⟨n,a,hn,rfl,hdm,ha,hv,i0,i3,i4,i5⟩:=hi
 obtain⟨t',dm⟩:=e
 dsimp only at hdm i0 i3 i4 i5
 subst hdm
 refine semC_run 200 ?_
 by_cases hlt:n<r.length
 ·have zz:sg * 0=0:=by simp
  by_cases c1:r[n]<48
  ·have e1:((r[n]:Int)<48)=True:=by simp;omega
   (try simp (disch:=first|exact bk rfl|omega|(simp only [ln];omega)|(simp only [go_sem];done)|decide) only [go_sem,h35,r35,h35_0,h35_1,h35_2,h35_3,h35_4,h35_5,h35_6,h35_7,h35_8,h35_9,h35_10,h35_11,i0,i3,i4,i5,len_str un9,idx_str un9 hlt,Int.ofNat_lt,hlt,e1]);repeat' first|((with_reducible first|apply gJoin_split|apply cond_split|apply gJoinD_split)<;>intro h<;>(try simp only [spl] at h)<;>try simp (disch:=first|exact bk rfl|omega|(simp only [ln];omega)|(simp only [go_sem];done)|decide) only [go_sem,h35,r35,h35_0,h35_1,h35_2,h35_3,h35_4,h35_5,h35_6,h35_7,h35_8,h35_9,h35_10,h35_11,i0,i3,i4,i5,len_str un9,idx_str un9 hlt,Int.ofNat_lt,hlt,e1,h])
   have:valM r=0:=by unfold valM;rw [hv,valN_bad hlt (by omega)]
   rw [this,zz] at hQ
   exact endQ_ret hQ (.fro (.int .i64 0))
  have e1:((r[n]:Int)<48)=False:=by simp;omega
  by_cases c2:57<r[n]
  ·have e2:((57:Int)<(r[n]:Int))=True:=by simp;omega
   (try simp (disch:=first|exact bk rfl|omega|(simp only [ln];omega)|(simp only [go_sem];done)|decide) only [go_sem,h35,r35,h35_0,h35_1,h35_2,h35_3,h35_4,h35_5,h35_6,h35_7,h35_8,h35_9,h35_10,h35_11,i0,i3,i4,i5,len_str un9,idx_str un9 hlt,Int.ofNat_lt,hlt,e1,e2]);repeat' first|((with_reducible first|apply gJoin_split|apply cond_split|apply gJoinD_split)<;>intro h<;>(try simp only [spl] at h)<;>try simp (disch:=first|exact bk rfl|omega|(simp only [ln];omega)|(simp only [go_sem];done)|decide) only [go_sem,h35,r35,h35_0,h35_1,h35_2,h35_3,h35_4,h35_5,h35_6,h35_7,h35_8,h35_9,h35_10,h35_11,i0,i3,i4,i5,len_str un9,idx_str un9 hlt,Int.ofNat_lt,hlt,e1,e2,h])
   have:valM r=0:=by unfold valM;rw [hv,valN_bad hlt (by omega)]
   rw [this,zz] at hQ
   exact endQ_ret hQ (.fro (.int .i64 0))
  have e2:((57:Int)<(r[n]:Int))=False:=by simp;omega
  have hc1:48≤r[n]:=by omega
  have hc2:r[n]≤57:=by omega
  (try simp (disch:=first|exact bk rfl|omega|(simp only [ln];omega)|(simp only [go_sem];done)|decide) only [go_sem,h35,r35,h35_0,h35_1,h35_2,h35_3,h35_4,h35_5,h35_6,h35_7,h35_8,h35_9,h35_10,h35_11,i0,i3,i4,i5,len_str un9,idx_str un9 hlt,Int.ofNat_lt,hlt,e1,e2,sub48 hc1 hc2,conv48 hc2,mul10 ha,addN,min42]);repeat' first|((with_reducible first|apply gJoin_split|apply cond_split|apply gJoinD_split)<;>intro h<;>(try simp only [spl] at h)<;>try simp (disch:=first|exact bk rfl|omega|(simp only [ln];omega)|(simp only [go_sem];done)|decide) only [go_sem,h35,r35,h35_0,h35_1,h35_2,h35_3,h35_4,h35_5,h35_6,h35_7,h35_8,h35_9,h35_10,h35_11,i0,i3,i4,i5,len_str un9,idx_str un9 hlt,Int.ofNat_lt,hlt,e1,e2,sub48 hc1 hc2,conv48 hc2,mul10 ha,addN,min42,h])
  refine again_mk (m':=r.length - (n+1)) (by omega) ⟨n+1,min (10 * a+(r[n] - 48)) 4398046511104,by omega,rfl,rfl,Nat.min_le_right _ _,hv.trans (valN_step hlt hc1 hc2), ?_, ?_, ?_, ?_⟩
  ·(simp (disch:=first|exact bk rfl|omega|(simp only [ln];omega)|(simp only [go_sem];done)|decide) only [go_sem,i0,i3,i4,i5]<;>first|rfl|omega)
  ·(simp (disch:=first|exact bk rfl|omega|(simp only [ln];omega)|(simp only [go_sem];done)|decide) only [go_sem,i0,i3,i4,i5]<;>first|rfl|omega)
  ·simp (disch:=first|exact bk rfl|omega|(simp only [ln];omega)|(simp only [go_sem];done)|decide) only [go_sem,i0,i3,i4,i5]
   by_cases hm:(4398046511104:Int)<((10 * a:Nat):Int)+((r[n] - 48:Nat):Int)
   ·rw [decide_eq_true hm]
    show AV.int .i64 4398046511104=_
    congr 1;omega
   ·rw [decide_eq_false hm]
    show AV.int .i64 (((10 * a:Nat):Int)+((r[n] - 48:Nat):Int))=_
    congr 1;omega
  ·(simp (disch:=first|exact bk rfl|omega|(simp only [ln];omega)|(simp only [go_sem];done)|decide) only [go_sem,i0,i3,i4,i5]<;>first|rfl|omega)
 ·have hd:r.drop n=[]:=List.drop_of_length_le (by omega)
  have hval:valM r=(a:Int):=by unfold valM;rw [hv,hd];rfl
  rw [hval] at hQ
  rcases hsg with rfl | rfl
  ·(try simp (disch:=first|exact bk rfl|omega|(simp only [ln];omega)|(simp only [go_sem];done)|decide) only [go_sem,h35,r35,h35_0,h35_1,h35_2,h35_3,h35_4,h35_5,h35_6,h35_7,h35_8,h35_9,h35_10,h35_11,i0,i3,i4,i5,len_str un9,Int.ofNat_lt,hlt,mul1 ha]);repeat' first|((with_reducible first|apply gJoin_split|apply cond_split|apply gJoinD_split)<;>intro h<;>(try simp only [spl] at h)<;>try simp (disch:=first|exact bk rfl|omega|(simp only [ln];omega)|(simp only [go_sem];done)|decide) only [go_sem,h35,r35,h35_0,h35_1,h35_2,h35_3,h35_4,h35_5,h35_6,h35_7,h35_8,h35_9,h35_10,h35_11,i0,i3,i4,i5,len_str un9,Int.ofNat_lt,hlt,mul1 ha,h])
   rw [Int.one_mul] at hQ
   exact endQ_ret hQ (.fro (.int .i64 (a:Int)))
  ·(try simp (disch:=first|exact bk rfl|omega|(simp only [ln];omega)|(simp only [go_sem];done)|decide) only [go_sem,h35,r35,h35_0,h35_1,h35_2,h35_3,h35_4,h35_5,h35_6,h35_7,h35_8,h35_9,h35_10,h35_11,i0,i3,i4,i5,len_str un9,Int.ofNat_lt,hlt,mulm ha]);repeat' first|((with_reducible first|apply gJoin_split|apply cond_split|apply gJoinD_split)<;>intro h<;>(try simp only [spl] at h)<;>try simp (disch:=first|exact bk rfl|omega|(simp only [ln];omega)|(simp only [go_sem];done)|decide) only [go_sem,h35,r35,h35_0,h35_1,h35_2,h35_3,h35_4,h35_5,h35_6,h35_7,h35_8,h35_9,h35_10,h35_11,i0,i3,i4,i5,len_str un9,Int.ofNat_lt,hlt,mulm ha,h])
   rw [Int.neg_mul,Int.one_mul] at hQ
   exact endQ_ret hQ (.fro (.int .i64 (-(a:Int))))
theorem value35_c {s:Str} (hl:s.length≤1048576):CQ P (G K) 35 [.str s] (·= .int .i64 (valE s)):=by
 refine CQ.enter (hG K) ?_
 match s,hl with
 | [],hl=>
  have hln:∀H k,lenK P 9 (.str []) H k=k (.int .i64 0):=fun H k=>len_str (s:=[]) un9
  (try simp (disch:=first|exact bk rfl|omega|(simp only [ln];omega)|(simp only [go_sem];done)|decide) only [go_sem,h35,r35,h35_0,h35_3,h35_4,hln,lt00]);repeat' first|((with_reducible first|apply gJoin_split|apply cond_split|apply gJoinD_split)<;>intro h<;>(try simp only [spl] at h)<;>try simp (disch:=first|exact bk rfl|omega|(simp only [ln];omega)|(simp only [go_sem];done)|decide) only [go_sem,h35,r35,h35_0,h35_3,h35_4,hln,lt00,h])
  refine loop35 (Q:=(·= .int .i64 (valE []))) (r:=[]) (sg:=1) (by simp) (.inl rfl) ?_ ?_ rfl<;>((simp (disch:=first|exact bk rfl|omega|(simp only [ln];omega)|(simp only [go_sem];done)|decide) only [go_sem]<;>first|rfl|omega))
 | c::r,hl=>
  have hp:((0:Int)<((r.length+1:Nat):Int))=True:=eq_true (by omega)
  have hix:∀k,indexV P 9 (.str (c::r)) (.int .i64 0) k=k (.int .u8 (c:Int)):=fun k=>idx_str (n:=0) un9 (by simp)
  by_cases h:c=45
  ·subst h
   have hsl:∀H (k:AV→Bool),sliceAtK P H 9 (.str (45::r)) (some (.int .i64 1)) none none k=k (.str r):=fun H k=>sls_l (l:=1) (s:=45::r) (by simp)
   have he:(((45:Nat):Int)=45)=True:=by simp
   (try simp (disch:=first|exact bk rfl|omega|(simp only [ln];omega)|(simp only [go_sem];done)|decide) only [go_sem,h35,r35,h35_0,h35_3,h35_4,len_str un9,hp,hix,hsl,he]);repeat' first|((with_reducible first|apply gJoin_split|apply cond_split|apply gJoinD_split)<;>intro h<;>(try simp only [spl] at h)<;>try simp (disch:=first|exact bk rfl|omega|(simp only [ln];omega)|(simp only [go_sem];done)|decide) only [go_sem,h35,r35,h35_0,h35_3,h35_4,len_str un9,hp,hix,hsl,he,h])
   refine loop35 (Q:=(·= .int .i64 (valE (45::r)))) (r:=r) (sg:= -1) (by simp at hl;omega) (.inr rfl) ?_ ?_ (by show _=D.int _ (-(valM r));rw [Int.neg_mul,Int.one_mul])<;>((simp (disch:=first|exact bk rfl|omega|(simp only [ln];omega)|(simp only [go_sem];done)|decide) only [go_sem]<;>first|rfl|omega))
  ·have he:((c:Int)=45)=False:=by simp;omega
   have hv:valE (c::r)=valM (c::r):=by
    unfold valE;split
    ·rename_i heq;simp at heq;omega
    ·rfl
   (try simp (disch:=first|exact bk rfl|omega|(simp only [ln];omega)|(simp only [go_sem];done)|decide) only [go_sem,h35,r35,h35_0,h35_3,h35_4,len_str un9,hp,hix,he]);repeat' first|((with_reducible first|apply gJoin_split|apply cond_split|apply gJoinD_split)<;>intro h<;>(try simp only [spl] at h)<;>try simp (disch:=first|exact bk rfl|omega|(simp only [ln];omega)|(simp only [go_sem];done)|decide) only [go_sem,h35,r35,h35_0,h35_3,h35_4,len_str un9,hp,hix,he,h])
   refine loop35 (Q:=(·= .int .i64 (valE (c::r)))) (r:=c::r) (sg:=1) (by omega) (.inl rfl) ?_ ?_ (by rw [hv,Int.one_mul])<;>((simp (disch:=first|exact bk rfl|omega|(simp only [ln];omega)|(simp only [go_sem];done)|decide) only [go_sem]<;>first|rfl|omega))
end Go.S9
namespace Go.S9
open Go.Ev Go.Proofs Go.RowKit
set_option maxRecDepth 100000
set_option linter.unusedVariables false
set_option linter.unusedSimpArgs false
variable {K : GP} {H : Hp} {k : AV → Bool}
@[go_sem ↓] theorem bl23 (ps:List (Nat×AV)) (k:AV→Bool):buildK P 23 ps k=bldF [(0,1),(1,1)] ps [.int .i64 0, .int .i64 0] k:=buildK_bld (by kernel_rfl) (by kernel_rfl) ps
theorem drop_cut {s:Str} {fr n:Nat} (h1:fr≤n) (h:n<s.length):s.drop fr=(s.drop fr).take (n - fr)++s[n]::s.drop (n+1):=by
 have h2:=List.take_append_drop (n - fr) (s.drop fr)
 rw [List.drop_drop,show fr+(n - fr)=n by omega,drop_at h] at h2
 exact h2.symm
theorem cut_at {s:Str} {n:Nat} (h:n<s.length) (hc:s[n]=45) (ha:45∉s.take n):cutE 45 s=some (s.take n,s.drop (n+1)):=by
 have h2:=drop_cut (fr:=0) (Nat.zero_le n) h
 rw [List.drop_zero,Nat.sub_zero,hc] at h2
 have h3:=cutE_app (c:=45) (s.drop (n+1)) ha
 rw [←h2] at h3
 exact h3
theorem take_no {s:Str} {c n:Nat} (h:n<s.length) (ha:c∉s.take n) (hc:s[n]≠c):c∉s.take (n+1):=fun hx=>by
 rw [List.take_succ_eq_append_getElem h] at hx
 rcases List.mem_append.1 hx with hx | hx
 ·exact ha hx
 ·exact hc (List.mem_singleton.1 hx).symm
def I37 (s:Str) (m:Nat) (e:En) (H:Hp):Prop:=∃n:Nat,n≤s.length∧m=s.length - n∧e.dm=[]∧45∉s.take n∧E2.get e.t 0= .str s∧E2.get e.t 2= .ptr 0 0∧E2.get e.t 3= .int .i64 (n:Int)∧H.get 0=some (.cells (some 23) false [.int .i64 0, .int .i64 0])
set_option maxHeartbeats 4000000 in
theorem spanned37_c {s:Str} (hl:s.length≤1048576):CQ P (G K) 37 [.str s] (·= .agg [.int .i64 (spR s).1, .int .i64 (spR s).2]):=by
 refine CQ.enter (hG K) ?_
 (try simp (disch:=first|exact bk rfl|omega|(simp only [ln];omega)|(simp only [go_sem];done)|decide) only [go_sem,h37]);repeat' first|((with_reducible first|apply gJoin_split|apply cond_split|apply gJoinD_split)<;>intro h<;>(try simp only [spl] at h)<;>try simp (disch:=first|exact bk rfl|omega|(simp only [ln];omega)|(simp only [go_sem];done)|decide) only [go_sem,h37,h])
 refine loop_rule (I37 s) (fun m e H hi=> ?_) (m:=s.length) ?_
 rotate_left
 ·refine⟨0,Nat.zero_le _,rfl,rfl,by simp, ?_, ?_, ?_, ?_⟩<;>((simp (disch:=first|exact bk rfl|omega|(simp only [ln];omega)|(simp only [go_sem];done)|decide) only [go_sem]<;>first|rfl|omega))
 obtain⟨n,hn,rfl,hdm,ha,g0,g2,g3,hg0⟩:=hi
 obtain⟨t,dm⟩:=e
 dsimp only at hdm g0 g2 g3
 subst hdm
 refine semC_run 200 ?_
 by_cases hlt:n<s.length
 ·by_cases hc:s[n]=45
  ·have e1:((s[n]:Int)=45)=True:=by simp;omega
   have hs1:∀H (k:AV→Bool),sliceAtK P H 9 (.str s) (some (.int .i64 ((n:Int)+1))) none none k=k (.str (s.drop (n+1))):=fun H k=>sls_l (l:=n+1) hlt
   have hs2:∀H (k:AV→Bool),sliceAtK P H 9 (.str s) none (some (.int .i64 (n:Int))) none k=k (.str (s.take n)):=fun H k=>sls_h hn
   have hsp:spR s=(valE (s.take n),valE (s.drop (n+1))):=by unfold spR;rw [cut_at hlt hc ha]
   rw [hsp]
   (try simp (disch:=first|exact bk rfl|omega|(simp only [ln];omega)|(simp only [go_sem];done)|decide) only [go_sem,h37_1,r37,g0,g2,g3,hg0,len_str un9,idx_str un9 hlt,Int.ofNat_lt,hlt,e1,hs1,hs2]);repeat' first|((with_reducible first|apply gJoin_split|apply cond_split|apply gJoinD_split)<;>intro h<;>(try simp only [spl] at h)<;>try simp (disch:=first|exact bk rfl|omega|(simp only [ln];omega)|(simp only [go_sem];done)|decide) only [go_sem,h37_1,r37,g0,g2,g3,hg0,len_str un9,idx_str un9 hlt,Int.ofNat_lt,hlt,e1,hs1,hs2,h])|((with_reducible refine cl_guard ?_;first|refine cl_eq (hG K) _ (value35_c (s:=s.take n) (by simp;omega)) rfl ?_|refine cl_eq (hG K) _ (value35_c (s:=s.drop (n+1)) (by simp;omega)) rfl ?_)<;>try simp (disch:=first|exact bk rfl|omega|(simp only [ln];omega)|(simp only [go_sem];done)|decide) only [go_sem,h37_1,r37,g0,g2,g3,hg0,len_str un9,idx_str un9 hlt,Int.ofNat_lt,hlt,e1,hs1,hs2])
   exact endQ_fro (.agg [.int .i64 _, .int .i64 _]) rfl
  ·have e1:((s[n]:Int)=45)=False:=by simp;omega
   (try simp (disch:=first|exact bk rfl|omega|(simp only [ln];omega)|(simp only [go_sem];done)|decide) only [go_sem,h37_1,r37,g0,g2,g3,hg0,len_str un9,idx_str un9 hlt,Int.ofNat_lt,hlt,e1]);repeat' first|((with_reducible first|apply gJoin_split|apply cond_split|apply gJoinD_split)<;>intro h<;>(try simp only [spl] at h)<;>try simp (disch:=first|exact bk rfl|omega|(simp only [ln];omega)|(simp only [go_sem];done)|decide) only [go_sem,h37_1,r37,g0,g2,g3,hg0,len_str un9,idx_str un9 hlt,Int.ofNat_lt,hlt,e1,h])
   refine again_mk (m':=s.length - (n+1)) (by omega) ⟨n+1,by omega,rfl,rfl,take_no hlt ha hc, ?_, ?_, ?_,hg0⟩<;>((simp (disch:=first|exact bk rfl|omega|(simp only [ln];omega)|(simp only [go_sem];done)|decide) only [go_sem,g0,g2,g3]<;>first|rfl|omega))
 ·have hsp:spR s=(0,0):=by
   unfold spR;rw [cutE_none (by rwa [List.take_of_length_le (by omega)] at ha)]
  rw [hsp]
  (try simp (disch:=first|exact bk rfl|omega|(simp only [ln];omega)|(simp only [go_sem];done)|decide) only [go_sem,h37,r37,h37_0,h37_1,g0,g2,g3,hg0,len_str un9,Int.ofNat_lt,hlt]);repeat' first|((with_reducible first|apply gJoin_split|apply cond_split|apply gJoinD_split)<;>intro h<;>(try simp only [spl] at h)<;>try simp (disch:=first|exact bk rfl|omega|(simp only [ln];omega)|(simp only [go_sem];done)|decide) only [go_sem,h37,r37,h37_0,h37_1,g0,g2,g3,hg0,len_str un9,Int.ofNat_lt,hlt,h])
  exact endQ_fro (.agg [.int .i64 0, .int .i64 0]) rfl
theorem ap58:ApT P 58 9 1:=⟨by kernel_rfl,by kernel_rfl,by kernel_rfl,by kernel_rfl,by kernel_rfl,by kernel_rfl⟩
theorem eStr_one (s:Str):(ofDs (eStr s)).all one=true:=rfl
def I34 (s:Str) (m:Nat) (e:En) (H:Hp):Prop:=∃(n fr:Nat) (out:List Str) (v:AV),fr≤n∧n≤s.length∧m=s.length - n∧e.dm=[]∧Own 1 eStr 9 0 H v out∧wd 32 s=out++wd 32 (s.drop fr)∧32∉(s.drop fr).take (n - fr)∧out.length≤n∧
 E2.get e.t 0= .str s∧E2.get e.t 1= .int .u8 32∧E2.get e.t 5=v∧E2.get e.t 6= .int .i64 (fr:Int)∧E2.get e.t 7= .int .i64 (n:Int)
set_option maxHeartbeats 4000000 in
theorem words34_c {s:Str} (hl:s.length≤1000):CQ P (G K) 34 [.str s, .int .u8 32] (Sl 1 eStr (wd 32 s)):=by
 refine CQ.enter (hG K) ?_
 (try simp (disch:=first|exact bk rfl|omega|(simp only [ln];omega)|(simp only [go_sem];done)|decide) only [go_sem,h34]);repeat' first|((with_reducible first|apply gJoin_split|apply cond_split|apply gJoinD_split)<;>intro h<;>(try simp only [spl] at h)<;>try simp (disch:=first|exact bk rfl|omega|(simp only [ln];omega)|(simp only [go_sem];done)|decide) only [go_sem,h34,h])
 refine loop_rule (I34 s) (fun m e H hi=> ?_) (m:=s.length) ?_
 rotate_left
 ·refine⟨0,0,[], .nils,Nat.le_refl _,Nat.zero_le _,rfl,rfl, .inl ⟨rfl,rfl⟩,by simp,by simp,by simp, ?_, ?_, ?_, ?_, ?_⟩<;>((simp (disch:=first|exact bk rfl|omega|(simp only [ln];omega)|(simp only [go_sem];done)|decide) only [go_sem]<;>first|rfl|omega))
 obtain⟨n,fr,out,v,hfn,hn,rfl,hdm,hown,hw,ha,ho,g0,g1,g5,g6,g7⟩:=hi
 obtain⟨t,dm⟩:=e
 dsimp only at hdm g0 g1 g5 g6 g7
 subst hdm
 refine semC_run 200 ?_
 by_cases hlt:n<s.length
 ·have hdc:=drop_cut hfn hlt
  by_cases hc:s[n]=32
  ·have e1:((s[n]:Int)=32)=True:=by simp;omega
   have hs1:∀H (k:AV→Bool),sliceAtK P H 9 (.str s) (some (.int .i64 (fr:Int))) (some (.int .i64 (n:Int))) none k=k (.str ((s.drop fr).take (n - fr))):=fun H k=>sls_lh hfn hn
   (try simp (disch:=first|exact bk rfl|omega|(simp only [ln];omega)|(simp only [go_sem];done)|decide) only [go_sem,h34_1,h34_2,g0,g1,g5,g6,g7,len_str un9,idx_str un9 hlt,Int.ofNat_lt,hlt,e1,hs1,bs58_1,retSl_r]);repeat' first|((with_reducible first|apply gJoin_split|apply cond_split|apply gJoinD_split)<;>intro h<;>(try simp only [spl] at h)<;>try simp (disch:=first|exact bk rfl|omega|(simp only [ln];omega)|(simp only [go_sem];done)|decide) only [go_sem,h34_1,h34_2,g0,g1,g5,g6,g7,len_str un9,idx_str un9 hlt,Int.ofNat_lt,hlt,e1,hs1,bs58_1,retSl_r,h])
   refine app_one (x:=(s.drop fr).take (n - fr)) (lo:=0) eStr_len eStr_one ap58 (hown.frame (by first|omega|(simp (disch:=first|exact bk rfl|omega|(simp only [ln];omega)|(simp only [go_sem];done)|decide) only [go_sem]<;>omega)) fun c hc hc2=>by simp (disch:=first|exact bk rfl|omega|(simp only [ln];omega)|(simp only [go_sem];done)|decide) only [go_sem,ite_no]) (by first|omega|(simp (disch:=first|exact bk rfl|omega|(simp only [ln];omega)|(simp only [go_sem];done)|decide) only [go_sem]<;>omega)) (by (simp (disch:=first|exact bk rfl|omega|(simp only [ln];omega)|(simp only [go_sem];done)|decide) only [go_sem,ite_yes];rfl)) (by omega) fun v2 H2 ho2 hn2 hn3 hf hf2=> ?_
   rw [hc] at hdc
   rw [hdc,wd_app _ ha] at hw
   (try simp (disch:=first|exact bk rfl|omega|(simp only [ln];omega)|(simp only [go_sem];done)|decide) only [go_sem,h34_2,g0,g1,g5,g6,g7]);repeat' first|((with_reducible first|apply gJoin_split|apply cond_split|apply gJoinD_split)<;>intro h<;>(try simp only [spl] at h)<;>try simp (disch:=first|exact bk rfl|omega|(simp only [ln];omega)|(simp only [go_sem];done)|decide) only [go_sem,h34_2,g0,g1,g5,g6,g7,h])
   refine again_mk (m':=s.length - (n+1)) (by omega) ⟨n+1,n+1,out++[(s.drop fr).take (n - fr)],v2,Nat.le_refl _,by omega,rfl,rfl,ho2,by rw [hw];simp,by simp,by simp;omega, ?_, ?_, ?_, ?_, ?_⟩<;>((simp (disch:=first|exact bk rfl|omega|(simp only [ln];omega)|(simp only [go_sem];done)|decide) only [go_sem,g0,g1,g5,g6,g7]<;>first|rfl|omega))
  ·have e1:((s[n]:Int)=32)=False:=by simp;omega
   (try simp (disch:=first|exact bk rfl|omega|(simp only [ln];omega)|(simp only [go_sem];done)|decide) only [go_sem,h34_1,h34_2,g0,g1,g5,g6,g7,len_str un9,idx_str un9 hlt,Int.ofNat_lt,hlt,e1]);repeat' first|((with_reducible first|apply gJoin_split|apply cond_split|apply gJoinD_split)<;>intro h<;>(try simp only [spl] at h)<;>try simp (disch:=first|exact bk rfl|omega|(simp only [ln];omega)|(simp only [go_sem];done)|decide) only [go_sem,h34_1,h34_2,g0,g1,g5,g6,g7,len_str un9,idx_str un9 hlt,Int.ofNat_lt,hlt,e1,h])
   refine again_mk (m':=s.length - (n+1)) (by omega) ⟨n+1,fr,out,v,by omega,by omega,rfl,rfl,hown,hw, ?_,by omega, ?_, ?_, ?_, ?_, ?_⟩
   ·have h1:n - fr<(s.drop fr).length:=by simp;omega
    have h2:(s.drop fr)[n - fr]=s[n]:=by rw [List.getElem_drop];congr 1;omega
    have:=take_no h1 ha (by rw [h2];exact hc)
    rwa [show n - fr+1=n+1 - fr by omega] at this
   all_goals ((simp (disch:=first|exact bk rfl|omega|(simp only [ln];omega)|(simp only [go_sem];done)|decide) only [go_sem,g0,g1,g5,g6,g7]<;>first|rfl|omega))
 ·have hs1:∀H (k:AV→Bool),sliceAtK P H 9 (.str s) (some (.int .i64 (fr:Int))) none none k=k (.str (s.drop fr)):=fun H k=>sls_l (by omega)
  rw [List.take_of_length_le (by simp;omega)] at ha
  rw [wd_one ha] at hw
  (try simp (disch:=first|exact bk rfl|omega|(simp only [ln];omega)|(simp only [go_sem];done)|decide) only [go_sem,h34,r34,h34_0,h34_1,h34_2,g0,g1,g5,g6,g7,len_str un9,Int.ofNat_lt,hlt,hs1,bs58_1,retSl_r]);repeat' first|((with_reducible first|apply gJoin_split|apply cond_split|apply gJoinD_split)<;>intro h<;>(try simp only [spl] at h)<;>try simp (disch:=first|exact bk rfl|omega|(simp only [ln];omega)|(simp only [go_sem];done)|decide) only [go_sem,h34,r34,h34_0,h34_1,h34_2,g0,g1,g5,g6,g7,len_str un9,Int.ofNat_lt,hlt,hs1,bs58_1,retSl_r,h])
  refine app_one (x:=s.drop fr) (lo:=0) eStr_len eStr_one ap58 (hown.frame (by first|omega|(simp (disch:=first|exact bk rfl|omega|(simp only [ln];omega)|(simp only [go_sem];done)|decide) only [go_sem]<;>omega)) fun c hc hc2=>by simp (disch:=first|exact bk rfl|omega|(simp only [ln];omega)|(simp only [go_sem];done)|decide) only [go_sem,ite_no]) (by first|omega|(simp (disch:=first|exact bk rfl|omega|(simp only [ln];omega)|(simp only [go_sem];done)|decide) only [go_sem]<;>omega)) (by (simp (disch:=first|exact bk rfl|omega|(simp only [ln];omega)|(simp only [go_sem];done)|decide) only [go_sem,ite_yes];rfl)) (by omega) fun v2 H2 ho2 hn2 hn3 hf hf2=> ?_
  (try simp (disch:=first|exact bk rfl|omega|(simp only [ln];omega)|(simp only [go_sem];done)|decide) only [go_sem,h34,r34,h34_0,h34_1,h34_2,g0,g1,g5,g6,g7]);repeat' first|((with_reducible first|apply gJoin_split|apply cond_split|apply gJoinD_split)<;>intro h<;>(try simp only [spl] at h)<;>try simp (disch:=first|exact bk rfl|omega|(simp only [ln];omega)|(simp only [go_sem];done)|decide) only [go_sem,h34,r34,h34_0,h34_1,h34_2,g0,g1,g5,g6,g7,h])
  exact ho2.ret eStr_len fun d hd=>by rw [hw];exact hd
theorem word36_c {ws:List Str} {d:D} (hs:Sl 1 eStr ws d) (n:Nat) (hn:n≤9223372036854775807) (hl:ws.length≤9223372036854775807):CQ P (G K) 36 [d, .int .i64 (n:Int)] (·= .str (ws.getD n [])):=by
 refine CQ.enter (hG K) ?_
 by_cases hlt:n<ws.length
 ·have e1:((ws.length:Int)≤(n:Int))=False:=by simp;omega
  (try simp (disch:=first|exact bk rfl|omega|(simp only [ln];omega)|(simp only [go_sem];done)|decide) only [go_sem,h36,len_sl hs un58,e1,idx_sl hs un58 in9 ce9 hlt,rows_get0 eStr_len hlt (by decide:0<1),eStr]);repeat' first|((with_reducible first|apply gJoin_split|apply cond_split|apply gJoinD_split)<;>intro h<;>(try simp only [spl] at h)<;>try simp (disch:=first|exact bk rfl|omega|(simp only [ln];omega)|(simp only [go_sem];done)|decide) only [go_sem,h36,len_sl hs un58,e1,idx_sl hs un58 in9 ce9 hlt,rows_get0 eStr_len hlt (by decide:0<1),eStr,h])
  exact endQ_fro (.str _) (by rw [List.getD_eq_getElem?_getD,List.getElem?_eq_getElem hlt];rfl)
 ·have e1:((ws.length:Int)≤(n:Int))=True:=by simp;omega
  (try simp (disch:=first|exact bk rfl|omega|(simp only [ln];omega)|(simp only [go_sem];done)|decide) only [go_sem,h36,len_sl hs un58,e1]);repeat' first|((with_reducible first|apply gJoin_split|apply cond_split|apply gJoinD_split)<;>intro h<;>(try simp only [spl] at h)<;>try simp (disch:=first|exact bk rfl|omega|(simp only [ln];omega)|(simp only [go_sem];done)|decide) only [go_sem,h36,len_sl hs un58,e1,h])
  exact endQ_fro (.str []) (by rw [List.getD_eq_getElem?_getD,List.getElem?_eq_none (by omega)];rfl)
end Go.S9
