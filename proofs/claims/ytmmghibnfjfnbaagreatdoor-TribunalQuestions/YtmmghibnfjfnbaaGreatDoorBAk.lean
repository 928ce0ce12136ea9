/- A part of the proof of TribunalQuestions. -/
import Derived.Test.YtmmghibnfjfnbaaGreatDoorBAj
set_option linter.unusedVariables false
set_option linter.unusedSimpArgs false
namespace Go.S9
open Go.Ev Go.Proofs
set_option maxRecDepth 100000
set_option linter.unusedVariables false
set_option linter.unusedSimpArgs false
variable {K : GP} {H : Hp} {k : AV → Bool}
theorem nights_ok {lo hi:Int} (h:nightsE lo hi=0):0≤lo∧lo≤hi∧hi≤20000∧hi - lo<400:=by
 unfold nightsE at h
 split at h
 ·cases h
 ·rename_i h1
  split at h
  ·cases h
  ·simp only [nightB,decide_eq_false_iff_not] at h1
   omega
def I169 (lo hi:Int) (m:Nat) (e:En) (H:Hp):Prop:=∃n:Int,lo≤n∧n≤hi+1∧m=(hi+1 - n).toNat∧e.dm=[]∧0<H.nx∧E2.get e.t 0= .nils∧E2.get e.t 1= .nils∧E2.get e.t 5= .ptr 0 0∧E2.get e.t 7= .nils∧E2.get e.t 8= .int .i64 n∧H.get 0=some (.cells (some 23) false [.int .i64 lo, .int .i64 hi])
theorem season169_c {lo hi:Int} (h:nightsE lo hi=0):CQ P (G K) 169 [.nils, .nils, .agg [.int .i64 lo, .int .i64 hi]] (·= .nils):=by
 obtain⟨h1,h2,h3,h4⟩:=nights_ok h
 refine CQ.enter (hG K) ?_
 (try simp (disch:=first|exact bk rfl|omega|(simp only [ln];omega)|(simp only [go_sem];done)|decide) only [go_sem,h169,r169,h169_0,h169_1,h169_2]);repeat' first|((with_reducible first|apply gJoin_split|apply cond_split|apply gJoinD_split)<;>intro h<;>(try simp only [spl] at h)<;>try simp (disch:=first|exact bk rfl|omega|(simp only [ln];omega)|(simp only [go_sem];done)|decide) only [go_sem,h169,r169,h169_0,h169_1,h169_2,h])
 refine loop_rule (I169 lo hi) (fun m e H hi'=> ?_) (m:=(hi+1 - lo).toNat) ?_
 rotate_left
 ·refine⟨lo,by omega,by omega,rfl,rfl, ?_, ?_, ?_, ?_, ?_, ?_, ?_⟩<;>((simp (disch:=first|exact bk rfl|omega|(simp only [ln];omega)|(simp only [go_sem];done)|decide) only [go_sem]<;>first|rfl|omega))
 obtain⟨n,n1,n2,rfl,hdm,hnx,g0,g1,g5,g7,g8,h0⟩:=hi'
 obtain⟨t,dm⟩:=e
 dsimp only at hdm g0 g1 g5 g7 g8
 subst hdm
 have z0:(0=H.nx)=False:=by simp;omega
 refine semC_run 200 ?_
 by_cases hlt:n≤hi
 ·have e2:(n≤hi)=True:=by simp;omega
  (try simp (disch:=first|exact bk rfl|omega|(simp only [ln];omega)|(simp only [go_sem];done)|decide) only [go_sem,h169,r169,h169_0,h169_1,h169_2,g0,g1,g5,g7,g8,h0,z0,e2,zPol]);repeat' first|((with_reducible first|apply gJoin_split|apply cond_split|apply gJoinD_split)<;>intro h<;>(try simp only [spl] at h)<;>try simp (disch:=first|exact bk rfl|omega|(simp only [ln];omega)|(simp only [go_sem];done)|decide) only [go_sem,h169,r169,h169_0,h169_1,h169_2,g0,g1,g5,g7,g8,h0,z0,e2,zPol,h])|((with_reducible refine cl_guard ?_;refine cl_eq (hG K) _ (force258_c n) rfl ?_)<;>try simp (disch:=first|exact bk rfl|omega|(simp only [ln];omega)|(simp only [go_sem];done)|decide) only [go_sem,h169,r169,h169_0,h169_1,h169_2,g0,g1,g5,g7,g8,h0,z0,e2,zPol])
  refine again_mk (m':=(hi+1 - (n+1)).toNat) (by omega) ⟨n+1,by omega,by omega,rfl,rfl, ?_, ?_, ?_, ?_, ?_, ?_, ?_⟩<;>((simp (disch:=first|exact bk rfl|omega|(simp only [ln];omega)|(simp only [go_sem];done)|decide) only [go_sem,g0,g1,g5,g7,g8,h0,z0]<;>first|rfl|omega))
 ·have e2:(n≤hi)=False:=by simp;omega
  (try simp (disch:=first|exact bk rfl|omega|(simp only [ln];omega)|(simp only [go_sem];done)|decide) only [go_sem,h169,r169,h169_0,h169_1,h169_2,g0,g1,g5,g7,g8,h0,z0,e2]);repeat' first|((with_reducible first|apply gJoin_split|apply cond_split|apply gJoinD_split)<;>intro h<;>(try simp only [spl] at h)<;>try simp (disch:=first|exact bk rfl|omega|(simp only [ln];omega)|(simp only [go_sem];done)|decide) only [go_sem,h169,r169,h169_0,h169_1,h169_2,g0,g1,g5,g7,g8,h0,z0,e2,h])
  exact endQ_fro .nils rfl
theorem season106_c (lo hi:Int):CQ P (G K) 106 [.nils, .nils, .agg [.int .i64 lo, .int .i64 hi]] (·= .tup [.nils, .int .i64 (nightsE lo hi)]):=by
 refine CQ.enter (hG K) ?_
 by_cases h:nightsE lo hi=0
 ·have e1:(nightsE lo hi=0)=True:=by simp [h]
  (try simp (disch:=first|exact bk rfl|omega|(simp only [ln];omega)|(simp only [go_sem];done)|decide) only [go_sem,h106,h,e1]);repeat' first|((with_reducible first|apply gJoin_split|apply cond_split|apply gJoinD_split)<;>intro h<;>(try simp only [spl] at h)<;>try simp (disch:=first|exact bk rfl|omega|(simp only [ln];omega)|(simp only [go_sem];done)|decide) only [go_sem,h106,h,e1,h])|((with_reducible refine cl_guard ?_;first|refine cl_eq (hG K) _ (asked168_c _ _) rfl ?_|refine cl_eq (hG K) _ (season169_c h) rfl ?_)<;>try simp (disch:=first|exact bk rfl|omega|(simp only [ln];omega)|(simp only [go_sem];done)|decide) only [go_sem,h106,h,e1])
  all_goals exact endQ_fro (.tup [.nils, .int .i64 0]) rfl
 ·have e1:(nightsE lo hi=0)=False:=by simp [h]
  (try simp (disch:=first|exact bk rfl|omega|(simp only [ln];omega)|(simp only [go_sem];done)|decide) only [go_sem,h106,e1]);repeat' first|((with_reducible first|apply gJoin_split|apply cond_split|apply gJoinD_split)<;>intro h<;>(try simp only [spl] at h)<;>try simp (disch:=first|exact bk rfl|omega|(simp only [ln];omega)|(simp only [go_sem];done)|decide) only [go_sem,h106,e1,h])|((with_reducible refine cl_guard ?_;refine cl_eq (hG K) _ (asked168_c _ _) rfl ?_)<;>try simp (disch:=first|exact bk rfl|omega|(simp only [ln];omega)|(simp only [go_sem];done)|decide) only [go_sem,h106,e1])
  all_goals exact endQ_fro (.tup [.nils, .int .i64 _]) rfl
theorem nights76_c (lo hi:Int):CQ P (G K) 76 [.agg [.int .i64 lo, .int .i64 hi]] (·= .bool (nightsB lo hi)):=by
 refine CQ.enter (hG K) ?_
 (try simp (disch:=first|exact bk rfl|omega|(simp only [ln];omega)|(simp only [go_sem];done)|decide) only [go_sem,h76]);repeat' first|((with_reducible first|apply gJoin_split|apply cond_split|apply gJoinD_split)<;>intro h<;>(try simp only [spl] at h)<;>try simp (disch:=first|exact bk rfl|omega|(simp only [ln];omega)|(simp only [go_sem];done)|decide) only [go_sem,h76,h])|((with_reducible refine cl_guard ?_;refine cl_eq (hG K) _ (season106_c _ _) rfl ?_)<;>try simp (disch:=first|exact bk rfl|omega|(simp only [ln];omega)|(simp only [go_sem];done)|decide) only [go_sem,h76])
 all_goals exact endQ_fro (.bool _) (by simp [nightsB])
end Go.S9
namespace Go.S9
open Go.Ev Go.Proofs
set_option maxRecDepth 100000
set_option linter.unusedVariables false
set_option linter.unusedSimpArgs false
variable {K : GP} {H : Hp} {k : AV → Bool}
theorem ln108:lenK P 108 (ofD D.nils) H k=k (.int .i64 0):=len_sl (sz:=1) (enc:=eInt) (xs:=[]) (d:= .nils) (.inl ⟨rfl,rfl⟩) un108
theorem ln111:lenK P 111 (ofD D.nils) H k=k (.int .i64 0):=len_sl (sz:=1) (enc:=eInt) (xs:=[]) (d:= .nils) (.inl ⟨rfl,rfl⟩) un111
theorem me266:mapElem P 266=some ⟨4,⟨false,[.s]⟩⟩:=by kernel_rfl
theorem zr4:zro P 4=some (.bool false):=by kernel_rfl
structure Room where
 name:Str
 floor:Int
def eRoom (r:Room):List D:=[.str r.name, .int .i64 r.floor]
theorem eRoom_len (s:Room):(eRoom s).length=2:=rfl
theorem tup2 {e v i:Int} (h:e=v):∃i',D.tup [.int .i64 e, .int .i64 i]=D.tup [.int .i64 v, .int .i64 i']:=⟨i,by rw [h]⟩
theorem sl_one {α:Type} {sz:Nat} {enc:α→List D} {xs:List α} {d:D} (h:Sl sz enc xs d):one (ofD d)=true:=by
 rcases h with⟨rfl,_⟩| rfl<;>rfl
theorem one_ne (q:Nat):(1=q+2)=False:=by simp
theorem no_true:∀p∈([]:List (List Nat×AV)),p.2= .bool true:=fun p hp=>by cases hp
theorem any_nil (s:List Nat):([]:List (List Nat×AV)).any (fun p=>decide (p.1=s))=false:=rfl
theorem upd_one {b:Nat} {s:Str} (v:AV) (k:Hp→Bool):updB P H b 266 (.str s) v k (some (.map false (sE [] 0) 0))=k (H.setb b (some (.map false (sE [(s,v)] 0) 1))):=upd_new me266 no_true (any_nil s) v k
def I104 (s:Str) (rs:List Room) (d:D) (m:Nat) (e:En) (H:Hp):Prop:=∃n q:Nat,n≤rs.length∧m=rs.length - n∧e.dm=[]∧(n=1→nameB s=true)∧E2.get e.t 35= .int .i64 n∧E2.get e.t 34= .int .i64 (rs.length:Int)∧E2.get e.t 33=ofD d∧E2.get e.t 4= .map 1∧E2.get e.t 1= .ptr 0 0∧H.get 0=some (.cells (some 113) false [ofD d, .nils, .nils])∧H.nx=q+2∧(n=0→H.get 1=some (.map false (sE [] 0) 0))
set_option maxHeartbeats 4000000 in
theorem check104_c {s:Str} {d:D} {rs:List Room} (hrs:rs.length=1) (hr0:∀(n:Nat) (h:n<rs.length),rs[n]=⟨s,0⟩) (hd:Sl 2 eRoom rs d) (hs:s.length≤9223372036854775807):CQ P (G K) 104 [.agg [d, .nils, .nils]] (fun x=>∃i,x= .tup [.int .i64 (if nameB s then 0 else 1), .int .i64 i]):=by
 have l1:((rs.length:Int)=0)=False:=by rw [hrs];simp
 have l2:((24:Int)<(rs.length:Int))=False:=by rw [hrs];simp
 have l3:((16:Int)<0)=False:=by simp
 have l4:((60:Int)<0)=False:=by simp
 refine CQ.enter (hG K) ?_
 (try simp (disch:=first|exact bk rfl|omega|(simp only [ln];omega)|(simp only [go_sem];done)|decide) only [go_sem,h104,r104,h104_0,h104_1,h104_2,h104_3,h104_4,h104_5,h104_6,h104_7,h104_8,h104_9,h104_10,h104_11,h104_12,h104_13,h104_14,h104_15,h104_16,h104_17,h104_18,h104_19,h104_20,h104_21,h104_22,h104_23,h104_24,h104_25,h104_26,h104_27,len_sl hd un104,sl_one hd,l1,l2,l3,l4,ln108,ln111,o0,lt00]);repeat' first|((with_reducible first|apply gJoin_split|apply cond_split|apply gJoinD_split)<;>intro h<;>(try simp only [spl] at h)<;>try simp (disch:=first|exact bk rfl|omega|(simp only [ln];omega)|(simp only [go_sem];done)|decide) only [go_sem,h104,r104,h104_0,h104_1,h104_2,h104_3,h104_4,h104_5,h104_6,h104_7,h104_8,h104_9,h104_10,h104_11,h104_12,h104_13,h104_14,h104_15,h104_16,h104_17,h104_18,h104_19,h104_20,h104_21,h104_22,h104_23,h104_24,h104_25,h104_26,h104_27,len_sl hd un104,sl_one hd,l1,l2,l3,l4,ln108,ln111,o0,lt00,h])
 refine loop_rule (I104 s rs d) (fun m e H hi=> ?_) (m:=rs.length) ?_
 rotate_left
 ·refine⟨0,0,Nat.zero_le _,rfl,rfl,(by intro h;omega), ?_, ?_, ?_, ?_, ?_, ?_, ?_,(by intro _;simp (disch:=first|exact bk rfl|omega|(simp only [ln];omega)|(simp only [go_sem];done)|decide) only [go_sem];rfl)⟩<;>first | ((simp (disch:=first|exact bk rfl|omega|(simp only [ln];omega)|(simp only [go_sem];done)|decide) only [go_sem,sl_one hd]<;>first|rfl|omega))| rfl | simp
 obtain⟨n,q,hn',rfl,hdm,hst,g35,g34,g33,g4,g1,hg0,hnx,hg1⟩:=hi
 obtain⟨t,dm⟩:=e
 dsimp only at hdm g35 g34 g33 g4 g1
 subst hdm
 have z0:(0=H.nx)=False:=by simp;omega
 have z1:(1=H.nx)=False:=by simp;omega
 refine semC_run 200 ?_
 by_cases hlt:n<rs.length
 ·have hn0:n=0:=by omega
  have hm:=hg1 hn0
  have hx:rs[n]=⟨s,0⟩:=hr0 n hlt
  have f1:((0:Int)< -60)=False:=by simp
  have f2:((60:Int)<0)=False:=by simp
  cases hb:nameB s with
  | false=>
   (try simp (disch:=first|exact bk rfl|omega|(simp only [ln];omega)|(simp only [go_sem];done)|decide) only [go_sem,h104,r104,h104_0,h104_1,h104_2,h104_3,h104_4,h104_5,h104_6,h104_7,h104_8,h104_9,h104_10,h104_11,h104_12,h104_13,h104_14,h104_15,h104_16,h104_17,h104_18,h104_19,h104_20,h104_21,h104_22,h104_23,h104_24,h104_25,h104_26,h104_27,g35,g34,g33,g4,g1,hg0,hm,hnx,one_ne,hx,hb,idx_sl hd un104 in103 ce103 hlt,rows_take eRoom_len hlt,eRoom,Int.ofNat_lt,hlt]);repeat' first|((with_reducible first|apply gJoin_split|apply cond_split|apply gJoinD_split)<;>intro h<;>(try simp only [spl] at h)<;>try simp (disch:=first|exact bk rfl|omega|(simp only [ln];omega)|(simp only [go_sem];done)|decide) only [go_sem,h104,r104,h104_0,h104_1,h104_2,h104_3,h104_4,h104_5,h104_6,h104_7,h104_8,h104_9,h104_10,h104_11,h104_12,h104_13,h104_14,h104_15,h104_16,h104_17,h104_18,h104_19,h104_20,h104_21,h104_22,h104_23,h104_24,h104_25,h104_26,h104_27,g35,g34,g33,g4,g1,hg0,hm,hnx,one_ne,hx,hb,idx_sl hd un104 in103 ce103 hlt,rows_take eRoom_len hlt,eRoom,Int.ofNat_lt,hlt,h])|((with_reducible refine cl_guard ?_;refine cl_eq (hG K) _ (named164_c s hs) rfl ?_)<;>try simp (disch:=first|exact bk rfl|omega|(simp only [ln];omega)|(simp only [go_sem];done)|decide) only [go_sem,h104,r104,h104_0,h104_1,h104_2,h104_3,h104_4,h104_5,h104_6,h104_7,h104_8,h104_9,h104_10,h104_11,h104_12,h104_13,h104_14,h104_15,h104_16,h104_17,h104_18,h104_19,h104_20,h104_21,h104_22,h104_23,h104_24,h104_25,h104_26,h104_27,g35,g34,g33,g4,g1,hg0,hm,hnx,one_ne,hx,hb,idx_sl hd un104 in103 ce103 hlt,rows_take eRoom_len hlt,eRoom,Int.ofNat_lt,hlt])
   exact endQ_fro (.tup [.int .i64 1, .int .i64 n]) (tup2 (by simp))
  | true=>
   (try simp (disch:=first|exact bk rfl|omega|(simp only [ln];omega)|(simp only [go_sem];done)|decide) only [go_sem,h104,r104,h104_0,h104_1,h104_2,h104_3,h104_4,h104_5,h104_6,h104_7,h104_8,h104_9,h104_10,h104_11,h104_12,h104_13,h104_14,h104_15,h104_16,h104_17,h104_18,h104_19,h104_20,h104_21,h104_22,h104_23,h104_24,h104_25,h104_26,h104_27,g35,g34,g33,g4,g1,hg0,hm,hnx,one_ne,hx,hb,f1,f2,look_set me266 zr4 no_true,any_nil,idx_sl hd un104 in103 ce103 hlt,rows_take eRoom_len hlt,eRoom,Int.ofNat_lt,hlt]);repeat' first|((with_reducible first|apply gJoin_split|apply cond_split|apply gJoinD_split)<;>intro h<;>(try simp only [spl] at h)<;>try simp (disch:=first|exact bk rfl|omega|(simp only [ln];omega)|(simp only [go_sem];done)|decide) only [go_sem,h104,r104,h104_0,h104_1,h104_2,h104_3,h104_4,h104_5,h104_6,h104_7,h104_8,h104_9,h104_10,h104_11,h104_12,h104_13,h104_14,h104_15,h104_16,h104_17,h104_18,h104_19,h104_20,h104_21,h104_22,h104_23,h104_24,h104_25,h104_26,h104_27,g35,g34,g33,g4,g1,hg0,hm,hnx,one_ne,hx,hb,f1,f2,look_set me266 zr4 no_true,any_nil,idx_sl hd un104 in103 ce103 hlt,rows_take eRoom_len hlt,eRoom,Int.ofNat_lt,hlt,h])|((with_reducible refine cl_guard ?_;refine cl_eq (hG K) _ (named164_c s hs) rfl ?_)<;>try simp (disch:=first|exact bk rfl|omega|(simp only [ln];omega)|(simp only [go_sem];done)|decide) only [go_sem,h104,r104,h104_0,h104_1,h104_2,h104_3,h104_4,h104_5,h104_6,h104_7,h104_8,h104_9,h104_10,h104_11,h104_12,h104_13,h104_14,h104_15,h104_16,h104_17,h104_18,h104_19,h104_20,h104_21,h104_22,h104_23,h104_24,h104_25,h104_26,h104_27,g35,g34,g33,g4,g1,hg0,hm,hnx,one_ne,hx,hb,f1,f2,look_set me266 zr4 no_true,any_nil,idx_sl hd un104 in103 ce103 hlt,rows_take eRoom_len hlt,eRoom,Int.ofNat_lt,hlt])
   rw [upd_one]
   refine again_mk (m':=rs.length - (n+1)) (by omega) ⟨n+1,q+1,by omega,rfl,rfl,(by intro _;exact hb), ?_, ?_, ?_, ?_, ?_, ?_, ?_,(by intro h;omega)⟩<;>((simp (disch:=first|exact bk rfl|omega|(simp only [ln];omega)|(simp only [go_sem];done)|decide) only [go_sem,g35,g34,g33,g4,g1,hg0,hnx,z0,z1,one_ne]<;>first|rfl|omega))
 ·have hn1:n=1:=by omega
  have hb:=hst hn1
  (try simp (disch:=first|exact bk rfl|omega|(simp only [ln];omega)|(simp only [go_sem];done)|decide) only [go_sem,h104,r104,h104_0,h104_1,h104_2,h104_3,h104_4,h104_5,h104_6,h104_7,h104_8,h104_9,h104_10,h104_11,h104_12,h104_13,h104_14,h104_15,h104_16,h104_17,h104_18,h104_19,h104_20,h104_21,h104_22,h104_23,h104_24,h104_25,h104_26,h104_27,g35,g34,g33,g4,g1,hg0,hnx,Int.ofNat_lt,hlt,sl_one hd,ln108,ln111,o0,lt00]);repeat' first|((with_reducible first|apply gJoin_split|apply cond_split|apply gJoinD_split)<;>intro h<;>(try simp only [spl] at h)<;>try simp (disch:=first|exact bk rfl|omega|(simp only [ln];omega)|(simp only [go_sem];done)|decide) only [go_sem,h104,r104,h104_0,h104_1,h104_2,h104_3,h104_4,h104_5,h104_6,h104_7,h104_8,h104_9,h104_10,h104_11,h104_12,h104_13,h104_14,h104_15,h104_16,h104_17,h104_18,h104_19,h104_20,h104_21,h104_22,h104_23,h104_24,h104_25,h104_26,h104_27,g35,g34,g33,g4,g1,hg0,hnx,Int.ofNat_lt,hlt,sl_one hd,ln108,ln111,o0,lt00,h])
  refine loop_n 1 (loopN_step ?_)
  (try simp (disch:=first|exact bk rfl|omega|(simp only [ln];omega)|(simp only [go_sem];done)|decide) only [go_sem,h104,r104,h104_0,h104_1,h104_2,h104_3,h104_4,h104_5,h104_6,h104_7,h104_8,h104_9,h104_10,h104_11,h104_12,h104_13,h104_14,h104_15,h104_16,h104_17,h104_18,h104_19,h104_20,h104_21,h104_22,h104_23,h104_24,h104_25,h104_26,h104_27,g1,hg0,ln108,ln111,o0,lt00,sl_one hd]);repeat' first|((with_reducible first|apply gJoin_split|apply cond_split|apply gJoinD_split)<;>intro h<;>(try simp only [spl] at h)<;>try simp (disch:=first|exact bk rfl|omega|(simp only [ln];omega)|(simp only [go_sem];done)|decide) only [go_sem,h104,r104,h104_0,h104_1,h104_2,h104_3,h104_4,h104_5,h104_6,h104_7,h104_8,h104_9,h104_10,h104_11,h104_12,h104_13,h104_14,h104_15,h104_16,h104_17,h104_18,h104_19,h104_20,h104_21,h104_22,h104_23,h104_24,h104_25,h104_26,h104_27,g1,hg0,ln108,ln111,o0,lt00,sl_one hd,h])
  refine loop_n 1 (loopN_step ?_)
  (try simp (disch:=first|exact bk rfl|omega|(simp only [ln];omega)|(simp only [go_sem];done)|decide) only [go_sem,h104,r104,h104_0,h104_1,h104_2,h104_3,h104_4,h104_5,h104_6,h104_7,h104_8,h104_9,h104_10,h104_11,h104_12,h104_13,h104_14,h104_15,h104_16,h104_17,h104_18,h104_19,h104_20,h104_21,h104_22,h104_23,h104_24,h104_25,h104_26,h104_27,g1,hg0,ln108,ln111,o0,lt00,sl_one hd]);repeat' first|((with_reducible first|apply gJoin_split|apply cond_split|apply gJoinD_split)<;>intro h<;>(try simp only [spl] at h)<;>try simp (disch:=first|exact bk rfl|omega|(simp only [ln];omega)|(simp only [go_sem];done)|decide) only [go_sem,h104,r104,h104_0,h104_1,h104_2,h104_3,h104_4,h104_5,h104_6,h104_7,h104_8,h104_9,h104_10,h104_11,h104_12,h104_13,h104_14,h104_15,h104_16,h104_17,h104_18,h104_19,h104_20,h104_21,h104_22,h104_23,h104_24,h104_25,h104_26,h104_27,g1,hg0,ln108,ln111,o0,lt00,sl_one hd,h])
  exact endQ_fro (.tup [.int .i64 0, .int .i64 (-1)]) (tup2 (by simp [hb]))
end Go.S9
namespace Go.S9
open Go.Ev Go.Proofs
set_option maxRecDepth 100000
set_option linter.unusedVariables false
set_option linter.unusedSimpArgs false
variable {K : GP} {H : Hp} {k : AV → Bool}
theorem bs104 (s:Str) (kk:Blk→(Nat→AV)→Bool):buildSliceK P 104 1 [(0, .agg [.str s, .int .i64 0])] kk=kk (.cells (some 103) false [.str s, .int .i64 0]) (retSl 1 2):=by kernel_rfl
theorem one_room {s:Str}:∀(n:Nat) (h:n<([⟨s,0⟩]:List Room).length),([⟨s,0⟩]:List Room)[n]=⟨s,0⟩
 | 0,_=>rfl
 | n+1,h=>absurd h (by simp)
theorem b01:decide ((if false=true then (0:Int) else 1)=0)=false:=by decide
theorem b00:decide ((if true=true then (0:Int) else 1)=0)=true:=by decide
theorem named74_c {s:Str} (hs:s.length≤9223372036854775807):CQ P (G K) 74 [.str s] (·= .bool (nameB s)):=by
 refine CQ.enter (hG K) ?_
 (try simp (disch:=first|exact bk rfl|omega|(simp only [ln];omega)|(simp only [go_sem];done)|decide) only [go_sem,h74,bs104]);repeat' first|((with_reducible first|apply gJoin_split|apply cond_split|apply gJoinD_split)<;>intro h<;>(try simp only [spl] at h)<;>try simp (disch:=first|exact bk rfl|omega|(simp only [ln];omega)|(simp only [go_sem];done)|decide) only [go_sem,h74,bs104,h])
 refine cl_cq (hG K) (check104_c (s:=s) (rs:=[⟨s,0⟩]) (d:= .sl 2 (rows eRoom [⟨s,0⟩]) 1) rfl one_room (.inr rfl) hs)
  (.cons _ _ [0] _ _ [] (.agg _ _ _ (.cons _ _ [0] _ _ [] (.sl 0 0 1 2 (some 1) (some 103) false [.str s, .int .i64 0] [.str s, .int .i64 0] (rows eRoom [⟨s,0⟩]) [] ?_ rfl (.fro (eRoom ⟨s,0⟩))) (.cons _ _ [] _ _ [] (.fro .nils) (.cons _ _ [] _ _ [] (.fro .nils) .nil)))) .nil) (fun d hd=>⟨.inr ?_, ?_⟩)
 ·simp (disch:=first|exact bk rfl|omega|(simp only [ln];omega)|(simp only [go_sem];done)|decide) only [go_sem]
 ·obtain⟨i,rfl⟩:=hd
  rfl
 obtain⟨i,rfl⟩:=hd
 cases hb:nameB s with
 | false=>
  (try simp (disch:=first|exact bk rfl|omega|(simp only [ln];omega)|(simp only [go_sem];done)|decide) only [go_sem,h74,hb,b01]);repeat' first|((with_reducible first|apply gJoin_split|apply cond_split|apply gJoinD_split)<;>intro h<;>(try simp only [spl] at h)<;>try simp (disch:=first|exact bk rfl|omega|(simp only [ln];omega)|(simp only [go_sem];done)|decide) only [go_sem,h74,hb,b01,h])
  all_goals exact endQ_fro (.bool false) rfl
 | true=>
  (try simp (disch:=first|exact bk rfl|omega|(simp only [ln];omega)|(simp only [go_sem];done)|decide) only [go_sem,h74,hb,b00]);repeat' first|((with_reducible first|apply gJoin_split|apply cond_split|apply gJoinD_split)<;>intro h<;>(try simp only [spl] at h)<;>try simp (disch:=first|exact bk rfl|omega|(simp only [ln];omega)|(simp only [go_sem];done)|decide) only [go_sem,h74,hb,b00,h])
  all_goals exact endQ_fro (.bool true) rfl
end Go.S9
namespace Go.S9
open Go.Ev Go.Proofs
set_option maxRecDepth 100000
set_option linter.unusedVariables false
set_option linter.unusedSimpArgs false
variable {K : GP} {H : Hp} {k : AV → Bool}
structure Quest where
 kind:Int
 known:Int
 dial:Int
 place:Str
 lo:Int
 hi:Int
 acc:Int
 bef:Int
 off:Int
 no:Int
def eQ (q:Quest):List D:=[.int .i64 q.kind, .int .i64 q.known, .int .i64 q.dial, .str q.place, .int .i64 q.lo, .int .i64 q.hi, .int .i64 q.acc, .int .i64 q.bef, .int .i64 q.off, .int .i64 q.no]
def q0 (q:Quest):Quest:=⟨q.kind,q.known,0,[],0,0,0,0,0,0⟩
def dialB (n:Int):Bool:=decide (1≤n∧n≤1099511627776)
def bareQ (q:Quest):Quest:=
 if q.kind=1 then {q0 q with dial:=q.dial}
 else if q.kind=2∨q.kind=3∨q.kind=4 then {q0 q with dial:=q.dial,place:=q.place}
 else if q.kind=5 then {q0 q with dial:=q.dial,place:=q.place,lo:=q.lo,hi:=q.hi}
 else if q.kind=6 then {q0 q with acc:=q.acc,lo:=q.lo,hi:=q.hi}
 else if q.kind=7 then {q0 q with bef:=q.bef,lo:=q.lo,hi:=q.hi}
 else if q.kind=8 then {q0 q with off:=q.off,no:=q.no}
 else q0 q
def okB (q:Quest):Bool:=
 if q.kind=1 then dialB q.dial
 else if q.kind=2∨q.kind=3∨q.kind=4 then dialB q.dial&&nameB q.place
 else if q.kind=5 then dialB q.dial&&(nameB q.place&&(timeB q.lo&&(timeB q.hi&&decide (q.lo≤q.hi))))
 else if q.kind=6 then accB q.acc&&nightsB q.lo q.hi
 else if q.kind=7 then timeB q.bef&&nightsB q.lo q.hi
 else if q.kind=8 then decide (1≤q.off∧q.off≤8∧1≤q.no∧q.no≤60)
 else false
theorem dial_t {n:Int} (h:1≤n∧n≤1099511627776):dialB n=true:=by simp [dialB,h]
theorem dial_f {n:Int} (h:¬(1≤n∧n≤1099511627776)):dialB n=false:=by simp only [dialB,decide_eq_false_iff_not];exact h
theorem tupb {x:D} {a b:Bool} (h:a=b):D.tup [x, .bool a]=D.tup [x, .bool b]:=by rw [h]
theorem dial_cases (n:Int):(dialB n=true∧((1≤n)=True)∧((n≤1099511627776)=True))∨(dialB n=false∧((1≤n)=True)∧((n≤1099511627776)=False))∨(dialB n=false∧((1≤n)=False)∧True):=by
 by_cases h1:1≤n
 ·by_cases h2:n≤1099511627776
  ·exact .inl ⟨dial_t ⟨h1,h2⟩,by simp [h1],by simp [h2]⟩
  ·exact .inr (.inl ⟨dial_f (by omega),by simp [h1],by simp [h2]⟩)
 ·exact .inr (.inr ⟨dial_f (by omega),by simp [h1],trivial⟩)
set_option maxHeartbeats 4000000 in
theorem bare38_1 {q:Quest} (hk:q.kind=1) (hp:q.place.length≤9223372036854775807):CQ P (G K) 38 [.agg (eQ q)] (·= .tup [.agg (eQ (bareQ q)), .bool (okB q)]):=by
 refine CQ.enter (hG K) ?_
 have f1:(q.kind=1)=True:=by simp [hk]
 have hX:bareQ q={q0 q with dial:=q.dial}:=by simp [bareQ,hk]
 rw [hX]
 rcases dial_cases q.dial with⟨hb,d1,d2⟩| ⟨hb,d1,d2⟩| ⟨hb,d1,d2⟩
 ·(try simp (maxSteps:=10000000) (disch:=first|exact bk rfl|omega|(simp only [ln];omega)|(simp only [go_sem];done)|decide) only [go_sem,h38,r38,h38_0,h38_1,h38_2,h38_3,h38_4,h38_5,h38_6,h38_7,h38_8,h38_9,h38_10,h38_11,h38_12,h38_13,h38_14,eQ,f1,d1,d2]);repeat' first|((with_reducible first|apply gJoin_split|apply cond_split|apply gJoinD_split)<;>intro h<;>(try simp only [spl] at h)<;>try simp (maxSteps:=10000000) (disch:=first|exact bk rfl|omega|(simp only [ln];omega)|(simp only [go_sem];done)|decide) only [go_sem,h38,r38,h38_0,h38_1,h38_2,h38_3,h38_4,h38_5,h38_6,h38_7,h38_8,h38_9,h38_10,h38_11,h38_12,h38_13,h38_14,eQ,f1,d1,d2,h])
  all_goals (refine endQ_fro (.tup [.agg (eQ {q0 q with dial:=q.dial}), .bool _]) (tupb ?_);first | (simp [okB,hk,hb, *];done)| (rw [Bool.eq_iff_iff];simp [okB,hk,hb, *];done)| (rw [Bool.eq_iff_iff];simp [okB,hk,hb, *];omega))
 ·(try simp (maxSteps:=10000000) (disch:=first|exact bk rfl|omega|(simp only [ln];omega)|(simp only [go_sem];done)|decide) only [go_sem,h38,r38,h38_0,h38_1,h38_2,h38_3,h38_4,h38_5,h38_6,h38_7,h38_8,h38_9,h38_10,h38_11,h38_12,h38_13,h38_14,eQ,f1,d1,d2]);repeat' first|((with_reducible first|apply gJoin_split|apply cond_split|apply gJoinD_split)<;>intro h<;>(try simp only [spl] at h)<;>try simp (maxSteps:=10000000) (disch:=first|exact bk rfl|omega|(simp only [ln];omega)|(simp only [go_sem];done)|decide) only [go_sem,h38,r38,h38_0,h38_1,h38_2,h38_3,h38_4,h38_5,h38_6,h38_7,h38_8,h38_9,h38_10,h38_11,h38_12,h38_13,h38_14,eQ,f1,d1,d2,h])
  all_goals (refine endQ_fro (.tup [.agg (eQ {q0 q with dial:=q.dial}), .bool _]) (tupb ?_);first | (simp [okB,hk,hb, *];done)| (rw [Bool.eq_iff_iff];simp [okB,hk,hb, *];done)| (rw [Bool.eq_iff_iff];simp [okB,hk,hb, *];omega))
 ·(try simp (maxSteps:=10000000) (disch:=first|exact bk rfl|omega|(simp only [ln];omega)|(simp only [go_sem];done)|decide) only [go_sem,h38,r38,h38_0,h38_1,h38_2,h38_3,h38_4,h38_5,h38_6,h38_7,h38_8,h38_9,h38_10,h38_11,h38_12,h38_13,h38_14,eQ,f1,d1]);repeat' first|((with_reducible first|apply gJoin_split|apply cond_split|apply gJoinD_split)<;>intro h<;>(try simp only [spl] at h)<;>try simp (maxSteps:=10000000) (disch:=first|exact bk rfl|omega|(simp only [ln];omega)|(simp only [go_sem];done)|decide) only [go_sem,h38,r38,h38_0,h38_1,h38_2,h38_3,h38_4,h38_5,h38_6,h38_7,h38_8,h38_9,h38_10,h38_11,h38_12,h38_13,h38_14,eQ,f1,d1,h])
  all_goals (refine endQ_fro (.tup [.agg (eQ {q0 q with dial:=q.dial}), .bool _]) (tupb ?_);first | (simp [okB,hk,hb, *];done)| (rw [Bool.eq_iff_iff];simp [okB,hk,hb, *];done)| (rw [Bool.eq_iff_iff];simp [okB,hk,hb, *];omega))
set_option maxHeartbeats 4000000 in
theorem bare38_2 {q:Quest} (hk:q.kind=2) (hp:q.place.length≤9223372036854775807):CQ P (G K) 38 [.agg (eQ q)] (·= .tup [.agg (eQ (bareQ q)), .bool (okB q)]):=by
 refine CQ.enter (hG K) ?_
 have f1:(q.kind=1)=False:=by simp [hk]
 have f2:(q.kind=2)=True:=by simp [hk]
 have hX:bareQ q={q0 q with dial:=q.dial,place:=q.place}:=by simp [bareQ,hk]
 rw [hX]
 rcases dial_cases q.dial with⟨hb,d1,d2⟩| ⟨hb,d1,d2⟩| ⟨hb,d1,d2⟩
 ·(try simp (maxSteps:=10000000) (disch:=first|exact bk rfl|omega|(simp only [ln];omega)|(simp only [go_sem];done)|decide) only [go_sem,h38,r38,h38_0,h38_1,h38_2,h38_3,h38_4,h38_5,h38_6,h38_7,h38_8,h38_9,h38_10,h38_11,h38_12,h38_13,h38_14,eQ,f1,f2,d1,d2]);repeat' first|((with_reducible first|apply gJoin_split|apply cond_split|apply gJoinD_split)<;>intro h<;>(try simp only [spl] at h)<;>try simp (maxSteps:=10000000) (disch:=first|exact bk rfl|omega|(simp only [ln];omega)|(simp only [go_sem];done)|decide) only [go_sem,h38,r38,h38_0,h38_1,h38_2,h38_3,h38_4,h38_5,h38_6,h38_7,h38_8,h38_9,h38_10,h38_11,h38_12,h38_13,h38_14,eQ,f1,f2,d1,d2,h])|((with_reducible refine cl_guard ?_;refine cl_eq (hG K) _ (named74_c hp) rfl ?_)<;>try simp (maxSteps:=10000000) (disch:=first|exact bk rfl|omega|(simp only [ln];omega)|(simp only [go_sem];done)|decide) only [go_sem,h38,r38,h38_0,h38_1,h38_2,h38_3,h38_4,h38_5,h38_6,h38_7,h38_8,h38_9,h38_10,h38_11,h38_12,h38_13,h38_14,eQ,f1,f2,d1,d2])
  all_goals (refine endQ_fro (.tup [.agg (eQ {q0 q with dial:=q.dial,place:=q.place}), .bool _]) (tupb ?_);first | (simp [okB,hk,hb, *];done)| (rw [Bool.eq_iff_iff];simp [okB,hk,hb, *];done)| (rw [Bool.eq_iff_iff];simp [okB,hk,hb, *];omega))
 ·(try simp (maxSteps:=10000000) (disch:=first|exact bk rfl|omega|(simp only [ln];omega)|(simp only [go_sem];done)|decide) only [go_sem,h38,r38,h38_0,h38_1,h38_2,h38_3,h38_4,h38_5,h38_6,h38_7,h38_8,h38_9,h38_10,h38_11,h38_12,h38_13,h38_14,eQ,f1,f2,d1,d2]);repeat' first|((with_reducible first|apply gJoin_split|apply cond_split|apply gJoinD_split)<;>intro h<;>(try simp only [spl] at h)<;>try simp (maxSteps:=10000000) (disch:=first|exact bk rfl|omega|(simp only [ln];omega)|(simp only [go_sem];done)|decide) only [go_sem,h38,r38,h38_0,h38_1,h38_2,h38_3,h38_4,h38_5,h38_6,h38_7,h38_8,h38_9,h38_10,h38_11,h38_12,h38_13,h38_14,eQ,f1,f2,d1,d2,h])|((with_reducible refine cl_guard ?_;refine cl_eq (hG K) _ (named74_c hp) rfl ?_)<;>try simp (maxSteps:=10000000) (disch:=first|exact bk rfl|omega|(simp only [ln];omega)|(simp only [go_sem];done)|decide) only [go_sem,h38,r38,h38_0,h38_1,h38_2,h38_3,h38_4,h38_5,h38_6,h38_7,h38_8,h38_9,h38_10,h38_11,h38_12,h38_13,h38_14,eQ,f1,f2,d1,d2])
  all_goals (refine endQ_fro (.tup [.agg (eQ {q0 q with dial:=q.dial,place:=q.place}), .bool _]) (tupb ?_);first | (simp [okB,hk,hb, *];done)| (rw [Bool.eq_iff_iff];simp [okB,hk,hb, *];done)| (rw [Bool.eq_iff_iff];simp [okB,hk,hb, *];omega))
 ·(try simp (maxSteps:=10000000) (disch:=first|exact bk rfl|omega|(simp only [ln];omega)|(simp only [go_sem];done)|decide) only [go_sem,h38,r38,h38_0,h38_1,h38_2,h38_3,h38_4,h38_5,h38_6,h38_7,h38_8,h38_9,h38_10,h38_11,h38_12,h38_13,h38_14,eQ,f1,f2,d1]);repeat' first|((with_reducible first|apply gJoin_split|apply cond_split|apply gJoinD_split)<;>intro h<;>(try simp only [spl] at h)<;>try simp (maxSteps:=10000000) (disch:=first|exact bk rfl|omega|(simp only [ln];omega)|(simp only [go_sem];done)|decide) only [go_sem,h38,r38,h38_0,h38_1,h38_2,h38_3,h38_4,h38_5,h38_6,h38_7,h38_8,h38_9,h38_10,h38_11,h38_12,h38_13,h38_14,eQ,f1,f2,d1,h])|((with_reducible refine cl_guard ?_;refine cl_eq (hG K) _ (named74_c hp) rfl ?_)<;>try simp (maxSteps:=10000000) (disch:=first|exact bk rfl|omega|(simp only [ln];omega)|(simp only [go_sem];done)|decide) only [go_sem,h38,r38,h38_0,h38_1,h38_2,h38_3,h38_4,h38_5,h38_6,h38_7,h38_8,h38_9,h38_10,h38_11,h38_12,h38_13,h38_14,eQ,f1,f2,d1])
  all_goals (refine endQ_fro (.tup [.agg (eQ {q0 q with dial:=q.dial,place:=q.place}), .bool _]) (tupb ?_);first | (simp [okB,hk,hb, *];done)| (rw [Bool.eq_iff_iff];simp [okB,hk,hb, *];done)| (rw [Bool.eq_iff_iff];simp [okB,hk,hb, *];omega))
end Go.S9
