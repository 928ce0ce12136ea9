/- A part of the proof of TribunalQuestions. -/
import Derived.Test.YtmmghibnfjfnbaaGreatDoorBAl
import Derived.Test.YtmmghibnfjfnbaaGreatDoorBAm
import Derived.Test.YtmmghibnfjfnbaaGreatDoorBAn
set_option linter.unusedVariables false
set_option linter.unusedSimpArgs false
namespace Go.S9
open Go.Ev Go.Proofs
set_option maxRecDepth 100000
set_option linter.unusedVariables false
set_option linter.unusedSimpArgs false
variable {K : GP} {H : Hp} {k : AV → Bool}
theorem bare38_c {q:Quest} (hp:q.place.length≤9223372036854775807):CQ P (G K) 38 [.agg (eQ q)] (·= .tup [.agg (eQ (bareQ q)), .bool (okB q)]):=by
 by_cases h:1≤q.kind∧q.kind≤8
 ·have:q.kind=1∨q.kind=2∨q.kind=3∨q.kind=4∨q.kind=5∨q.kind=6∨q.kind=7∨q.kind=8:=by omega
  rcases this with h | h | h | h | h | h | h | h
  ·exact bare38_1 h hp
  ·exact bare38_2 h hp
  ·exact bare38_3 h hp
  ·exact bare38_4 h hp
  ·exact bare38_5 h hp
  ·exact bare38_6 h hp
  ·exact bare38_7 h hp
  ·exact bare38_8 h hp
 ·exact bare38_0 h
def e10 (a0 a1 a2:Int) (a3:Str) (a4 a5 a6 a7 a8 a9:Int):List AV:=[.int .i64 a0, .int .i64 a1, .int .i64 a2, .str a3, .int .i64 a4, .int .i64 a5, .int .i64 a6, .int .i64 a7, .int .i64 a8, .int .i64 a9]
theorem neq27' (a0 a1 a2:Int) (a3:Str) (a4 a5 a6 a7 a8 a9 b0 b1 b2:Int) (b3:Str) (b4 b5 b6 b7 b8 b9:Int):binK P .neq 27 false (.agg (e10 a0 a1 a2 a3 a4 a5 a6 a7 a8 a9)) (.agg (e10 b0 b1 b2 b3 b4 b5 b6 b7 b8 b9)) k=(match scEqs [.i, .i, .i, .s, .i, .i, .i, .i, .i, .i] (e10 a0 a1 a2 a3 a4 a5 a6 a7 a8 a9) (e10 b0 b1 b2 b3 b4 b5 b6 b7 b8 b9) with | some r=>forceB (!r) fun r=>k (.bool r)| none=>false):=by kernel_rfl
theorem eql27' (a0 a1 a2:Int) (a3:Str) (a4 a5 a6 a7 a8 a9 b0 b1 b2:Int) (b3:Str) (b4 b5 b6 b7 b8 b9:Int):binK P .eql 27 false (.agg (e10 a0 a1 a2 a3 a4 a5 a6 a7 a8 a9)) (.agg (e10 b0 b1 b2 b3 b4 b5 b6 b7 b8 b9)) k=(match scEqs [.i, .i, .i, .s, .i, .i, .i, .i, .i, .i] (e10 a0 a1 a2 a3 a4 a5 a6 a7 a8 a9) (e10 b0 b1 b2 b3 b4 b5 b6 b7 b8 b9) with | some r=>forceB r fun r=>k (.bool r)| none=>false):=by kernel_rfl
def aQ (q:Quest):List AV:=[.int .i64 q.kind, .int .i64 q.known, .int .i64 q.dial, .str q.place, .int .i64 q.lo, .int .i64 q.hi, .int .i64 q.acc, .int .i64 q.bef, .int .i64 q.off, .int .i64 q.no]
theorem ofD_q (q:Quest):ofD (.agg (eQ q))= .agg (aQ q):=rfl
theorem scEqs_q (a b:Quest):scEqs [.i, .i, .i, .s, .i, .i, .i, .i, .i, .i] (aQ a) (aQ b)=some (sameQ a b):=by
 simp only [aQ,scEqs,scEq,Nat.beq_refl,ieq_r,strEq_r,Bool.and_true]
 congr 1
 rw [Bool.eq_iff_iff]
 simp [sameQ]
theorem neq27 (a b:Quest):binK P .neq 27 false (.agg (aQ a)) (.agg (aQ b)) k=k (.bool (!sameQ a b)):=by
 refine (neq27' _ _ _ _ _ _ _ _ _ _ _ _ _ _ _ _ _ _ _ _).trans ?_
 show (match scEqs [.i, .i, .i, .s, .i, .i, .i, .i, .i, .i] (aQ a) (aQ b) with | some r=>forceB (!r) fun r=>k (.bool r)| none=>false)=_
 rw [scEqs_q];exact forceB_eq _ _
theorem eql27 (a b:Quest):binK P .eql 27 false (.agg (aQ a)) (.agg (aQ b)) k=k (.bool (sameQ a b)):=by
 refine (eql27' _ _ _ _ _ _ _ _ _ _ _ _ _ _ _ _ _ _ _ _).trans ?_
 show (match scEqs [.i, .i, .i, .s, .i, .i, .i, .i, .i, .i] (aQ a) (aQ b) with | some r=>forceB r fun r=>k (.bool r)| none=>false)=_
 rw [scEqs_q];exact forceB_eq _ _
theorem neq27u (a b:Quest):binK P .neq 27 false (.agg [.int .i64 a.kind, .int .i64 a.known, .int .i64 a.dial, .str a.place, .int .i64 a.lo, .int .i64 a.hi, .int .i64 a.acc, .int .i64 a.bef, .int .i64 a.off, .int .i64 a.no]) (.agg [.int .i64 b.kind, .int .i64 b.known, .int .i64 b.dial, .str b.place, .int .i64 b.lo, .int .i64 b.hi, .int .i64 b.acc, .int .i64 b.bef, .int .i64 b.off, .int .i64 b.no]) k=k (.bool (!sameQ a b)):=neq27 a b
theorem eql27u (a b:Quest):binK P .eql 27 false (.agg [.int .i64 a.kind, .int .i64 a.known, .int .i64 a.dial, .str a.place, .int .i64 a.lo, .int .i64 a.hi, .int .i64 a.acc, .int .i64 a.bef, .int .i64 a.off, .int .i64 a.no]) (.agg [.int .i64 b.kind, .int .i64 b.known, .int .i64 b.dial, .str b.place, .int .i64 b.lo, .int .i64 b.hi, .int .i64 b.acc, .int .i64 b.bef, .int .i64 b.off, .int .i64 b.no]) k=k (.bool (sameQ a b)):=eql27 a b
set_option maxHeartbeats 4000000 in
theorem check11_c {q:Quest} (hp:q.place.length≤9223372036854775807):CQ P (G K) 11 [.agg (eQ q)] (·= .int .i64 (if validB q then 0 else 1)):=by
 refine CQ.enter (hG K) ?_
 cases h1:okB q with
 | false=>
  have hv:validB q=false:=by simp [validB,h1]
  rw [hv]
  (try simp (disch:=first|exact bk rfl|omega|(simp only [ln];omega)|(simp only [go_sem];done)|decide) only [go_sem,h11,r11,h11_0,h11_1,h11_2,h11_3,eQ,h1,Bool.not_false]);repeat' first|((with_reducible first|apply gJoin_split|apply cond_split|apply gJoinD_split)<;>intro h<;>(try simp only [spl] at h)<;>try simp (disch:=first|exact bk rfl|omega|(simp only [ln];omega)|(simp only [go_sem];done)|decide) only [go_sem,h11,r11,h11_0,h11_1,h11_2,h11_3,eQ,h1,Bool.not_false,h])|((with_reducible refine cl_guard ?_;refine cl_eq (hG K) _ (bare38_c hp) rfl ?_)<;>try simp (disch:=first|exact bk rfl|omega|(simp only [ln];omega)|(simp only [go_sem];done)|decide) only [go_sem,h11,r11,h11_0,h11_1,h11_2,h11_3,eQ,h1,Bool.not_false])
  exact endQ_fro (.int .i64 1) rfl
 | true=>
  cases h2:sameQ (bareQ q) q with
  | false=>
   have hv:validB q=false:=by simp [validB,h2]
   rw [hv]
   (try simp (disch:=first|exact bk rfl|omega|(simp only [ln];omega)|(simp only [go_sem];done)|decide) only [go_sem,h11,r11,h11_0,h11_1,h11_2,h11_3,eQ,h1,neq27u,h2,Bool.not_false,Bool.not_true]);repeat' first|((with_reducible first|apply gJoin_split|apply cond_split|apply gJoinD_split)<;>intro h<;>(try simp only [spl] at h)<;>try simp (disch:=first|exact bk rfl|omega|(simp only [ln];omega)|(simp only [go_sem];done)|decide) only [go_sem,h11,r11,h11_0,h11_1,h11_2,h11_3,eQ,h1,neq27u,h2,Bool.not_false,Bool.not_true,h])|((with_reducible refine cl_guard ?_;refine cl_eq (hG K) _ (bare38_c hp) rfl ?_)<;>try simp (disch:=first|exact bk rfl|omega|(simp only [ln];omega)|(simp only [go_sem];done)|decide) only [go_sem,h11,r11,h11_0,h11_1,h11_2,h11_3,eQ,h1,neq27u,h2,Bool.not_false,Bool.not_true])
   exact endQ_fro (.int .i64 1) rfl
  | true=>
   cases h3:timeB q.known with
   | false=>
    have hv:validB q=false:=by simp [validB,h3]
    rw [hv]
    (try simp (disch:=first|exact bk rfl|omega|(simp only [ln];omega)|(simp only [go_sem];done)|decide) only [go_sem,h11,r11,h11_0,h11_1,h11_2,h11_3,eQ,h1,neq27u,h2,h3,Bool.not_false,Bool.not_true]);repeat' first|((with_reducible first|apply gJoin_split|apply cond_split|apply gJoinD_split)<;>intro h<;>(try simp only [spl] at h)<;>try simp (disch:=first|exact bk rfl|omega|(simp only [ln];omega)|(simp only [go_sem];done)|decide) only [go_sem,h11,r11,h11_0,h11_1,h11_2,h11_3,eQ,h1,neq27u,h2,h3,Bool.not_false,Bool.not_true,h])|((with_reducible refine cl_guard ?_;first|refine cl_eq (hG K) _ (bare38_c hp) rfl ?_|refine cl_eq (hG K) _ (time39_c _) rfl ?_)<;>try simp (disch:=first|exact bk rfl|omega|(simp only [ln];omega)|(simp only [go_sem];done)|decide) only [go_sem,h11,r11,h11_0,h11_1,h11_2,h11_3,eQ,h1,neq27u,h2,h3,Bool.not_false,Bool.not_true])
    exact endQ_fro (.int .i64 1) rfl
   | true=>
    have hv:validB q=true:=by simp [validB,h1,h2,h3]
    rw [hv]
    (try simp (disch:=first|exact bk rfl|omega|(simp only [ln];omega)|(simp only [go_sem];done)|decide) only [go_sem,h11,r11,h11_0,h11_1,h11_2,h11_3,eQ,h1,neq27u,h2,h3,Bool.not_false,Bool.not_true]);repeat' first|((with_reducible first|apply gJoin_split|apply cond_split|apply gJoinD_split)<;>intro h<;>(try simp only [spl] at h)<;>try simp (disch:=first|exact bk rfl|omega|(simp only [ln];omega)|(simp only [go_sem];done)|decide) only [go_sem,h11,r11,h11_0,h11_1,h11_2,h11_3,eQ,h1,neq27u,h2,h3,Bool.not_false,Bool.not_true,h])|((with_reducible refine cl_guard ?_;first|refine cl_eq (hG K) _ (bare38_c hp) rfl ?_|refine cl_eq (hG K) _ (time39_c _) rfl ?_)<;>try simp (disch:=first|exact bk rfl|omega|(simp only [ln];omega)|(simp only [go_sem];done)|decide) only [go_sem,h11,r11,h11_0,h11_1,h11_2,h11_3,eQ,h1,neq27u,h2,h3,Bool.not_false,Bool.not_true])
    exact endQ_fro (.int .i64 0) rfl
end Go.S9
namespace Go.S9
open Go.Ev Go.Proofs Go.RowKit
set_option maxRecDepth 100000
set_option linter.unusedVariables false
set_option linter.unusedSimpArgs false
variable {K : GP} {H : Hp} {k : AV → Bool}
@[go_sem] theorem get_mk (H:Hp) (n b:Nat):Hp.get ⟨H.t,n⟩ b=H.get b:=rfl
theorem app58_t {b b2 n m:Nat} {el el2:Option TypeId} {ro ro2:Bool} {c2:Option Nat} {cs ds:List AV} {k:AV→Hp→Bool} (h1:H.get b=some (.cells el ro cs)) (h2:H.get b2=some (.cells el2 ro2 ds)) (hn:cs.length=n) (hm:ds.length=m+1) (hn':n≤1000) (hm':m≤1000) (hall:ds.all one=true)
  (hk:(Hp.new H (.cells (some 9) false (cs++ds)) fun b H=>k (.sl b 0 (n+(m+1)) 1 none) H)=true):appendK P H 58 58 (.sl b 0 n 1 (some n)) (.sl b2 0 (m+1) 1 c2) k=true:=by
 rw [app58 h1 h2 hn hm hn' hm' hall];exact hk
theorem rds_own {b n:Nat} {el:Option TypeId} {ro:Bool} {c:Option Nat} {ws:List Str} {s:Str} (h:H.get b=some (.cells el ro (ws.map AV.str))) (hn:n=ws.length) (hl:n<900):rds 1000 H [AV.sl b 0 n 1 c,AV.str s]=some [D.sl 1 (ws.map D.str) n,D.str s]:=by
 subst hn
 have h1:rdx false 999 H (AV.sl b 0 ws.length 1 c)=some (D.sl 1 (ws.map D.str) ws.length,[b]):=by
  show (match H.get b with
   | some (.cells _ ro cs)=>match false&&ro,takeN (ws.length * 1) (cs.drop 0) with
    | false,some cs=>match rdxs false 998 H cs with
     | some (ds,I)=>some (D.sl 1 ds ws.length,b::I)
     | none=>none
    | _,_=>none
   | _=>none)=_
  rw [h]
  dsimp only
  rw [List.drop_zero,takeN_take _ _ (by simp),List.take_of_length_le (by simp),Bool.false_and]
  dsimp only
  rw [rdxs_str false 998 H ws (by omega)]
 have h2:rdxs false 999 H [AV.str s]=some ([D.str s],[]):=rfl
 unfold rds
 have h3:rdxs false 1000 H [AV.sl b 0 ws.length 1 c,AV.str s]=some ([D.sl 1 (ws.map D.str) ws.length,D.str s],[b]):=by
  show (match rdx false 999 H (AV.sl b 0 ws.length 1 c),rdxs false 999 H [AV.str s] with | some (d,I),some (ds,J)=>some (d::ds,I++J)| _,_=>none)=_
  rw [h1,h2];rfl
 rw [h3]
theorem cl_join {b n:Nat} {el:Option TypeId} {ro:Bool} {c:Option Nat} {w:Str} {ws:List Str} {k:AV→Hp→Bool} (h:H.get b=some (.cells el ro ((w::ws).map AV.str))) (hn:n=(w::ws).length) (hb:∀x∈w::ws,∀c∈x,c<256) (h1:n<900) (h2:(jn (w::ws)).length≤100000)
  (hk:k (.str (jn (w::ws))) H=true):cl P (G K) 29 [.sl b 0 n 1 c, .str [32]] H k=true:=
 cl_entry (join29_e hn hb (by omega) h2) (rds_own h hn h1) hk
theorem check11_t {q:Quest} (hp:q.place.length≤9223372036854775807) (h:validB q=true):CQ P (G K) 11 [.agg (eQ q)] (·= .int .i64 0):=by
 have:=check11_c (K:=K) hp
 rw [h] at this
 exact this
theorem check11_f {q:Quest} (hp:q.place.length≤9223372036854775807) (h:validB q=false):CQ P (G K) 11 [.agg (eQ q)] (·= .int .i64 1):=by
 have:=check11_c (K:=K) hp
 rw [h] at this
 exact this
theorem inQR {n:Int} (h:inQ n):inR n:=⟨by have:=h.1;omega,by have:=h.2;omega⟩
theorem name_byte {s:Str} (h:nameB s=true):∀c∈s,c<256:=fun c hc=>by
 unfold nameB at h
 rw [Bool.and_eq_true] at h
 have:=List.all_eq_true.1 h.1 _ hc
 simp only [chB,decide_eq_true_eq] at this
 omega
theorem name_len {s:Str} (h:nameB s=true):s.length≤16:=by
 unfold nameB at h
 simp only [Bool.and_eq_true,decide_eq_true_eq] at h
 omega
theorem sp_byte (lo hi:Int):∀c∈spS lo hi,c<256:=fun c hc=>by
 unfold spS at hc
 rcases List.mem_append.1 hc with hc | hc
 ·rcases List.mem_append.1 hc with hc | hc
  ·exact itS_byte _ c hc
  ·simp at hc;omega
 ·exact itS_byte _ c hc
theorem ixn1:indexAtK P 58 (.dat (.sl 1 (names.map D.str) 9)) (.int .i64 1) k=k (.dat (.ptr (names.map D.str) 1)):=by kernel_rfl
theorem nmg1:(ofDs (List.map D.str names))[1]? =some (AV.str [118,101,114,100,105,99,116]):=rfl
theorem ixn2:indexAtK P 58 (.dat (.sl 1 (names.map D.str) 9)) (.int .i64 2) k=k (.dat (.ptr (names.map D.str) 2)):=by kernel_rfl
theorem nmg2:(ofDs (List.map D.str names))[2]? =some (AV.str [109,105,115,115,101,100]):=rfl
theorem ixn3:indexAtK P 58 (.dat (.sl 1 (names.map D.str) 9)) (.int .i64 3) k=k (.dat (.ptr (names.map D.str) 3)):=by kernel_rfl
theorem nmg3:(ofDs (List.map D.str names))[3]? =some (AV.str [119,104,101,110]):=rfl
theorem ixn4:indexAtK P 58 (.dat (.sl 1 (names.map D.str) 9)) (.int .i64 4) k=k (.dat (.ptr (names.map D.str) 4)):=by kernel_rfl
theorem nmg4:(ofDs (List.map D.str names))[4]? =some (AV.str [119,104,111]):=rfl
theorem ixn5:indexAtK P 58 (.dat (.sl 1 (names.map D.str) 9)) (.int .i64 5) k=k (.dat (.ptr (names.map D.str) 5)):=by kernel_rfl
theorem nmg5:(ofDs (List.map D.str names))[5]? =some (AV.str [112,108,97,99,101,100]):=rfl
theorem ixn6:indexAtK P 58 (.dat (.sl 1 (names.map D.str) 9)) (.int .i64 6) k=k (.dat (.ptr (names.map D.str) 6)):=by kernel_rfl
theorem nmg6:(ofDs (List.map D.str names))[6]? =some (AV.str [98,97,108,97,110,99,101]):=rfl
theorem ixn7:indexAtK P 58 (.dat (.sl 1 (names.map D.str) 9)) (.int .i64 7) k=k (.dat (.ptr (names.map D.str) 7)):=by kernel_rfl
theorem nmg7:(ofDs (List.map D.str names))[7]? =some (AV.str [97,109,101,110,100]):=rfl
theorem ixn8:indexAtK P 58 (.dat (.sl 1 (names.map D.str) 9)) (.int .i64 8) k=k (.dat (.ptr (names.map D.str) 8)):=by kernel_rfl
theorem nmg8:(ofDs (List.map D.str names))[8]? =some (AV.str [114,101,115,116,115]):=rfl
theorem sm_t (a b:Bool) (h:a=true) (h':b=true):(a&&b)=true:=by rw [h,h'];rfl
set_option maxHeartbeats 8000000 in
theorem print8_1 {q:Quest} (hk:q.kind=1) (hp:q.place.length≤9223372036854775807) (hv:validB q=true) (ik:inQ q.known) (idial:inQ q.dial):CQ P (G K) 8 [.agg (eQ q)] (·= .tup [.str (printE q), .int .i64 0]):=by
 refine CQ.enter (hG K) ?_
 have f1:(q.kind=1)=True:=by simp [hk]
 have hX:printE q=jn [([118,101,114,100,105,99,116]:Str),itS q.known,itS q.dial]:=by simp [printE,wordsOf,hk];rfl
 have ldial:=itS_len (inQR idial)
 have lk:=itS_len (inQR ik)
 rw [hX]
 have hkk:indexAtK P 58 (.dat (.sl 1 (names.map D.str) 9)) (.int .i64 q.kind)=indexAtK P 58 (.dat (.sl 1 (names.map D.str) 9)) (.int .i64 1):=by rw [hk]
 (try simp (disch:=first|exact bk rfl|omega|(simp only [ln];omega)|(simp only [go_sem];done)|decide) only [go_sem,h8,r8,h8_0,h8_1,eQ,hkk,ixn1,nmg1,namesD,ofD,bs58_1,bs58_2,bs58_3,f1]);repeat' first|((with_reducible first|apply gJoin_split|apply cond_split|apply gJoinD_split)<;>intro h<;>(try simp only [spl] at h)<;>try simp (disch:=first|exact bk rfl|omega|(simp only [ln];omega)|(simp only [go_sem];done)|decide) only [go_sem,h8,r8,h8_0,h8_1,eQ,hkk,ixn1,nmg1,namesD,ofD,bs58_1,bs58_2,bs58_3,f1,h])|((with_reducible refine cl_guard ?_;first|refine cl_eq (hG K) _ (check11_t hp hv) rfl ?_|refine cl_eq (hG K) _ (words26_c) rfl ?_|refine cl_eq (hG K) _ (itoa27_c (inQR ik)) rfl ?_|refine cl_eq (hG K) _ (itoa27_c (inQR idial)) rfl ?_)<;>try simp (disch:=first|exact bk rfl|omega|(simp only [ln];omega)|(simp only [go_sem];done)|decide) only [go_sem,h8,r8,h8_0,h8_1,eQ,hkk,ixn1,nmg1,namesD,ofD,bs58_1,bs58_2,bs58_3,f1])
 refine app58_t (el:=some 9) (ro:=false) (cs:=[.str [118,101,114,100,105,99,116], .str (itS q.known)]) (el2:=some 9) (ro2:=false) (ds:=[.str (itS q.dial)]) (m:=0) (by (simp (disch:=first|exact bk rfl|omega|(simp only [ln];omega)|(simp only [go_sem];done)|decide) only [go_sem]<;>first|rfl|omega)) (by (simp (disch:=first|exact bk rfl|omega|(simp only [ln];omega)|(simp only [go_sem];done)|decide) only [go_sem]<;>first|rfl|omega)) rfl rfl (by decide) (by decide) rfl ?_
 (try simp (disch:=first|exact bk rfl|omega|(simp only [ln];omega)|(simp only [go_sem];done)|decide) only [go_sem,h8,r8,h8_0,h8_1,eQ,bs58_1,bs58_2,bs58_3,f1]);repeat' first|((with_reducible first|apply gJoin_split|apply cond_split|apply gJoinD_split)<;>intro h<;>(try simp only [spl] at h)<;>try simp (disch:=first|exact bk rfl|omega|(simp only [ln];omega)|(simp only [go_sem];done)|decide) only [go_sem,h8,r8,h8_0,h8_1,eQ,bs58_1,bs58_2,bs58_3,f1,h])
 refine cl_join (el:=some 9) (ro:=false) (w:=[118,101,114,100,105,99,116]) (ws:=[itS q.known,itS q.dial]) (by (simp (disch:=first|exact bk rfl|omega|(simp only [ln];omega)|(simp only [go_sem];done)|decide) only [go_sem]<;>first|rfl|omega)) rfl ?_ (by decide) ?_ ?_
 ·intro x hx
  simp only [List.mem_cons,List.not_mem_nil,or_false] at hx
  rcases hx with rfl | rfl | rfl
  ·decide
  ·exact itS_byte _
  ·exact itS_byte _
 ·simp [jn,spS];omega
 (try simp (disch:=first|exact bk rfl|omega|(simp only [ln];omega)|(simp only [go_sem];done)|decide) only [go_sem,h8,r8,h8_0,h8_1,eQ]);repeat' first|((with_reducible first|apply gJoin_split|apply cond_split|apply gJoinD_split)<;>intro h<;>(try simp only [spl] at h)<;>try simp (disch:=first|exact bk rfl|omega|(simp only [ln];omega)|(simp only [go_sem];done)|decide) only [go_sem,h8,r8,h8_0,h8_1,eQ,h])
 exact endQ_fro (.tup [.str _, .int .i64 0]) rfl
set_option maxHeartbeats 8000000 in
theorem print8_2 {q:Quest} (hk:q.kind=2) (hp:q.place.length≤9223372036854775807) (hv:validB q=true) (ik:inQ q.known) (idial:inQ q.dial) (hb:nameB q.place=true):CQ P (G K) 8 [.agg (eQ q)] (·= .tup [.str (printE q), .int .i64 0]):=by
 refine CQ.enter (hG K) ?_
 have f1:(q.kind=1)=False:=by simp [hk]
 have f2:(q.kind=2)=True:=by simp [hk]
 have hX:printE q=jn [([109,105,115,115,101,100]:Str),itS q.known,itS q.dial,q.place]:=by simp [printE,wordsOf,hk];rfl
 have ldial:=itS_len (inQR idial)
 have lk:=itS_len (inQR ik)
 have lp:=name_len hb
 rw [hX]
 have hkk:indexAtK P 58 (.dat (.sl 1 (names.map D.str) 9)) (.int .i64 q.kind)=indexAtK P 58 (.dat (.sl 1 (names.map D.str) 9)) (.int .i64 2):=by rw [hk]
 (try simp (disch:=first|exact bk rfl|omega|(simp only [ln];omega)|(simp only [go_sem];done)|decide) only [go_sem,h8,r8,h8_0,h8_1,eQ,hkk,ixn2,nmg2,namesD,ofD,bs58_1,bs58_2,bs58_3,f1,f2]);repeat' first|((with_reducible first|apply gJoin_split|apply cond_split|apply gJoinD_split)<;>intro h<;>(try simp only [spl] at h)<;>try simp (disch:=first|exact bk rfl|omega|(simp only [ln];omega)|(simp only [go_sem];done)|decide) only [go_sem,h8,r8,h8_0,h8_1,eQ,hkk,ixn2,nmg2,namesD,ofD,bs58_1,bs58_2,bs58_3,f1,f2,h])|((with_reducible refine cl_guard ?_;first|refine cl_eq (hG K) _ (check11_t hp hv) rfl ?_|refine cl_eq (hG K) _ (words26_c) rfl ?_|refine cl_eq (hG K) _ (itoa27_c (inQR ik)) rfl ?_|refine cl_eq (hG K) _ (itoa27_c (inQR idial)) rfl ?_)<;>try simp (disch:=first|exact bk rfl|omega|(simp only [ln];omega)|(simp only [go_sem];done)|decide) only [go_sem,h8,r8,h8_0,h8_1,eQ,hkk,ixn2,nmg2,namesD,ofD,bs58_1,bs58_2,bs58_3,f1,f2])
 refine app58_t (el:=some 9) (ro:=false) (cs:=[.str [109,105,115,115,101,100], .str (itS q.known)]) (el2:=some 9) (ro2:=false) (ds:=[.str (itS q.dial), .str (q.place)]) (m:=1) (by (simp (disch:=first|exact bk rfl|omega|(simp only [ln];omega)|(simp only [go_sem];done)|decide) only [go_sem]<;>first|rfl|omega)) (by (simp (disch:=first|exact bk rfl|omega|(simp only [ln];omega)|(simp only [go_sem];done)|decide) only [go_sem]<;>first|rfl|omega)) rfl rfl (by decide) (by decide) rfl ?_
 (try simp (disch:=first|exact bk rfl|omega|(simp only [ln];omega)|(simp only [go_sem];done)|decide) only [go_sem,h8,r8,h8_0,h8_1,eQ,bs58_1,bs58_2,bs58_3,f1,f2]);repeat' first|((with_reducible first|apply gJoin_split|apply cond_split|apply gJoinD_split)<;>intro h<;>(try simp only [spl] at h)<;>try simp (disch:=first|exact bk rfl|omega|(simp only [ln];omega)|(simp only [go_sem];done)|decide) only [go_sem,h8,r8,h8_0,h8_1,eQ,bs58_1,bs58_2,bs58_3,f1,f2,h])
 refine cl_join (el:=some 9) (ro:=false) (w:=[109,105,115,115,101,100]) (ws:=[itS q.known,itS q.dial,q.place]) (by (simp (disch:=first|exact bk rfl|omega|(simp only [ln];omega)|(simp only [go_sem];done)|decide) only [go_sem]<;>first|rfl|omega)) rfl ?_ (by decide) ?_ ?_
 ·intro x hx
  simp only [List.mem_cons,List.not_mem_nil,or_false] at hx
  rcases hx with rfl | rfl | rfl | rfl
  ·decide
  ·exact itS_byte _
  ·exact itS_byte _
  ·exact name_byte hb
 ·simp [jn,spS];omega
 (try simp (disch:=first|exact bk rfl|omega|(simp only [ln];omega)|(simp only [go_sem];done)|decide) only [go_sem,h8,r8,h8_0,h8_1,eQ]);repeat' first|((with_reducible first|apply gJoin_split|apply cond_split|apply gJoinD_split)<;>intro h<;>(try simp only [spl] at h)<;>try simp (disch:=first|exact bk rfl|omega|(simp only [ln];omega)|(simp only [go_sem];done)|decide) only [go_sem,h8,r8,h8_0,h8_1,eQ,h])
 exact endQ_fro (.tup [.str _, .int .i64 0]) rfl
set_option maxHeartbeats 8000000 in
theorem print8_3 {q:Quest} (hk:q.kind=3) (hp:q.place.length≤9223372036854775807) (hv:validB q=true) (ik:inQ q.known) (idial:inQ q.dial) (hb:nameB q.place=true):CQ P (G K) 8 [.agg (eQ q)] (·= .tup [.str (printE q), .int .i64 0]):=by
 refine CQ.enter (hG K) ?_
 have f1:(q.kind=1)=False:=by simp [hk]
 have f2:(q.kind=2)=False:=by simp [hk]
 have f3:(q.kind=3)=True:=by simp [hk]
 have hX:printE q=jn [([119,104,101,110]:Str),itS q.known,itS q.dial,q.place]:=by simp [printE,wordsOf,hk];rfl
 have ldial:=itS_len (inQR idial)
 have lk:=itS_len (inQR ik)
 have lp:=name_len hb
 rw [hX]
 have hkk:indexAtK P 58 (.dat (.sl 1 (names.map D.str) 9)) (.int .i64 q.kind)=indexAtK P 58 (.dat (.sl 1 (names.map D.str) 9)) (.int .i64 3):=by rw [hk]
 (try simp (disch:=first|exact bk rfl|omega|(simp only [ln];omega)|(simp only [go_sem];done)|decide) only [go_sem,h8,r8,h8_0,h8_1,eQ,hkk,ixn3,nmg3,namesD,ofD,bs58_1,bs58_2,bs58_3,f1,f2,f3]);repeat' first|((with_reducible first|apply gJoin_split|apply cond_split|apply gJoinD_split)<;>intro h<;>(try simp only [spl] at h)<;>try simp (disch:=first|exact bk rfl|omega|(simp only [ln];omega)|(simp only [go_sem];done)|decide) only [go_sem,h8,r8,h8_0,h8_1,eQ,hkk,ixn3,nmg3,namesD,ofD,bs58_1,bs58_2,bs58_3,f1,f2,f3,h])|((with_reducible refine cl_guard ?_;first|refine cl_eq (hG K) _ (check11_t hp hv) rfl ?_|refine cl_eq (hG K) _ (words26_c) rfl ?_|refine cl_eq (hG K) _ (itoa27_c (inQR ik)) rfl ?_|refine cl_eq (hG K) _ (itoa27_c (inQR idial)) rfl ?_)<;>try simp (disch:=first|exact bk rfl|omega|(simp only [ln];omega)|(simp only [go_sem];done)|decide) only [go_sem,h8,r8,h8_0,h8_1,eQ,hkk,ixn3,nmg3,namesD,ofD,bs58_1,bs58_2,bs58_3,f1,f2,f3])
 refine app58_t (el:=some 9) (ro:=false) (cs:=[.str [119,104,101,110], .str (itS q.known)]) (el2:=some 9) (ro2:=false) (ds:=[.str (itS q.dial), .str (q.place)]) (m:=1) (by (simp (disch:=first|exact bk rfl|omega|(simp only [ln];omega)|(simp only [go_sem];done)|decide) only [go_sem]<;>first|rfl|omega)) (by (simp (disch:=first|exact bk rfl|omega|(simp only [ln];omega)|(simp only [go_sem];done)|decide) only [go_sem]<;>first|rfl|omega)) rfl rfl (by decide) (by decide) rfl ?_
 (try simp (disch:=first|exact bk rfl|omega|(simp only [ln];omega)|(simp only [go_sem];done)|decide) only [go_sem,h8,r8,h8_0,h8_1,eQ,bs58_1,bs58_2,bs58_3,f1,f2,f3]);repeat' first|((with_reducible first|apply gJoin_split|apply cond_split|apply gJoinD_split)<;>intro h<;>(try simp only [spl] at h)<;>try simp (disch:=first|exact bk rfl|omega|(simp only [ln];omega)|(simp only [go_sem];done)|decide) only [go_sem,h8,r8,h8_0,h8_1,eQ,bs58_1,bs58_2,bs58_3,f1,f2,f3,h])
 refine cl_join (el:=some 9) (ro:=false) (w:=[119,104,101,110]) (ws:=[itS q.known,itS q.dial,q.place]) (by (simp (disch:=first|exact bk rfl|omega|(simp only [ln];omega)|(simp only [go_sem];done)|decide) only [go_sem]<;>first|rfl|omega)) rfl ?_ (by decide) ?_ ?_
 ·intro x hx
  simp only [List.mem_cons,List.not_mem_nil,or_false] at hx
  rcases hx with rfl | rfl | rfl | rfl
  ·decide
  ·exact itS_byte _
  ·exact itS_byte _
  ·exact name_byte hb
 ·simp [jn,spS];omega
 (try simp (disch:=first|exact bk rfl|omega|(simp only [ln];omega)|(simp only [go_sem];done)|decide) only [go_sem,h8,r8,h8_0,h8_1,eQ]);repeat' first|((with_reducible first|apply gJoin_split|apply cond_split|apply gJoinD_split)<;>intro h<;>(try simp only [spl] at h)<;>try simp (disch:=first|exact bk rfl|omega|(simp only [ln];omega)|(simp only [go_sem];done)|decide) only [go_sem,h8,r8,h8_0,h8_1,eQ,h])
 exact endQ_fro (.tup [.str _, .int .i64 0]) rfl
set_option maxHeartbeats 8000000 in
theorem print8_4 {q:Quest} (hk:q.kind=4) (hp:q.place.length≤9223372036854775807) (hv:validB q=true) (ik:inQ q.known) (idial:inQ q.dial) (hb:nameB q.place=true):CQ P (G K) 8 [.agg (eQ q)] (·= .tup [.str (printE q), .int .i64 0]):=by
 refine CQ.enter (hG K) ?_
 have f1:(q.kind=1)=False:=by simp [hk]
 have f2:(q.kind=2)=False:=by simp [hk]
 have f3:(q.kind=3)=False:=by simp [hk]
 have f4:(q.kind=4)=True:=by simp [hk]
 have hX:printE q=jn [([119,104,111]:Str),itS q.known,itS q.dial,q.place]:=by simp [printE,wordsOf,hk];rfl
 have ldial:=itS_len (inQR idial)
 have lk:=itS_len (inQR ik)
 have lp:=name_len hb
 rw [hX]
 have hkk:indexAtK P 58 (.dat (.sl 1 (names.map D.str) 9)) (.int .i64 q.kind)=indexAtK P 58 (.dat (.sl 1 (names.map D.str) 9)) (.int .i64 4):=by rw [hk]
 (try simp (disch:=first|exact bk rfl|omega|(simp only [ln];omega)|(simp only [go_sem];done)|decide) only [go_sem,h8,r8,h8_0,h8_1,eQ,hkk,ixn4,nmg4,namesD,ofD,bs58_1,bs58_2,bs58_3,f1,f2,f3,f4]);repeat' first|((with_reducible first|apply gJoin_split|apply cond_split|apply gJoinD_split)<;>intro h<;>(try simp only [spl] at h)<;>try simp (disch:=first|exact bk rfl|omega|(simp only [ln];omega)|(simp only [go_sem];done)|decide) only [go_sem,h8,r8,h8_0,h8_1,eQ,hkk,ixn4,nmg4,namesD,ofD,bs58_1,bs58_2,bs58_3,f1,f2,f3,f4,h])|((with_reducible refine cl_guard ?_;first|refine cl_eq (hG K) _ (check11_t hp hv) rfl ?_|refine cl_eq (hG K) _ (words26_c) rfl ?_|refine cl_eq (hG K) _ (itoa27_c (inQR ik)) rfl ?_|refine cl_eq (hG K) _ (itoa27_c (inQR idial)) rfl ?_)<;>try simp (disch:=first|exact bk rfl|omega|(simp only [ln];omega)|(simp only [go_sem];done)|decide) only [go_sem,h8,r8,h8_0,h8_1,eQ,hkk,ixn4,nmg4,namesD,ofD,bs58_1,bs58_2,bs58_3,f1,f2,f3,f4])
 refine app58_t (el:=some 9) (ro:=false) (cs:=[.str [119,104,111], .str (itS q.known)]) (el2:=some 9) (ro2:=false) (ds:=[.str (itS q.dial), .str (q.place)]) (m:=1) (by (simp (disch:=first|exact bk rfl|omega|(simp only [ln];omega)|(simp only [go_sem];done)|decide) only [go_sem]<;>first|rfl|omega)) (by (simp (disch:=first|exact bk rfl|omega|(simp only [ln];omega)|(simp only [go_sem];done)|decide) only [go_sem]<;>first|rfl|omega)) rfl rfl (by decide) (by decide) rfl ?_
 (try simp (disch:=first|exact bk rfl|omega|(simp only [ln];omega)|(simp only [go_sem];done)|decide) only [go_sem,h8,r8,h8_0,h8_1,eQ,bs58_1,bs58_2,bs58_3,f1,f2,f3,f4]);repeat' first|((with_reducible first|apply gJoin_split|apply cond_split|apply gJoinD_split)<;>intro h<;>(try simp only [spl] at h)<;>try simp (disch:=first|exact bk rfl|omega|(simp only [ln];omega)|(simp only [go_sem];done)|decide) only [go_sem,h8,r8,h8_0,h8_1,eQ,bs58_1,bs58_2,bs58_3,f1,f2,f3,f4,h])
 refine cl_join (el:=some 9) (ro:=false) (w:=[119,104,111]) (ws:=[itS q.known,itS q.dial,q.place]) (by (simp (disch:=first|exact bk rfl|omega|(simp only [ln];omega)|(simp only [go_sem];done)|decide) only [go_sem]<;>first|rfl|omega)) rfl ?_ (by decide) ?_ ?_
 ·intro x hx
  simp only [List.mem_cons,List.not_mem_nil,or_false] at hx
  rcases hx with rfl | rfl | rfl | rfl
  ·decide
  ·exact itS_byte _
  ·exact itS_byte _
  ·exact name_byte hb
 ·simp [jn,spS];omega
 (try simp (disch:=first|exact bk rfl|omega|(simp only [ln];omega)|(simp only [go_sem];done)|decide) only [go_sem,h8,r8,h8_0,h8_1,eQ]);repeat' first|((with_reducible first|apply gJoin_split|apply cond_split|apply gJoinD_split)<;>intro h<;>(try simp only [spl] at h)<;>try simp (disch:=first|exact bk rfl|omega|(simp only [ln];omega)|(simp only [go_sem];done)|decide) only [go_sem,h8,r8,h8_0,h8_1,eQ,h])
 exact endQ_fro (.tup [.str _, .int .i64 0]) rfl
set_option maxHeartbeats 8000000 in
theorem print8_5 {q:Quest} (hk:q.kind=5) (hp:q.place.length≤9223372036854775807) (hv:validB q=true) (ik:inQ q.known) (idial:inQ q.dial) (ilo:inQ q.lo) (ihi:inQ q.hi) (hb:nameB q.place=true):CQ P (G K) 8 [.agg (eQ q)] (·= .tup [.str (printE q), .int .i64 0]):=by
 refine CQ.enter (hG K) ?_
 have f1:(q.kind=1)=False:=by simp [hk]
 have f2:(q.kind=2)=False:=by simp [hk]
 have f3:(q.kind=3)=False:=by simp [hk]
 have f4:(q.kind=4)=False:=by simp [hk]
 have f5:(q.kind=5)=True:=by simp [hk]
 have hX:printE q=jn [([112,108,97,99,101,100]:Str),itS q.known,itS q.dial,q.place,spS q.lo q.hi]:=by simp [printE,wordsOf,hk];rfl
 have ldial:=itS_len (inQR idial)
 have llo:=itS_len (inQR ilo)
 have lhi:=itS_len (inQR ihi)
 have lk:=itS_len (inQR ik)
 have lp:=name_len hb
 rw [hX]
 have hkk:indexAtK P 58 (.dat (.sl 1 (names.map D.str) 9)) (.int .i64 q.kind)=indexAtK P 58 (.dat (.sl 1 (names.map D.str) 9)) (.int .i64 5):=by rw [hk]
 (try simp (disch:=first|exact bk rfl|omega|(simp only [ln];omega)|(simp only [go_sem];done)|decide) only [go_sem,h8,r8,h8_0,h8_1,eQ,hkk,ixn5,nmg5,namesD,ofD,bs58_1,bs58_2,bs58_3,f1,f2,f3,f4,f5]);repeat' first|((with_reducible first|apply gJoin_split|apply cond_split|apply gJoinD_split)<;>intro h<;>(try simp only [spl] at h)<;>try simp (disch:=first|exact bk rfl|omega|(simp only [ln];omega)|(simp only [go_sem];done)|decide) only [go_sem,h8,r8,h8_0,h8_1,eQ,hkk,ixn5,nmg5,namesD,ofD,bs58_1,bs58_2,bs58_3,f1,f2,f3,f4,f5,h])|((with_reducible refine cl_guard ?_;first|refine cl_eq (hG K) _ (check11_t hp hv) rfl ?_|refine cl_eq (hG K) _ (words26_c) rfl ?_|refine cl_eq (hG K) _ (itoa27_c (inQR ik)) rfl ?_|refine cl_eq (hG K) _ (itoa27_c (inQR idial)) rfl ?_|refine cl_eq (hG K) _ (span28_c (inQR ilo) (inQR ihi)) rfl ?_)<;>try simp (disch:=first|exact bk rfl|omega|(simp only [ln];omega)|(simp only [go_sem];done)|decide) only [go_sem,h8,r8,h8_0,h8_1,eQ,hkk,ixn5,nmg5,namesD,ofD,bs58_1,bs58_2,bs58_3,f1,f2,f3,f4,f5])
 refine app58_t (el:=some 9) (ro:=false) (cs:=[.str [112,108,97,99,101,100], .str (itS q.known)]) (el2:=some 9) (ro2:=false) (ds:=[.str (itS q.dial), .str (q.place), .str (spS q.lo q.hi)]) (m:=2) (by (simp (disch:=first|exact bk rfl|omega|(simp only [ln];omega)|(simp only [go_sem];done)|decide) only [go_sem]<;>first|rfl|omega)) (by (simp (disch:=first|exact bk rfl|omega|(simp only [ln];omega)|(simp only [go_sem];done)|decide) only [go_sem]<;>first|rfl|omega)) rfl rfl (by decide) (by decide) rfl ?_
 (try simp (disch:=first|exact bk rfl|omega|(simp only [ln];omega)|(simp only [go_sem];done)|decide) only [go_sem,h8,r8,h8_0,h8_1,eQ,bs58_1,bs58_2,bs58_3,f1,f2,f3,f4,f5]);repeat' first|((with_reducible first|apply gJoin_split|apply cond_split|apply gJoinD_split)<;>intro h<;>(try simp only [spl] at h)<;>try simp (disch:=first|exact bk rfl|omega|(simp only [ln];omega)|(simp only [go_sem];done)|decide) only [go_sem,h8,r8,h8_0,h8_1,eQ,bs58_1,bs58_2,bs58_3,f1,f2,f3,f4,f5,h])
 refine cl_join (el:=some 9) (ro:=false) (w:=[112,108,97,99,101,100]) (ws:=[itS q.known,itS q.dial,q.place,spS q.lo q.hi]) (by (simp (disch:=first|exact bk rfl|omega|(simp only [ln];omega)|(simp only [go_sem];done)|decide) only [go_sem]<;>first|rfl|omega)) rfl ?_ (by decide) ?_ ?_
 ·intro x hx
  simp only [List.mem_cons,List.not_mem_nil,or_false] at hx
  rcases hx with rfl | rfl | rfl | rfl | rfl
  ·decide
  ·exact itS_byte _
  ·exact itS_byte _
  ·exact name_byte hb
  ·exact sp_byte _ _
 ·simp [jn,spS];omega
 (try simp (disch:=first|exact bk rfl|omega|(simp only [ln];omega)|(simp only [go_sem];done)|decide) only [go_sem,h8,r8,h8_0,h8_1,eQ]);repeat' first|((with_reducible first|apply gJoin_split|apply cond_split|apply gJoinD_split)<;>intro h<;>(try simp only [spl] at h)<;>try simp (disch:=first|exact bk rfl|omega|(simp only [ln];omega)|(simp only [go_sem];done)|decide) only [go_sem,h8,r8,h8_0,h8_1,eQ,h])
 exact endQ_fro (.tup [.str _, .int .i64 0]) rfl
set_option maxHeartbeats 8000000 in
theorem print8_6 {q:Quest} (hk:q.kind=6) (hp:q.place.length≤9223372036854775807) (hv:validB q=true) (ik:inQ q.known) (iacc:inQ q.acc) (ilo:inQ q.lo) (ihi:inQ q.hi):CQ P (G K) 8 [.agg (eQ q)] (·= .tup [.str (printE q), .int .i64 0]):=by
 refine CQ.enter (hG K) ?_
 have f1:(q.kind=1)=False:=by simp [hk]
 have f2:(q.kind=2)=False:=by simp [hk]
 have f3:(q.kind=3)=False:=by simp [hk]
 have f4:(q.kind=4)=False:=by simp [hk]
 have f5:(q.kind=5)=False:=by simp [hk]
 have f6:(q.kind=6)=True:=by simp [hk]
 have hX:printE q=jn [([98,97,108,97,110,99,101]:Str),itS q.known,itS q.acc,spS q.lo q.hi]:=by simp [printE,wordsOf,hk];rfl
 have lacc:=itS_len (inQR iacc)
 have llo:=itS_len (inQR ilo)
 have lhi:=itS_len (inQR ihi)
 have lk:=itS_len (inQR ik)
 rw [hX]
 have hkk:indexAtK P 58 (.dat (.sl 1 (names.map D.str) 9)) (.int .i64 q.kind)=indexAtK P 58 (.dat (.sl 1 (names.map D.str) 9)) (.int .i64 6):=by rw [hk]
 (try simp (disch:=first|exact bk rfl|omega|(simp only [ln];omega)|(simp only [go_sem];done)|decide) only [go_sem,h8,r8,h8_0,h8_1,eQ,hkk,ixn6,nmg6,namesD,ofD,bs58_1,bs58_2,bs58_3,f1,f2,f3,f4,f5,f6]);repeat' first|((with_reducible first|apply gJoin_split|apply cond_split|apply gJoinD_split)<;>intro h<;>(try simp only [spl] at h)<;>try simp (disch:=first|exact bk rfl|omega|(simp only [ln];omega)|(simp only [go_sem];done)|decide) only [go_sem,h8,r8,h8_0,h8_1,eQ,hkk,ixn6,nmg6,namesD,ofD,bs58_1,bs58_2,bs58_3,f1,f2,f3,f4,f5,f6,h])|((with_reducible refine cl_guard ?_;first|refine cl_eq (hG K) _ (check11_t hp hv) rfl ?_|refine cl_eq (hG K) _ (words26_c) rfl ?_|refine cl_eq (hG K) _ (itoa27_c (inQR ik)) rfl ?_|refine cl_eq (hG K) _ (itoa27_c (inQR iacc)) rfl ?_|refine cl_eq (hG K) _ (span28_c (inQR ilo) (inQR ihi)) rfl ?_)<;>try simp (disch:=first|exact bk rfl|omega|(simp only [ln];omega)|(simp only [go_sem];done)|decide) only [go_sem,h8,r8,h8_0,h8_1,eQ,hkk,ixn6,nmg6,namesD,ofD,bs58_1,bs58_2,bs58_3,f1,f2,f3,f4,f5,f6])
 refine app58_t (el:=some 9) (ro:=false) (cs:=[.str [98,97,108,97,110,99,101], .str (itS q.known)]) (el2:=some 9) (ro2:=false) (ds:=[.str (itS q.acc), .str (spS q.lo q.hi)]) (m:=1) (by (simp (disch:=first|exact bk rfl|omega|(simp only [ln];omega)|(simp only [go_sem];done)|decide) only [go_sem]<;>first|rfl|omega)) (by (simp (disch:=first|exact bk rfl|omega|(simp only [ln];omega)|(simp only [go_sem];done)|decide) only [go_sem]<;>first|rfl|omega)) rfl rfl (by decide) (by decide) rfl ?_
 (try simp (disch:=first|exact bk rfl|omega|(simp only [ln];omega)|(simp only [go_sem];done)|decide) only [go_sem,h8,r8,h8_0,h8_1,eQ,bs58_1,bs58_2,bs58_3,f1,f2,f3,f4,f5,f6]);repeat' first|((with_reducible first|apply gJoin_split|apply cond_split|apply gJoinD_split)<;>intro h<;>(try simp only [spl] at h)<;>try simp (disch:=first|exact bk rfl|omega|(simp only [ln];omega)|(simp only [go_sem];done)|decide) only [go_sem,h8,r8,h8_0,h8_1,eQ,bs58_1,bs58_2,bs58_3,f1,f2,f3,f4,f5,f6,h])
 refine cl_join (el:=some 9) (ro:=false) (w:=[98,97,108,97,110,99,101]) (ws:=[itS q.known,itS q.acc,spS q.lo q.hi]) (by (simp (disch:=first|exact bk rfl|omega|(simp only [ln];omega)|(simp only [go_sem];done)|decide) only [go_sem]<;>first|rfl|omega)) rfl ?_ (by decide) ?_ ?_
 ·intro x hx
  simp only [List.mem_cons,List.not_mem_nil,or_false] at hx
  rcases hx with rfl | rfl | rfl | rfl
  ·decide
  ·exact itS_byte _
  ·exact itS_byte _
  ·exact sp_byte _ _
 ·simp [jn,spS];omega
 (try simp (disch:=first|exact bk rfl|omega|(simp only [ln];omega)|(simp only [go_sem];done)|decide) only [go_sem,h8,r8,h8_0,h8_1,eQ]);repeat' first|((with_reducible first|apply gJoin_split|apply cond_split|apply gJoinD_split)<;>intro h<;>(try simp only [spl] at h)<;>try simp (disch:=first|exact bk rfl|omega|(simp only [ln];omega)|(simp only [go_sem];done)|decide) only [go_sem,h8,r8,h8_0,h8_1,eQ,h])
 exact endQ_fro (.tup [.str _, .int .i64 0]) rfl
set_option maxHeartbeats 8000000 in
theorem print8_7 {q:Quest} (hk:q.kind=7) (hp:q.place.length≤9223372036854775807) (hv:validB q=true) (ik:inQ q.known) (ibef:inQ q.bef) (ilo:inQ q.lo) (ihi:inQ q.hi):CQ P (G K) 8 [.agg (eQ q)] (·= .tup [.str (printE q), .int .i64 0]):=by
 refine CQ.enter (hG K) ?_
 have f1:(q.kind=1)=False:=by simp [hk]
 have f2:(q.kind=2)=False:=by simp [hk]
 have f3:(q.kind=3)=False:=by simp [hk]
 have f4:(q.kind=4)=False:=by simp [hk]
 have f5:(q.kind=5)=False:=by simp [hk]
 have f6:(q.kind=6)=False:=by simp [hk]
 have f7:(q.kind=7)=True:=by simp [hk]
 have hX:printE q=jn [([97,109,101,110,100]:Str),itS q.known,itS q.bef,spS q.lo q.hi]:=by simp [printE,wordsOf,hk];rfl
 have lbef:=itS_len (inQR ibef)
 have llo:=itS_len (inQR ilo)
 have lhi:=itS_len (inQR ihi)
 have lk:=itS_len (inQR ik)
 rw [hX]
 have hkk:indexAtK P 58 (.dat (.sl 1 (names.map D.str) 9)) (.int .i64 q.kind)=indexAtK P 58 (.dat (.sl 1 (names.map D.str) 9)) (.int .i64 7):=by rw [hk]
 (try simp (disch:=first|exact bk rfl|omega|(simp only [ln];omega)|(simp only [go_sem];done)|decide) only [go_sem,h8,r8,h8_0,h8_1,eQ,hkk,ixn7,nmg7,namesD,ofD,bs58_1,bs58_2,bs58_3,f1,f2,f3,f4,f5,f6,f7]);repeat' first|((with_reducible first|apply gJoin_split|apply cond_split|apply gJoinD_split)<;>intro h<;>(try simp only [spl] at h)<;>try simp (disch:=first|exact bk rfl|omega|(simp only [ln];omega)|(simp only [go_sem];done)|decide) only [go_sem,h8,r8,h8_0,h8_1,eQ,hkk,ixn7,nmg7,namesD,ofD,bs58_1,bs58_2,bs58_3,f1,f2,f3,f4,f5,f6,f7,h])|((with_reducible refine cl_guard ?_;first|refine cl_eq (hG K) _ (check11_t hp hv) rfl ?_|refine cl_eq (hG K) _ (words26_c) rfl ?_|refine cl_eq (hG K) _ (itoa27_c (inQR ik)) rfl ?_|refine cl_eq (hG K) _ (itoa27_c (inQR ibef)) rfl ?_|refine cl_eq (hG K) _ (span28_c (inQR ilo) (inQR ihi)) rfl ?_)<;>try simp (disch:=first|exact bk rfl|omega|(simp only [ln];omega)|(simp only [go_sem];done)|decide) only [go_sem,h8,r8,h8_0,h8_1,eQ,hkk,ixn7,nmg7,namesD,ofD,bs58_1,bs58_2,bs58_3,f1,f2,f3,f4,f5,f6,f7])
 refine app58_t (el:=some 9) (ro:=false) (cs:=[.str [97,109,101,110,100], .str (itS q.known)]) (el2:=some 9) (ro2:=false) (ds:=[.str (itS q.bef), .str (spS q.lo q.hi)]) (m:=1) (by (simp (disch:=first|exact bk rfl|omega|(simp only [ln];omega)|(simp only [go_sem];done)|decide) only [go_sem]<;>first|rfl|omega)) (by (simp (disch:=first|exact bk rfl|omega|(simp only [ln];omega)|(simp only [go_sem];done)|decide) only [go_sem]<;>first|rfl|omega)) rfl rfl (by decide) (by decide) rfl ?_
 (try simp (disch:=first|exact bk rfl|omega|(simp only [ln];omega)|(simp only [go_sem];done)|decide) only [go_sem,h8,r8,h8_0,h8_1,eQ,bs58_1,bs58_2,bs58_3,f1,f2,f3,f4,f5,f6,f7]);repeat' first|((with_reducible first|apply gJoin_split|apply cond_split|apply gJoinD_split)<;>intro h<;>(try simp only [spl] at h)<;>try simp (disch:=first|exact bk rfl|omega|(simp only [ln];omega)|(simp only [go_sem];done)|decide) only [go_sem,h8,r8,h8_0,h8_1,eQ,bs58_1,bs58_2,bs58_3,f1,f2,f3,f4,f5,f6,f7,h])
 refine cl_join (el:=some 9) (ro:=false) (w:=[97,109,101,110,100]) (ws:=[itS q.known,itS q.bef,spS q.lo q.hi]) (by (simp (disch:=first|exact bk rfl|omega|(simp only [ln];omega)|(simp only [go_sem];done)|decide) only [go_sem]<;>first|rfl|omega)) rfl ?_ (by decide) ?_ ?_
 ·intro x hx
  simp only [List.mem_cons,List.not_mem_nil,or_false] at hx
  rcases hx with rfl | rfl | rfl | rfl
  ·decide
  ·exact itS_byte _
  ·exact itS_byte _
  ·exact sp_byte _ _
 ·simp [jn,spS];omega
 (try simp (disch:=first|exact bk rfl|omega|(simp only [ln];omega)|(simp only [go_sem];done)|decide) only [go_sem,h8,r8,h8_0,h8_1,eQ]);repeat' first|((with_reducible first|apply gJoin_split|apply cond_split|apply gJoinD_split)<;>intro h<;>(try simp only [spl] at h)<;>try simp (disch:=first|exact bk rfl|omega|(simp only [ln];omega)|(simp only [go_sem];done)|decide) only [go_sem,h8,r8,h8_0,h8_1,eQ,h])
 exact endQ_fro (.tup [.str _, .int .i64 0]) rfl
set_option maxHeartbeats 8000000 in
theorem print8_8 {q:Quest} (hk:q.kind=8) (hp:q.place.length≤9223372036854775807) (hv:validB q=true) (ik:inQ q.known) (ioff:inQ q.off) (ino:inQ q.no):CQ P (G K) 8 [.agg (eQ q)] (·= .tup [.str (printE q), .int .i64 0]):=by
 refine CQ.enter (hG K) ?_
 have f1:(q.kind=1)=False:=by simp [hk]
 have f2:(q.kind=2)=False:=by simp [hk]
 have f3:(q.kind=3)=False:=by simp [hk]
 have f4:(q.kind=4)=False:=by simp [hk]
 have f5:(q.kind=5)=False:=by simp [hk]
 have f6:(q.kind=6)=False:=by simp [hk]
 have f7:(q.kind=7)=False:=by simp [hk]
 have f8:(q.kind=8)=True:=by simp [hk]
 have hX:printE q=jn [([114,101,115,116,115]:Str),itS q.known,itS q.off,itS q.no]:=by simp [printE,wordsOf,hk];rfl
 have loff:=itS_len (inQR ioff)
 have lno:=itS_len (inQR ino)
 have lk:=itS_len (inQR ik)
 rw [hX]
 have hkk:indexAtK P 58 (.dat (.sl 1 (names.map D.str) 9)) (.int .i64 q.kind)=indexAtK P 58 (.dat (.sl 1 (names.map D.str) 9)) (.int .i64 8):=by rw [hk]
 (try simp (disch:=first|exact bk rfl|omega|(simp only [ln];omega)|(simp only [go_sem];done)|decide) only [go_sem,h8,r8,h8_0,h8_1,eQ,hkk,ixn8,nmg8,namesD,ofD,bs58_1,bs58_2,bs58_3,f1,f2,f3,f4,f5,f6,f7,f8]);repeat' first|((with_reducible first|apply gJoin_split|apply cond_split|apply gJoinD_split)<;>intro h<;>(try simp only [spl] at h)<;>try simp (disch:=first|exact bk rfl|omega|(simp only [ln];omega)|(simp only [go_sem];done)|decide) only [go_sem,h8,r8,h8_0,h8_1,eQ,hkk,ixn8,nmg8,namesD,ofD,bs58_1,bs58_2,bs58_3,f1,f2,f3,f4,f5,f6,f7,f8,h])|((with_reducible refine cl_guard ?_;first|refine cl_eq (hG K) _ (check11_t hp hv) rfl ?_|refine cl_eq (hG K) _ (words26_c) rfl ?_|refine cl_eq (hG K) _ (itoa27_c (inQR ik)) rfl ?_|refine cl_eq (hG K) _ (itoa27_c (inQR ioff)) rfl ?_|refine cl_eq (hG K) _ (itoa27_c (inQR ino)) rfl ?_)<;>try simp (disch:=first|exact bk rfl|omega|(simp only [ln];omega)|(simp only [go_sem];done)|decide) only [go_sem,h8,r8,h8_0,h8_1,eQ,hkk,ixn8,nmg8,namesD,ofD,bs58_1,bs58_2,bs58_3,f1,f2,f3,f4,f5,f6,f7,f8])
 refine app58_t (el:=some 9) (ro:=false) (cs:=[.str [114,101,115,116,115], .str (itS q.known)]) (el2:=some 9) (ro2:=false) (ds:=[.str (itS q.off), .str (itS q.no)]) (m:=1) (by (simp (disch:=first|exact bk rfl|omega|(simp only [ln];omega)|(simp only [go_sem];done)|decide) only [go_sem]<;>first|rfl|omega)) (by (simp (disch:=first|exact bk rfl|omega|(simp only [ln];omega)|(simp only [go_sem];done)|decide) only [go_sem]<;>first|rfl|omega)) rfl rfl (by decide) (by decide) rfl ?_
 (try simp (disch:=first|exact bk rfl|omega|(simp only [ln];omega)|(simp only [go_sem];done)|decide) only [go_sem,h8,r8,h8_0,h8_1,eQ,bs58_1,bs58_2,bs58_3,f1,f2,f3,f4,f5,f6,f7,f8]);repeat' first|((with_reducible first|apply gJoin_split|apply cond_split|apply gJoinD_split)<;>intro h<;>(try simp only [spl] at h)<;>try simp (disch:=first|exact bk rfl|omega|(simp only [ln];omega)|(simp only [go_sem];done)|decide) only [go_sem,h8,r8,h8_0,h8_1,eQ,bs58_1,bs58_2,bs58_3,f1,f2,f3,f4,f5,f6,f7,f8,h])
 refine cl_join (el:=some 9) (ro:=false) (w:=[114,101,115,116,115]) (ws:=[itS q.known,itS q.off,itS q.no]) (by (simp (disch:=first|exact bk rfl|omega|(simp only [ln];omega)|(simp only [go_sem];done)|decide) only [go_sem]<;>first|rfl|omega)) rfl ?_ (by decide) ?_ ?_
 ·intro x hx
  simp only [List.mem_cons,List.not_mem_nil,or_false] at hx
  rcases hx with rfl | rfl | rfl | rfl
  ·decide
  ·exact itS_byte _
  ·exact itS_byte _
  ·exact itS_byte _
 ·simp [jn,spS];omega
 (try simp (disch:=first|exact bk rfl|omega|(simp only [ln];omega)|(simp only [go_sem];done)|decide) only [go_sem,h8,r8,h8_0,h8_1,eQ]);repeat' first|((with_reducible first|apply gJoin_split|apply cond_split|apply gJoinD_split)<;>intro h<;>(try simp only [spl] at h)<;>try simp (disch:=first|exact bk rfl|omega|(simp only [ln];omega)|(simp only [go_sem];done)|decide) only [go_sem,h8,r8,h8_0,h8_1,eQ,h])
 exact endQ_fro (.tup [.str _, .int .i64 0]) rfl
end Go.S9
namespace Go.S9
open Go.Ev Go.Proofs Go.RowKit
set_option maxRecDepth 100000
set_option linter.unusedVariables false
set_option linter.unusedSimpArgs false
variable {K : GP} {H : Hp} {k : AV → Bool}
theorem n10:((1:Int)=0)=False:=by simp
def prD (q:Quest):D:= .tup [.str (if validB q then printE q else []), .int .i64 (if validB q then 0 else 1)]
theorem print8_c {q:Quest} (hp:q.place.length≤9223372036854775807):CQ P (G K) 8 [.agg (eQ q)] (·=prD q):=by
 cases hv:validB q with
 | false=>
  have hX:prD q= .tup [.str [], .int .i64 1]:=by simp [prD,hv]
  rw [hX]
  refine CQ.enter (hG K) ?_
  (try simp (disch:=first|exact bk rfl|omega|(simp only [ln];omega)|(simp only [go_sem];done)|decide) only [go_sem,h8,eQ,n10]);repeat' first|((with_reducible first|apply gJoin_split|apply cond_split|apply gJoinD_split)<;>intro h<;>(try simp only [spl] at h)<;>try simp (disch:=first|exact bk rfl|omega|(simp only [ln];omega)|(simp only [go_sem];done)|decide) only [go_sem,h8,eQ,n10,h])|((with_reducible refine cl_guard ?_;refine cl_eq (hG K) _ (check11_f hp hv) rfl ?_)<;>try simp (disch:=first|exact bk rfl|omega|(simp only [ln];omega)|(simp only [go_sem];done)|decide) only [go_sem,h8,eQ,n10])
  exact endQ_fro (.tup [.str [], .int .i64 1]) rfl
 | true=>
  have hX:prD q= .tup [.str (printE q), .int .i64 0]:=by simp [prD,hv]
  rw [hX]
  have h:=hv
  simp only [validB,Bool.and_eq_true] at h
  obtain⟨⟨hok, -⟩,ht⟩:=h
  have ik:=(time_q ht).1
  obtain⟨k1,k8⟩:=kind_ok hok
  have:q.kind=1∨q.kind=2∨q.kind=3∨q.kind=4∨q.kind=5∨q.kind=6∨q.kind=7∨q.kind=8:=by omega
  rcases this with hk | hk | hk | hk | hk | hk | hk | hk<;>simp [okB,hk] at hok
  ·exact print8_1 hk hp hv ik (dial_q hok)
  ·exact print8_2 hk hp hv ik (dial_q hok.1) hok.2
  ·exact print8_3 hk hp hv ik (dial_q hok.1) hok.2
  ·exact print8_4 hk hp hv ik (dial_q hok.1) hok.2
  ·exact print8_5 hk hp hv ik (dial_q hok.1) (time_q hok.2.2.1).1 (time_q hok.2.2.2.1).1 hok.2.1
  ·exact print8_6 hk hp hv ik (acc_q hok.1) (nights_q hok.2).1 (nights_q hok.2).2.2
  ·exact print8_7 hk hp hv ik (time_q hok.1).1 (nights_q hok.2).1 (nights_q hok.2).2.2
  ·exact print8_8 hk hp hv ik ⟨by omega,by omega⟩ ⟨by omega,by omega⟩
end Go.S9
namespace Go.S9
open Go.Ev Go.Proofs Go.RowKit
set_option maxRecDepth 100000
set_option linter.unusedVariables false
set_option linter.unusedSimpArgs false
variable {K : GP} {H : Hp} {k : AV → Bool}
def zQ:Quest:=⟨0,0,0,[],0,0,0,0,0,0⟩
def ps9 (q:Quest) (text:Str):D:= .tup [.agg (eQ (if goodB q text then q else zQ)), .int .i64 (if goodB q text then 0 else 7)]
set_option maxHeartbeats 4000000 in
theorem tail9 {q:Quest} {text:Str} {t:E2} {H:Hp} {b b1:Nat} (g0:E2.get t 0= .str text) (g2:E2.get t 2= .ptr b1 0) (g5:E2.get t 5= .ptr b 0) (hq:H.get b=some (.cells (some 27) false (aQ q))) (hz:H.get b1=some (.cells (some 27) false (aQ zQ))) (hbb:(b=b1)=False) (hp:q.place.length≤9223372036854775807):
  cd P (G K) 196 111 (subC 9 [1,1,1,1]) none ⟨t,[]⟩ H (fun x e H=>bodyEnd P (G K) Tryz.f9 ⟨cd P (G K) 200,callS P (G K)⟩ (endQ (·=ps9 q text)) x e H)=true:=by
 have t1:=print8_c (K:=K) (q:=q) hp
 cases hv:validB q with
 | false=>
  have hX:ps9 q text= .tup [.agg (eQ zQ), .int .i64 7]:=by simp [ps9,goodB,hv]
  have hY:prD q= .tup [.str [], .int .i64 1]:=by simp [prD,hv]
  rw [hX]
  rw [hY] at t1
  (try simp (disch:=first|exact bk rfl|omega|(simp only [ln];omega)|(simp only [go_sem];done)|decide) only [go_sem,h9,r9,h9_0,h9_1,h9_2,h9_3,h9_4,h9_5,g0,g2,g5,hq,hz,hbb,aQ,zQ,eQ,n10]);repeat' first|((with_reducible first|apply gJoin_split|apply cond_split|apply gJoinD_split)<;>intro h<;>(try simp only [spl] at h)<;>try simp (disch:=first|exact bk rfl|omega|(simp only [ln];omega)|(simp only [go_sem];done)|decide) only [go_sem,h9,r9,h9_0,h9_1,h9_2,h9_3,h9_4,h9_5,g0,g2,g5,hq,hz,hbb,aQ,zQ,eQ,n10,h])|((with_reducible refine cl_guard ?_;refine cl_eq (hG K) _ (t1) rfl ?_)<;>try simp (disch:=first|exact bk rfl|omega|(simp only [ln];omega)|(simp only [go_sem];done)|decide) only [go_sem,h9,r9,h9_0,h9_1,h9_2,h9_3,h9_4,h9_5,g0,g2,g5,hq,hz,hbb,aQ,zQ,eQ,n10])
  exact endQ_fro (.tup [.agg (eQ zQ), .int .i64 7]) rfl
 | true=>
  have hY:prD q= .tup [.str (printE q), .int .i64 0]:=by simp [prD,hv]
  rw [hY] at t1
  by_cases ht:printE q=text
  ·have ht':=eq_true ht
   have hX:ps9 q text= .tup [.agg (eQ q), .int .i64 0]:=by simp [ps9,goodB,hv,ht]
   rw [hX]
   (try simp (disch:=first|exact bk rfl|omega|(simp only [ln];omega)|(simp only [go_sem];done)|decide) only [go_sem,h9,r9,h9_0,h9_1,h9_2,h9_3,h9_4,h9_5,g0,g2,g5,hq,hz,hbb,aQ,zQ,eQ,n10,ht']);repeat' first|((with_reducible first|apply gJoin_split|apply cond_split|apply gJoinD_split)<;>intro h<;>(try simp only [spl] at h)<;>try simp (disch:=first|exact bk rfl|omega|(simp only [ln];omega)|(simp only [go_sem];done)|decide) only [go_sem,h9,r9,h9_0,h9_1,h9_2,h9_3,h9_4,h9_5,g0,g2,g5,hq,hz,hbb,aQ,zQ,eQ,n10,ht',h])|((with_reducible refine cl_guard ?_;refine cl_eq (hG K) _ (t1) rfl ?_)<;>try simp (disch:=first|exact bk rfl|omega|(simp only [ln];omega)|(simp only [go_sem];done)|decide) only [go_sem,h9,r9,h9_0,h9_1,h9_2,h9_3,h9_4,h9_5,g0,g2,g5,hq,hz,hbb,aQ,zQ,eQ,n10,ht'])
   exact endQ_fro (.tup [.agg (eQ q), .int .i64 0]) rfl
  ·have ht':=eq_false ht
   have hX:ps9 q text= .tup [.agg (eQ zQ), .int .i64 7]:=by simp [ps9,goodB,hv,ht]
   rw [hX]
   (try simp (disch:=first|exact bk rfl|omega|(simp only [ln];omega)|(simp only [go_sem];done)|decide) only [go_sem,h9,r9,h9_0,h9_1,h9_2,h9_3,h9_4,h9_5,g0,g2,g5,hq,hz,hbb,aQ,zQ,eQ,n10,ht']);repeat' first|((with_reducible first|apply gJoin_split|apply cond_split|apply gJoinD_split)<;>intro h<;>(try simp only [spl] at h)<;>try simp (disch:=first|exact bk rfl|omega|(simp only [ln];omega)|(simp only [go_sem];done)|decide) only [go_sem,h9,r9,h9_0,h9_1,h9_2,h9_3,h9_4,h9_5,g0,g2,g5,hq,hz,hbb,aQ,zQ,eQ,n10,ht',h])|((with_reducible refine cl_guard ?_;refine cl_eq (hG K) _ (t1) rfl ?_)<;>try simp (disch:=first|exact bk rfl|omega|(simp only [ln];omega)|(simp only [go_sem];done)|decide) only [go_sem,h9,r9,h9_0,h9_1,h9_2,h9_3,h9_4,h9_5,g0,g2,g5,hq,hz,hbb,aQ,zQ,eQ,n10,ht'])
   exact endQ_fro (.tup [.agg (eQ zQ), .int .i64 7]) rfl
theorem app58n_t {b b2 n m:Nat} {el2:Option TypeId} {ro2:Bool} {c2:Option Nat} {cs ds:List AV} {k:AV→Hp→Bool} (h1:H.get b=some (.cells none false cs)) (h2:H.get b2=some (.cells el2 ro2 ds)) (hn:cs.length=n) (hm:ds.length=m) (h0:0<m) (hn':n≤1000) (hm':m≤1000) (hall:ds.all one=true)
  (hk:(Hp.put H b none fun H=>Hp.new H (.cells none false (cs++ds)) fun b H=>k (.sl b 0 (n+m) 1 none) H)=true):appendK P H 58 58 (.sl b 0 n 1 none) (.sl b2 0 m 1 c2) k=true:=by
 obtain⟨m,rfl⟩:∃j,m=j+1:=⟨m - 1,by omega⟩
 have hz:zeroOk P 9=true:=by kernel_rfl
 have hi:isIntT P 58=false:=by kernel_rfl
 unfold appendK
 rw [el58]
 dsimp only
 rw [hi,hz,ce9,by9_58]
 dsimp only
 have hc:∀kk,cellsOfK H 1 (.sl b2 0 (m+1) 1 c2) kk=kk (m+1) ds:=fun kk=>by
  unfold cellsOfK
  simp only [h2,Nat.beq_refl,Nat.mul_one,List.drop_zero,takeN_take (m+1) ds (by omega),List.take_of_length_le (Nat.le_of_eq hm),forceL_eq]
 show cellsOfK H 1 (.sl b2 0 (m+1) 1 c2) _=_
 rw [hc]
 simp only [hall,Nat.beq_refl,h1,Nat.mul_one,List.drop_zero]
 rw [show Nat.ble (n+(m+1)) 1048576=true by simp;omega]
 dsimp only
 rw [takeN_take n cs (by omega),List.take_of_length_le (Nat.le_of_eq hn)]
 dsimp only [capLt]
 rw [show Nat.ble (0+(n+(m+1))) cs.length=false by rw [hn,Nat.zero_add,←Bool.not_eq_true,Nat.ble_eq];omega]
 simp only [forceL_eq,forceN_eq]
 exact hk
theorem pad5:∀ws:List Str,∃L:List AV,ws.map AV.str++[.str [], .str [], .str [], .str [], .str []]= .str (ws.getD 0 []):: .str (ws.getD 1 []):: .str (ws.getD 2 []):: .str (ws.getD 3 []):: .str (ws.getD 4 [])::L
 | []=>⟨_,rfl⟩
 | [_]=>⟨_,rfl⟩
 | [_,_]=>⟨_,rfl⟩
 | [_,_,_]=>⟨_,rfl⟩
 | [_,_,_,_]=>⟨_,rfl⟩
 | _::_::_::_::_::ws=>⟨_,rfl⟩
theorem ixp (i:Nat) (hi:i<5) (b n:Nat):indexAtK P 58 (.sl b 0 (n+5) 1 none) (.int .i64 (i:Int)) k=k (.ptr b i):=by
 rw [idx_own un58 in9 ce9 (by omega)]
 simp
theorem ixp0 (b n:Nat):indexAtK P 58 (.sl b 0 (n+5) 1 none) (.int .i64 0) k=k (.ptr b 0):=ixp 0 (by decide) b n
theorem ixp1 (b n:Nat):indexAtK P 58 (.sl b 0 (n+5) 1 none) (.int .i64 1) k=k (.ptr b 1):=ixp 1 (by decide) b n
theorem ixp2 (b n:Nat):indexAtK P 58 (.sl b 0 (n+5) 1 none) (.int .i64 2) k=k (.ptr b 2):=ixp 2 (by decide) b n
theorem ixp3 (b n:Nat):indexAtK P 58 (.sl b 0 (n+5) 1 none) (.int .i64 3) k=k (.ptr b 3):=ixp 3 (by decide) b n
theorem ixp4 (b n:Nat):indexAtK P 58 (.sl b 0 (n+5) 1 none) (.int .i64 4) k=k (.ptr b 4):=ixp 4 (by decide) b n
theorem maxk (w:Str):minV true [.int .i64 0, .int .i64 (firstI (fun x=>decide (w=x)) names)] k=k (.int .i64 (kindE w)):=by
 rw [←kind_first]
 generalize firstI (fun x=>decide (w=x)) names=b
 show k (match ilt 0 b with | true=> .int .i64 b | false=> .int .i64 0)=_
 rw [ilt_r]
 by_cases h:0<b
 ·rw [decide_eq_true h,Int.max_eq_right (by omega)]
 ·rw [decide_eq_false h,Int.max_eq_left (by omega)]
theorem wd_len {c:Nat}:∀{s:Str},(wd c s).length≤s.length+1∧∀w∈wd c s,w.length≤s.length
 | []=>by simp [wd]
 | x::r=>by
  obtain⟨h1,h2⟩:=wd_len (c:=c) (s:=r)
  unfold wd
  split
  ·refine⟨by simp;omega,fun w hw=> ?_⟩
   rcases List.mem_cons.1 hw with rfl | hw
   ·simp
   ·have:=h2 w hw;simp;omega
  ·split
   ·simp
   ·rename_i w ws hw
    rw [hw] at h1 h2
    refine⟨by simp at h1⊢;omega,fun v hv=> ?_⟩
    rcases List.mem_cons.1 hv with rfl | hv
    ·have:=h2 w (by simp);simp;omega
    ·have:=h2 v (by simp [hv]);simp;omega
theorem wd_get {c:Nat} {s:Str} (i:Nat):((wd c s).getD i []).length≤s.length:=by
 rw [List.getD_eq_getElem?_getD]
 rcases Nat.lt_or_ge i (wd c s).length with h | h
 ·rw [List.getElem?_eq_getElem h]
  exact wd_len.2 _ (List.getElem_mem _)
 ·rw [List.getElem?_eq_none h];simp
theorem kind_in (w:Str):0≤kindE w∧kindE w≤8:=by
 unfold kindE
 cases h:(List.range 9).find? (fun i=>decide (names.getD i []=w)) with
 | none=>exact⟨by decide,by decide⟩
 | some i=>
  have:=List.mem_range.1 (List.mem_of_find?_eq_some h)
  simp only [Option.getD_some];omega
end Go.S9
