/- A part of the proof of TribunalQuestions. -/
import Derived.Test.YtmmghibnfjfnbaaGreatDoorBAp
set_option linter.unusedVariables false
set_option linter.unusedSimpArgs false
namespace Go.S9
open Go.Ev Go.Proofs Go.RowKit
set_option maxRecDepth 100000
set_option linter.unusedVariables false
set_option linter.unusedSimpArgs false
variable {K : GP} {H : Hp} {k : AV → Bool}
theorem inB_d (n:Int):inB n 1 1099511627776=dialB n:=rfl
theorem okk {q:Quest} {c:Bool} (h:okB q=c) (s:Bool) (hs:sameQ q (bareQ q)=s):validB q=(timeB q.known&&c&&s):=by
 have:sameQ (bareQ q) q=s:=by
  rw [←hs,Bool.eq_iff_iff,sameQ_iff,sameQ_iff];exact eq_comm
 unfold validB
 rw [h,this]
 cases c<;>cases s<;>cases timeB q.known<;>rfl
set_option maxHeartbeats 8000000 in
theorem question7_1 {q:Quest} (hk:q.kind=1) (hp:q.place.length≤9223372036854775807):CQ P (G K) 7 [.agg (eQ q)] (·= .bool (validB q)):=by
 have f1:(q.kind=1)=True:=eq_true hk
 have hX:bareQ q={q0 q with dial:=q.dial}:=by simp [bareQ,hk]
 have hY:okB q=dialB q.dial:=by simp [okB,hk]
 have hE:∀k:AV→Bool,binK P .eql 27 false (.agg [.int .i64 q.kind, .int .i64 q.known, .int .i64 q.dial, .str q.place, .int .i64 q.lo, .int .i64 q.hi, .int .i64 q.acc, .int .i64 q.bef, .int .i64 q.off, .int .i64 q.no]) (.agg [.int .i64 q.kind, .int .i64 q.known, .int .i64 q.dial, .str [], .int .i64 (0), .int .i64 (0), .int .i64 (0), .int .i64 (0), .int .i64 (0), .int .i64 (0)]) k=k (.bool (sameQ q (bareQ q))):=fun k=>by
  have:=eql27 q (bareQ q) (k:=k)
  rw [hX] at this⊢
  exact this
 refine CQ.enter (hG K) ?_
 cases c0:timeB q.known with
 | false=>
  have hv:=okk hY _ rfl
  simp only [c0,Bool.true_and,Bool.and_true,Bool.false_and,Bool.and_false] at hv
  rw [hv]
  (try simp (maxSteps:=10000000) (disch:=first|exact bk rfl|omega|(simp only [ln];omega)|(simp only [go_sem];done)|decide) only [go_sem,h7,r7,h7_0,h7_1,h7_2,h7_3,h7_4,eQ,inB_d,hE,f1,c0]);repeat' first|((with_reducible first|apply gJoin_split|apply cond_split|apply gJoinD_split)<;>intro h<;>(try simp only [spl] at h)<;>try simp (maxSteps:=10000000) (disch:=first|exact bk rfl|omega|(simp only [ln];omega)|(simp only [go_sem];done)|decide) only [go_sem,h7,r7,h7_0,h7_1,h7_2,h7_3,h7_4,eQ,inB_d,hE,f1,c0,h])|((with_reducible refine cl_guard ?_;first|refine cl_eq (hG K) _ (time21_c _) rfl ?_|refine cl_eq (hG K) _ (in22_c _ _ _) rfl ?_|refine cl_eq (hG K) _ (named23_c _ hp) rfl ?_|refine cl_eq (hG K) _ (nights25_c _ _) rfl ?_|refine cl_eq (hG K) _ (account24_c _) rfl ?_)<;>try simp (maxSteps:=10000000) (disch:=first|exact bk rfl|omega|(simp only [ln];omega)|(simp only [go_sem];done)|decide) only [go_sem,h7,r7,h7_0,h7_1,h7_2,h7_3,h7_4,eQ,inB_d,hE,f1,c0])
  exact endQ_fro (.bool false) rfl
 | true=>
  cases c1:dialB q.dial with
  | false=>
   have hv:=okk hY _ rfl
   simp only [c0,c1,Bool.true_and,Bool.and_true,Bool.false_and,Bool.and_false] at hv
   rw [hv]
   (try simp (maxSteps:=10000000) (disch:=first|exact bk rfl|omega|(simp only [ln];omega)|(simp only [go_sem];done)|decide) only [go_sem,h7,r7,h7_0,h7_1,h7_2,h7_3,h7_4,eQ,inB_d,hE,f1,c0,c1]);repeat' first|((with_reducible first|apply gJoin_split|apply cond_split|apply gJoinD_split)<;>intro h<;>(try simp only [spl] at h)<;>try simp (maxSteps:=10000000) (disch:=first|exact bk rfl|omega|(simp only [ln];omega)|(simp only [go_sem];done)|decide) only [go_sem,h7,r7,h7_0,h7_1,h7_2,h7_3,h7_4,eQ,inB_d,hE,f1,c0,c1,h])|((with_reducible refine cl_guard ?_;first|refine cl_eq (hG K) _ (time21_c _) rfl ?_|refine cl_eq (hG K) _ (in22_c _ _ _) rfl ?_|refine cl_eq (hG K) _ (named23_c _ hp) rfl ?_|refine cl_eq (hG K) _ (nights25_c _ _) rfl ?_|refine cl_eq (hG K) _ (account24_c _) rfl ?_)<;>try simp (maxSteps:=10000000) (disch:=first|exact bk rfl|omega|(simp only [ln];omega)|(simp only [go_sem];done)|decide) only [go_sem,h7,r7,h7_0,h7_1,h7_2,h7_3,h7_4,eQ,inB_d,hE,f1,c0,c1])
   exact endQ_fro (.bool false) rfl
  | true=>
   cases c2:sameQ q (bareQ q) with
   | false=>
    have hv:=okk hY _ rfl
    simp only [c0,c1,c2,Bool.true_and,Bool.and_true,Bool.false_and,Bool.and_false] at hv
    rw [hv]
    (try simp (maxSteps:=10000000) (disch:=first|exact bk rfl|omega|(simp only [ln];omega)|(simp only [go_sem];done)|decide) only [go_sem,h7,r7,h7_0,h7_1,h7_2,h7_3,h7_4,eQ,inB_d,hE,f1,c0,c1,c2]);repeat' first|((with_reducible first|apply gJoin_split|apply cond_split|apply gJoinD_split)<;>intro h<;>(try simp only [spl] at h)<;>try simp (maxSteps:=10000000) (disch:=first|exact bk rfl|omega|(simp only [ln];omega)|(simp only [go_sem];done)|decide) only [go_sem,h7,r7,h7_0,h7_1,h7_2,h7_3,h7_4,eQ,inB_d,hE,f1,c0,c1,c2,h])|((with_reducible refine cl_guard ?_;first|refine cl_eq (hG K) _ (time21_c _) rfl ?_|refine cl_eq (hG K) _ (in22_c _ _ _) rfl ?_|refine cl_eq (hG K) _ (named23_c _ hp) rfl ?_|refine cl_eq (hG K) _ (nights25_c _ _) rfl ?_|refine cl_eq (hG K) _ (account24_c _) rfl ?_)<;>try simp (maxSteps:=10000000) (disch:=first|exact bk rfl|omega|(simp only [ln];omega)|(simp only [go_sem];done)|decide) only [go_sem,h7,r7,h7_0,h7_1,h7_2,h7_3,h7_4,eQ,inB_d,hE,f1,c0,c1,c2])
    exact endQ_fro (.bool false) rfl
   | true=>
    have hv:=okk hY _ rfl
    simp only [c0,c1,c2,Bool.true_and,Bool.and_true,Bool.false_and,Bool.and_false] at hv
    rw [hv]
    (try simp (maxSteps:=10000000) (disch:=first|exact bk rfl|omega|(simp only [ln];omega)|(simp only [go_sem];done)|decide) only [go_sem,h7,r7,h7_0,h7_1,h7_2,h7_3,h7_4,eQ,inB_d,hE,f1,c0,c1,c2]);repeat' first|((with_reducible first|apply gJoin_split|apply cond_split|apply gJoinD_split)<;>intro h<;>(try simp only [spl] at h)<;>try simp (maxSteps:=10000000) (disch:=first|exact bk rfl|omega|(simp only [ln];omega)|(simp only [go_sem];done)|decide) only [go_sem,h7,r7,h7_0,h7_1,h7_2,h7_3,h7_4,eQ,inB_d,hE,f1,c0,c1,c2,h])|((with_reducible refine cl_guard ?_;first|refine cl_eq (hG K) _ (time21_c _) rfl ?_|refine cl_eq (hG K) _ (in22_c _ _ _) rfl ?_|refine cl_eq (hG K) _ (named23_c _ hp) rfl ?_|refine cl_eq (hG K) _ (nights25_c _ _) rfl ?_|refine cl_eq (hG K) _ (account24_c _) rfl ?_)<;>try simp (maxSteps:=10000000) (disch:=first|exact bk rfl|omega|(simp only [ln];omega)|(simp only [go_sem];done)|decide) only [go_sem,h7,r7,h7_0,h7_1,h7_2,h7_3,h7_4,eQ,inB_d,hE,f1,c0,c1,c2])
    exact endQ_fro (.bool true) rfl
set_option maxHeartbeats 8000000 in
theorem question7_2 {q:Quest} (hk:q.kind=2) (hp:q.place.length≤9223372036854775807):CQ P (G K) 7 [.agg (eQ q)] (·= .bool (validB q)):=by
 have f1:(q.kind=1)=False:=eq_false (by omega)
 have f2:(q.kind=2)=True:=eq_true hk
 have hX:bareQ q={q0 q with dial:=q.dial,place:=q.place}:=by simp [bareQ,hk]
 have hY:okB q=(dialB q.dial&&nameB q.place):=by simp [okB,hk]
 have hE:∀k:AV→Bool,binK P .eql 27 false (.agg [.int .i64 q.kind, .int .i64 q.known, .int .i64 q.dial, .str q.place, .int .i64 q.lo, .int .i64 q.hi, .int .i64 q.acc, .int .i64 q.bef, .int .i64 q.off, .int .i64 q.no]) (.agg [.int .i64 q.kind, .int .i64 q.known, .int .i64 q.dial, .str q.place, .int .i64 (0), .int .i64 (0), .int .i64 (0), .int .i64 (0), .int .i64 (0), .int .i64 (0)]) k=k (.bool (sameQ q (bareQ q))):=fun k=>by
  have:=eql27 q (bareQ q) (k:=k)
  rw [hX] at this⊢
  exact this
 refine CQ.enter (hG K) ?_
 cases c0:timeB q.known with
 | false=>
  have hv:=okk hY _ rfl
  simp only [c0,Bool.true_and,Bool.and_true,Bool.false_and,Bool.and_false] at hv
  rw [hv]
  (try simp (maxSteps:=10000000) (disch:=first|exact bk rfl|omega|(simp only [ln];omega)|(simp only [go_sem];done)|decide) only [go_sem,h7,r7,h7_0,h7_1,h7_2,h7_3,h7_4,eQ,inB_d,hE,f1,f2,c0]);repeat' first|((with_reducible first|apply gJoin_split|apply cond_split|apply gJoinD_split)<;>intro h<;>(try simp only [spl] at h)<;>try simp (maxSteps:=10000000) (disch:=first|exact bk rfl|omega|(simp only [ln];omega)|(simp only [go_sem];done)|decide) only [go_sem,h7,r7,h7_0,h7_1,h7_2,h7_3,h7_4,eQ,inB_d,hE,f1,f2,c0,h])|((with_reducible refine cl_guard ?_;first|refine cl_eq (hG K) _ (time21_c _) rfl ?_|refine cl_eq (hG K) _ (in22_c _ _ _) rfl ?_|refine cl_eq (hG K) _ (named23_c _ hp) rfl ?_|refine cl_eq (hG K) _ (nights25_c _ _) rfl ?_|refine cl_eq (hG K) _ (account24_c _) rfl ?_)<;>try simp (maxSteps:=10000000) (disch:=first|exact bk rfl|omega|(simp only [ln];omega)|(simp only [go_sem];done)|decide) only [go_sem,h7,r7,h7_0,h7_1,h7_2,h7_3,h7_4,eQ,inB_d,hE,f1,f2,c0])
  exact endQ_fro (.bool false) rfl
 | true=>
  cases c1:dialB q.dial with
  | false=>
   have hv:=okk hY _ rfl
   simp only [c0,c1,Bool.true_and,Bool.and_true,Bool.false_and,Bool.and_false] at hv
   rw [hv]
   (try simp (maxSteps:=10000000) (disch:=first|exact bk rfl|omega|(simp only [ln];omega)|(simp only [go_sem];done)|decide) only [go_sem,h7,r7,h7_0,h7_1,h7_2,h7_3,h7_4,eQ,inB_d,hE,f1,f2,c0,c1]);repeat' first|((with_reducible first|apply gJoin_split|apply cond_split|apply gJoinD_split)<;>intro h<;>(try simp only [spl] at h)<;>try simp (maxSteps:=10000000) (disch:=first|exact bk rfl|omega|(simp only [ln];omega)|(simp only [go_sem];done)|decide) only [go_sem,h7,r7,h7_0,h7_1,h7_2,h7_3,h7_4,eQ,inB_d,hE,f1,f2,c0,c1,h])|((with_reducible refine cl_guard ?_;first|refine cl_eq (hG K) _ (time21_c _) rfl ?_|refine cl_eq (hG K) _ (in22_c _ _ _) rfl ?_|refine cl_eq (hG K) _ (named23_c _ hp) rfl ?_|refine cl_eq (hG K) _ (nights25_c _ _) rfl ?_|refine cl_eq (hG K) _ (account24_c _) rfl ?_)<;>try simp (maxSteps:=10000000) (disch:=first|exact bk rfl|omega|(simp only [ln];omega)|(simp only [go_sem];done)|decide) only [go_sem,h7,r7,h7_0,h7_1,h7_2,h7_3,h7_4,eQ,inB_d,hE,f1,f2,c0,c1])
   exact endQ_fro (.bool false) rfl
  | true=>
   cases c2:nameB q.place with
   | false=>
    have hv:=okk hY _ rfl
    simp only [c0,c1,c2,Bool.true_and,Bool.and_true,Bool.false_and,Bool.and_false] at hv
    rw [hv]
    (try simp (maxSteps:=10000000) (disch:=first|exact bk rfl|omega|(simp only [ln];omega)|(simp only [go_sem];done)|decide) only [go_sem,h7,r7,h7_0,h7_1,h7_2,h7_3,h7_4,eQ,inB_d,hE,f1,f2,c0,c1,c2]);repeat' first|((with_reducible first|apply gJoin_split|apply cond_split|apply gJoinD_split)<;>intro h<;>(try simp only [spl] at h)<;>try simp (maxSteps:=10000000) (disch:=first|exact bk rfl|omega|(simp only [ln];omega)|(simp only [go_sem];done)|decide) only [go_sem,h7,r7,h7_0,h7_1,h7_2,h7_3,h7_4,eQ,inB_d,hE,f1,f2,c0,c1,c2,h])|((with_reducible refine cl_guard ?_;first|refine cl_eq (hG K) _ (time21_c _) rfl ?_|refine cl_eq (hG K) _ (in22_c _ _ _) rfl ?_|refine cl_eq (hG K) _ (named23_c _ hp) rfl ?_|refine cl_eq (hG K) _ (nights25_c _ _) rfl ?_|refine cl_eq (hG K) _ (account24_c _) rfl ?_)<;>try simp (maxSteps:=10000000) (disch:=first|exact bk rfl|omega|(simp only [ln];omega)|(simp only [go_sem];done)|decide) only [go_sem,h7,r7,h7_0,h7_1,h7_2,h7_3,h7_4,eQ,inB_d,hE,f1,f2,c0,c1,c2])
    exact endQ_fro (.bool false) rfl
   | true=>
    cases c3:sameQ q (bareQ q) with
    | false=>
     have hv:=okk hY _ rfl
     simp only [c0,c1,c2,c3,Bool.true_and,Bool.and_true,Bool.false_and,Bool.and_false] at hv
     rw [hv]
     (try simp (maxSteps:=10000000) (disch:=first|exact bk rfl|omega|(simp only [ln];omega)|(simp only [go_sem];done)|decide) only [go_sem,h7,r7,h7_0,h7_1,h7_2,h7_3,h7_4,eQ,inB_d,hE,f1,f2,c0,c1,c2,c3]);repeat' first|((with_reducible first|apply gJoin_split|apply cond_split|apply gJoinD_split)<;>intro h<;>(try simp only [spl] at h)<;>try simp (maxSteps:=10000000) (disch:=first|exact bk rfl|omega|(simp only [ln];omega)|(simp only [go_sem];done)|decide) only [go_sem,h7,r7,h7_0,h7_1,h7_2,h7_3,h7_4,eQ,inB_d,hE,f1,f2,c0,c1,c2,c3,h])|((with_reducible refine cl_guard ?_;first|refine cl_eq (hG K) _ (time21_c _) rfl ?_|refine cl_eq (hG K) _ (in22_c _ _ _) rfl ?_|refine cl_eq (hG K) _ (named23_c _ hp) rfl ?_|refine cl_eq (hG K) _ (nights25_c _ _) rfl ?_|refine cl_eq (hG K) _ (account24_c _) rfl ?_)<;>try simp (maxSteps:=10000000) (disch:=first|exact bk rfl|omega|(simp only [ln];omega)|(simp only [go_sem];done)|decide) only [go_sem,h7,r7,h7_0,h7_1,h7_2,h7_3,h7_4,eQ,inB_d,hE,f1,f2,c0,c1,c2,c3])
     exact endQ_fro (.bool false) rfl
    | true=>
     have hv:=okk hY _ rfl
     simp only [c0,c1,c2,c3,Bool.true_and,Bool.and_true,Bool.false_and,Bool.and_false] at hv
     rw [hv]
     (try simp (maxSteps:=10000000) (disch:=first|exact bk rfl|omega|(simp only [ln];omega)|(simp only [go_sem];done)|decide) only [go_sem,h7,r7,h7_0,h7_1,h7_2,h7_3,h7_4,eQ,inB_d,hE,f1,f2,c0,c1,c2,c3]);repeat' first|((with_reducible first|apply gJoin_split|apply cond_split|apply gJoinD_split)<;>intro h<;>(try simp only [spl] at h)<;>try simp (maxSteps:=10000000) (disch:=first|exact bk rfl|omega|(simp only [ln];omega)|(simp only [go_sem];done)|decide) only [go_sem,h7,r7,h7_0,h7_1,h7_2,h7_3,h7_4,eQ,inB_d,hE,f1,f2,c0,c1,c2,c3,h])|((with_reducible refine cl_guard ?_;first|refine cl_eq (hG K) _ (time21_c _) rfl ?_|refine cl_eq (hG K) _ (in22_c _ _ _) rfl ?_|refine cl_eq (hG K) _ (named23_c _ hp) rfl ?_|refine cl_eq (hG K) _ (nights25_c _ _) rfl ?_|refine cl_eq (hG K) _ (account24_c _) rfl ?_)<;>try simp (maxSteps:=10000000) (disch:=first|exact bk rfl|omega|(simp only [ln];omega)|(simp only [go_sem];done)|decide) only [go_sem,h7,r7,h7_0,h7_1,h7_2,h7_3,h7_4,eQ,inB_d,hE,f1,f2,c0,c1,c2,c3])
     exact endQ_fro (.bool true) rfl
set_option maxHeartbeats 8000000 in
theorem question7_3 {q:Quest} (hk:q.kind=3) (hp:q.place.length≤9223372036854775807):CQ P (G K) 7 [.agg (eQ q)] (·= .bool (validB q)):=by
 have f1:(q.kind=1)=False:=eq_false (by omega)
 have f2:(q.kind=2)=False:=eq_false (by omega)
 have f3:(q.kind=3)=True:=eq_true hk
 have hX:bareQ q={q0 q with dial:=q.dial,place:=q.place}:=by simp [bareQ,hk]
 have hY:okB q=(dialB q.dial&&nameB q.place):=by simp [okB,hk]
 have hE:∀k:AV→Bool,binK P .eql 27 false (.agg [.int .i64 q.kind, .int .i64 q.known, .int .i64 q.dial, .str q.place, .int .i64 q.lo, .int .i64 q.hi, .int .i64 q.acc, .int .i64 q.bef, .int .i64 q.off, .int .i64 q.no]) (.agg [.int .i64 q.kind, .int .i64 q.known, .int .i64 q.dial, .str q.place, .int .i64 (0), .int .i64 (0), .int .i64 (0), .int .i64 (0), .int .i64 (0), .int .i64 (0)]) k=k (.bool (sameQ q (bareQ q))):=fun k=>by
  have:=eql27 q (bareQ q) (k:=k)
  rw [hX] at this⊢
  exact this
 refine CQ.enter (hG K) ?_
 cases c0:timeB q.known with
 | false=>
  have hv:=okk hY _ rfl
  simp only [c0,Bool.true_and,Bool.and_true,Bool.false_and,Bool.and_false] at hv
  rw [hv]
  (try simp (maxSteps:=10000000) (disch:=first|exact bk rfl|omega|(simp only [ln];omega)|(simp only [go_sem];done)|decide) only [go_sem,h7,r7,h7_0,h7_1,h7_2,h7_3,h7_4,eQ,inB_d,hE,f1,f2,f3,c0]);repeat' first|((with_reducible first|apply gJoin_split|apply cond_split|apply gJoinD_split)<;>intro h<;>(try simp only [spl] at h)<;>try simp (maxSteps:=10000000) (disch:=first|exact bk rfl|omega|(simp only [ln];omega)|(simp only [go_sem];done)|decide) only [go_sem,h7,r7,h7_0,h7_1,h7_2,h7_3,h7_4,eQ,inB_d,hE,f1,f2,f3,c0,h])|((with_reducible refine cl_guard ?_;first|refine cl_eq (hG K) _ (time21_c _) rfl ?_|refine cl_eq (hG K) _ (in22_c _ _ _) rfl ?_|refine cl_eq (hG K) _ (named23_c _ hp) rfl ?_|refine cl_eq (hG K) _ (nights25_c _ _) rfl ?_|refine cl_eq (hG K) _ (account24_c _) rfl ?_)<;>try simp (maxSteps:=10000000) (disch:=first|exact bk rfl|omega|(simp only [ln];omega)|(simp only [go_sem];done)|decide) only [go_sem,h7,r7,h7_0,h7_1,h7_2,h7_3,h7_4,eQ,inB_d,hE,f1,f2,f3,c0])
  exact endQ_fro (.bool false) rfl
 | true=>
  cases c1:dialB q.dial with
  | false=>
   have hv:=okk hY _ rfl
   simp only [c0,c1,Bool.true_and,Bool.and_true,Bool.false_and,Bool.and_false] at hv
   rw [hv]
   (try simp (maxSteps:=10000000) (disch:=first|exact bk rfl|omega|(simp only [ln];omega)|(simp only [go_sem];done)|decide) only [go_sem,h7,r7,h7_0,h7_1,h7_2,h7_3,h7_4,eQ,inB_d,hE,f1,f2,f3,c0,c1]);repeat' first|((with_reducible first|apply gJoin_split|apply cond_split|apply gJoinD_split)<;>intro h<;>(try simp only [spl] at h)<;>try simp (maxSteps:=10000000) (disch:=first|exact bk rfl|omega|(simp only [ln];omega)|(simp only [go_sem];done)|decide) only [go_sem,h7,r7,h7_0,h7_1,h7_2,h7_3,h7_4,eQ,inB_d,hE,f1,f2,f3,c0,c1,h])|((with_reducible refine cl_guard ?_;first|refine cl_eq (hG K) _ (time21_c _) rfl ?_|refine cl_eq (hG K) _ (in22_c _ _ _) rfl ?_|refine cl_eq (hG K) _ (named23_c _ hp) rfl ?_|refine cl_eq (hG K) _ (nights25_c _ _) rfl ?_|refine cl_eq (hG K) _ (account24_c _) rfl ?_)<;>try simp (maxSteps:=10000000) (disch:=first|exact bk rfl|omega|(simp only [ln];omega)|(simp only [go_sem];done)|decide) only [go_sem,h7,r7,h7_0,h7_1,h7_2,h7_3,h7_4,eQ,inB_d,hE,f1,f2,f3,c0,c1])
   exact endQ_fro (.bool false) rfl
  | true=>
   cases c2:nameB q.place with
   | false=>
    have hv:=okk hY _ rfl
    simp only [c0,c1,c2,Bool.true_and,Bool.and_true,Bool.false_and,Bool.and_false] at hv
    rw [hv]
    (try simp (maxSteps:=10000000) (disch:=first|exact bk rfl|omega|(simp only [ln];omega)|(simp only [go_sem];done)|decide) only [go_sem,h7,r7,h7_0,h7_1,h7_2,h7_3,h7_4,eQ,inB_d,hE,f1,f2,f3,c0,c1,c2]);repeat' first|((with_reducible first|apply gJoin_split|apply cond_split|apply gJoinD_split)<;>intro h<;>(try simp only [spl] at h)<;>try simp (maxSteps:=10000000) (disch:=first|exact bk rfl|omega|(simp only [ln];omega)|(simp only [go_sem];done)|decide) only [go_sem,h7,r7,h7_0,h7_1,h7_2,h7_3,h7_4,eQ,inB_d,hE,f1,f2,f3,c0,c1,c2,h])|((with_reducible refine cl_guard ?_;first|refine cl_eq (hG K) _ (time21_c _) rfl ?_|refine cl_eq (hG K) _ (in22_c _ _ _) rfl ?_|refine cl_eq (hG K) _ (named23_c _ hp) rfl ?_|refine cl_eq (hG K) _ (nights25_c _ _) rfl ?_|refine cl_eq (hG K) _ (account24_c _) rfl ?_)<;>try simp (maxSteps:=10000000) (disch:=first|exact bk rfl|omega|(simp only [ln];omega)|(simp only [go_sem];done)|decide) only [go_sem,h7,r7,h7_0,h7_1,h7_2,h7_3,h7_4,eQ,inB_d,hE,f1,f2,f3,c0,c1,c2])
    exact endQ_fro (.bool false) rfl
   | true=>
    cases c3:sameQ q (bareQ q) with
    | false=>
     have hv:=okk hY _ rfl
     simp only [c0,c1,c2,c3,Bool.true_and,Bool.and_true,Bool.false_and,Bool.and_false] at hv
     rw [hv]
     (try simp (maxSteps:=10000000) (disch:=first|exact bk rfl|omega|(simp only [ln];omega)|(simp only [go_sem];done)|decide) only [go_sem,h7,r7,h7_0,h7_1,h7_2,h7_3,h7_4,eQ,inB_d,hE,f1,f2,f3,c0,c1,c2,c3]);repeat' first|((with_reducible first|apply gJoin_split|apply cond_split|apply gJoinD_split)<;>intro h<;>(try simp only [spl] at h)<;>try simp (maxSteps:=10000000) (disch:=first|exact bk rfl|omega|(simp only [ln];omega)|(simp only [go_sem];done)|decide) only [go_sem,h7,r7,h7_0,h7_1,h7_2,h7_3,h7_4,eQ,inB_d,hE,f1,f2,f3,c0,c1,c2,c3,h])|((with_reducible refine cl_guard ?_;first|refine cl_eq (hG K) _ (time21_c _) rfl ?_|refine cl_eq (hG K) _ (in22_c _ _ _) rfl ?_|refine cl_eq (hG K) _ (named23_c _ hp) rfl ?_|refine cl_eq (hG K) _ (nights25_c _ _) rfl ?_|refine cl_eq (hG K) _ (account24_c _) rfl ?_)<;>try simp (maxSteps:=10000000) (disch:=first|exact bk rfl|omega|(simp only [ln];omega)|(simp only [go_sem];done)|decide) only [go_sem,h7,r7,h7_0,h7_1,h7_2,h7_3,h7_4,eQ,inB_d,hE,f1,f2,f3,c0,c1,c2,c3])
     exact endQ_fro (.bool false) rfl
    | true=>
     have hv:=okk hY _ rfl
     simp only [c0,c1,c2,c3,Bool.true_and,Bool.and_true,Bool.false_and,Bool.and_false] at hv
     rw [hv]
     (try simp (maxSteps:=10000000) (disch:=first|exact bk rfl|omega|(simp only [ln];omega)|(simp only [go_sem];done)|decide) only [go_sem,h7,r7,h7_0,h7_1,h7_2,h7_3,h7_4,eQ,inB_d,hE,f1,f2,f3,c0,c1,c2,c3]);repeat' first|((with_reducible first|apply gJoin_split|apply cond_split|apply gJoinD_split)<;>intro h<;>(try simp only [spl] at h)<;>try simp (maxSteps:=10000000) (disch:=first|exact bk rfl|omega|(simp only [ln];omega)|(simp only [go_sem];done)|decide) only [go_sem,h7,r7,h7_0,h7_1,h7_2,h7_3,h7_4,eQ,inB_d,hE,f1,f2,f3,c0,c1,c2,c3,h])|((with_reducible refine cl_guard ?_;first|refine cl_eq (hG K) _ (time21_c _) rfl ?_|refine cl_eq (hG K) _ (in22_c _ _ _) rfl ?_|refine cl_eq (hG K) _ (named23_c _ hp) rfl ?_|refine cl_eq (hG K) _ (nights25_c _ _) rfl ?_|refine cl_eq (hG K) _ (account24_c _) rfl ?_)<;>try simp (maxSteps:=10000000) (disch:=first|exact bk rfl|omega|(simp only [ln];omega)|(simp only [go_sem];done)|decide) only [go_sem,h7,r7,h7_0,h7_1,h7_2,h7_3,h7_4,eQ,inB_d,hE,f1,f2,f3,c0,c1,c2,c3])
     exact endQ_fro (.bool true) rfl
set_option maxHeartbeats 8000000 in
theorem question7_4 {q:Quest} (hk:q.kind=4) (hp:q.place.length≤9223372036854775807):CQ P (G K) 7 [.agg (eQ q)] (·= .bool (validB q)):=by
 have f1:(q.kind=1)=False:=eq_false (by omega)
 have f2:(q.kind=2)=False:=eq_false (by omega)
 have f3:(q.kind=3)=False:=eq_false (by omega)
 have f4:(q.kind=4)=True:=eq_true hk
 have hX:bareQ q={q0 q with dial:=q.dial,place:=q.place}:=by simp [bareQ,hk]
 have hY:okB q=(dialB q.dial&&nameB q.place):=by simp [okB,hk]
 have hE:∀k:AV→Bool,binK P .eql 27 false (.agg [.int .i64 q.kind, .int .i64 q.known, .int .i64 q.dial, .str q.place, .int .i64 q.lo, .int .i64 q.hi, .int .i64 q.acc, .int .i64 q.bef, .int .i64 q.off, .int .i64 q.no]) (.agg [.int .i64 q.kind, .int .i64 q.known, .int .i64 q.dial, .str q.place, .int .i64 (0), .int .i64 (0), .int .i64 (0), .int .i64 (0), .int .i64 (0), .int .i64 (0)]) k=k (.bool (sameQ q (bareQ q))):=fun k=>by
  have:=eql27 q (bareQ q) (k:=k)
  rw [hX] at this⊢
  exact this
 refine CQ.enter (hG K) ?_
 cases c0:timeB q.known with
 | false=>
  have hv:=okk hY _ rfl
  simp only [c0,Bool.true_and,Bool.and_true,Bool.false_and,Bool.and_false] at hv
  rw [hv]
  (try simp (maxSteps:=10000000) (disch:=first|exact bk rfl|omega|(simp only [ln];omega)|(simp only [go_sem];done)|decide) only [go_sem,h7,r7,h7_0,h7_1,h7_2,h7_3,h7_4,eQ,inB_d,hE,f1,f2,f3,f4,c0]);repeat' first|((with_reducible first|apply gJoin_split|apply cond_split|apply gJoinD_split)<;>intro h<;>(try simp only [spl] at h)<;>try simp (maxSteps:=10000000) (disch:=first|exact bk rfl|omega|(simp only [ln];omega)|(simp only [go_sem];done)|decide) only [go_sem,h7,r7,h7_0,h7_1,h7_2,h7_3,h7_4,eQ,inB_d,hE,f1,f2,f3,f4,c0,h])|((with_reducible refine cl_guard ?_;first|refine cl_eq (hG K) _ (time21_c _) rfl ?_|refine cl_eq (hG K) _ (in22_c _ _ _) rfl ?_|refine cl_eq (hG K) _ (named23_c _ hp) rfl ?_|refine cl_eq (hG K) _ (nights25_c _ _) rfl ?_|refine cl_eq (hG K) _ (account24_c _) rfl ?_)<;>try simp (maxSteps:=10000000) (disch:=first|exact bk rfl|omega|(simp only [ln];omega)|(simp only [go_sem];done)|decide) only [go_sem,h7,r7,h7_0,h7_1,h7_2,h7_3,h7_4,eQ,inB_d,hE,f1,f2,f3,f4,c0])
  exact endQ_fro (.bool false) rfl
 | true=>
  cases c1:dialB q.dial with
  | false=>
   have hv:=okk hY _ rfl
   simp only [c0,c1,Bool.true_and,Bool.and_true,Bool.false_and,Bool.and_false] at hv
   rw [hv]
   (try simp (maxSteps:=10000000) (disch:=first|exact bk rfl|omega|(simp only [ln];omega)|(simp only [go_sem];done)|decide) only [go_sem,h7,r7,h7_0,h7_1,h7_2,h7_3,h7_4,eQ,inB_d,hE,f1,f2,f3,f4,c0,c1]);repeat' first|((with_reducible first|apply gJoin_split|apply cond_split|apply gJoinD_split)<;>intro h<;>(try simp only [spl] at h)<;>try simp (maxSteps:=10000000) (disch:=first|exact bk rfl|omega|(simp only [ln];omega)|(simp only [go_sem];done)|decide) only [go_sem,h7,r7,h7_0,h7_1,h7_2,h7_3,h7_4,eQ,inB_d,hE,f1,f2,f3,f4,c0,c1,h])|((with_reducible refine cl_guard ?_;first|refine cl_eq (hG K) _ (time21_c _) rfl ?_|refine cl_eq (hG K) _ (in22_c _ _ _) rfl ?_|refine cl_eq (hG K) _ (named23_c _ hp) rfl ?_|refine cl_eq (hG K) _ (nights25_c _ _) rfl ?_|refine cl_eq (hG K) _ (account24_c _) rfl ?_)<;>try simp (maxSteps:=10000000) (disch:=first|exact bk rfl|omega|(simp only [ln];omega)|(simp only [go_sem];done)|decide) only [go_sem,h7,r7,h7_0,h7_1,h7_2,h7_3,h7_4,eQ,inB_d,hE,f1,f2,f3,f4,c0,c1])
   exact endQ_fro (.bool false) rfl
  | true=>
   cases c2:nameB q.place with
   | false=>
    have hv:=okk hY _ rfl
    simp only [c0,c1,c2,Bool.true_and,Bool.and_true,Bool.false_and,Bool.and_false] at hv
    rw [hv]
    (try simp (maxSteps:=10000000) (disch:=first|exact bk rfl|omega|(simp only [ln];omega)|(simp only [go_sem];done)|decide) only [go_sem,h7,r7,h7_0,h7_1,h7_2,h7_3,h7_4,eQ,inB_d,hE,f1,f2,f3,f4,c0,c1,c2]);repeat' first|((with_reducible first|apply gJoin_split|apply cond_split|apply gJoinD_split)<;>intro h<;>(try simp only [spl] at h)<;>try simp (maxSteps:=10000000) (disch:=first|exact bk rfl|omega|(simp only [ln];omega)|(simp only [go_sem];done)|decide) only [go_sem,h7,r7,h7_0,h7_1,h7_2,h7_3,h7_4,eQ,inB_d,hE,f1,f2,f3,f4,c0,c1,c2,h])|((with_reducible refine cl_guard ?_;first|refine cl_eq (hG K) _ (time21_c _) rfl ?_|refine cl_eq (hG K) _ (in22_c _ _ _) rfl ?_|refine cl_eq (hG K) _ (named23_c _ hp) rfl ?_|refine cl_eq (hG K) _ (nights25_c _ _) rfl ?_|refine cl_eq (hG K) _ (account24_c _) rfl ?_)<;>try simp (maxSteps:=10000000) (disch:=first|exact bk rfl|omega|(simp only [ln];omega)|(simp only [go_sem];done)|decide) only [go_sem,h7,r7,h7_0,h7_1,h7_2,h7_3,h7_4,eQ,inB_d,hE,f1,f2,f3,f4,c0,c1,c2])
    exact endQ_fro (.bool false) rfl
   | true=>
    cases c3:sameQ q (bareQ q) with
    | false=>
     have hv:=okk hY _ rfl
     simp only [c0,c1,c2,c3,Bool.true_and,Bool.and_true,Bool.false_and,Bool.and_false] at hv
     rw [hv]
     (try simp (maxSteps:=10000000) (disch:=first|exact bk rfl|omega|(simp only [ln];omega)|(simp only [go_sem];done)|decide) only [go_sem,h7,r7,h7_0,h7_1,h7_2,h7_3,h7_4,eQ,inB_d,hE,f1,f2,f3,f4,c0,c1,c2,c3]);repeat' first|((with_reducible first|apply gJoin_split|apply cond_split|apply gJoinD_split)<;>intro h<;>(try simp only [spl] at h)<;>try simp (maxSteps:=10000000) (disch:=first|exact bk rfl|omega|(simp only [ln];omega)|(simp only [go_sem];done)|decide) only [go_sem,h7,r7,h7_0,h7_1,h7_2,h7_3,h7_4,eQ,inB_d,hE,f1,f2,f3,f4,c0,c1,c2,c3,h])|((with_reducible refine cl_guard ?_;first|refine cl_eq (hG K) _ (time21_c _) rfl ?_|refine cl_eq (hG K) _ (in22_c _ _ _) rfl ?_|refine cl_eq (hG K) _ (named23_c _ hp) rfl ?_|refine cl_eq (hG K) _ (nights25_c _ _) rfl ?_|refine cl_eq (hG K) _ (account24_c _) rfl ?_)<;>try simp (maxSteps:=10000000) (disch:=first|exact bk rfl|omega|(simp only [ln];omega)|(simp only [go_sem];done)|decide) only [go_sem,h7,r7,h7_0,h7_1,h7_2,h7_3,h7_4,eQ,inB_d,hE,f1,f2,f3,f4,c0,c1,c2,c3])
     exact endQ_fro (.bool false) rfl
    | true=>
     have hv:=okk hY _ rfl
     simp only [c0,c1,c2,c3,Bool.true_and,Bool.and_true,Bool.false_and,Bool.and_false] at hv
     rw [hv]
     (try simp (maxSteps:=10000000) (disch:=first|exact bk rfl|omega|(simp only [ln];omega)|(simp only [go_sem];done)|decide) only [go_sem,h7,r7,h7_0,h7_1,h7_2,h7_3,h7_4,eQ,inB_d,hE,f1,f2,f3,f4,c0,c1,c2,c3]);repeat' first|((with_reducible first|apply gJoin_split|apply cond_split|apply gJoinD_split)<;>intro h<;>(try simp only [spl] at h)<;>try simp (maxSteps:=10000000) (disch:=first|exact bk rfl|omega|(simp only [ln];omega)|(simp only [go_sem];done)|decide) only [go_sem,h7,r7,h7_0,h7_1,h7_2,h7_3,h7_4,eQ,inB_d,hE,f1,f2,f3,f4,c0,c1,c2,c3,h])|((with_reducible refine cl_guard ?_;first|refine cl_eq (hG K) _ (time21_c _) rfl ?_|refine cl_eq (hG K) _ (in22_c _ _ _) rfl ?_|refine cl_eq (hG K) _ (named23_c _ hp) rfl ?_|refine cl_eq (hG K) _ (nights25_c _ _) rfl ?_|refine cl_eq (hG K) _ (account24_c _) rfl ?_)<;>try simp (maxSteps:=10000000) (disch:=first|exact bk rfl|omega|(simp only [ln];omega)|(simp only [go_sem];done)|decide) only [go_sem,h7,r7,h7_0,h7_1,h7_2,h7_3,h7_4,eQ,inB_d,hE,f1,f2,f3,f4,c0,c1,c2,c3])
     exact endQ_fro (.bool true) rfl
set_option maxHeartbeats 8000000 in
theorem question7_5 {q:Quest} (hk:q.kind=5) (hp:q.place.length≤9223372036854775807):CQ P (G K) 7 [.agg (eQ q)] (·= .bool (validB q)):=by
 have f1:(q.kind=1)=False:=eq_false (by omega)
 have f2:(q.kind=2)=False:=eq_false (by omega)
 have f3:(q.kind=3)=False:=eq_false (by omega)
 have f4:(q.kind=4)=False:=eq_false (by omega)
 have f5:(q.kind=5)=True:=eq_true hk
 have hX:bareQ q={q0 q with dial:=q.dial,place:=q.place,lo:=q.lo,hi:=q.hi}:=by simp [bareQ,hk]
 have hY:okB q=(dialB q.dial&&(nameB q.place&&(timeB q.lo&&(timeB q.hi&&decide (q.lo≤q.hi))))):=by simp [okB,hk]
 have hE:∀k:AV→Bool,binK P .eql 27 false (.agg [.int .i64 q.kind, .int .i64 q.known, .int .i64 q.dial, .str q.place, .int .i64 q.lo, .int .i64 q.hi, .int .i64 q.acc, .int .i64 q.bef, .int .i64 q.off, .int .i64 q.no]) (.agg [.int .i64 q.kind, .int .i64 q.known, .int .i64 q.dial, .str q.place, .int .i64 q.lo, .int .i64 q.hi, .int .i64 (0), .int .i64 (0), .int .i64 (0), .int .i64 (0)]) k=k (.bool (sameQ q (bareQ q))):=fun k=>by
  have:=eql27 q (bareQ q) (k:=k)
  rw [hX] at this⊢
  exact this
 refine CQ.enter (hG K) ?_
 cases c0:timeB q.known with
 | false=>
  have hv:=okk hY _ rfl
  simp only [c0,Bool.true_and,Bool.and_true,Bool.false_and,Bool.and_false] at hv
  rw [hv]
  (try simp (maxSteps:=10000000) (disch:=first|exact bk rfl|omega|(simp only [ln];omega)|(simp only [go_sem];done)|decide) only [go_sem,h7,r7,h7_0,h7_1,h7_2,h7_3,h7_4,eQ,inB_d,hE,f1,f2,f3,f4,f5,c0]);repeat' first|((with_reducible first|apply gJoin_split|apply cond_split|apply gJoinD_split)<;>intro h<;>(try simp only [spl] at h)<;>try simp (maxSteps:=10000000) (disch:=first|exact bk rfl|omega|(simp only [ln];omega)|(simp only [go_sem];done)|decide) only [go_sem,h7,r7,h7_0,h7_1,h7_2,h7_3,h7_4,eQ,inB_d,hE,f1,f2,f3,f4,f5,c0,h])|((with_reducible refine cl_guard ?_;first|refine cl_eq (hG K) _ (time21_c _) rfl ?_|refine cl_eq (hG K) _ (in22_c _ _ _) rfl ?_|refine cl_eq (hG K) _ (named23_c _ hp) rfl ?_|refine cl_eq (hG K) _ (nights25_c _ _) rfl ?_|refine cl_eq (hG K) _ (account24_c _) rfl ?_)<;>try simp (maxSteps:=10000000) (disch:=first|exact bk rfl|omega|(simp only [ln];omega)|(simp only [go_sem];done)|decide) only [go_sem,h7,r7,h7_0,h7_1,h7_2,h7_3,h7_4,eQ,inB_d,hE,f1,f2,f3,f4,f5,c0])
  exact endQ_fro (.bool false) rfl
 | true=>
  cases c1:dialB q.dial with
  | false=>
   have hv:=okk hY _ rfl
   simp only [c0,c1,Bool.true_and,Bool.and_true,Bool.false_and,Bool.and_false] at hv
   rw [hv]
   (try simp (maxSteps:=10000000) (disch:=first|exact bk rfl|omega|(simp only [ln];omega)|(simp only [go_sem];done)|decide) only [go_sem,h7,r7,h7_0,h7_1,h7_2,h7_3,h7_4,eQ,inB_d,hE,f1,f2,f3,f4,f5,c0,c1]);repeat' first|((with_reducible first|apply gJoin_split|apply cond_split|apply gJoinD_split)<;>intro h<;>(try simp only [spl] at h)<;>try simp (maxSteps:=10000000) (disch:=first|exact bk rfl|omega|(simp only [ln];omega)|(simp only [go_sem];done)|decide) only [go_sem,h7,r7,h7_0,h7_1,h7_2,h7_3,h7_4,eQ,inB_d,hE,f1,f2,f3,f4,f5,c0,c1,h])|((with_reducible refine cl_guard ?_;first|refine cl_eq (hG K) _ (time21_c _) rfl ?_|refine cl_eq (hG K) _ (in22_c _ _ _) rfl ?_|refine cl_eq (hG K) _ (named23_c _ hp) rfl ?_|refine cl_eq (hG K) _ (nights25_c _ _) rfl ?_|refine cl_eq (hG K) _ (account24_c _) rfl ?_)<;>try simp (maxSteps:=10000000) (disch:=first|exact bk rfl|omega|(simp only [ln];omega)|(simp only [go_sem];done)|decide) only [go_sem,h7,r7,h7_0,h7_1,h7_2,h7_3,h7_4,eQ,inB_d,hE,f1,f2,f3,f4,f5,c0,c1])
   exact endQ_fro (.bool false) rfl
  | true=>
   cases c2:nameB q.place with
   | false=>
    have hv:=okk hY _ rfl
    simp only [c0,c1,c2,Bool.true_and,Bool.and_true,Bool.false_and,Bool.and_false] at hv
    rw [hv]
    (try simp (maxSteps:=10000000) (disch:=first|exact bk rfl|omega|(simp only [ln];omega)|(simp only [go_sem];done)|decide) only [go_sem,h7,r7,h7_0,h7_1,h7_2,h7_3,h7_4,eQ,inB_d,hE,f1,f2,f3,f4,f5,c0,c1,c2]);repeat' first|((with_reducible first|apply gJoin_split|apply cond_split|apply gJoinD_split)<;>intro h<;>(try simp only [spl] at h)<;>try simp (maxSteps:=10000000) (disch:=first|exact bk rfl|omega|(simp only [ln];omega)|(simp only [go_sem];done)|decide) only [go_sem,h7,r7,h7_0,h7_1,h7_2,h7_3,h7_4,eQ,inB_d,hE,f1,f2,f3,f4,f5,c0,c1,c2,h])|((with_reducible refine cl_guard ?_;first|refine cl_eq (hG K) _ (time21_c _) rfl ?_|refine cl_eq (hG K) _ (in22_c _ _ _) rfl ?_|refine cl_eq (hG K) _ (named23_c _ hp) rfl ?_|refine cl_eq (hG K) _ (nights25_c _ _) rfl ?_|refine cl_eq (hG K) _ (account24_c _) rfl ?_)<;>try simp (maxSteps:=10000000) (disch:=first|exact bk rfl|omega|(simp only [ln];omega)|(simp only [go_sem];done)|decide) only [go_sem,h7,r7,h7_0,h7_1,h7_2,h7_3,h7_4,eQ,inB_d,hE,f1,f2,f3,f4,f5,c0,c1,c2])
    exact endQ_fro (.bool false) rfl
   | true=>
    cases c3:timeB q.lo with
    | false=>
     have hv:=okk hY _ rfl
     simp only [c0,c1,c2,c3,Bool.true_and,Bool.and_true,Bool.false_and,Bool.and_false] at hv
     rw [hv]
     (try simp (maxSteps:=10000000) (disch:=first|exact bk rfl|omega|(simp only [ln];omega)|(simp only [go_sem];done)|decide) only [go_sem,h7,r7,h7_0,h7_1,h7_2,h7_3,h7_4,eQ,inB_d,hE,f1,f2,f3,f4,f5,c0,c1,c2,c3]);repeat' first|((with_reducible first|apply gJoin_split|apply cond_split|apply gJoinD_split)<;>intro h<;>(try simp only [spl] at h)<;>try simp (maxSteps:=10000000) (disch:=first|exact bk rfl|omega|(simp only [ln];omega)|(simp only [go_sem];done)|decide) only [go_sem,h7,r7,h7_0,h7_1,h7_2,h7_3,h7_4,eQ,inB_d,hE,f1,f2,f3,f4,f5,c0,c1,c2,c3,h])|((with_reducible refine cl_guard ?_;first|refine cl_eq (hG K) _ (time21_c _) rfl ?_|refine cl_eq (hG K) _ (in22_c _ _ _) rfl ?_|refine cl_eq (hG K) _ (named23_c _ hp) rfl ?_|refine cl_eq (hG K) _ (nights25_c _ _) rfl ?_|refine cl_eq (hG K) _ (account24_c _) rfl ?_)<;>try simp (maxSteps:=10000000) (disch:=first|exact bk rfl|omega|(simp only [ln];omega)|(simp only [go_sem];done)|decide) only [go_sem,h7,r7,h7_0,h7_1,h7_2,h7_3,h7_4,eQ,inB_d,hE,f1,f2,f3,f4,f5,c0,c1,c2,c3])
     exact endQ_fro (.bool false) rfl
    | true=>
     cases c4:timeB q.hi with
     | false=>
      have hv:=okk hY _ rfl
      simp only [c0,c1,c2,c3,c4,Bool.true_and,Bool.and_true,Bool.false_and,Bool.and_false] at hv
      rw [hv]
      (try simp (maxSteps:=10000000) (disch:=first|exact bk rfl|omega|(simp only [ln];omega)|(simp only [go_sem];done)|decide) only [go_sem,h7,r7,h7_0,h7_1,h7_2,h7_3,h7_4,eQ,inB_d,hE,f1,f2,f3,f4,f5,c0,c1,c2,c3,c4]);repeat' first|((with_reducible first|apply gJoin_split|apply cond_split|apply gJoinD_split)<;>intro h<;>(try simp only [spl] at h)<;>try simp (maxSteps:=10000000) (disch:=first|exact bk rfl|omega|(simp only [ln];omega)|(simp only [go_sem];done)|decide) only [go_sem,h7,r7,h7_0,h7_1,h7_2,h7_3,h7_4,eQ,inB_d,hE,f1,f2,f3,f4,f5,c0,c1,c2,c3,c4,h])|((with_reducible refine cl_guard ?_;first|refine cl_eq (hG K) _ (time21_c _) rfl ?_|refine cl_eq (hG K) _ (in22_c _ _ _) rfl ?_|refine cl_eq (hG K) _ (named23_c _ hp) rfl ?_|refine cl_eq (hG K) _ (nights25_c _ _) rfl ?_|refine cl_eq (hG K) _ (account24_c _) rfl ?_)<;>try simp (maxSteps:=10000000) (disch:=first|exact bk rfl|omega|(simp only [ln];omega)|(simp only [go_sem];done)|decide) only [go_sem,h7,r7,h7_0,h7_1,h7_2,h7_3,h7_4,eQ,inB_d,hE,f1,f2,f3,f4,f5,c0,c1,c2,c3,c4])
      exact endQ_fro (.bool false) rfl
     | true=>
      cases c5:decide (q.lo≤q.hi) with
      | false=>
       have hv:=okk hY _ rfl
       simp only [c0,c1,c2,c3,c4,c5,Bool.true_and,Bool.and_true,Bool.false_and,Bool.and_false] at hv
       rw [hv]
       (try simp (maxSteps:=10000000) (disch:=first|exact bk rfl|omega|(simp only [ln];omega)|(simp only [go_sem];done)|decide) only [go_sem,h7,r7,h7_0,h7_1,h7_2,h7_3,h7_4,eQ,inB_d,hE,f1,f2,f3,f4,f5,c0,c1,c2,c3,c4,c5]);repeat' first|((with_reducible first|apply gJoin_split|apply cond_split|apply gJoinD_split)<;>intro h<;>(try simp only [spl] at h)<;>try simp (maxSteps:=10000000) (disch:=first|exact bk rfl|omega|(simp only [ln];omega)|(simp only [go_sem];done)|decide) only [go_sem,h7,r7,h7_0,h7_1,h7_2,h7_3,h7_4,eQ,inB_d,hE,f1,f2,f3,f4,f5,c0,c1,c2,c3,c4,c5,h])|((with_reducible refine cl_guard ?_;first|refine cl_eq (hG K) _ (time21_c _) rfl ?_|refine cl_eq (hG K) _ (in22_c _ _ _) rfl ?_|refine cl_eq (hG K) _ (named23_c _ hp) rfl ?_|refine cl_eq (hG K) _ (nights25_c _ _) rfl ?_|refine cl_eq (hG K) _ (account24_c _) rfl ?_)<;>try simp (maxSteps:=10000000) (disch:=first|exact bk rfl|omega|(simp only [ln];omega)|(simp only [go_sem];done)|decide) only [go_sem,h7,r7,h7_0,h7_1,h7_2,h7_3,h7_4,eQ,inB_d,hE,f1,f2,f3,f4,f5,c0,c1,c2,c3,c4,c5])
       exact endQ_fro (.bool false) rfl
      | true=>
       cases c6:sameQ q (bareQ q) with
       | false=>
        have hv:=okk hY _ rfl
        simp only [c0,c1,c2,c3,c4,c5,c6,Bool.true_and,Bool.and_true,Bool.false_and,Bool.and_false] at hv
        rw [hv]
        (try simp (maxSteps:=10000000) (disch:=first|exact bk rfl|omega|(simp only [ln];omega)|(simp only [go_sem];done)|decide) only [go_sem,h7,r7,h7_0,h7_1,h7_2,h7_3,h7_4,eQ,inB_d,hE,f1,f2,f3,f4,f5,c0,c1,c2,c3,c4,c5,c6]);repeat' first|((with_reducible first|apply gJoin_split|apply cond_split|apply gJoinD_split)<;>intro h<;>(try simp only [spl] at h)<;>try simp (maxSteps:=10000000) (disch:=first|exact bk rfl|omega|(simp only [ln];omega)|(simp only [go_sem];done)|decide) only [go_sem,h7,r7,h7_0,h7_1,h7_2,h7_3,h7_4,eQ,inB_d,hE,f1,f2,f3,f4,f5,c0,c1,c2,c3,c4,c5,c6,h])|((with_reducible refine cl_guard ?_;first|refine cl_eq (hG K) _ (time21_c _) rfl ?_|refine cl_eq (hG K) _ (in22_c _ _ _) rfl ?_|refine cl_eq (hG K) _ (named23_c _ hp) rfl ?_|refine cl_eq (hG K) _ (nights25_c _ _) rfl ?_|refine cl_eq (hG K) _ (account24_c _) rfl ?_)<;>try simp (maxSteps:=10000000) (disch:=first|exact bk rfl|omega|(simp only [ln];omega)|(simp only [go_sem];done)|decide) only [go_sem,h7,r7,h7_0,h7_1,h7_2,h7_3,h7_4,eQ,inB_d,hE,f1,f2,f3,f4,f5,c0,c1,c2,c3,c4,c5,c6])
        exact endQ_fro (.bool false) rfl
       | true=>
        have hv:=okk hY _ rfl
        simp only [c0,c1,c2,c3,c4,c5,c6,Bool.true_and,Bool.and_true,Bool.false_and,Bool.and_false] at hv
        rw [hv]
        (try simp (maxSteps:=10000000) (disch:=first|exact bk rfl|omega|(simp only [ln];omega)|(simp only [go_sem];done)|decide) only [go_sem,h7,r7,h7_0,h7_1,h7_2,h7_3,h7_4,eQ,inB_d,hE,f1,f2,f3,f4,f5,c0,c1,c2,c3,c4,c5,c6]);repeat' first|((with_reducible first|apply gJoin_split|apply cond_split|apply gJoinD_split)<;>intro h<;>(try simp only [spl] at h)<;>try simp (maxSteps:=10000000) (disch:=first|exact bk rfl|omega|(simp only [ln];omega)|(simp only [go_sem];done)|decide) only [go_sem,h7,r7,h7_0,h7_1,h7_2,h7_3,h7_4,eQ,inB_d,hE,f1,f2,f3,f4,f5,c0,c1,c2,c3,c4,c5,c6,h])|((with_reducible refine cl_guard ?_;first|refine cl_eq (hG K) _ (time21_c _) rfl ?_|refine cl_eq (hG K) _ (in22_c _ _ _) rfl ?_|refine cl_eq (hG K) _ (named23_c _ hp) rfl ?_|refine cl_eq (hG K) _ (nights25_c _ _) rfl ?_|refine cl_eq (hG K) _ (account24_c _) rfl ?_)<;>try simp (maxSteps:=10000000) (disch:=first|exact bk rfl|omega|(simp only [ln];omega)|(simp only [go_sem];done)|decide) only [go_sem,h7,r7,h7_0,h7_1,h7_2,h7_3,h7_4,eQ,inB_d,hE,f1,f2,f3,f4,f5,c0,c1,c2,c3,c4,c5,c6])
        exact endQ_fro (.bool true) rfl
set_option maxHeartbeats 8000000 in
theorem question7_6 {q:Quest} (hk:q.kind=6) (hp:q.place.length≤9223372036854775807):CQ P (G K) 7 [.agg (eQ q)] (·= .bool (validB q)):=by
 have f1:(q.kind=1)=False:=eq_false (by omega)
 have f2:(q.kind=2)=False:=eq_false (by omega)
 have f3:(q.kind=3)=False:=eq_false (by omega)
 have f4:(q.kind=4)=False:=eq_false (by omega)
 have f5:(q.kind=5)=False:=eq_false (by omega)
 have f6:(q.kind=6)=True:=eq_true hk
 have hX:bareQ q={q0 q with acc:=q.acc,lo:=q.lo,hi:=q.hi}:=by simp [bareQ,hk]
 have hY:okB q=(accB q.acc&&nightsB q.lo q.hi):=by simp [okB,hk]
 have hE:∀k:AV→Bool,binK P .eql 27 false (.agg [.int .i64 q.kind, .int .i64 q.known, .int .i64 q.dial, .str q.place, .int .i64 q.lo, .int .i64 q.hi, .int .i64 q.acc, .int .i64 q.bef, .int .i64 q.off, .int .i64 q.no]) (.agg [.int .i64 q.kind, .int .i64 q.known, .int .i64 (0), .str [], .int .i64 q.lo, .int .i64 q.hi, .int .i64 q.acc, .int .i64 (0), .int .i64 (0), .int .i64 (0)]) k=k (.bool (sameQ q (bareQ q))):=fun k=>by
  have:=eql27 q (bareQ q) (k:=k)
  rw [hX] at this⊢
  exact this
 refine CQ.enter (hG K) ?_
 cases c0:timeB q.known with
 | false=>
  have hv:=okk hY _ rfl
  simp only [c0,Bool.true_and,Bool.and_true,Bool.false_and,Bool.and_false] at hv
  rw [hv]
  (try simp (maxSteps:=10000000) (disch:=first|exact bk rfl|omega|(simp only [ln];omega)|(simp only [go_sem];done)|decide) only [go_sem,h7,r7,h7_0,h7_1,h7_2,h7_3,h7_4,eQ,inB_d,hE,f1,f2,f3,f4,f5,f6,c0]);repeat' first|((with_reducible first|apply gJoin_split|apply cond_split|apply gJoinD_split)<;>intro h<;>(try simp only [spl] at h)<;>try simp (maxSteps:=10000000) (disch:=first|exact bk rfl|omega|(simp only [ln];omega)|(simp only [go_sem];done)|decide) only [go_sem,h7,r7,h7_0,h7_1,h7_2,h7_3,h7_4,eQ,inB_d,hE,f1,f2,f3,f4,f5,f6,c0,h])|((with_reducible refine cl_guard ?_;first|refine cl_eq (hG K) _ (time21_c _) rfl ?_|refine cl_eq (hG K) _ (in22_c _ _ _) rfl ?_|refine cl_eq (hG K) _ (named23_c _ hp) rfl ?_|refine cl_eq (hG K) _ (nights25_c _ _) rfl ?_|refine cl_eq (hG K) _ (account24_c _) rfl ?_)<;>try simp (maxSteps:=10000000) (disch:=first|exact bk rfl|omega|(simp only [ln];omega)|(simp only [go_sem];done)|decide) only [go_sem,h7,r7,h7_0,h7_1,h7_2,h7_3,h7_4,eQ,inB_d,hE,f1,f2,f3,f4,f5,f6,c0])
  exact endQ_fro (.bool false) rfl
 | true=>
  cases c1:accB q.acc with
  | false=>
   have hv:=okk hY _ rfl
   simp only [c0,c1,Bool.true_and,Bool.and_true,Bool.false_and,Bool.and_false] at hv
   rw [hv]
   (try simp (maxSteps:=10000000) (disch:=first|exact bk rfl|omega|(simp only [ln];omega)|(simp only [go_sem];done)|decide) only [go_sem,h7,r7,h7_0,h7_1,h7_2,h7_3,h7_4,eQ,inB_d,hE,f1,f2,f3,f4,f5,f6,c0,c1]);repeat' first|((with_reducible first|apply gJoin_split|apply cond_split|apply gJoinD_split)<;>intro h<;>(try simp only [spl] at h)<;>try simp (maxSteps:=10000000) (disch:=first|exact bk rfl|omega|(simp only [ln];omega)|(simp only [go_sem];done)|decide) only [go_sem,h7,r7,h7_0,h7_1,h7_2,h7_3,h7_4,eQ,inB_d,hE,f1,f2,f3,f4,f5,f6,c0,c1,h])|((with_reducible refine cl_guard ?_;first|refine cl_eq (hG K) _ (time21_c _) rfl ?_|refine cl_eq (hG K) _ (in22_c _ _ _) rfl ?_|refine cl_eq (hG K) _ (named23_c _ hp) rfl ?_|refine cl_eq (hG K) _ (nights25_c _ _) rfl ?_|refine cl_eq (hG K) _ (account24_c _) rfl ?_)<;>try simp (maxSteps:=10000000) (disch:=first|exact bk rfl|omega|(simp only [ln];omega)|(simp only [go_sem];done)|decide) only [go_sem,h7,r7,h7_0,h7_1,h7_2,h7_3,h7_4,eQ,inB_d,hE,f1,f2,f3,f4,f5,f6,c0,c1])
   exact endQ_fro (.bool false) rfl
  | true=>
   cases c2:nightsB q.lo q.hi with
   | false=>
    have hv:=okk hY _ rfl
    simp only [c0,c1,c2,Bool.true_and,Bool.and_true,Bool.false_and,Bool.and_false] at hv
    rw [hv]
    (try simp (maxSteps:=10000000) (disch:=first|exact bk rfl|omega|(simp only [ln];omega)|(simp only [go_sem];done)|decide) only [go_sem,h7,r7,h7_0,h7_1,h7_2,h7_3,h7_4,eQ,inB_d,hE,f1,f2,f3,f4,f5,f6,c0,c1,c2]);repeat' first|((with_reducible first|apply gJoin_split|apply cond_split|apply gJoinD_split)<;>intro h<;>(try simp only [spl] at h)<;>try simp (maxSteps:=10000000) (disch:=first|exact bk rfl|omega|(simp only [ln];omega)|(simp only [go_sem];done)|decide) only [go_sem,h7,r7,h7_0,h7_1,h7_2,h7_3,h7_4,eQ,inB_d,hE,f1,f2,f3,f4,f5,f6,c0,c1,c2,h])|((with_reducible refine cl_guard ?_;first|refine cl_eq (hG K) _ (time21_c _) rfl ?_|refine cl_eq (hG K) _ (in22_c _ _ _) rfl ?_|refine cl_eq (hG K) _ (named23_c _ hp) rfl ?_|refine cl_eq (hG K) _ (nights25_c _ _) rfl ?_|refine cl_eq (hG K) _ (account24_c _) rfl ?_)<;>try simp (maxSteps:=10000000) (disch:=first|exact bk rfl|omega|(simp only [ln];omega)|(simp only [go_sem];done)|decide) only [go_sem,h7,r7,h7_0,h7_1,h7_2,h7_3,h7_4,eQ,inB_d,hE,f1,f2,f3,f4,f5,f6,c0,c1,c2])
    exact endQ_fro (.bool false) rfl
   | true=>
    cases c3:sameQ q (bareQ q) with
    | false=>
     have hv:=okk hY _ rfl
     simp only [c0,c1,c2,c3,Bool.true_and,Bool.and_true,Bool.false_and,Bool.and_false] at hv
     rw [hv]
     (try simp (maxSteps:=10000000) (disch:=first|exact bk rfl|omega|(simp only [ln];omega)|(simp only [go_sem];done)|decide) only [go_sem,h7,r7,h7_0,h7_1,h7_2,h7_3,h7_4,eQ,inB_d,hE,f1,f2,f3,f4,f5,f6,c0,c1,c2,c3]);repeat' first|((with_reducible first|apply gJoin_split|apply cond_split|apply gJoinD_split)<;>intro h<;>(try simp only [spl] at h)<;>try simp (maxSteps:=10000000) (disch:=first|exact bk rfl|omega|(simp only [ln];omega)|(simp only [go_sem];done)|decide) only [go_sem,h7,r7,h7_0,h7_1,h7_2,h7_3,h7_4,eQ,inB_d,hE,f1,f2,f3,f4,f5,f6,c0,c1,c2,c3,h])|((with_reducible refine cl_guard ?_;first|refine cl_eq (hG K) _ (time21_c _) rfl ?_|refine cl_eq (hG K) _ (in22_c _ _ _) rfl ?_|refine cl_eq (hG K) _ (named23_c _ hp) rfl ?_|refine cl_eq (hG K) _ (nights25_c _ _) rfl ?_|refine cl_eq (hG K) _ (account24_c _) rfl ?_)<;>try simp (maxSteps:=10000000) (disch:=first|exact bk rfl|omega|(simp only [ln];omega)|(simp only [go_sem];done)|decide) only [go_sem,h7,r7,h7_0,h7_1,h7_2,h7_3,h7_4,eQ,inB_d,hE,f1,f2,f3,f4,f5,f6,c0,c1,c2,c3])
     exact endQ_fro (.bool false) rfl
    | true=>
     have hv:=okk hY _ rfl
     simp only [c0,c1,c2,c3,Bool.true_and,Bool.and_true,Bool.false_and,Bool.and_false] at hv
     rw [hv]
     (try simp (maxSteps:=10000000) (disch:=first|exact bk rfl|omega|(simp only [ln];omega)|(simp only [go_sem];done)|decide) only [go_sem,h7,r7,h7_0,h7_1,h7_2,h7_3,h7_4,eQ,inB_d,hE,f1,f2,f3,f4,f5,f6,c0,c1,c2,c3]);repeat' first|((with_reducible first|apply gJoin_split|apply cond_split|apply gJoinD_split)<;>intro h<;>(try simp only [spl] at h)<;>try simp (maxSteps:=10000000) (disch:=first|exact bk rfl|omega|(simp only [ln];omega)|(simp only [go_sem];done)|decide) only [go_sem,h7,r7,h7_0,h7_1,h7_2,h7_3,h7_4,eQ,inB_d,hE,f1,f2,f3,f4,f5,f6,c0,c1,c2,c3,h])|((with_reducible refine cl_guard ?_;first|refine cl_eq (hG K) _ (time21_c _) rfl ?_|refine cl_eq (hG K) _ (in22_c _ _ _) rfl ?_|refine cl_eq (hG K) _ (named23_c _ hp) rfl ?_|refine cl_eq (hG K) _ (nights25_c _ _) rfl ?_|refine cl_eq (hG K) _ (account24_c _) rfl ?_)<;>try simp (maxSteps:=10000000) (disch:=first|exact bk rfl|omega|(simp only [ln];omega)|(simp only [go_sem];done)|decide) only [go_sem,h7,r7,h7_0,h7_1,h7_2,h7_3,h7_4,eQ,inB_d,hE,f1,f2,f3,f4,f5,f6,c0,c1,c2,c3])
     exact endQ_fro (.bool true) rfl
set_option maxHeartbeats 8000000 in
theorem question7_7 {q:Quest} (hk:q.kind=7) (hp:q.place.length≤9223372036854775807):CQ P (G K) 7 [.agg (eQ q)] (·= .bool (validB q)):=by
 have f1:(q.kind=1)=False:=eq_false (by omega)
 have f2:(q.kind=2)=False:=eq_false (by omega)
 have f3:(q.kind=3)=False:=eq_false (by omega)
 have f4:(q.kind=4)=False:=eq_false (by omega)
 have f5:(q.kind=5)=False:=eq_false (by omega)
 have f6:(q.kind=6)=False:=eq_false (by omega)
 have f7:(q.kind=7)=True:=eq_true hk
 have hX:bareQ q={q0 q with bef:=q.bef,lo:=q.lo,hi:=q.hi}:=by simp [bareQ,hk]
 have hY:okB q=(timeB q.bef&&nightsB q.lo q.hi):=by simp [okB,hk]
 have hE:∀k:AV→Bool,binK P .eql 27 false (.agg [.int .i64 q.kind, .int .i64 q.known, .int .i64 q.dial, .str q.place, .int .i64 q.lo, .int .i64 q.hi, .int .i64 q.acc, .int .i64 q.bef, .int .i64 q.off, .int .i64 q.no]) (.agg [.int .i64 q.kind, .int .i64 q.known, .int .i64 (0), .str [], .int .i64 q.lo, .int .i64 q.hi, .int .i64 (0), .int .i64 q.bef, .int .i64 (0), .int .i64 (0)]) k=k (.bool (sameQ q (bareQ q))):=fun k=>by
  have:=eql27 q (bareQ q) (k:=k)
  rw [hX] at this⊢
  exact this
 refine CQ.enter (hG K) ?_
 cases c0:timeB q.known with
 | false=>
  have hv:=okk hY _ rfl
  simp only [c0,Bool.true_and,Bool.and_true,Bool.false_and,Bool.and_false] at hv
  rw [hv]
  (try simp (maxSteps:=10000000) (disch:=first|exact bk rfl|omega|(simp only [ln];omega)|(simp only [go_sem];done)|decide) only [go_sem,h7,r7,h7_0,h7_1,h7_2,h7_3,h7_4,eQ,inB_d,hE,f1,f2,f3,f4,f5,f6,f7,c0]);repeat' first|((with_reducible first|apply gJoin_split|apply cond_split|apply gJoinD_split)<;>intro h<;>(try simp only [spl] at h)<;>try simp (maxSteps:=10000000) (disch:=first|exact bk rfl|omega|(simp only [ln];omega)|(simp only [go_sem];done)|decide) only [go_sem,h7,r7,h7_0,h7_1,h7_2,h7_3,h7_4,eQ,inB_d,hE,f1,f2,f3,f4,f5,f6,f7,c0,h])|((with_reducible refine cl_guard ?_;first|refine cl_eq (hG K) _ (time21_c _) rfl ?_|refine cl_eq (hG K) _ (in22_c _ _ _) rfl ?_|refine cl_eq (hG K) _ (named23_c _ hp) rfl ?_|refine cl_eq (hG K) _ (nights25_c _ _) rfl ?_|refine cl_eq (hG K) _ (account24_c _) rfl ?_)<;>try simp (maxSteps:=10000000) (disch:=first|exact bk rfl|omega|(simp only [ln];omega)|(simp only [go_sem];done)|decide) only [go_sem,h7,r7,h7_0,h7_1,h7_2,h7_3,h7_4,eQ,inB_d,hE,f1,f2,f3,f4,f5,f6,f7,c0])
  exact endQ_fro (.bool false) rfl
 | true=>
  cases c1:timeB q.bef with
  | false=>
   have hv:=okk hY _ rfl
   simp only [c0,c1,Bool.true_and,Bool.and_true,Bool.false_and,Bool.and_false] at hv
   rw [hv]
   (try simp (maxSteps:=10000000) (disch:=first|exact bk rfl|omega|(simp only [ln];omega)|(simp only [go_sem];done)|decide) only [go_sem,h7,r7,h7_0,h7_1,h7_2,h7_3,h7_4,eQ,inB_d,hE,f1,f2,f3,f4,f5,f6,f7,c0,c1]);repeat' first|((with_reducible first|apply gJoin_split|apply cond_split|apply gJoinD_split)<;>intro h<;>(try simp only [spl] at h)<;>try simp (maxSteps:=10000000) (disch:=first|exact bk rfl|omega|(simp only [ln];omega)|(simp only [go_sem];done)|decide) only [go_sem,h7,r7,h7_0,h7_1,h7_2,h7_3,h7_4,eQ,inB_d,hE,f1,f2,f3,f4,f5,f6,f7,c0,c1,h])|((with_reducible refine cl_guard ?_;first|refine cl_eq (hG K) _ (time21_c _) rfl ?_|refine cl_eq (hG K) _ (in22_c _ _ _) rfl ?_|refine cl_eq (hG K) _ (named23_c _ hp) rfl ?_|refine cl_eq (hG K) _ (nights25_c _ _) rfl ?_|refine cl_eq (hG K) _ (account24_c _) rfl ?_)<;>try simp (maxSteps:=10000000) (disch:=first|exact bk rfl|omega|(simp only [ln];omega)|(simp only [go_sem];done)|decide) only [go_sem,h7,r7,h7_0,h7_1,h7_2,h7_3,h7_4,eQ,inB_d,hE,f1,f2,f3,f4,f5,f6,f7,c0,c1])
   exact endQ_fro (.bool false) rfl
  | true=>
   cases c2:nightsB q.lo q.hi with
   | false=>
    have hv:=okk hY _ rfl
    simp only [c0,c1,c2,Bool.true_and,Bool.and_true,Bool.false_and,Bool.and_false] at hv
    rw [hv]
    (try simp (maxSteps:=10000000) (disch:=first|exact bk rfl|omega|(simp only [ln];omega)|(simp only [go_sem];done)|decide) only [go_sem,h7,r7,h7_0,h7_1,h7_2,h7_3,h7_4,eQ,inB_d,hE,f1,f2,f3,f4,f5,f6,f7,c0,c1,c2]);repeat' first|((with_reducible first|apply gJoin_split|apply cond_split|apply gJoinD_split)<;>intro h<;>(try simp only [spl] at h)<;>try simp (maxSteps:=10000000) (disch:=first|exact bk rfl|omega|(simp only [ln];omega)|(simp only [go_sem];done)|decide) only [go_sem,h7,r7,h7_0,h7_1,h7_2,h7_3,h7_4,eQ,inB_d,hE,f1,f2,f3,f4,f5,f6,f7,c0,c1,c2,h])|((with_reducible refine cl_guard ?_;first|refine cl_eq (hG K) _ (time21_c _) rfl ?_|refine cl_eq (hG K) _ (in22_c _ _ _) rfl ?_|refine cl_eq (hG K) _ (named23_c _ hp) rfl ?_|refine cl_eq (hG K) _ (nights25_c _ _) rfl ?_|refine cl_eq (hG K) _ (account24_c _) rfl ?_)<;>try simp (maxSteps:=10000000) (disch:=first|exact bk rfl|omega|(simp only [ln];omega)|(simp only [go_sem];done)|decide) only [go_sem,h7,r7,h7_0,h7_1,h7_2,h7_3,h7_4,eQ,inB_d,hE,f1,f2,f3,f4,f5,f6,f7,c0,c1,c2])
    exact endQ_fro (.bool false) rfl
   | true=>
    cases c3:sameQ q (bareQ q) with
    | false=>
     have hv:=okk hY _ rfl
     simp only [c0,c1,c2,c3,Bool.true_and,Bool.and_true,Bool.false_and,Bool.and_false] at hv
     rw [hv]
     (try simp (maxSteps:=10000000) (disch:=first|exact bk rfl|omega|(simp only [ln];omega)|(simp only [go_sem];done)|decide) only [go_sem,h7,r7,h7_0,h7_1,h7_2,h7_3,h7_4,eQ,inB_d,hE,f1,f2,f3,f4,f5,f6,f7,c0,c1,c2,c3]);repeat' first|((with_reducible first|apply gJoin_split|apply cond_split|apply gJoinD_split)<;>intro h<;>(try simp only [spl] at h)<;>try simp (maxSteps:=10000000) (disch:=first|exact bk rfl|omega|(simp only [ln];omega)|(simp only [go_sem];done)|decide) only [go_sem,h7,r7,h7_0,h7_1,h7_2,h7_3,h7_4,eQ,inB_d,hE,f1,f2,f3,f4,f5,f6,f7,c0,c1,c2,c3,h])|((with_reducible refine cl_guard ?_;first|refine cl_eq (hG K) _ (time21_c _) rfl ?_|refine cl_eq (hG K) _ (in22_c _ _ _) rfl ?_|refine cl_eq (hG K) _ (named23_c _ hp) rfl ?_|refine cl_eq (hG K) _ (nights25_c _ _) rfl ?_|refine cl_eq (hG K) _ (account24_c _) rfl ?_)<;>try simp (maxSteps:=10000000) (disch:=first|exact bk rfl|omega|(simp only [ln];omega)|(simp only [go_sem];done)|decide) only [go_sem,h7,r7,h7_0,h7_1,h7_2,h7_3,h7_4,eQ,inB_d,hE,f1,f2,f3,f4,f5,f6,f7,c0,c1,c2,c3])
     exact endQ_fro (.bool false) rfl
    | true=>
     have hv:=okk hY _ rfl
     simp only [c0,c1,c2,c3,Bool.true_and,Bool.and_true,Bool.false_and,Bool.and_false] at hv
     rw [hv]
     (try simp (maxSteps:=10000000) (disch:=first|exact bk rfl|omega|(simp only [ln];omega)|(simp only [go_sem];done)|decide) only [go_sem,h7,r7,h7_0,h7_1,h7_2,h7_3,h7_4,eQ,inB_d,hE,f1,f2,f3,f4,f5,f6,f7,c0,c1,c2,c3]);repeat' first|((with_reducible first|apply gJoin_split|apply cond_split|apply gJoinD_split)<;>intro h<;>(try simp only [spl] at h)<;>try simp (maxSteps:=10000000) (disch:=first|exact bk rfl|omega|(simp only [ln];omega)|(simp only [go_sem];done)|decide) only [go_sem,h7,r7,h7_0,h7_1,h7_2,h7_3,h7_4,eQ,inB_d,hE,f1,f2,f3,f4,f5,f6,f7,c0,c1,c2,c3,h])|((with_reducible refine cl_guard ?_;first|refine cl_eq (hG K) _ (time21_c _) rfl ?_|refine cl_eq (hG K) _ (in22_c _ _ _) rfl ?_|refine cl_eq (hG K) _ (named23_c _ hp) rfl ?_|refine cl_eq (hG K) _ (nights25_c _ _) rfl ?_|refine cl_eq (hG K) _ (account24_c _) rfl ?_)<;>try simp (maxSteps:=10000000) (disch:=first|exact bk rfl|omega|(simp only [ln];omega)|(simp only [go_sem];done)|decide) only [go_sem,h7,r7,h7_0,h7_1,h7_2,h7_3,h7_4,eQ,inB_d,hE,f1,f2,f3,f4,f5,f6,f7,c0,c1,c2,c3])
     exact endQ_fro (.bool true) rfl
set_option maxHeartbeats 8000000 in
theorem question7_8 {q:Quest} (hk:q.kind=8) (hp:q.place.length≤9223372036854775807):CQ P (G K) 7 [.agg (eQ q)] (·= .bool (validB q)):=by
 have f1:(q.kind=1)=False:=eq_false (by omega)
 have f2:(q.kind=2)=False:=eq_false (by omega)
 have f3:(q.kind=3)=False:=eq_false (by omega)
 have f4:(q.kind=4)=False:=eq_false (by omega)
 have f5:(q.kind=5)=False:=eq_false (by omega)
 have f6:(q.kind=6)=False:=eq_false (by omega)
 have f7:(q.kind=7)=False:=eq_false (by omega)
 have f8:(q.kind=8)=True:=eq_true hk
 have hX:bareQ q={q0 q with off:=q.off,no:=q.no}:=by simp [bareQ,hk]
 have hY:okB q=(inB q.off 1 8&&inB q.no 1 60):=by simp only [okB,hk,inB];rw [Bool.eq_iff_iff];simp;omega
 have hE:∀k:AV→Bool,binK P .eql 27 false (.agg [.int .i64 q.kind, .int .i64 q.known, .int .i64 q.dial, .str q.place, .int .i64 q.lo, .int .i64 q.hi, .int .i64 q.acc, .int .i64 q.bef, .int .i64 q.off, .int .i64 q.no]) (.agg [.int .i64 q.kind, .int .i64 q.known, .int .i64 (0), .str [], .int .i64 (0), .int .i64 (0), .int .i64 (0), .int .i64 (0), .int .i64 q.off, .int .i64 q.no]) k=k (.bool (sameQ q (bareQ q))):=fun k=>by
  have:=eql27 q (bareQ q) (k:=k)
  rw [hX] at this⊢
  exact this
 refine CQ.enter (hG K) ?_
 cases c0:timeB q.known with
 | false=>
  have hv:=okk hY _ rfl
  simp only [c0,Bool.true_and,Bool.and_true,Bool.false_and,Bool.and_false] at hv
  rw [hv]
  (try simp (maxSteps:=10000000) (disch:=first|exact bk rfl|omega|(simp only [ln];omega)|(simp only [go_sem];done)|decide) only [go_sem,h7,r7,h7_0,h7_1,h7_2,h7_3,h7_4,eQ,inB_d,hE,f1,f2,f3,f4,f5,f6,f7,f8,c0]);repeat' first|((with_reducible first|apply gJoin_split|apply cond_split|apply gJoinD_split)<;>intro h<;>(try simp only [spl] at h)<;>try simp (maxSteps:=10000000) (disch:=first|exact bk rfl|omega|(simp only [ln];omega)|(simp only [go_sem];done)|decide) only [go_sem,h7,r7,h7_0,h7_1,h7_2,h7_3,h7_4,eQ,inB_d,hE,f1,f2,f3,f4,f5,f6,f7,f8,c0,h])|((with_reducible refine cl_guard ?_;first|refine cl_eq (hG K) _ (time21_c _) rfl ?_|refine cl_eq (hG K) _ (in22_c _ _ _) rfl ?_|refine cl_eq (hG K) _ (named23_c _ hp) rfl ?_|refine cl_eq (hG K) _ (nights25_c _ _) rfl ?_|refine cl_eq (hG K) _ (account24_c _) rfl ?_)<;>try simp (maxSteps:=10000000) (disch:=first|exact bk rfl|omega|(simp only [ln];omega)|(simp only [go_sem];done)|decide) only [go_sem,h7,r7,h7_0,h7_1,h7_2,h7_3,h7_4,eQ,inB_d,hE,f1,f2,f3,f4,f5,f6,f7,f8,c0])
  exact endQ_fro (.bool false) rfl
 | true=>
  cases c1:inB q.off 1 8 with
  | false=>
   have hv:=okk hY _ rfl
   simp only [c0,c1,Bool.true_and,Bool.and_true,Bool.false_and,Bool.and_false] at hv
   rw [hv]
   (try simp (maxSteps:=10000000) (disch:=first|exact bk rfl|omega|(simp only [ln];omega)|(simp only [go_sem];done)|decide) only [go_sem,h7,r7,h7_0,h7_1,h7_2,h7_3,h7_4,eQ,inB_d,hE,f1,f2,f3,f4,f5,f6,f7,f8,c0,c1]);repeat' first|((with_reducible first|apply gJoin_split|apply cond_split|apply gJoinD_split)<;>intro h<;>(try simp only [spl] at h)<;>try simp (maxSteps:=10000000) (disch:=first|exact bk rfl|omega|(simp only [ln];omega)|(simp only [go_sem];done)|decide) only [go_sem,h7,r7,h7_0,h7_1,h7_2,h7_3,h7_4,eQ,inB_d,hE,f1,f2,f3,f4,f5,f6,f7,f8,c0,c1,h])|((with_reducible refine cl_guard ?_;first|refine cl_eq (hG K) _ (time21_c _) rfl ?_|refine cl_eq (hG K) _ (in22_c _ _ _) rfl ?_|refine cl_eq (hG K) _ (named23_c _ hp) rfl ?_|refine cl_eq (hG K) _ (nights25_c _ _) rfl ?_|refine cl_eq (hG K) _ (account24_c _) rfl ?_)<;>try simp (maxSteps:=10000000) (disch:=first|exact bk rfl|omega|(simp only [ln];omega)|(simp only [go_sem];done)|decide) only [go_sem,h7,r7,h7_0,h7_1,h7_2,h7_3,h7_4,eQ,inB_d,hE,f1,f2,f3,f4,f5,f6,f7,f8,c0,c1])
   exact endQ_fro (.bool false) rfl
  | true=>
   cases c2:inB q.no 1 60 with
   | false=>
    have hv:=okk hY _ rfl
    simp only [c0,c1,c2,Bool.true_and,Bool.and_true,Bool.false_and,Bool.and_false] at hv
    rw [hv]
    (try simp (maxSteps:=10000000) (disch:=first|exact bk rfl|omega|(simp only [ln];omega)|(simp only [go_sem];done)|decide) only [go_sem,h7,r7,h7_0,h7_1,h7_2,h7_3,h7_4,eQ,inB_d,hE,f1,f2,f3,f4,f5,f6,f7,f8,c0,c1,c2]);repeat' first|((with_reducible first|apply gJoin_split|apply cond_split|apply gJoinD_split)<;>intro h<;>(try simp only [spl] at h)<;>try simp (maxSteps:=10000000) (disch:=first|exact bk rfl|omega|(simp only [ln];omega)|(simp only [go_sem];done)|decide) only [go_sem,h7,r7,h7_0,h7_1,h7_2,h7_3,h7_4,eQ,inB_d,hE,f1,f2,f3,f4,f5,f6,f7,f8,c0,c1,c2,h])|((with_reducible refine cl_guard ?_;first|refine cl_eq (hG K) _ (time21_c _) rfl ?_|refine cl_eq (hG K) _ (in22_c _ _ _) rfl ?_|refine cl_eq (hG K) _ (named23_c _ hp) rfl ?_|refine cl_eq (hG K) _ (nights25_c _ _) rfl ?_|refine cl_eq (hG K) _ (account24_c _) rfl ?_)<;>try simp (maxSteps:=10000000) (disch:=first|exact bk rfl|omega|(simp only [ln];omega)|(simp only [go_sem];done)|decide) only [go_sem,h7,r7,h7_0,h7_1,h7_2,h7_3,h7_4,eQ,inB_d,hE,f1,f2,f3,f4,f5,f6,f7,f8,c0,c1,c2])
    exact endQ_fro (.bool false) rfl
   | true=>
    cases c3:sameQ q (bareQ q) with
    | false=>
     have hv:=okk hY _ rfl
     simp only [c0,c1,c2,c3,Bool.true_and,Bool.and_true,Bool.false_and,Bool.and_false] at hv
     rw [hv]
     (try simp (maxSteps:=10000000) (disch:=first|exact bk rfl|omega|(simp only [ln];omega)|(simp only [go_sem];done)|decide) only [go_sem,h7,r7,h7_0,h7_1,h7_2,h7_3,h7_4,eQ,inB_d,hE,f1,f2,f3,f4,f5,f6,f7,f8,c0,c1,c2,c3]);repeat' first|((with_reducible first|apply gJoin_split|apply cond_split|apply gJoinD_split)<;>intro h<;>(try simp only [spl] at h)<;>try simp (maxSteps:=10000000) (disch:=first|exact bk rfl|omega|(simp only [ln];omega)|(simp only [go_sem];done)|decide) only [go_sem,h7,r7,h7_0,h7_1,h7_2,h7_3,h7_4,eQ,inB_d,hE,f1,f2,f3,f4,f5,f6,f7,f8,c0,c1,c2,c3,h])|((with_reducible refine cl_guard ?_;first|refine cl_eq (hG K) _ (time21_c _) rfl ?_|refine cl_eq (hG K) _ (in22_c _ _ _) rfl ?_|refine cl_eq (hG K) _ (named23_c _ hp) rfl ?_|refine cl_eq (hG K) _ (nights25_c _ _) rfl ?_|refine cl_eq (hG K) _ (account24_c _) rfl ?_)<;>try simp (maxSteps:=10000000) (disch:=first|exact bk rfl|omega|(simp only [ln];omega)|(simp only [go_sem];done)|decide) only [go_sem,h7,r7,h7_0,h7_1,h7_2,h7_3,h7_4,eQ,inB_d,hE,f1,f2,f3,f4,f5,f6,f7,f8,c0,c1,c2,c3])
     exact endQ_fro (.bool false) rfl
    | true=>
     have hv:=okk hY _ rfl
     simp only [c0,c1,c2,c3,Bool.true_and,Bool.and_true,Bool.false_and,Bool.and_false] at hv
     rw [hv]
     (try simp (maxSteps:=10000000) (disch:=first|exact bk rfl|omega|(simp only [ln];omega)|(simp only [go_sem];done)|decide) only [go_sem,h7,r7,h7_0,h7_1,h7_2,h7_3,h7_4,eQ,inB_d,hE,f1,f2,f3,f4,f5,f6,f7,f8,c0,c1,c2,c3]);repeat' first|((with_reducible first|apply gJoin_split|apply cond_split|apply gJoinD_split)<;>intro h<;>(try simp only [spl] at h)<;>try simp (maxSteps:=10000000) (disch:=first|exact bk rfl|omega|(simp only [ln];omega)|(simp only [go_sem];done)|decide) only [go_sem,h7,r7,h7_0,h7_1,h7_2,h7_3,h7_4,eQ,inB_d,hE,f1,f2,f3,f4,f5,f6,f7,f8,c0,c1,c2,c3,h])|((with_reducible refine cl_guard ?_;first|refine cl_eq (hG K) _ (time21_c _) rfl ?_|refine cl_eq (hG K) _ (in22_c _ _ _) rfl ?_|refine cl_eq (hG K) _ (named23_c _ hp) rfl ?_|refine cl_eq (hG K) _ (nights25_c _ _) rfl ?_|refine cl_eq (hG K) _ (account24_c _) rfl ?_)<;>try simp (maxSteps:=10000000) (disch:=first|exact bk rfl|omega|(simp only [ln];omega)|(simp only [go_sem];done)|decide) only [go_sem,h7,r7,h7_0,h7_1,h7_2,h7_3,h7_4,eQ,inB_d,hE,f1,f2,f3,f4,f5,f6,f7,f8,c0,c1,c2,c3])
     exact endQ_fro (.bool true) rfl
set_option maxHeartbeats 8000000 in
theorem question7_0 {q:Quest} (hk:¬(1≤q.kind∧q.kind≤8)) (hp:q.place.length≤9223372036854775807):CQ P (G K) 7 [.agg (eQ q)] (·= .bool (validB q)):=by
 have f1:(q.kind=1)=False:=eq_false (by omega)
 have f2:(q.kind=2)=False:=eq_false (by omega)
 have f3:(q.kind=3)=False:=eq_false (by omega)
 have f4:(q.kind=4)=False:=eq_false (by omega)
 have f5:(q.kind=5)=False:=eq_false (by omega)
 have f6:(q.kind=6)=False:=eq_false (by omega)
 have f7:(q.kind=7)=False:=eq_false (by omega)
 have f8:(q.kind=8)=False:=eq_false (by omega)
 have hv:validB q=false:=by
  cases h:okB q with
  | true=>exact absurd (kind_ok h) hk
  | false=>simp [validB,h]
 rw [hv]
 refine CQ.enter (hG K) ?_
 (try simp (maxSteps:=10000000) (disch:=first|exact bk rfl|omega|(simp only [ln];omega)|(simp only [go_sem];done)|decide) only [go_sem,h7,r7,h7_0,h7_1,h7_2,h7_3,h7_4,eQ,inB_d,f1,f2,f3,f4,f5,f6,f7,f8]);repeat' first|((with_reducible first|apply gJoin_split|apply cond_split|apply gJoinD_split)<;>intro h<;>(try simp only [spl] at h)<;>try simp (maxSteps:=10000000) (disch:=first|exact bk rfl|omega|(simp only [ln];omega)|(simp only [go_sem];done)|decide) only [go_sem,h7,r7,h7_0,h7_1,h7_2,h7_3,h7_4,eQ,inB_d,f1,f2,f3,f4,f5,f6,f7,f8,h])|((with_reducible refine cl_guard ?_;first|refine cl_eq (hG K) _ (time21_c _) rfl ?_|refine cl_eq (hG K) _ (in22_c _ _ _) rfl ?_|refine cl_eq (hG K) _ (named23_c _ hp) rfl ?_)<;>try simp (maxSteps:=10000000) (disch:=first|exact bk rfl|omega|(simp only [ln];omega)|(simp only [go_sem];done)|decide) only [go_sem,h7,r7,h7_0,h7_1,h7_2,h7_3,h7_4,eQ,inB_d,f1,f2,f3,f4,f5,f6,f7,f8])
 all_goals exact endQ_fro (.bool false) rfl
theorem question7_c {q:Quest} (hp:q.place.length≤9223372036854775807):CQ P (G K) 7 [.agg (eQ q)] (·= .bool (validB q)):=by
 by_cases h:1≤q.kind∧q.kind≤8
 ·have:q.kind=1∨q.kind=2∨q.kind=3∨q.kind=4∨q.kind=5∨q.kind=6∨q.kind=7∨q.kind=8:=by omega
  rcases this with h | h | h | h | h | h | h | h
  ·exact question7_1 h hp
  ·exact question7_2 h hp
  ·exact question7_3 h hp
  ·exact question7_4 h hp
  ·exact question7_5 h hp
  ·exact question7_6 h hp
  ·exact question7_7 h hp
  ·exact question7_8 h hp
 ·exact question7_0 h hp
end Go.S9
