/- A part of the proof of TribunalQuestions. -/
import Derived.Test.YtmmghibnfjfnbaaGreatDoorBAk
set_option linter.unusedVariables false
set_option linter.unusedSimpArgs false
namespace Go.S9
open Go.Ev Go.Proofs
set_option maxRecDepth 100000
set_option linter.unusedVariables false
set_option linter.unusedSimpArgs false
variable {K : GP} {H : Hp} {k : AV → Bool}
set_option maxHeartbeats 8000000 in
theorem bare38_6 {q:Quest} (hk:q.kind=6) (hp:q.place.length≤9223372036854775807):CQ P (G K) 38 [.agg (eQ q)] (·= .tup [.agg (eQ (bareQ q)), .bool (okB q)]):=by
 refine CQ.enter (hG K) ?_
 have f1:(q.kind=1)=False:=by simp [hk]
 have f2:(q.kind=2)=False:=by simp [hk]
 have f3:(q.kind=3)=False:=by simp [hk]
 have f4:(q.kind=4)=False:=by simp [hk]
 have f5:(q.kind=5)=False:=by simp [hk]
 have f6:(q.kind=6)=True:=by simp [hk]
 have hX:bareQ q={q0 q with acc:=q.acc,lo:=q.lo,hi:=q.hi}:=by simp [bareQ,hk]
 rw [hX]
 cases ha:accB q.acc with
 | false=>
  (try simp (maxSteps:=10000000) (disch:=first|exact bk rfl|omega|(simp only [ln];omega)|(simp only [go_sem];done)|decide) only [go_sem,h38,r38,h38_0,h38_1,h38_2,h38_3,h38_4,h38_5,h38_6,h38_7,h38_8,h38_9,h38_10,h38_11,h38_12,h38_13,h38_14,eQ,f1,f2,f3,f4,f5,f6,ha]);repeat' first|((with_reducible first|apply gJoin_split|apply cond_split|apply gJoinD_split)<;>intro h<;>(try simp only [spl] at h)<;>try simp (maxSteps:=10000000) (disch:=first|exact bk rfl|omega|(simp only [ln];omega)|(simp only [go_sem];done)|decide) only [go_sem,h38,r38,h38_0,h38_1,h38_2,h38_3,h38_4,h38_5,h38_6,h38_7,h38_8,h38_9,h38_10,h38_11,h38_12,h38_13,h38_14,eQ,f1,f2,f3,f4,f5,f6,ha,h])|((with_reducible refine cl_guard ?_;first|refine cl_eq (hG K) _ (account75_c _) rfl ?_|refine cl_eq (hG K) _ (nights76_c _ _) rfl ?_)<;>try simp (maxSteps:=10000000) (disch:=first|exact bk rfl|omega|(simp only [ln];omega)|(simp only [go_sem];done)|decide) only [go_sem,h38,r38,h38_0,h38_1,h38_2,h38_3,h38_4,h38_5,h38_6,h38_7,h38_8,h38_9,h38_10,h38_11,h38_12,h38_13,h38_14,eQ,f1,f2,f3,f4,f5,f6,ha])
  all_goals exact endQ_fro (.tup [.agg (eQ {q0 q with acc:=q.acc,lo:=q.lo,hi:=q.hi}), .bool false]) (tupb (by simp [okB,hk,ha]))
 | true=>
  (try simp (maxSteps:=10000000) (disch:=first|exact bk rfl|omega|(simp only [ln];omega)|(simp only [go_sem];done)|decide) only [go_sem,h38,r38,h38_0,h38_1,h38_2,h38_3,h38_4,h38_5,h38_6,h38_7,h38_8,h38_9,h38_10,h38_11,h38_12,h38_13,h38_14,eQ,f1,f2,f3,f4,f5,f6,ha]);repeat' first|((with_reducible first|apply gJoin_split|apply cond_split|apply gJoinD_split)<;>intro h<;>(try simp only [spl] at h)<;>try simp (maxSteps:=10000000) (disch:=first|exact bk rfl|omega|(simp only [ln];omega)|(simp only [go_sem];done)|decide) only [go_sem,h38,r38,h38_0,h38_1,h38_2,h38_3,h38_4,h38_5,h38_6,h38_7,h38_8,h38_9,h38_10,h38_11,h38_12,h38_13,h38_14,eQ,f1,f2,f3,f4,f5,f6,ha,h])|((with_reducible refine cl_guard ?_;first|refine cl_eq (hG K) _ (account75_c _) rfl ?_|refine cl_eq (hG K) _ (nights76_c _ _) rfl ?_)<;>try simp (maxSteps:=10000000) (disch:=first|exact bk rfl|omega|(simp only [ln];omega)|(simp only [go_sem];done)|decide) only [go_sem,h38,r38,h38_0,h38_1,h38_2,h38_3,h38_4,h38_5,h38_6,h38_7,h38_8,h38_9,h38_10,h38_11,h38_12,h38_13,h38_14,eQ,f1,f2,f3,f4,f5,f6,ha])
  all_goals exact endQ_fro (.tup [.agg (eQ {q0 q with acc:=q.acc,lo:=q.lo,hi:=q.hi}), .bool (nightsB q.lo q.hi)]) (tupb (by simp [okB,hk,ha]))
end Go.S9
namespace Go.S9
open Go.Ev Go.Proofs
set_option maxRecDepth 100000
set_option linter.unusedVariables false
set_option linter.unusedSimpArgs false
variable {K : GP} {H : Hp} {k : AV → Bool}
set_option maxHeartbeats 8000000 in
theorem bare38_7 {q:Quest} (hk:q.kind=7) (hp:q.place.length≤9223372036854775807):CQ P (G K) 38 [.agg (eQ q)] (·= .tup [.agg (eQ (bareQ q)), .bool (okB q)]):=by
 refine CQ.enter (hG K) ?_
 have f1:(q.kind=1)=False:=by simp [hk]
 have f2:(q.kind=2)=False:=by simp [hk]
 have f3:(q.kind=3)=False:=by simp [hk]
 have f4:(q.kind=4)=False:=by simp [hk]
 have f5:(q.kind=5)=False:=by simp [hk]
 have f6:(q.kind=6)=False:=by simp [hk]
 have f7:(q.kind=7)=True:=by simp [hk]
 have hX:bareQ q={q0 q with bef:=q.bef,lo:=q.lo,hi:=q.hi}:=by simp [bareQ,hk]
 rw [hX]
 cases ha:timeB q.bef with
 | false=>
  (try simp (maxSteps:=10000000) (disch:=first|exact bk rfl|omega|(simp only [ln];omega)|(simp only [go_sem];done)|decide) only [go_sem,h38,r38,h38_0,h38_1,h38_2,h38_3,h38_4,h38_5,h38_6,h38_7,h38_8,h38_9,h38_10,h38_11,h38_12,h38_13,h38_14,eQ,f1,f2,f3,f4,f5,f6,f7,ha]);repeat' first|((with_reducible first|apply gJoin_split|apply cond_split|apply gJoinD_split)<;>intro h<;>(try simp only [spl] at h)<;>try simp (maxSteps:=10000000) (disch:=first|exact bk rfl|omega|(simp only [ln];omega)|(simp only [go_sem];done)|decide) only [go_sem,h38,r38,h38_0,h38_1,h38_2,h38_3,h38_4,h38_5,h38_6,h38_7,h38_8,h38_9,h38_10,h38_11,h38_12,h38_13,h38_14,eQ,f1,f2,f3,f4,f5,f6,f7,ha,h])|((with_reducible refine cl_guard ?_;first|refine cl_eq (hG K) _ (time39_c _) rfl ?_|refine cl_eq (hG K) _ (nights76_c _ _) rfl ?_)<;>try simp (maxSteps:=10000000) (disch:=first|exact bk rfl|omega|(simp only [ln];omega)|(simp only [go_sem];done)|decide) only [go_sem,h38,r38,h38_0,h38_1,h38_2,h38_3,h38_4,h38_5,h38_6,h38_7,h38_8,h38_9,h38_10,h38_11,h38_12,h38_13,h38_14,eQ,f1,f2,f3,f4,f5,f6,f7,ha])
  all_goals exact endQ_fro (.tup [.agg (eQ {q0 q with bef:=q.bef,lo:=q.lo,hi:=q.hi}), .bool false]) (tupb (by simp [okB,hk,ha]))
 | true=>
  (try simp (maxSteps:=10000000) (disch:=first|exact bk rfl|omega|(simp only [ln];omega)|(simp only [go_sem];done)|decide) only [go_sem,h38,r38,h38_0,h38_1,h38_2,h38_3,h38_4,h38_5,h38_6,h38_7,h38_8,h38_9,h38_10,h38_11,h38_12,h38_13,h38_14,eQ,f1,f2,f3,f4,f5,f6,f7,ha]);repeat' first|((with_reducible first|apply gJoin_split|apply cond_split|apply gJoinD_split)<;>intro h<;>(try simp only [spl] at h)<;>try simp (maxSteps:=10000000) (disch:=first|exact bk rfl|omega|(simp only [ln];omega)|(simp only [go_sem];done)|decide) only [go_sem,h38,r38,h38_0,h38_1,h38_2,h38_3,h38_4,h38_5,h38_6,h38_7,h38_8,h38_9,h38_10,h38_11,h38_12,h38_13,h38_14,eQ,f1,f2,f3,f4,f5,f6,f7,ha,h])|((with_reducible refine cl_guard ?_;first|refine cl_eq (hG K) _ (time39_c _) rfl ?_|refine cl_eq (hG K) _ (nights76_c _ _) rfl ?_)<;>try simp (maxSteps:=10000000) (disch:=first|exact bk rfl|omega|(simp only [ln];omega)|(simp only [go_sem];done)|decide) only [go_sem,h38,r38,h38_0,h38_1,h38_2,h38_3,h38_4,h38_5,h38_6,h38_7,h38_8,h38_9,h38_10,h38_11,h38_12,h38_13,h38_14,eQ,f1,f2,f3,f4,f5,f6,f7,ha])
  all_goals exact endQ_fro (.tup [.agg (eQ {q0 q with bef:=q.bef,lo:=q.lo,hi:=q.hi}), .bool (nightsB q.lo q.hi)]) (tupb (by simp [okB,hk,ha]))
end Go.S9
