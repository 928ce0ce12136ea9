/- A part of the proof of TribunalReplies. -/
import Derived.Test.YtmmghibnfjfnbaaGreatDoorRAd
set_option linter.unusedVariables false
set_option linter.unusedSimpArgs false
namespace Go.S9
open Go.Ev Go.Proofs
set_option maxRecDepth 1000000
set_option linter.unusedVariables false
noncomputable section
variable {K : Int}
theorem h5 (a0 a1:AV) (H:Hp) (k:AEnd→Hp→Bool):callBody P (G K) ⟨cd P (G K) 200,callS P (G K)⟩ 5 [a0,a1] H k=
 (let n0:AEx→En→Hp→Bool:=fun x e H=>bodyEnd P (G K) Tryz.f5 ⟨cd P (G K) 200,callS P (G K)⟩ k x e H;
 Hp.new H (.cells (some 47) false (AV.cells a0)) fun b1 H1=>
 Hp.new H1 (.cells (some 47) false (AV.cells a1)) fun b2 H2=>
 cd P (G K) 198 53 (subC 5 [1,0]) none ⟨(es E2.empty [(0,a0),(1,a1),(2,(.ptr b1 0)),(3,(.ptr b2 0)),(4,(.bool false))]),[]⟩ H2 fun x e H=>isNormal x (fun _=>cd P (G K) 198 53 (subC 5 [1,1]) none e H fun x e H=>n0 x e H) (fun x=>n0 x e H)):=by kernel_rfl
theorem r5 (t:E2) (H:Hp) (k:AEnd→Hp→Bool) (i:Evs):bodyEnd P (G K) Tryz.f5 i k .ret ⟨t,[]⟩ H=k (.ret (E2.get t 4)) H:=by kernel_rfl
theorem h5_0 (dm:List Dm) (ro:Option Nat) (H:Hp) (k:AEx→En→Hp→Bool):∀(t:E2),cd P (G K) 198 53 (subC 5 [1,0]) ro ⟨t,dm⟩ H k=
 (cd P (G K) 197 53 (subC 5 [1,0,0]) ro ⟨t,dm⟩ H fun x e H=>isNormal x (fun _=>cd P (G K) 197 53 (subC 5 [1,0,1]) ro e H fun x e H=>k x e H) (fun x=>k x e H)):=of_fun fun f=>by kernel_rfl
theorem h5_1 (dm:List Dm) (ro:Option Nat) (H:Hp) (k:AEx→En→Hp→Bool):∀(t:E2),cd P (G K) 198 53 (subC 5 [1,1]) ro ⟨t,dm⟩ H k=
 (loadK P (G K) H 47 (E2.get t 2) fun v1=>
 cl P (G K) 14 [v1] H fun v2 H2=>
 extractV v2 0 fun v4=>
 extractV v2 1 fun v5=>
 loadK P (G K) H2 47 (E2.get t 2) fun v8=>
 cl P (G K) 15 [v8] H2 fun v9 H9=>
 extractV v9 0 fun v11=>
 extractV v9 1 fun v12=>
 cd P (G K) 195 53 (subC 5 [1,1,1,1,0]) ro ⟨(es t [(19,v1),(20,v2),(18,v2),(21,v4),(22,v5),(5,v4),(6,v5),(24,v8),(25,v9),(23,v9),(26,v11),(27,v12),(7,v11),(8,v12)]),dm⟩ H9 fun x e H=>isNormal x (fun _=>cd P (G K) 195 53 (subC 5 [1,1,1,1,1]) ro e H fun x e H=>k x e H) (fun x=>k x e H)):=of_fun fun f=>by kernel_rfl
theorem h5_2 (dm:List Dm) (ro:Option Nat) (H:Hp) (k:AEx→En→Hp→Bool):∀(t:E2),cd P (G K) 197 53 (subC 5 [1,0,0]) ro ⟨t,dm⟩ H k=
 (loadK P (G K) H 47 (E2.get t 2) fun v1=>
 cl P (G K) 13 [v1] H fun v2 H2=>
 unK .not v2 fun v3=>
 gJoin (boolIs false v3) (fun v5 H5=>
 gJoin (boolIs false v3) (fun v6 H6=>
 gJoin (boolIs false v3) (fun v7 H7=>
 pickV v3 (.bool true) v7 fun v8=>
 k .normal ⟨(es t [(9,v1),(10,v2),(11,v3),(12,v3),(13,v5),(14,v6),(15,v7),(16,v8)]),dm⟩ H7) (fun r7=>unK .not v6 fun v9=>
 r7 v9 H6) H6) (fun r6=>cl P (G K) 13 [v5] H5 fun v10 H10=>
 r6 v10 H10) H5) (fun r5=>loadK P (G K) H2 47 (E2.get t 3) fun v11=>
 r5 v11 H2) H2):=of_fun fun f=>by kernel_rfl
theorem h5_3 (dm:List Dm) (ro:Option Nat) (H:Hp) (k:AEx→En→Hp→Bool):∀(t:E2),cd P (G K) 197 53 (subC 5 [1,0,1]) ro ⟨t,dm⟩ H k=
 (condV (E2.get t 16) (fun _=>
 cl P (G K) 6 [] H fun v1 H1=>
 k .ret ⟨(es t [(17,v1),(4,v1)]),dm⟩ H1) (fun _=>
 k .normal ⟨t,dm⟩ H)):=of_fun fun f=>by kernel_rfl
theorem h5_4 (dm:List Dm) (ro:Option Nat) (H:Hp) (k:AEx→En→Hp→Bool):∀(t:E2),cd P (G K) 195 53 (subC 5 [1,1,1,1,0]) ro ⟨t,dm⟩ H k=
 (layAnc 0 [] H fun Q2 H2=>cl P (G K) 6 [] H2 fun v1 H1=>
 Bool.casesOn (recheck 0 [] H1) false (gJoinD (boolIs true v1) (fun v4 H4 L4 Q4=>
 gJoinD (boolIs true v1) (fun v5 H5 L5 Q5=>
 gJoinD (boolIs true v1) (fun v6 H6 L6 Q6=>
 gJoinD (boolIs true v1) (fun v7 H7 L7 Q7=>
 gJoinD (boolIs true v1) (fun v8 H8 L8 Q8=>
 gJoinD (boolIs true v1) (fun v9 H9 L9 Q9=>
 gJoinD (boolIs true v1) (fun v10 H10 L10 Q10=>
 pickV v1 v10 (.bool false) fun v11=>
 gJoinD (boolIs true v11) (fun v13 H13 L13 Q13=>
 gJoinD (boolIs true v11) (fun v14 H14 L14 Q14=>
 gJoinD (boolIs true v11) (fun v15 H15 L15 Q15=>
 pickV v11 v15 (.bool false) fun v16=>
 gJoinD (boolIs true v16) (fun v18 H18 L18 Q18=>
 gJoinD (boolIs true v16) (fun v19 H19 L19 Q19=>
 gJoinD (boolIs true v16) (fun v20 H20 L20 Q20=>
 pickV v16 v20 (.bool false) fun v21=>
 gJoinD (boolIs true v21) (fun v23 H23 L23 Q23=>
 gJoinD (boolIs true v21) (fun v24 H24 L24 Q24=>
 gJoinD (boolIs true v21) (fun v25 H25 L25 Q25=>
 pickV v21 v25 (.bool false) fun v26=>
 layAll Q25 H25 fun H28=>
 k .normal ⟨(es t [(28,v1),(29,v1),(30,v4),(31,v5),(33,v6),(34,v7),(32,v8),(35,v9),(36,v10),(37,v11),(38,v11),(39,v13),(40,v14),(41,v15),(42,v16),(43,v16),(44,v18),(45,v19),(46,v20),(47,v21),(48,v21),(49,v23),(50,v24),(51,v25),(52,v26),(4,v26)]),dm⟩ H28) (fun r25=>binK P .eql 30 false v23 v24 fun v29=>
 r25 v29 H24 L24 Q24) H24 L24 Q24) (fun r24=>r24 (E2.get t 8) H23 L23 Q23) H23 L23 Q23) (fun r23=>r23 (E2.get t 6) H20 L20 Q20) H20 L20 Q20) (fun r20=>binK P .eql 9 false v18 v19 fun v32=>
 r20 v32 H19 L19 Q19) H19 L19 Q19) (fun r19=>r19 (E2.get t 7) H18 L18 Q18) H18 L18 Q18) (fun r18=>r18 (E2.get t 5) H15 L15 Q15) H15 L15 Q15) (fun r15=>layAnc 8191 Q14 H14 fun Q36 H36=>cl P (G K) 16 [v13,v14] H36 fun v35 H35=>
 Bool.casesOn (recheck 8191 L14 H35) false (r15 v35 H35 L14 Q36)) H14 L14 Q14) (fun r14=>loadK P (G K) H13 47 (E2.get t 2) fun v37=>
 r14 v37 H13 ((12,fun H'=>loadK P (G K) H' 47 (E2.get t 2) fun v'=>avSame 1000 v37 v')::L13) Q13) H13 L13 Q13) (fun r13=>loadK P (G K) H10 47 (E2.get t 2) fun v38=>
 r13 v38 H10 ((11,fun H'=>loadK P (G K) H' 47 (E2.get t 2) fun v'=>avSame 1000 v38 v')::L10) Q10) H10 L10 Q10) (fun r10=>binK P .eql 4 false v8 v9 fun v39=>
 r10 v39 H9 L9 Q9) H9 L9 Q9) (fun r9=>layAnc 127 Q8 H8 fun Q41 H41=>cl P (G K) 17 [v6,v7] H41 fun v40 H40=>
 Bool.casesOn (recheck 127 L8 H40) false (r9 v40 H40 L8 Q41)) H8 L8 Q8) (fun r8=>layAnc 15 Q7 H7 fun Q43 H43=>cl P (G K) 16 [v4,v5] H43 fun v42 H42=>
 Bool.casesOn (recheck 15 L7 H42) false (r8 v42 H42 L7 Q43)) H7 L7 Q7) (fun r7=>loadK P (G K) H6 47 (E2.get t 3) fun v44=>
 r7 v44 H6 ((6,fun H'=>loadK P (G K) H' 47 (E2.get t 3) fun v'=>avSame 1000 v44 v')::L6) Q6) H6 L6 Q6) (fun r6=>loadK P (G K) H5 47 (E2.get t 2) fun v45=>
 r6 v45 H5 ((5,fun H'=>loadK P (G K) H' 47 (E2.get t 2) fun v'=>avSame 1000 v45 v')::L5) Q5) H5 L5 Q5) (fun r5=>loadK P (G K) H4 47 (E2.get t 3) fun v46=>
 r5 v46 H4 ((3,fun H'=>loadK P (G K) H' 47 (E2.get t 3) fun v'=>avSame 1000 v46 v')::L4) Q4) H4 L4 Q4) (fun r4=>loadK P (G K) H1 47 (E2.get t 2) fun v47=>
 r4 v47 H1 ((2,fun H'=>loadK P (G K) H' 47 (E2.get t 2) fun v'=>avSame 1000 v47 v')::[]) Q2) H1 [] Q2)):=of_fun fun f=>by kernel_rfl
theorem h5_5 (dm:List Dm) (ro:Option Nat) (H:Hp) (k:AEx→En→Hp→Bool):∀(t:E2),cd P (G K) 195 53 (subC 5 [1,1,1,1,1]) ro ⟨t,dm⟩ H k=
 (k .ret ⟨t,dm⟩ H):=of_fun fun f=>by kernel_rfl
theorem h13 (a0:AV) (H:Hp) (k:AEnd→Hp→Bool):callBody P (G K) ⟨cd P (G K) 200,callS P (G K)⟩ 13 [a0] H k=
 (let n0:AEx→En→Hp→Bool:=fun x e H=>bodyEnd P (G K) Tryz.f13 ⟨cd P (G K) 200,callS P (G K)⟩ k x e H;
 Hp.new H (.cells (some 47) false (AV.cells a0)) fun b1 H1=>
 cd P (G K) 198 51 (subC 13 [1,0]) none ⟨(es E2.empty [(0,a0),(1,(.ptr b1 0)),(2,(.bool false))]),[]⟩ H1 fun x e H=>isNormal x (fun _=>cd P (G K) 198 51 (subC 13 [1,1]) none e H fun x e H=>n0 x e H) (fun x=>n0 x e H)):=by kernel_rfl
theorem r13 (t:E2) (H:Hp) (k:AEnd→Hp→Bool) (i:Evs):bodyEnd P (G K) Tryz.f13 i k .ret ⟨t,[]⟩ H=k (.ret (E2.get t 2)) H:=by kernel_rfl
theorem h13_0 (dm:List Dm) (ro:Option Nat) (H:Hp) (k:AEx→En→Hp→Bool):∀(t:E2),cd P (G K) 198 51 (subC 13 [1,0]) ro ⟨t,dm⟩ H k=
 (cd P (G K) 197 51 (subC 13 [1,0,0]) ro ⟨t,dm⟩ H fun x e H=>isNormal x (fun _=>cd P (G K) 197 51 (subC 13 [1,0,1]) ro e H fun x e H=>k x e H) (fun x=>k x e H)):=of_fun fun f=>by kernel_rfl
theorem h13_1 (dm:List Dm) (ro:Option Nat) (H:Hp) (k:AEx→En→Hp→Bool):∀(t:E2),cd P (G K) 198 51 (subC 13 [1,1]) ro ⟨t,dm⟩ H k=
 (let n1:AEx→En→Hp→Bool:=fun x e H=>isNormal x (fun _=>cd P (G K) 197 51 (subC 13 [1,1,1]) ro e H fun x e H=>k x e H) (fun x=>k x e H);
 semC P (G K) 51 (.loop (subC 13 [1,1,0,1,0])) ro ⟨(es t [(3,(.int .i64 0))]),dm⟩ H fun x e3 H3=>isExit 0 x (fun _=>n1 .normal e3 H3) (fun x=>n1 x e3 H3)):=of_fun fun f=>by kernel_rfl
theorem h13_2 (dm:List Dm) (ro:Option Nat) (H:Hp) (k:AEx→En→Hp→Bool):∀(t:E2),cd P (G K) 200 51 (subC 13 [1,1,0,1,0]) ro ⟨t,dm⟩ H k=
 (ptrPlus (E2.get t 1) 13 fun v2=>
 loadK P (G K) H 44 v2 fun v3=>
 lenK P 44 v3 H fun v4=>
 binK P .lss 3 false (E2.get t 3) v4 fun v5=>
 condV v5 (fun _=>
 cd P (G K) 198 51 (subC 13 [1,1,0,1,0,0,1,0]) ro ⟨(es t [(26,(E2.get t 3)),(27,v2),(28,v3),(29,v4),(30,v5)]),dm⟩ H fun x e H=>isNormal x (fun _=>cd P (G K) 198 51 (subC 13 [1,1,0,1,0,0,1,1]) ro e H fun x e H=>k x e H) (fun x=>k x e H)) (fun _=>
 k (.exit 0) ⟨(es t [(26,(E2.get t 3)),(27,v2),(28,v3),(29,v4),(30,v5)]),dm⟩ H)):=of_fun fun f=>by kernel_rfl
theorem h13_3 (dm:List Dm) (ro:Option Nat) (H:Hp) (k:AEx→En→Hp→Bool):∀(t:E2),cd P (G K) 197 51 (subC 13 [1,0,0]) ro ⟨t,dm⟩ H k=
 (ptrPlus (E2.get t 1) 11 fun v1=>
 loadK P (G K) H 42 v1 fun v2=>
 lenK P 42 v2 H fun v3=>
 binK P .gtr 3 true v3 (.int .i64 40) fun v4=>
 gJoin (boolIs false v4) (fun v6 H6=>
 gJoin (boolIs false v4) (fun v7 H7=>
 gJoin (boolIs false v4) (fun v8 H8=>
 gJoin (boolIs false v4) (fun v9 H9=>
 pickV v4 (.bool true) v9 fun v10=>
 gJoin (boolIs false v10) (fun v12 H12=>
 gJoin (boolIs false v10) (fun v13 H13=>
 gJoin (boolIs false v10) (fun v14 H14=>
 gJoin (boolIs false v10) (fun v15 H15=>
 pickV v10 (.bool true) v15 fun v16=>
 gJoin (boolIs false v16) (fun v18 H18=>
 gJoin (boolIs false v16) (fun v19 H19=>
 gJoin (boolIs false v16) (fun v20 H20=>
 gJoin (boolIs false v16) (fun v21 H21=>
 pickV v16 (.bool true) v21 fun v22=>
 k .normal ⟨(es t [(4,v1),(5,v2),(6,v3),(7,v4),(8,v4),(9,v6),(10,v7),(11,v8),(12,v9),(13,v10),(14,v10),(15,v12),(16,v13),(17,v14),(18,v15),(19,v16),(20,v16),(21,v18),(22,v19),(23,v20),(24,v21),(25,v22)]),dm⟩ H21) (fun r21=>binK P .gtr 3 true v20 (.int .i64 40) fun v23=>
 r21 v23 H20) H20) (fun r20=>lenK P 45 v19 H19 fun v24=>
 r20 v24 H19) H19) (fun r19=>loadK P (G K) H18 45 v18 fun v25=>
 r19 v25 H18) H18) (fun r18=>ptrPlus (E2.get t 1) 14 fun v26=>
 r18 v26 H15) H15) (fun r15=>binK P .gtr 3 true v14 (.int .i64 4) fun v27=>
 r15 v27 H14) H14) (fun r14=>lenK P 44 v13 H13 fun v28=>
 r14 v28 H13) H13) (fun r13=>loadK P (G K) H12 44 v12 fun v29=>
 r13 v29 H12) H12) (fun r12=>ptrPlus (E2.get t 1) 13 fun v30=>
 r12 v30 H9) H9) (fun r9=>binK P .gtr 3 true v8 (.int .i64 100) fun v31=>
 r9 v31 H8) H8) (fun r8=>lenK P 43 v7 H7 fun v32=>
 r8 v32 H7) H7) (fun r7=>loadK P (G K) H6 43 v6 fun v33=>
 r7 v33 H6) H6) (fun r6=>ptrPlus (E2.get t 1) 12 fun v34=>
 r6 v34 H) H):=of_fun fun f=>by kernel_rfl
theorem h13_4 (dm:List Dm) (ro:Option Nat) (H:Hp) (k:AEx→En→Hp→Bool):∀(t:E2),cd P (G K) 197 51 (subC 13 [1,0,1]) ro ⟨t,dm⟩ H k=
 (condV (E2.get t 25) (fun _=>
 k .ret ⟨(es t [(2,(.bool false))]),dm⟩ H) (fun _=>
 k .normal ⟨t,dm⟩ H)):=of_fun fun f=>by kernel_rfl
theorem h13_5 (dm:List Dm) (ro:Option Nat) (H:Hp) (k:AEx→En→Hp→Bool):∀(t:E2),cd P (G K) 197 51 (subC 13 [1,1,1]) ro ⟨t,dm⟩ H k=
 (k .ret ⟨(es t [(2,(.bool true))]),dm⟩ H):=of_fun fun f=>by kernel_rfl
theorem h13_6 (dm:List Dm) (ro:Option Nat) (H:Hp) (k:AEx→En→Hp→Bool):∀(t:E2),cd P (G K) 198 51 (subC 13 [1,1,0,1,0,0,1,0]) ro ⟨t,dm⟩ H k=
 (cd P (G K) 196 51 (subC 13 [1,1,0,1,0,0,1,0,0,0]) ro ⟨t,dm⟩ H fun x e H=>isNormal x (fun _=>cd P (G K) 196 51 (subC 13 [1,1,0,1,0,0,1,0,0,1]) ro e H fun x e H=>isExit 1 x (fun _=>k .normal e H) (fun x=>k x e H)) (fun x=>isExit 1 x (fun _=>k .normal e H) (fun x=>k x e H))):=of_fun fun f=>by kernel_rfl
theorem h13_7 (dm:List Dm) (ro:Option Nat) (H:Hp) (k:AEx→En→Hp→Bool):∀(t:E2),cd P (G K) 198 51 (subC 13 [1,1,0,1,0,0,1,1]) ro ⟨t,dm⟩ H k=
 (binK P .add 3 true (E2.get t 3) (.int .i64 1) fun v2=>
 k .normal ⟨(es t [(31,(E2.get t 3)),(32,v2),(3,v2)]),dm⟩ H):=of_fun fun f=>by kernel_rfl
theorem h13_8 (dm:List Dm) (ro:Option Nat) (H:Hp) (k:AEx→En→Hp→Bool):∀(t:E2),cd P (G K) 196 51 (subC 13 [1,1,0,1,0,0,1,0,0,0]) ro ⟨t,dm⟩ H k=
 (ptrPlus (E2.get t 1) 13 fun v1=>
 loadK P (G K) H 44 v1 fun v2=>
 indexAtK P 44 v2 (E2.get t 3) fun v4=>
 ptrPlus v4 0 fun v5=>
 loadK P (G K) H 70 v5 fun v6=>
 lenK P 70 v6 H fun v7=>
 binK P .gtr 3 true v7 (.int .i64 40) fun v8=>
 gJoin (boolIs false v8) (fun v10 H10=>
 gJoin (boolIs false v8) (fun v11 H11=>
 gJoin (boolIs false v8) (fun v12 H12=>
 gJoin (boolIs false v8) (fun v13 H13=>
 gJoin (boolIs false v8) (fun v14 H14=>
 gJoin (boolIs false v8) (fun v15 H15=>
 gJoin (boolIs false v8) (fun v16 H16=>
 gJoin (boolIs false v8) (fun v17 H17=>
 pickV v8 (.bool true) v17 fun v18=>
 k .normal ⟨(es t [(33,v1),(34,v2),(35,(E2.get t 3)),(36,v4),(37,v5),(38,v6),(39,v7),(40,v8),(41,v8),(42,v10),(43,v11),(44,v12),(45,v13),(46,v14),(47,v15),(48,v16),(49,v17),(50,v18)]),dm⟩ H17) (fun r17=>binK P .gtr 3 true v16 (.int .i64 40) fun v19=>
 r17 v19 H16) H16) (fun r16=>lenK P 42 v15 H15 fun v20=>
 r16 v20 H15) H15) (fun r15=>loadK P (G K) H14 42 v14 fun v21=>
 r15 v21 H14) H14) (fun r14=>ptrPlus v13 1 fun v22=>
 r14 v22 H13) H13) (fun r13=>indexAtK P 44 v11 v12 fun v23=>
 r13 v23 H12) H12) (fun r12=>r12 (E2.get t 3) H11) H11) (fun r11=>loadK P (G K) H10 44 v10 fun v25=>
 r11 v25 H10) H10) (fun r10=>ptrPlus (E2.get t 1) 13 fun v26=>
 r10 v26 H) H):=of_fun fun f=>by kernel_rfl
theorem h13_9 (dm:List Dm) (ro:Option Nat) (H:Hp) (k:AEx→En→Hp→Bool):∀(t:E2),cd P (G K) 196 51 (subC 13 [1,1,0,1,0,0,1,0,0,1]) ro ⟨t,dm⟩ H k=
 (condV (E2.get t 50) (fun _=>
 k .ret ⟨(es t [(2,(.bool false))]),dm⟩ H) (fun _=>
 k .normal ⟨t,dm⟩ H)):=of_fun fun f=>by kernel_rfl
theorem h14 (a0:AV) (H:Hp) (k:AEnd→Hp→Bool):callBody P (G K) ⟨cd P (G K) 200,callS P (G K)⟩ 14 [a0] H k=
 (let n0:AEx→En→Hp→Bool:=fun x e H=>bodyEnd P (G K) Tryz.f14 ⟨cd P (G K) 200,callS P (G K)⟩ k x e H;
 Hp.new H (.cells (some 47) false (AV.cells a0)) fun b1 H1=>
 Hp.new H1 (.cells (some 78) false [.nilp, .nils]) fun b4 H4=>
 ptrPlus (.ptr b1 0) 0 fun v5=>
 loadK P (G K) H4 30 v5 fun v6=>
 binK P .neq 30 true v6 (.int .i64 0) fun v7=>
 condV v7 (fun _=>
 ptrPlus (.ptr b1 0) 0 fun v8=>
 loadK P (G K) H4 30 v8 fun v9=>
 buildSliceK P 42 1 [(0,v9)] fun k10 r10=>Hp.new H4 k10 fun b10 H10=>
 cl P (G K) 42 [(.ptr b4 0),(.str [101,114,114,111,114]),(r10 b10)] H10 fun v11 H11=>
 ptrPlus (.ptr b4 0) 0 fun v12=>
 cl P (G K) 43 [v12] H11 fun v13 H13=>
 n0 .ret ⟨(es E2.empty [(0,a0),(1,(.ptr b1 0)),(4,(.ptr b4 0)),(18,v5),(19,v6),(20,v7),(21,v8),(22,v9),(23,(r10 b10)),(24,v11),(25,v12),(26,v13),(2,v13),(3,(.int .i64 0))]),[]⟩ H13) (fun _=>
 loadK P (G K) H4 47 (.ptr b1 0) fun v16=>
 cl P (G K) 44 [v16] H4 fun v17 H17=>
 binK P .neq 30 true v17 (.int .i64 0) fun v20=>
 condV v20 (fun _=>
 n0 .ret ⟨(es E2.empty [(0,a0),(1,(.ptr b1 0)),(4,(.ptr b4 0)),(18,v5),(19,v6),(20,v7),(27,v16),(28,v17),(5,v17),(29,v17),(30,v20),(31,v17),(2,(.str [])),(3,v17)]),[]⟩ H17) (fun _=>
 let n24:AEx→En→Hp→Bool:=fun x e H=>isNormal x (fun _=>cd P (G K) 195 147 (subC 14 [1,1,1,1,1]) none e H fun x e H=>n0 x e H) (fun x=>n0 x e H);
 ptrPlus (.ptr b1 0) 1 fun v25=>
 loadK P (G K) H17 4 v25 fun v26=>
 condV v26 (fun _=>
 cl P (G K) 42 [(.ptr b4 0),(.str [121,101,115]), .nils] H17 fun v27 H27=>
 n24 .normal ⟨(es E2.empty [(0,a0),(1,(.ptr b1 0)),(2,(.str [])),(3,(.int .i64 0)),(4,(.ptr b4 0)),(18,v5),(19,v6),(20,v7),(27,v16),(28,v17),(5,v17),(29,v17),(30,v20),(32,v25),(33,v26),(34,v27)]),[]⟩ H27) (fun _=>
 n24 .normal ⟨(es E2.empty [(0,a0),(1,(.ptr b1 0)),(2,(.str [])),(3,(.int .i64 0)),(4,(.ptr b4 0)),(18,v5),(19,v6),(20,v7),(27,v16),(28,v17),(5,v17),(29,v17),(30,v20),(32,v25),(33,v26)]),[]⟩ H17)))):=by kernel_rfl
theorem r14 (t:E2) (H:Hp) (k:AEnd→Hp→Bool) (i:Evs):bodyEnd P (G K) Tryz.f14 i k .ret ⟨t,[]⟩ H=k (.ret (.tup [(E2.get t 2),(E2.get t 3)])) H:=by kernel_rfl
theorem h14_0 (dm:List Dm) (ro:Option Nat) (H:Hp) (k:AEx→En→Hp→Bool):∀(t:E2),cd P (G K) 195 147 (subC 14 [1,1,1,1,1]) ro ⟨t,dm⟩ H k=
 (let n1:AEx→En→Hp→Bool:=fun x e H=>isNormal x (fun _=>cd P (G K) 194 147 (subC 14 [1,1,1,1,1,1]) ro e H fun x e H=>k x e H) (fun x=>k x e H);
 ptrPlus (E2.get t 1) 2 fun v2=>
 loadK P (G K) H 41 v2 fun v3=>
 Hp.new H (.cells (some 41) false [(.int .i64 0),(.int .i64 0),(.int .i64 0),(.int .i64 0),(.int .i64 0),(.int .i64 0)]) fun b4 H4=>
 storeK P H4 41 (.ptr b4 0) v3 fun H5=>
 ptrPlus (.ptr b4 0) 0 fun v6=>
 loadK P (G K) H5 3 v6 fun v7=>
 binK P .neq 3 true v7 (.int .i64 0) fun v8=>
 condV v8 (fun _=>
 ptrPlus (.ptr b4 0) 0 fun v9=>
 loadK P (G K) H5 3 v9 fun v10=>
 ptrPlus (.ptr b4 0) 1 fun v11=>
 loadK P (G K) H5 3 v11 fun v12=>
 ptrPlus (.ptr b4 0) 2 fun v13=>
 loadK P (G K) H5 3 v13 fun v14=>
 ptrPlus (.ptr b4 0) 3 fun v15=>
 loadK P (G K) H5 3 v15 fun v16=>
 ptrPlus (.ptr b4 0) 4 fun v17=>
 loadK P (G K) H5 3 v17 fun v18=>
 ptrPlus (.ptr b4 0) 5 fun v19=>
 loadK P (G K) H5 30 v19 fun v20=>
 buildSliceK P 42 6 [(0,v10),(1,v12),(2,v14),(3,v16),(4,v18),(5,v20)] fun k21 r21=>Hp.new H5 k21 fun b21 H21=>
 cl P (G K) 42 [(E2.get t 4),(.str [106,117,100,103,101,100]),(r21 b21)] H21 fun v22 H22=>
 n1 .normal ⟨(es t [(35,v2),(36,v3),(6,(.ptr b4 0)),(37,v6),(38,v7),(39,v8),(40,v9),(41,v10),(42,v11),(43,v12),(44,v13),(45,v14),(46,v15),(47,v16),(48,v17),(49,v18),(50,v19),(51,v20),(52,(r21 b21)),(53,v22)]),dm⟩ H22) (fun _=>
 n1 .normal ⟨(es t [(35,v2),(36,v3),(6,(.ptr b4 0)),(37,v6),(38,v7),(39,v8)]),dm⟩ H5)):=of_fun fun f=>by kernel_rfl
theorem h14_1 (dm:List Dm) (ro:Option Nat) (H:Hp) (k:AEx→En→Hp→Bool):∀(t:E2),cd P (G K) 200 147 (subC 14 [1,1,1,1,1,1,1,1,1,0,1,0]) ro ⟨t,dm⟩ H k=
 (binK P .lss 3 false (E2.get t 80) (E2.get t 79) fun v1=>
 condV v1 (fun _=>
 indexAtK P 43 (E2.get t 78) (E2.get t 80) fun v2=>
 loadK P (G K) H 83 v2 fun v3=>
 Hp.new H (.cells (some 83) false [(.int .i64 0),(.int .i64 0),(.int .i64 0),(.int .i64 0),(.int .i64 0)]) fun b4 H4=>
 storeK P H4 83 (.ptr b4 0) v3 fun H5=>
 loadK P (G K) H5 83 (.ptr b4 0) fun v6=>
 buildSliceK P 43 1 [(0,v6)] fun k7 r7=>Hp.new H5 k7 fun b7 H7=>
 cl P (G K) 45 [(r7 b7)] H7 fun v8 H8=>
 extractV v8 0 fun v10=>
 extractV v8 1 fun v11=>
 ptrPlus (E2.get t 4) 0 fun v14=>
 binK P .add 9 true (.str [112,111,115,116,105,110,103,32]) v10 fun v16=>
 cl P (G K) 46 [v14,v16] H8 fun v17 H17=>
 binK P .add 3 true (E2.get t 80) (.int .i64 1) fun v18=>
 k .normal ⟨(es t [(81,v1),(82,v2),(83,v3),(8,(.ptr b4 0)),(85,v6),(86,(r7 b7)),(87,v8),(84,v8),(88,v10),(89,v11),(9,v10),(10,v11),(90,v14),(91,v10),(92,v16),(93,v17),(94,v18),(80,v18)]),dm⟩ H17) (fun _=>
 k (.exit 0) ⟨(es t [(81,v1)]),dm⟩ H)):=of_fun fun f=>by kernel_rfl
theorem h14_2 (dm:List Dm) (ro:Option Nat) (H:Hp) (k:AEx→En→Hp→Bool):∀(t:E2),cd P (G K) 200 147 (subC 14 [1,1,1,1,1,1,1,1,1,1,0,1,0]) ro ⟨t,dm⟩ H k=
 (binK P .lss 3 false (E2.get t 98) (E2.get t 97) fun v1=>
 condV v1 (fun _=>
 let n2:AEx→En→Hp→Bool:=fun x e H=>isNormal x (fun _=>cd P (G K) 197 147 (subC 14 [1,1,1,1,1,1,1,1,1,1,0,1,0,0,1,1,1]) ro e H fun x e H=>k x e H) (fun x=>k x e H);
 indexAtK P 44 (E2.get t 96) (E2.get t 98) fun v3=>
 loadK P (G K) H 72 v3 fun v4=>
 Hp.new H (.cells (some 72) false [.nils, .nils]) fun b5 H5=>
 storeK P H5 72 (.ptr b5 0) v4 fun H6=>
 let n8:AEx→En→Hp→Bool:=fun x e H=>isNormal x (fun _=>cd P (G K) 193 147 (subC 14 [1,1,1,1,1,1,1,1,1,1,0,1,0,0,1,1,0,0,1,1,1]) ro e H fun x e H=>isExit 3 x (fun _=>n2 .normal e H) (fun x=>n2 x e H)) (fun x=>isExit 3 x (fun _=>n2 .normal e H) (fun x=>n2 x e H));
 ptrPlus (.ptr b5 0) 0 fun v9=>
 loadK P (G K) H6 70 v9 fun v10=>
 lenK P 70 v10 H6 fun v11=>
 semC P (G K) 147 (.loop (subC 14 [1,1,1,1,1,1,1,1,1,1,0,1,0,0,1,1,0,0,1,1,0,1,0])) ro ⟨(es t [(99,v1),(100,v3),(101,v4),(12,(.ptr b5 0)),(13,(.str [114,101,97,100,105,110,103])),(102,v9),(103,v10),(104,v11),(105,(.int .i64 0))]),dm⟩ H6 fun x e13 H13=>isExit 4 x (fun _=>n8 .normal e13 H13) (fun x=>n8 x e13 H13)) (fun _=>
 k (.exit 2) ⟨(es t [(99,v1)]),dm⟩ H)):=of_fun fun f=>by kernel_rfl
theorem h14_3 (dm:List Dm) (ro:Option Nat) (H:Hp) (k:AEx→En→Hp→Bool):∀(t:E2),cd P (G K) 200 147 (subC 14 [1,1,1,1,1,1,1,1,1,1,0,1,0,0,1,1,0,0,1,1,0,1,0]) ro ⟨t,dm⟩ H k=
 (binK P .lss 3 false (E2.get t 105) (E2.get t 104) fun v1=>
 condV v1 (fun _=>
 indexAtK P 70 (E2.get t 103) (E2.get t 105) fun v3=>
 loadK P (G K) H 90 v3 fun v4=>
 Hp.new H (.cells (some 90) false [(.int .i64 0),(.int .i64 0)]) fun b5 H5=>
 storeK P H5 90 (.ptr b5 0) v4 fun H7=>
 ptrPlus (.ptr b5 0) 0 fun v9=>
 loadK P (G K) H7 3 v9 fun v10=>
 ptrPlus (.ptr b5 0) 1 fun v11=>
 loadK P (G K) H7 3 v11 fun v12=>
 ptrPlus (E2.get t 12) 1 fun v13=>
 loadK P (G K) H7 42 v13 fun v14=>
 indexAtK P 42 v14 (E2.get t 105) fun v16=>
 loadK P (G K) H7 3 v16 fun v17=>
 layAnc 6 [] H7 fun Q19 H19=>cl P (G K) 27 [v10] H19 fun v18 H18=>
 Bool.casesOn (recheck 6 ((15,fun H'=>loadK P (G K) H' 3 v16 fun v'=>avSame 1000 v17 v')::((12,fun H'=>loadK P (G K) H' 42 v13 fun v'=>avSame 1000 v14 v')::((7,fun H'=>loadK P (G K) H' 3 v11 fun v'=>avSame 1000 v12 v')::((2,fun H'=>loadK P (G K) H' 3 v9 fun v'=>avSame 1000 v10 v')::[])))) H18) false (binK P .add 9 true (.str [32]) v18 fun v20=>
 binK P .add 9 true v20 (.str [58]) fun v21=>
 layAnc 206 Q19 H18 fun Q23 H23=>cl P (G K) 27 [v12] H23 fun v22 H22=>
 Bool.casesOn (recheck 206 ((15,fun H'=>loadK P (G K) H' 3 v16 fun v'=>avSame 1000 v17 v')::((12,fun H'=>loadK P (G K) H' 42 v13 fun v'=>avSame 1000 v14 v')::((7,fun H'=>loadK P (G K) H' 3 v11 fun v'=>avSame 1000 v12 v')::((2,fun H'=>loadK P (G K) H' 3 v9 fun v'=>avSame 1000 v10 v')::[])))) H22) false (binK P .add 9 false v21 v22 fun v24=>
 binK P .add 9 true v24 (.str [64]) fun v25=>
 layAnc 63950 Q23 H22 fun Q27 H27=>cl P (G K) 27 [v17] H27 fun v26 H26=>
 Bool.casesOn (recheck 63950 ((15,fun H'=>loadK P (G K) H' 3 v16 fun v'=>avSame 1000 v17 v')::((12,fun H'=>loadK P (G K) H' 42 v13 fun v'=>avSame 1000 v14 v')::((7,fun H'=>loadK P (G K) H' 3 v11 fun v'=>avSame 1000 v12 v')::((2,fun H'=>loadK P (G K) H' 3 v9 fun v'=>avSame 1000 v10 v')::[])))) H26) false (binK P .add 9 false v25 v26 fun v28=>
 binK P .add 9 false (E2.get t 13) v28 fun v29=>
 layAll Q27 H26 fun H31=>
 binK P .add 3 true (E2.get t 105) (.int .i64 1) fun v32=>
 k .normal ⟨(es t [(106,v1),(107,(E2.get t 105)),(108,v3),(109,v4),(15,(.ptr b5 0)),(14,(E2.get t 105)),(110,(E2.get t 13)),(111,v9),(112,v10),(116,v11),(117,v12),(121,v13),(122,v14),(123,(E2.get t 105)),(124,v16),(125,v17),(113,v18),(114,v20),(115,v21),(118,v22),(119,v24),(120,v25),(126,v26),(127,v28),(128,v29),(13,v29),(129,v32),(105,v32)]),dm⟩ H31)))) (fun _=>
 k (.exit 4) ⟨(es t [(106,v1)]),dm⟩ H)):=of_fun fun f=>by kernel_rfl
theorem h14_4 (dm:List Dm) (ro:Option Nat) (H:Hp) (k:AEx→En→Hp→Bool):∀(t:E2),cd P (G K) 200 147 (subC 14 [1,1,1,1,1,1,1,1,1,1,1,0,1,0]) ro ⟨t,dm⟩ H k=
 (binK P .lss 3 false (E2.get t 136) (E2.get t 135) fun v1=>
 condV v1 (fun _=>
 indexAtK P 45 (E2.get t 134) (E2.get t 136) fun v2=>
 loadK P (G K) H 91 v2 fun v3=>
 lenK P 91 v3 H fun v6=>
 buildSliceK P 42 1 [(0,v6)] fun k7 r7=>Hp.new H k7 fun b7 H7=>
 cl P (G K) 42 [(E2.get t 4),(.str [112,114,111,111,102]),(r7 b7)] H7 fun v8 H8=>
 binK P .add 3 true (E2.get t 136) (.int .i64 1) fun v9=>
 k .normal ⟨(es t [(137,v1),(138,v2),(139,v3),(17,v3),(140,v3),(141,v6),(142,(r7 b7)),(143,v8),(144,v9),(136,v9)]),dm⟩ H8) (fun _=>
 k (.exit 6) ⟨(es t [(137,v1)]),dm⟩ H)):=of_fun fun f=>by kernel_rfl
theorem h14_5 (dm:List Dm) (ro:Option Nat) (H:Hp) (k:AEx→En→Hp→Bool):∀(t:E2),cd P (G K) 194 147 (subC 14 [1,1,1,1,1,1]) ro ⟨t,dm⟩ H k=
 (let n1:AEx→En→Hp→Bool:=fun x e H=>isNormal x (fun _=>cd P (G K) 193 147 (subC 14 [1,1,1,1,1,1,1]) ro e H fun x e H=>k x e H) (fun x=>k x e H);
 ptrPlus (E2.get t 1) 8 fun v2=>
 loadK P (G K) H 23 v2 fun v3=>
 buildK P 23 [] fun v4=>
 binK P .neq 23 false v3 v4 fun v5=>
 condV v5 (fun _=>
 ptrPlus (E2.get t 1) 8 fun v6=>
 loadK P (G K) H 23 v6 fun v7=>
 cl P (G K) 28 [v7] H fun v8 H8=>
 binK P .add 9 true (.str [115,112,97,110,32]) v8 fun v9=>
 cl P (G K) 42 [(E2.get t 4),v9, .nils] H8 fun v10 H10=>
 n1 .normal ⟨(es t [(54,v2),(55,v3),(56,v4),(57,v5),(58,v6),(59,v7),(60,v8),(61,v9),(62,v10)]),dm⟩ H10) (fun _=>
 n1 .normal ⟨(es t [(54,v2),(55,v3),(56,v4),(57,v5)]),dm⟩ H)):=of_fun fun f=>by kernel_rfl
theorem h14_6 (dm:List Dm) (ro:Option Nat) (H:Hp) (k:AEx→En→Hp→Bool):∀(t:E2),cd P (G K) 197 147 (subC 14 [1,1,1,1,1,1,1,1,1,1,0,1,0,0,1,1,1]) ro ⟨t,dm⟩ H k=
 (binK P .add 3 true (E2.get t 98) (.int .i64 1) fun v1=>
 k .normal ⟨(es t [(132,v1),(98,v1)]),dm⟩ H):=of_fun fun f=>by kernel_rfl
theorem h14_7 (dm:List Dm) (ro:Option Nat) (H:Hp) (k:AEx→En→Hp→Bool):∀(t:E2),cd P (G K) 193 147 (subC 14 [1,1,1,1,1,1,1,1,1,1,0,1,0,0,1,1,0,0,1,1,1]) ro ⟨t,dm⟩ H k=
 (cl P (G K) 42 [(E2.get t 4),(E2.get t 13), .nils] H fun v2 H2=>
 k .normal ⟨(es t [(130,(E2.get t 13)),(131,v2)]),dm⟩ H2):=of_fun fun f=>by kernel_rfl
theorem h14_8 (dm:List Dm) (ro:Option Nat) (H:Hp) (k:AEx→En→Hp→Bool):∀(t:E2),cd P (G K) 193 147 (subC 14 [1,1,1,1,1,1,1]) ro ⟨t,dm⟩ H k=
 (let n1:AEx→En→Hp→Bool:=fun x e H=>isNormal x (fun _=>cd P (G K) 192 147 (subC 14 [1,1,1,1,1,1,1,1]) ro e H fun x e H=>k x e H) (fun x=>k x e H);
 ptrPlus (E2.get t 1) 10 fun v2=>
 loadK P (G K) H 3 v2 fun v3=>
 binK P .neq 3 true v3 (.int .i64 0) fun v4=>
 condV v4 (fun _=>
 ptrPlus (E2.get t 1) 10 fun v5=>
 loadK P (G K) H 3 v5 fun v6=>
 buildSliceK P 42 1 [(0,v6)] fun k7 r7=>Hp.new H k7 fun b7 H7=>
 cl P (G K) 42 [(E2.get t 4),(.str [112,101,110,99,101]),(r7 b7)] H7 fun v8 H8=>
 n1 .normal ⟨(es t [(63,v2),(64,v3),(65,v4),(66,v5),(67,v6),(68,(r7 b7)),(69,v8)]),dm⟩ H8) (fun _=>
 n1 .normal ⟨(es t [(63,v2),(64,v3),(65,v4)]),dm⟩ H)):=of_fun fun f=>by kernel_rfl
theorem h14_9 (dm:List Dm) (ro:Option Nat) (H:Hp) (k:AEx→En→Hp→Bool):∀(t:E2),cd P (G K) 192 147 (subC 14 [1,1,1,1,1,1,1,1]) ro ⟨t,dm⟩ H k=
 (let n1:AEx→En→Hp→Bool:=fun x e H=>isNormal x (fun _=>cd P (G K) 191 147 (subC 14 [1,1,1,1,1,1,1,1,1]) ro e H fun x e H=>k x e H) (fun x=>k x e H);
 ptrPlus (E2.get t 1) 11 fun v2=>
 loadK P (G K) H 42 v2 fun v3=>
 lenK P 42 v3 H fun v4=>
 binK P .gtr 3 true v4 (.int .i64 0) fun v5=>
 condV v5 (fun _=>
 ptrPlus (E2.get t 1) 11 fun v6=>
 loadK P (G K) H 42 v6 fun v7=>
 cl P (G K) 42 [(E2.get t 4),(.str [108,105,115,116]),v7] H fun v8 H8=>
 n1 .normal ⟨(es t [(70,v2),(71,v3),(72,v4),(73,v5),(74,v6),(75,v7),(76,v8)]),dm⟩ H8) (fun _=>
 n1 .normal ⟨(es t [(70,v2),(71,v3),(72,v4),(73,v5)]),dm⟩ H)):=of_fun fun f=>by kernel_rfl
theorem h14_10 (dm:List Dm) (ro:Option Nat) (H:Hp) (k:AEx→En→Hp→Bool):∀(t:E2),cd P (G K) 191 147 (subC 14 [1,1,1,1,1,1,1,1,1]) ro ⟨t,dm⟩ H k=
 (let n1:AEx→En→Hp→Bool:=fun x e H=>isNormal x (fun _=>cd P (G K) 190 147 (subC 14 [1,1,1,1,1,1,1,1,1,1]) ro e H fun x e H=>k x e H) (fun x=>k x e H);
 ptrPlus (E2.get t 1) 12 fun v2=>
 loadK P (G K) H 43 v2 fun v3=>
 lenK P 43 v3 H fun v4=>
 semC P (G K) 147 (.loop (subC 14 [1,1,1,1,1,1,1,1,1,0,1,0])) ro ⟨(es t [(77,v2),(78,v3),(79,v4),(80,(.int .i64 0))]),dm⟩ H fun x e6 H6=>isExit 0 x (fun _=>n1 .normal e6 H6) (fun x=>n1 x e6 H6)):=of_fun fun f=>by kernel_rfl
theorem h14_11 (dm:List Dm) (ro:Option Nat) (H:Hp) (k:AEx→En→Hp→Bool):∀(t:E2),cd P (G K) 190 147 (subC 14 [1,1,1,1,1,1,1,1,1,1]) ro ⟨t,dm⟩ H k=
 (let n1:AEx→En→Hp→Bool:=fun x e H=>isNormal x (fun _=>cd P (G K) 189 147 (subC 14 [1,1,1,1,1,1,1,1,1,1,1]) ro e H fun x e H=>k x e H) (fun x=>k x e H);
 ptrPlus (E2.get t 1) 13 fun v2=>
 loadK P (G K) H 44 v2 fun v3=>
 lenK P 44 v3 H fun v4=>
 semC P (G K) 147 (.loop (subC 14 [1,1,1,1,1,1,1,1,1,1,0,1,0])) ro ⟨(es t [(95,v2),(96,v3),(97,v4),(98,(.int .i64 0))]),dm⟩ H fun x e6 H6=>isExit 2 x (fun _=>n1 .normal e6 H6) (fun x=>n1 x e6 H6)):=of_fun fun f=>by kernel_rfl
theorem h14_12 (dm:List Dm) (ro:Option Nat) (H:Hp) (k:AEx→En→Hp→Bool):∀(t:E2),cd P (G K) 189 147 (subC 14 [1,1,1,1,1,1,1,1,1,1,1]) ro ⟨t,dm⟩ H k=
 (let n1:AEx→En→Hp→Bool:=fun x e H=>isNormal x (fun _=>cd P (G K) 188 147 (subC 14 [1,1,1,1,1,1,1,1,1,1,1,1]) ro e H fun x e H=>k x e H) (fun x=>k x e H);
 ptrPlus (E2.get t 1) 14 fun v2=>
 loadK P (G K) H 45 v2 fun v3=>
 lenK P 45 v3 H fun v4=>
 semC P (G K) 147 (.loop (subC 14 [1,1,1,1,1,1,1,1,1,1,1,0,1,0])) ro ⟨(es t [(133,v2),(134,v3),(135,v4),(136,(.int .i64 0))]),dm⟩ H fun x e6 H6=>isExit 6 x (fun _=>n1 .normal e6 H6) (fun x=>n1 x e6 H6)):=of_fun fun f=>by kernel_rfl
theorem h14_13 (dm:List Dm) (ro:Option Nat) (H:Hp) (k:AEx→En→Hp→Bool):∀(t:E2),cd P (G K) 188 147 (subC 14 [1,1,1,1,1,1,1,1,1,1,1,1]) ro ⟨t,dm⟩ H k=
 (ptrPlus (E2.get t 4) 0 fun v1=>
 cl P (G K) 43 [v1] H fun v2 H2=>
 k .ret ⟨(es t [(145,v1),(146,v2),(2,v2),(3,(.int .i64 0))]),dm⟩ H2):=of_fun fun f=>by kernel_rfl
theorem h15 (a0:AV) (H:Hp) (k:AEnd→Hp→Bool):callBody P (G K) ⟨cd P (G K) 200,callS P (G K)⟩ 15 [a0] H k=
 (let n0:AEx→En→Hp→Bool:=fun x e H=>bodyEnd P (G K) Tryz.f15 ⟨cd P (G K) 200,callS P (G K)⟩ k x e H;
 Hp.new H (.cells (some 47) false (AV.cells a0)) fun b1 H1=>
 ptrPlus (.ptr b1 0) 0 fun v4=>
 loadK P (G K) H1 30 v4 fun v5=>
 binK P .neq 30 true v5 (.int .i64 0) fun v6=>
 condV v6 (fun _=>
 ptrPlus (.ptr b1 0) 0 fun v7=>
 loadK P (G K) H1 30 v7 fun v8=>
 cl P (G K) 40 [v8] H1 fun v9 H9=>
 binK P .add 9 true (.str [101,114,114,111,114,32]) v9 fun v10=>
 binK P .add 9 true v10 (.str [10]) fun v11=>
 n0 .ret ⟨(es E2.empty [(0,a0),(1,(.ptr b1 0)),(13,v4),(14,v5),(15,v6),(16,v7),(17,v8),(18,v9),(19,v10),(20,v11),(2,v11),(3,(.int .i64 0))]),[]⟩ H9) (fun _=>
 loadK P (G K) H1 47 (.ptr b1 0) fun v14=>
 cl P (G K) 47 [v14] H1 fun v15 H15=>
 binK P .neq 30 true v15 (.int .i64 0) fun v18=>
 condV v18 (fun _=>
 n0 .ret ⟨(es E2.empty [(0,a0),(1,(.ptr b1 0)),(13,v4),(14,v5),(15,v6),(21,v14),(22,v15),(4,v15),(23,v15),(24,v18),(25,v15),(2,(.str [])),(3,v15)]),[]⟩ H15) (fun _=>
 let n23:AEx→En→Hp→Bool:=fun x e H=>isNormal x (fun _=>cd P (G K) 194 200 (subC 15 [1,1,1,1,1,1]) none e H fun x e H=>n0 x e H) (fun x=>n0 x e H);
 ptrPlus (.ptr b1 0) 1 fun v24=>
 loadK P (G K) H15 4 v24 fun v25=>
 condV v25 (fun _=>
 n23 .normal ⟨(es E2.empty [(0,a0),(1,(.ptr b1 0)),(2,(.str [])),(3,(.int .i64 0)),(13,v4),(14,v5),(15,v6),(21,v14),(22,v15),(4,v15),(23,v15),(24,v18),(26,v24),(27,v25),(5,(.str [121,101,115,10]))]),[]⟩ H15) (fun _=>
 n23 .normal ⟨(es E2.empty [(0,a0),(1,(.ptr b1 0)),(2,(.str [])),(3,(.int .i64 0)),(13,v4),(14,v5),(15,v6),(21,v14),(22,v15),(4,v15),(23,v15),(24,v18),(5,(.str [])),(26,v24),(27,v25)]),[]⟩ H15)))):=by kernel_rfl
theorem r15 (t:E2) (H:Hp) (k:AEnd→Hp→Bool) (i:Evs):bodyEnd P (G K) Tryz.f15 i k .ret ⟨t,[]⟩ H=k (.ret (.tup [(E2.get t 2),(E2.get t 3)])) H:=by kernel_rfl
theorem h15_0 (dm:List Dm) (ro:Option Nat) (H:Hp) (k:AEx→En→Hp→Bool):∀(t:E2),cd P (G K) 194 200 (subC 15 [1,1,1,1,1,1]) ro ⟨t,dm⟩ H k=
 (ptrPlus (E2.get t 1) 2 fun v1=>
 loadK P (G K) H 41 v1 fun v2=>
 Hp.new H (.cells (some 41) false [(.int .i64 0),(.int .i64 0),(.int .i64 0),(.int .i64 0),(.int .i64 0),(.int .i64 0)]) fun b3 H3=>
 storeK P H3 41 (.ptr b3 0) v2 fun H4=>
 let n5:AEx→En→Hp→Bool:=fun x e H=>isNormal x (fun _=>cd P (G K) 192 200 (subC 15 [1,1,1,1,1,1,1,1]) ro e H fun x e H=>k x e H) (fun x=>k x e H);
 ptrPlus (.ptr b3 0) 0 fun v6=>
 loadK P (G K) H4 3 v6 fun v7=>
 binK P .neq 3 true v7 (.int .i64 0) fun v8=>
 condV v8 (fun _=>
 binK P .add 9 true (E2.get t 5) (.str [106,117,100,103,101,100,32]) fun v10=>
 ptrPlus (.ptr b3 0) 0 fun v11=>
 loadK P (G K) H4 3 v11 fun v12=>
 ptrPlus (.ptr b3 0) 1 fun v13=>
 loadK P (G K) H4 3 v13 fun v14=>
 ptrPlus (.ptr b3 0) 2 fun v15=>
 loadK P (G K) H4 3 v15 fun v16=>
 ptrPlus (.ptr b3 0) 3 fun v17=>
 loadK P (G K) H4 3 v17 fun v18=>
 ptrPlus (.ptr b3 0) 4 fun v19=>
 loadK P (G K) H4 3 v19 fun v20=>
 ptrPlus (.ptr b3 0) 5 fun v21=>
 loadK P (G K) H4 30 v21 fun v22=>
 layAnc 12 [] H4 fun Q24 H24=>cl P (G K) 40 [v12] H24 fun v23 H23=>
 Bool.casesOn (recheck 12 ((28,fun H'=>loadK P (G K) H' 30 v21 fun v'=>avSame 1000 v22 v')::((23,fun H'=>loadK P (G K) H' 3 v19 fun v'=>avSame 1000 v20 v')::((18,fun H'=>loadK P (G K) H' 3 v17 fun v'=>avSame 1000 v18 v')::((13,fun H'=>loadK P (G K) H' 3 v15 fun v'=>avSame 1000 v16 v')::((8,fun H'=>loadK P (G K) H' 3 v13 fun v'=>avSame 1000 v14 v')::((3,fun H'=>loadK P (G K) H' 3 v11 fun v'=>avSame 1000 v12 v')::[])))))) H23) false (binK P .add 9 false v10 v23 fun v25=>
 binK P .add 9 true v25 (.str [32]) fun v26=>
 layAnc 412 Q24 H23 fun Q28 H28=>cl P (G K) 40 [v14] H28 fun v27 H27=>
 Bool.casesOn (recheck 412 ((28,fun H'=>loadK P (G K) H' 30 v21 fun v'=>avSame 1000 v22 v')::((23,fun H'=>loadK P (G K) H' 3 v19 fun v'=>avSame 1000 v20 v')::((18,fun H'=>loadK P (G K) H' 3 v17 fun v'=>avSame 1000 v18 v')::((13,fun H'=>loadK P (G K) H' 3 v15 fun v'=>avSame 1000 v16 v')::((8,fun H'=>loadK P (G K) H' 3 v13 fun v'=>avSame 1000 v14 v')::((3,fun H'=>loadK P (G K) H' 3 v11 fun v'=>avSame 1000 v12 v')::[])))))) H27) false (binK P .add 9 false v26 v27 fun v29=>
 binK P .add 9 true v29 (.str [32]) fun v30=>
 layAnc 13212 Q28 H27 fun Q32 H32=>cl P (G K) 40 [v16] H32 fun v31 H31=>
 Bool.casesOn (recheck 13212 ((28,fun H'=>loadK P (G K) H' 30 v21 fun v'=>avSame 1000 v22 v')::((23,fun H'=>loadK P (G K) H' 3 v19 fun v'=>avSame 1000 v20 v')::((18,fun H'=>loadK P (G K) H' 3 v17 fun v'=>avSame 1000 v18 v')::((13,fun H'=>loadK P (G K) H' 3 v15 fun v'=>avSame 1000 v16 v')::((8,fun H'=>loadK P (G K) H' 3 v13 fun v'=>avSame 1000 v14 v')::((3,fun H'=>loadK P (G K) H' 3 v11 fun v'=>avSame 1000 v12 v')::[])))))) H31) false (binK P .add 9 false v30 v31 fun v33=>
 binK P .add 9 true v33 (.str [32]) fun v34=>
 layAnc 422812 Q32 H31 fun Q36 H36=>cl P (G K) 40 [v18] H36 fun v35 H35=>
 Bool.casesOn (recheck 422812 ((28,fun H'=>loadK P (G K) H' 30 v21 fun v'=>avSame 1000 v22 v')::((23,fun H'=>loadK P (G K) H' 3 v19 fun v'=>avSame 1000 v20 v')::((18,fun H'=>loadK P (G K) H' 3 v17 fun v'=>avSame 1000 v18 v')::((13,fun H'=>loadK P (G K) H' 3 v15 fun v'=>avSame 1000 v16 v')::((8,fun H'=>loadK P (G K) H' 3 v13 fun v'=>avSame 1000 v14 v')::((3,fun H'=>loadK P (G K) H' 3 v11 fun v'=>avSame 1000 v12 v')::[])))))) H35) false (binK P .add 9 false v34 v35 fun v37=>
 binK P .add 9 true v37 (.str [32]) fun v38=>
 layAnc 13530012 Q36 H35 fun Q40 H40=>cl P (G K) 40 [v20] H40 fun v39 H39=>
 Bool.casesOn (recheck 13530012 ((28,fun H'=>loadK P (G K) H' 30 v21 fun v'=>avSame 1000 v22 v')::((23,fun H'=>loadK P (G K) H' 3 v19 fun v'=>avSame 1000 v20 v')::((18,fun H'=>loadK P (G K) H' 3 v17 fun v'=>avSame 1000 v18 v')::((13,fun H'=>loadK P (G K) H' 3 v15 fun v'=>avSame 1000 v16 v')::((8,fun H'=>loadK P (G K) H' 3 v13 fun v'=>avSame 1000 v14 v')::((3,fun H'=>loadK P (G K) H' 3 v11 fun v'=>avSame 1000 v12 v')::[])))))) H39) false (binK P .add 9 false v38 v39 fun v41=>
 binK P .add 9 true v41 (.str [32]) fun v42=>
 layAnc 432960412 Q40 H39 fun Q44 H44=>cl P (G K) 40 [v22] H44 fun v43 H43=>
 Bool.casesOn (recheck 432960412 ((28,fun H'=>loadK P (G K) H' 30 v21 fun v'=>avSame 1000 v22 v')::((23,fun H'=>loadK P (G K) H' 3 v19 fun v'=>avSame 1000 v20 v')::((18,fun H'=>loadK P (G K) H' 3 v17 fun v'=>avSame 1000 v18 v')::((13,fun H'=>loadK P (G K) H' 3 v15 fun v'=>avSame 1000 v16 v')::((8,fun H'=>loadK P (G K) H' 3 v13 fun v'=>avSame 1000 v14 v')::((3,fun H'=>loadK P (G K) H' 3 v11 fun v'=>avSame 1000 v12 v')::[])))))) H43) false (binK P .add 9 false v42 v43 fun v45=>
 binK P .add 9 true v45 (.str [10]) fun v46=>
 layAll Q44 H43 fun H48=>
 n5 .normal ⟨(es t [(28,v1),(29,v2),(6,(.ptr b3 0)),(30,v6),(31,v7),(32,v8),(33,(E2.get t 5)),(34,v10),(35,v11),(36,v12),(40,v13),(41,v14),(45,v15),(46,v16),(50,v17),(51,v18),(55,v19),(56,v20),(60,v21),(61,v22),(37,v23),(38,v25),(39,v26),(42,v27),(43,v29),(44,v30),(47,v31),(48,v33),(49,v34),(52,v35),(53,v37),(54,v38),(57,v39),(58,v41),(59,v42),(62,v43),(63,v45),(64,v46),(5,v46)]),dm⟩ H48))))))) (fun _=>
 n5 .normal ⟨(es t [(28,v1),(29,v2),(6,(.ptr b3 0)),(30,v6),(31,v7),(32,v8)]),dm⟩ H4)):=of_fun fun f=>by kernel_rfl
theorem h15_1 (dm:List Dm) (ro:Option Nat) (H:Hp) (k:AEx→En→Hp→Bool):∀(t:E2),cd P (G K) 200 200 (subC 15 [1,1,1,1,1,1,1,1,1,1,0,1,0]) ro ⟨t,dm⟩ H k=
 (ptrPlus (E2.get t 1) 11 fun v2=>
 loadK P (G K) H 42 v2 fun v3=>
 lenK P 42 v3 H fun v4=>
 binK P .lss 3 false (E2.get t 7) v4 fun v5=>
 condV v5 (fun _=>
 let n6:AEx→En→Hp→Bool:=fun x e H=>isNormal x (fun _=>cd P (G K) 198 200 (subC 15 [1,1,1,1,1,1,1,1,1,1,0,1,0,0,1,1]) ro e H fun x e H=>k x e H) (fun x=>k x e H);
 let n7:AEx→En→Hp→Bool:=fun x e H=>isNormal x (fun _=>cd P (G K) 196 200 (subC 15 [1,1,1,1,1,1,1,1,1,1,0,1,0,0,1,0,0,1]) ro e H fun x e H=>isExit 1 x (fun _=>n6 .normal e H) (fun x=>n6 x e H)) (fun x=>isExit 1 x (fun _=>n6 .normal e H) (fun x=>n6 x e H));
 binK P .eql 3 true (E2.get t 7) (.int .i64 0) fun v9=>
 condV v9 (fun _=>
 binK P .add 9 true (E2.get t 5) (.str [108,105,115,116]) fun v11=>
 n7 .normal ⟨(es t [(86,(E2.get t 7)),(87,v2),(88,v3),(89,v4),(90,v5),(93,(E2.get t 7)),(94,v9),(95,(E2.get t 5)),(96,v11),(5,v11)]),dm⟩ H) (fun _=>
 n7 .normal ⟨(es t [(86,(E2.get t 7)),(87,v2),(88,v3),(89,v4),(90,v5),(93,(E2.get t 7)),(94,v9)]),dm⟩ H)) (fun _=>
 k (.exit 0) ⟨(es t [(86,(E2.get t 7)),(87,v2),(88,v3),(89,v4),(90,v5)]),dm⟩ H)):=of_fun fun f=>by kernel_rfl
theorem h15_2 (dm:List Dm) (ro:Option Nat) (H:Hp) (k:AEx→En→Hp→Bool):∀(t:E2),cd P (G K) 200 200 (subC 15 [1,1,1,1,1,1,1,1,1,1,1,0,1,0]) ro ⟨t,dm⟩ H k=
 (ptrPlus (E2.get t 1) 12 fun v2=>
 loadK P (G K) H 43 v2 fun v3=>
 lenK P 43 v3 H fun v4=>
 binK P .lss 3 false (E2.get t 8) v4 fun v5=>
 condV v5 (fun _=>
 binK P .add 9 true (E2.get t 5) (.str [112,111,115,116,105,110,103,32]) fun v7=>
 ptrPlus (E2.get t 1) 12 fun v8=>
 loadK P (G K) H 43 v8 fun v9=>
 binK P .add 3 true (E2.get t 8) (.int .i64 1) fun v12=>
 sliceAtK P H 43 v9 (some (E2.get t 8)) (some v12) none fun v13=>
 cl P (G K) 48 [v13] H fun v14 H14=>
 binK P .add 9 false v7 v14 fun v15=>
 binK P .add 3 true (E2.get t 8) (.int .i64 1) fun v18=>
 k .normal ⟨(es t [(114,(E2.get t 8)),(115,v2),(116,v3),(117,v4),(118,v5),(121,(E2.get t 5)),(122,v7),(123,v8),(124,v9),(125,(E2.get t 8)),(126,(E2.get t 8)),(127,v12),(128,v13),(129,v14),(130,v15),(5,v15),(119,(E2.get t 8)),(120,v18),(8,v18)]),dm⟩ H14) (fun _=>
 k (.exit 2) ⟨(es t [(114,(E2.get t 8)),(115,v2),(116,v3),(117,v4),(118,v5)]),dm⟩ H)):=of_fun fun f=>by kernel_rfl
theorem h15_3 (dm:List Dm) (ro:Option Nat) (H:Hp) (k:AEx→En→Hp→Bool):∀(t:E2),cd P (G K) 200 200 (subC 15 [1,1,1,1,1,1,1,1,1,1,1,1,0,1,0]) ro ⟨t,dm⟩ H k=
 (ptrPlus (E2.get t 1) 13 fun v2=>
 loadK P (G K) H 44 v2 fun v3=>
 lenK P 44 v3 H fun v4=>
 binK P .lss 3 false (E2.get t 9) v4 fun v5=>
 condV v5 (fun _=>
 let n6:AEx→En→Hp→Bool:=fun x e H=>isNormal x (fun _=>cd P (G K) 198 200 (subC 15 [1,1,1,1,1,1,1,1,1,1,1,1,0,1,0,0,1,1]) ro e H fun x e H=>k x e H) (fun x=>k x e H);
 binK P .add 9 true (E2.get t 5) (.str [114,101,97,100,105,110,103]) fun v8=>
 ptrPlus (E2.get t 1) 13 fun v10=>
 loadK P (G K) H 44 v10 fun v11=>
 indexAtK P 44 v11 (E2.get t 9) fun v13=>
 loadK P (G K) H 72 v13 fun v14=>
 Hp.new H (.cells (some 72) false [.nils, .nils]) fun b15 H15=>
 storeK P H15 72 (.ptr b15 0) v14 fun H16=>
 let n17:AEx→En→Hp→Bool:=fun x e H=>isNormal x (fun _=>cd P (G K) 194 200 (subC 15 [1,1,1,1,1,1,1,1,1,1,1,1,0,1,0,0,1,0,0,1,1,1]) ro e H fun x e H=>isExit 5 x (fun _=>n6 .normal e H) (fun x=>n6 x e H)) (fun x=>isExit 5 x (fun _=>n6 .normal e H) (fun x=>n6 x e H));
 semC P (G K) 200 (.loop (subC 15 [1,1,1,1,1,1,1,1,1,1,1,1,0,1,0,0,1,0,0,1,1,0,1,0])) ro ⟨(es t [(131,(E2.get t 9)),(132,v2),(133,v3),(134,v4),(135,v5),(138,(E2.get t 5)),(139,v8),(5,v8),(140,v10),(141,v11),(142,(E2.get t 9)),(143,v13),(144,v14),(10,(.ptr b15 0)),(11,(.int .i64 0))]),dm⟩ H16 fun x e19 H19=>isExit 6 x (fun _=>n17 .normal e19 H19) (fun x=>n17 x e19 H19)) (fun _=>
 k (.exit 4) ⟨(es t [(131,(E2.get t 9)),(132,v2),(133,v3),(134,v4),(135,v5)]),dm⟩ H)):=of_fun fun f=>by kernel_rfl
theorem h15_4 (dm:List Dm) (ro:Option Nat) (H:Hp) (k:AEx→En→Hp→Bool):∀(t:E2),cd P (G K) 200 200 (subC 15 [1,1,1,1,1,1,1,1,1,1,1,1,0,1,0,0,1,0,0,1,1,0,1,0]) ro ⟨t,dm⟩ H k=
 (ptrPlus (E2.get t 10) 0 fun v2=>
 loadK P (G K) H 70 v2 fun v3=>
 lenK P 70 v3 H fun v4=>
 binK P .lss 3 false (E2.get t 11) v4 fun v5=>
 condV v5 (fun _=>
 binK P .add 9 true (E2.get t 5) (.str [32]) fun v7=>
 ptrPlus (E2.get t 10) 0 fun v8=>
 loadK P (G K) H 70 v8 fun v9=>
 indexAtK P 70 v9 (E2.get t 11) fun v11=>
 ptrPlus v11 0 fun v12=>
 loadK P (G K) H 3 v12 fun v13=>
 ptrPlus (E2.get t 10) 0 fun v14=>
 loadK P (G K) H 70 v14 fun v15=>
 indexAtK P 70 v15 (E2.get t 11) fun v17=>
 ptrPlus v17 1 fun v18=>
 loadK P (G K) H 3 v18 fun v19=>
 ptrPlus (E2.get t 10) 1 fun v20=>
 loadK P (G K) H 42 v20 fun v21=>
 indexAtK P 42 v21 (E2.get t 11) fun v23=>
 loadK P (G K) H 3 v23 fun v24=>
 layAnc 252 [] H fun Q26 H26=>cl P (G K) 40 [v13] H26 fun v25 H25=>
 Bool.casesOn (recheck 252 ((24,fun H'=>loadK P (G K) H' 3 v23 fun v'=>avSame 1000 v24 v')::((21,fun H'=>loadK P (G K) H' 42 v20 fun v'=>avSame 1000 v21 v')::((16,fun H'=>loadK P (G K) H' 3 v18 fun v'=>avSame 1000 v19 v')::((12,fun H'=>loadK P (G K) H' 70 v14 fun v'=>avSame 1000 v15 v')::((7,fun H'=>loadK P (G K) H' 3 v12 fun v'=>avSame 1000 v13 v')::((3,fun H'=>loadK P (G K) H' 70 v8 fun v'=>avSame 1000 v9 v')::[])))))) H25) false (binK P .add 9 false v7 v25 fun v27=>
 binK P .add 9 true v27 (.str [58]) fun v28=>
 layAnc 129532 Q26 H25 fun Q30 H30=>cl P (G K) 40 [v19] H30 fun v29 H29=>
 Bool.casesOn (recheck 129532 ((24,fun H'=>loadK P (G K) H' 3 v23 fun v'=>avSame 1000 v24 v')::((21,fun H'=>loadK P (G K) H' 42 v20 fun v'=>avSame 1000 v21 v')::((16,fun H'=>loadK P (G K) H' 3 v18 fun v'=>avSame 1000 v19 v')::((12,fun H'=>loadK P (G K) H' 70 v14 fun v'=>avSame 1000 v15 v')::((7,fun H'=>loadK P (G K) H' 3 v12 fun v'=>avSame 1000 v13 v')::((3,fun H'=>loadK P (G K) H' 70 v8 fun v'=>avSame 1000 v9 v')::[])))))) H29) false (binK P .add 9 false v28 v29 fun v31=>
 binK P .add 9 true v31 (.str [64]) fun v32=>
 layAnc 32766460 Q30 H29 fun Q34 H34=>cl P (G K) 40 [v24] H34 fun v33 H33=>
 Bool.casesOn (recheck 32766460 ((24,fun H'=>loadK P (G K) H' 3 v23 fun v'=>avSame 1000 v24 v')::((21,fun H'=>loadK P (G K) H' 42 v20 fun v'=>avSame 1000 v21 v')::((16,fun H'=>loadK P (G K) H' 3 v18 fun v'=>avSame 1000 v19 v')::((12,fun H'=>loadK P (G K) H' 70 v14 fun v'=>avSame 1000 v15 v')::((7,fun H'=>loadK P (G K) H' 3 v12 fun v'=>avSame 1000 v13 v')::((3,fun H'=>loadK P (G K) H' 70 v8 fun v'=>avSame 1000 v9 v')::[])))))) H33) false (binK P .add 9 false v32 v33 fun v35=>
 layAll Q34 H33 fun H37=>
 binK P .add 3 true (E2.get t 11) (.int .i64 1) fun v39=>
 k .normal ⟨(es t [(145,(E2.get t 11)),(146,v2),(147,v3),(148,v4),(149,v5),(152,(E2.get t 5)),(153,v7),(154,v8),(155,v9),(156,(E2.get t 11)),(157,v11),(158,v12),(159,v13),(163,v14),(164,v15),(165,(E2.get t 11)),(166,v17),(167,v18),(168,v19),(172,v20),(173,v21),(174,(E2.get t 11)),(175,v23),(176,v24),(160,v25),(161,v27),(162,v28),(169,v29),(170,v31),(171,v32),(177,v33),(178,v35),(5,v35),(150,(E2.get t 11)),(151,v39),(11,v39)]),dm⟩ H37)))) (fun _=>
 k (.exit 6) ⟨(es t [(145,(E2.get t 11)),(146,v2),(147,v3),(148,v4),(149,v5)]),dm⟩ H)):=of_fun fun f=>by kernel_rfl
theorem h15_5 (dm:List Dm) (ro:Option Nat) (H:Hp) (k:AEx→En→Hp→Bool):∀(t:E2),cd P (G K) 200 200 (subC 15 [1,1,1,1,1,1,1,1,1,1,1,1,1,0,1,0]) ro ⟨t,dm⟩ H k=
 (ptrPlus (E2.get t 1) 14 fun v2=>
 loadK P (G K) H 45 v2 fun v3=>
 lenK P 45 v3 H fun v4=>
 binK P .lss 3 false (E2.get t 12) v4 fun v5=>
 condV v5 (fun _=>
 binK P .add 9 true (E2.get t 5) (.str [112,114,111,111,102,32]) fun v7=>
 ptrPlus (E2.get t 1) 14 fun v8=>
 loadK P (G K) H 45 v8 fun v9=>
 indexAtK P 45 v9 (E2.get t 12) fun v11=>
 loadK P (G K) H 91 v11 fun v12=>
 lenK P 91 v12 H fun v13=>
 cl P (G K) 40 [v13] H fun v14 H14=>
 binK P .add 9 false v7 v14 fun v15=>
 binK P .add 9 true v15 (.str [10]) fun v16=>
 binK P .add 3 true (E2.get t 12) (.int .i64 1) fun v19=>
 k .normal ⟨(es t [(181,(E2.get t 12)),(182,v2),(183,v3),(184,v4),(185,v5),(188,(E2.get t 5)),(189,v7),(190,v8),(191,v9),(192,(E2.get t 12)),(193,v11),(194,v12),(195,v13),(196,v14),(197,v15),(198,v16),(5,v16),(186,(E2.get t 12)),(187,v19),(12,v19)]),dm⟩ H14) (fun _=>
 k (.exit 8) ⟨(es t [(181,(E2.get t 12)),(182,v2),(183,v3),(184,v4),(185,v5)]),dm⟩ H)):=of_fun fun f=>by kernel_rfl
theorem h15_6 (dm:List Dm) (ro:Option Nat) (H:Hp) (k:AEx→En→Hp→Bool):∀(t:E2),cd P (G K) 192 200 (subC 15 [1,1,1,1,1,1,1,1]) ro ⟨t,dm⟩ H k=
 (let n1:AEx→En→Hp→Bool:=fun x e H=>isNormal x (fun _=>cd P (G K) 191 200 (subC 15 [1,1,1,1,1,1,1,1,1]) ro e H fun x e H=>k x e H) (fun x=>k x e H);
 ptrPlus (E2.get t 1) 8 fun v2=>
 loadK P (G K) H 23 v2 fun v3=>
 buildK P 23 [] fun v4=>
 binK P .neq 23 false v3 v4 fun v5=>
 condV v5 (fun _=>
 binK P .add 9 true (E2.get t 5) (.str [115,112,97,110,32]) fun v7=>
 ptrPlus (E2.get t 1) 8 fun v8=>
 loadK P (G K) H 23 v8 fun v9=>
 cl P (G K) 41 [v9] H fun v10 H10=>
 binK P .add 9 false v7 v10 fun v11=>
 binK P .add 9 true v11 (.str [10]) fun v12=>
 n1 .normal ⟨(es t [(65,v2),(66,v3),(67,v4),(68,v5),(69,(E2.get t 5)),(70,v7),(71,v8),(72,v9),(73,v10),(74,v11),(75,v12),(5,v12)]),dm⟩ H10) (fun _=>
 n1 .normal ⟨(es t [(65,v2),(66,v3),(67,v4),(68,v5)]),dm⟩ H)):=of_fun fun f=>by kernel_rfl
theorem h15_7 (dm:List Dm) (ro:Option Nat) (H:Hp) (k:AEx→En→Hp→Bool):∀(t:E2),cd P (G K) 198 200 (subC 15 [1,1,1,1,1,1,1,1,1,1,0,1,0,0,1,1]) ro ⟨t,dm⟩ H k=
 (binK P .add 3 true (E2.get t 7) (.int .i64 1) fun v2=>
 k .normal ⟨(es t [(91,(E2.get t 7)),(92,v2),(7,v2)]),dm⟩ H):=of_fun fun f=>by kernel_rfl
theorem h15_8 (dm:List Dm) (ro:Option Nat) (H:Hp) (k:AEx→En→Hp→Bool):∀(t:E2),cd P (G K) 196 200 (subC 15 [1,1,1,1,1,1,1,1,1,1,0,1,0,0,1,0,0,1]) ro ⟨t,dm⟩ H k=
 (binK P .add 9 true (E2.get t 5) (.str [32]) fun v2=>
 ptrPlus (E2.get t 1) 11 fun v3=>
 loadK P (G K) H 42 v3 fun v4=>
 indexAtK P 42 v4 (E2.get t 7) fun v6=>
 loadK P (G K) H 3 v6 fun v7=>
 cl P (G K) 40 [v7] H fun v8 H8=>
 binK P .add 9 false v2 v8 fun v9=>
 ptrPlus (E2.get t 1) 11 fun v12=>
 loadK P (G K) H8 42 v12 fun v13=>
 lenK P 42 v13 H8 fun v14=>
 binK P .sub 3 true v14 (.int .i64 1) fun v15=>
 binK P .eql 3 false (E2.get t 7) v15 fun v16=>
 condV v16 (fun _=>
 binK P .add 9 true v9 (.str [10]) fun v18=>
 k .normal ⟨(es t [(97,(E2.get t 5)),(98,v2),(99,v3),(100,v4),(101,(E2.get t 7)),(102,v6),(103,v7),(104,v8),(105,v9),(106,(E2.get t 7)),(107,v12),(108,v13),(109,v14),(110,v15),(111,v16),(112,v9),(113,v18),(5,v18)]),dm⟩ H8) (fun _=>
 k .normal ⟨(es t [(97,(E2.get t 5)),(98,v2),(99,v3),(100,v4),(101,(E2.get t 7)),(102,v6),(103,v7),(104,v8),(105,v9),(5,v9),(106,(E2.get t 7)),(107,v12),(108,v13),(109,v14),(110,v15),(111,v16)]),dm⟩ H8)):=of_fun fun f=>by kernel_rfl
theorem h15_9 (dm:List Dm) (ro:Option Nat) (H:Hp) (k:AEx→En→Hp→Bool):∀(t:E2),cd P (G K) 198 200 (subC 15 [1,1,1,1,1,1,1,1,1,1,1,1,0,1,0,0,1,1]) ro ⟨t,dm⟩ H k=
 (binK P .add 3 true (E2.get t 9) (.int .i64 1) fun v2=>
 k .normal ⟨(es t [(136,(E2.get t 9)),(137,v2),(9,v2)]),dm⟩ H):=of_fun fun f=>by kernel_rfl
theorem h15_10 (dm:List Dm) (ro:Option Nat) (H:Hp) (k:AEx→En→Hp→Bool):∀(t:E2),cd P (G K) 194 200 (subC 15 [1,1,1,1,1,1,1,1,1,1,1,1,0,1,0,0,1,0,0,1,1,1]) ro ⟨t,dm⟩ H k=
 (binK P .add 9 true (E2.get t 5) (.str [10]) fun v2=>
 k .normal ⟨(es t [(179,(E2.get t 5)),(180,v2),(5,v2)]),dm⟩ H):=of_fun fun f=>by kernel_rfl
theorem h15_11 (dm:List Dm) (ro:Option Nat) (H:Hp) (k:AEx→En→Hp→Bool):∀(t:E2),cd P (G K) 191 200 (subC 15 [1,1,1,1,1,1,1,1,1]) ro ⟨t,dm⟩ H k=
 (let n1:AEx→En→Hp→Bool:=fun x e H=>isNormal x (fun _=>cd P (G K) 190 200 (subC 15 [1,1,1,1,1,1,1,1,1,1]) ro e H fun x e H=>k x e H) (fun x=>k x e H);
 ptrPlus (E2.get t 1) 10 fun v2=>
 loadK P (G K) H 3 v2 fun v3=>
 binK P .neq 3 true v3 (.int .i64 0) fun v4=>
 condV v4 (fun _=>
 binK P .add 9 true (E2.get t 5) (.str [112,101,110,99,101,32]) fun v6=>
 ptrPlus (E2.get t 1) 10 fun v7=>
 loadK P (G K) H 3 v7 fun v8=>
 cl P (G K) 40 [v8] H fun v9 H9=>
 binK P .add 9 false v6 v9 fun v10=>
 binK P .add 9 true v10 (.str [10]) fun v11=>
 n1 .normal ⟨(es t [(76,v2),(77,v3),(78,v4),(79,(E2.get t 5)),(80,v6),(81,v7),(82,v8),(83,v9),(84,v10),(85,v11),(5,v11)]),dm⟩ H9) (fun _=>
 n1 .normal ⟨(es t [(76,v2),(77,v3),(78,v4)]),dm⟩ H)):=of_fun fun f=>by kernel_rfl
theorem h15_12 (dm:List Dm) (ro:Option Nat) (H:Hp) (k:AEx→En→Hp→Bool):∀(t:E2),cd P (G K) 190 200 (subC 15 [1,1,1,1,1,1,1,1,1,1]) ro ⟨t,dm⟩ H k=
 (let n1:AEx→En→Hp→Bool:=fun x e H=>isNormal x (fun _=>cd P (G K) 189 200 (subC 15 [1,1,1,1,1,1,1,1,1,1,1]) ro e H fun x e H=>k x e H) (fun x=>k x e H);
 semC P (G K) 200 (.loop (subC 15 [1,1,1,1,1,1,1,1,1,1,0,1,0])) ro ⟨(es t [(7,(.int .i64 0))]),dm⟩ H fun x e3 H3=>isExit 0 x (fun _=>n1 .normal e3 H3) (fun x=>n1 x e3 H3)):=of_fun fun f=>by kernel_rfl
theorem h15_13 (dm:List Dm) (ro:Option Nat) (H:Hp) (k:AEx→En→Hp→Bool):∀(t:E2),cd P (G K) 189 200 (subC 15 [1,1,1,1,1,1,1,1,1,1,1]) ro ⟨t,dm⟩ H k=
 (let n1:AEx→En→Hp→Bool:=fun x e H=>isNormal x (fun _=>cd P (G K) 188 200 (subC 15 [1,1,1,1,1,1,1,1,1,1,1,1]) ro e H fun x e H=>k x e H) (fun x=>k x e H);
 semC P (G K) 200 (.loop (subC 15 [1,1,1,1,1,1,1,1,1,1,1,0,1,0])) ro ⟨(es t [(8,(.int .i64 0))]),dm⟩ H fun x e3 H3=>isExit 2 x (fun _=>n1 .normal e3 H3) (fun x=>n1 x e3 H3)):=of_fun fun f=>by kernel_rfl
theorem h15_14 (dm:List Dm) (ro:Option Nat) (H:Hp) (k:AEx→En→Hp→Bool):∀(t:E2),cd P (G K) 188 200 (subC 15 [1,1,1,1,1,1,1,1,1,1,1,1]) ro ⟨t,dm⟩ H k=
 (let n1:AEx→En→Hp→Bool:=fun x e H=>isNormal x (fun _=>cd P (G K) 187 200 (subC 15 [1,1,1,1,1,1,1,1,1,1,1,1,1]) ro e H fun x e H=>k x e H) (fun x=>k x e H);
 semC P (G K) 200 (.loop (subC 15 [1,1,1,1,1,1,1,1,1,1,1,1,0,1,0])) ro ⟨(es t [(9,(.int .i64 0))]),dm⟩ H fun x e3 H3=>isExit 4 x (fun _=>n1 .normal e3 H3) (fun x=>n1 x e3 H3)):=of_fun fun f=>by kernel_rfl
theorem h15_15 (dm:List Dm) (ro:Option Nat) (H:Hp) (k:AEx→En→Hp→Bool):∀(t:E2),cd P (G K) 187 200 (subC 15 [1,1,1,1,1,1,1,1,1,1,1,1,1]) ro ⟨t,dm⟩ H k=
 (let n1:AEx→En→Hp→Bool:=fun x e H=>isNormal x (fun _=>cd P (G K) 186 200 (subC 15 [1,1,1,1,1,1,1,1,1,1,1,1,1,1]) ro e H fun x e H=>k x e H) (fun x=>k x e H);
 semC P (G K) 200 (.loop (subC 15 [1,1,1,1,1,1,1,1,1,1,1,1,1,0,1,0])) ro ⟨(es t [(12,(.int .i64 0))]),dm⟩ H fun x e3 H3=>isExit 8 x (fun _=>n1 .normal e3 H3) (fun x=>n1 x e3 H3)):=of_fun fun f=>by kernel_rfl
theorem h15_16 (dm:List Dm) (ro:Option Nat) (H:Hp) (k:AEx→En→Hp→Bool):∀(t:E2),cd P (G K) 186 200 (subC 15 [1,1,1,1,1,1,1,1,1,1,1,1,1,1]) ro ⟨t,dm⟩ H k=
 (k .ret ⟨(es t [(199,(E2.get t 5)),(2,(E2.get t 5)),(3,(.int .i64 0))]),dm⟩ H):=of_fun fun f=>by kernel_rfl
end
end Go.S9
