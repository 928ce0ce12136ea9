/- A part of the proof of TribunalBack. -/
import Derived.Test.YtmmghibnfjfnbaaGreatDoorBAd
set_option linter.unusedVariables false
set_option linter.unusedSimpArgs false
namespace Go.S9
open Go.Ev Go.Proofs
set_option maxRecDepth 1000000
set_option linter.unusedVariables false
noncomputable section
variable {K : GP}
theorem h3 (a0 a1:AV) (H:Hp) (k:AEnd→Hp→Bool):callBody P (G K) ⟨cd P (G K) 200,callS P (G K)⟩ 3 [a0,a1] H k=
 (let n0:AEx→En→Hp→Bool:=fun x e H=>bodyEnd P (G K) Tryz.f3 ⟨cd P (G K) 200,callS P (G K)⟩ k x e H;
 Hp.new H (.cells (some 27) false (AV.cells a0)) fun b1 H1=>
 cd P (G K) 198 95 (subC 3 [1,0]) none ⟨(es E2.empty [(0,a0),(1,a1),(2,(.ptr b1 0)),(4,(.bool false))]),[]⟩ H1 fun x e H=>isNormal x (fun _=>cd P (G K) 198 95 (subC 3 [1,1]) none e H fun x e H=>n0 x e H) (fun x=>n0 x e H)):=by kernel_rfl
theorem r3 (t:E2) (H:Hp) (k:AEnd→Hp→Bool) (i:Evs):bodyEnd P (G K) Tryz.f3 i k .ret ⟨t,[]⟩ H=k (.ret (E2.get t 4)) H:=by kernel_rfl
theorem h3_0 (dm:List Dm) (ro:Option Nat) (H:Hp) (k:AEx→En→Hp→Bool):∀(t:E2),cd P (G K) 198 95 (subC 3 [1,0]) ro ⟨t,dm⟩ H k=
 (cd P (G K) 197 95 (subC 3 [1,0,0]) ro ⟨t,dm⟩ H fun x e H=>isNormal x (fun _=>cd P (G K) 197 95 (subC 3 [1,0,1]) ro e H fun x e H=>k x e H) (fun x=>k x e H)):=of_fun fun f=>by kernel_rfl
theorem h3_1 (dm:List Dm) (ro:Option Nat) (H:Hp) (k:AEx→En→Hp→Bool):∀(t:E2),cd P (G K) 198 95 (subC 3 [1,1]) ro ⟨t,dm⟩ H k=
 (loadK P (G K) H 27 (E2.get t 2) fun v1=>
 cl P (G K) 7 [v1] H fun v2 H2=>
 loadK P (G K) H2 27 (E2.get t 2) fun v4=>
 cl P (G K) 8 [v4] H2 fun v5 H5=>
 extractV v5 0 fun v7=>
 extractV v5 1 fun v8=>
 cl P (G K) 9 [(E2.get t 1)] H5 fun v12 H12=>
 extractV v12 0 fun v14=>
 extractV v12 1 fun v15=>
 Hp.new H12 (.cells (some 27) false [(.int .i64 0),(.int .i64 0),(.int .i64 0),(.str []),(.int .i64 0),(.int .i64 0),(.int .i64 0),(.int .i64 0),(.int .i64 0),(.int .i64 0)]) fun b16 H16=>
 storeK P H16 27 (.ptr b16 0) v14 fun H17=>
 cl P (G K) 10 [(E2.get t 1)] H17 fun v20 H20=>
 extractV v20 0 fun v22=>
 extractV v20 1 fun v23=>
 Hp.new H20 (.cells (some 27) false [(.int .i64 0),(.int .i64 0),(.int .i64 0),(.str []),(.int .i64 0),(.int .i64 0),(.int .i64 0),(.int .i64 0),(.int .i64 0),(.int .i64 0)]) fun b24 H24=>
 storeK P H24 27 (.ptr b24 0) v22 fun H25=>
 cd P (G K) 193 95 (subC 3 [1,1,1,1,1,1,0]) ro ⟨(es t [(22,v1),(23,v2),(5,v2),(25,v4),(26,v5),(24,v5),(27,v7),(28,v8),(6,v7),(7,v8),(30,(E2.get t 1)),(31,v12),(29,v12),(32,v14),(33,v15),(8,(.ptr b16 0)),(9,v15),(35,(E2.get t 1)),(36,v20),(34,v20),(37,v22),(38,v23),(10,(.ptr b24 0)),(11,v23)]),dm⟩ H25 fun x e H=>isNormal x (fun _=>cd P (G K) 193 95 (subC 3 [1,1,1,1,1,1,1]) ro e H fun x e H=>k x e H) (fun x=>k x e H)):=of_fun fun f=>by kernel_rfl
theorem h3_2 (dm:List Dm) (ro:Option Nat) (H:Hp) (k:AEx→En→Hp→Bool):∀(t:E2),cd P (G K) 197 95 (subC 3 [1,0,0]) ro ⟨t,dm⟩ H k=
 (lenK P 9 (E2.get t 1) H fun v2=>
 binK P .gtr 3 true v2 (.int .i64 200) fun v3=>
 gJoin (boolIs false v3) (fun v5 H5=>
 gJoin (boolIs false v3) (fun v6 H6=>
 gJoin (boolIs false v3) (fun v7 H7=>
 gJoin (boolIs false v3) (fun v8 H8=>
 pickV v3 (.bool true) v8 fun v9=>
 k .normal ⟨(es t [(12,(E2.get t 1)),(13,v2),(14,v3),(15,v3),(16,v5),(17,v6),(18,v7),(19,v8),(20,v9)]),dm⟩ H8) (fun r8=>binK P .gtr 3 true v7 (.int .i64 100) fun v10=>
 r8 v10 H7) H7) (fun r7=>lenK P 9 v6 H6 fun v11=>
 r7 v11 H6) H6) (fun r6=>loadK P (G K) H5 9 v5 fun v12=>
 r6 v12 H5) H5) (fun r5=>ptrPlus (E2.get t 2) 3 fun v13=>
 r5 v13 H) H):=of_fun fun f=>by kernel_rfl
theorem h3_3 (dm:List Dm) (ro:Option Nat) (H:Hp) (k:AEx→En→Hp→Bool):∀(t:E2),cd P (G K) 197 95 (subC 3 [1,0,1]) ro ⟨t,dm⟩ H k=
 (condV (E2.get t 20) (fun _=>
 cl P (G K) 6 [] H fun v1 H1=>
 k .ret ⟨(es t [(21,v1),(4,v1)]),dm⟩ H1) (fun _=>
 k .normal ⟨t,dm⟩ H)):=of_fun fun f=>by kernel_rfl
theorem h3_4 (dm:List Dm) (ro:Option Nat) (H:Hp) (k:AEx→En→Hp→Bool):∀(t:E2),cd P (G K) 193 95 (subC 3 [1,1,1,1,1,1,0]) ro ⟨t,dm⟩ H k=
 (cd P (G K) 192 95 (subC 3 [1,1,1,1,1,1,0,0]) ro ⟨t,dm⟩ H fun x e H=>isNormal x (fun _=>cd P (G K) 192 95 (subC 3 [1,1,1,1,1,1,0,1]) ro e H fun x e H=>k x e H) (fun x=>k x e H)):=of_fun fun f=>by kernel_rfl
theorem h3_5 (dm:List Dm) (ro:Option Nat) (H:Hp) (k:AEx→En→Hp→Bool):∀(t:E2),cd P (G K) 193 95 (subC 3 [1,1,1,1,1,1,1]) ro ⟨t,dm⟩ H k=
 (cd P (G K) 192 95 (subC 3 [1,1,1,1,1,1,1,0]) ro ⟨t,dm⟩ H fun x e H=>isNormal x (fun _=>cd P (G K) 192 95 (subC 3 [1,1,1,1,1,1,1,1]) ro e H fun x e H=>k x e H) (fun x=>k x e H)):=of_fun fun f=>by kernel_rfl
theorem h3_6 (dm:List Dm) (ro:Option Nat) (H:Hp) (k:AEx→En→Hp→Bool):∀(t:E2),cd P (G K) 192 95 (subC 3 [1,1,1,1,1,1,0,0]) ro ⟨t,dm⟩ H k=
 (loadK P (G K) H 27 (E2.get t 2) fun v1=>
 cl P (G K) 11 [v1] H fun v2 H2=>
 binK P .eql 30 true v2 (.int .i64 0) fun v3=>
 binK P .neq 4 false v3 (E2.get t 5) fun v5=>
 gJoin (boolIs false v5) (fun v7 H7=>
 gJoin (boolIs false v5) (fun v8 H8=>
 gJoin (boolIs false v5) (fun v9 H9=>
 gJoin (boolIs true v9) (fun v10 H10=>
 gJoin (boolIs true v9) (fun v11 H11=>
 gJoin (boolIs true v9) (fun v12 H12=>
 gJoin (boolIs true v9) (fun v13 H13=>
 gJoin (boolIs false v13) (fun v14 H14=>
 gJoin (boolIs false v13) (fun v15 H15=>
 gJoin (boolIs true v9) (fun v16 H16=>
 gJoin (boolIs true v9) (fun v17 H17=>
 gJoin (boolIs false v17) (fun v18 H18=>
 gJoin (boolIs false v17) (fun v19 H19=>
 gJoin (boolIs true v9) (fun v20 H20=>
 gJoin (boolIs false v5) (fun v21 H21=>
 pickV v5 (.bool true) v21 fun v22=>
 gJoin (boolIs false v22) (fun v24 H24=>
 gJoin (boolIs false v22) (fun v25 H25=>
 gJoin (boolIs true v25) (fun v26 H26=>
 gJoin (boolIs true v25) (fun v27 H27=>
 gJoin (boolIs true v25) (fun v28 H28=>
 gJoin (boolIs false v28) (fun v29 H29=>
 gJoin (boolIs false v28) (fun v30 H30=>
 gJoin (boolIs false v28) (fun v31 H31=>
 gJoin (boolIs false v28) (fun v32 H32=>
 gJoin (boolIs true v25) (fun v33 H33=>
 gJoin (boolIs false v22) (fun v34 H34=>
 pickV v22 (.bool true) v34 fun v35=>
 k .normal ⟨(es t [(39,v1),(40,v2),(41,v3),(42,(E2.get t 5)),(43,v5),(44,v5),(45,v7),(46,v8),(47,v9),(48,v10),(49,v11),(50,v12),(51,v13),(52,v14),(53,v15),(54,v16),(55,v17),(56,v18),(57,v19),(58,v20),(59,v21),(60,v22),(61,v22),(62,v24),(63,v25),(64,v26),(65,v27),(66,v28),(67,v29),(68,v30),(69,v31),(70,v32),(71,v33),(72,v34),(73,v35)]),dm⟩ H34) (fun r34=>pickV v25 v33 (.bool false) fun v36=>
 r34 v36 H33) H33) (fun r33=>pickV v28 (.bool true) v32 fun v37=>
 r33 v37 H32) H32) (fun r32=>binK P .neq 9 false v29 v31 fun v38=>
 r32 v38 H31) H31) (fun r31=>cl P (G K) 12 [v30] H30 fun v39 H39=>
 r31 v39 H39) H30) (fun r30=>loadK P (G K) H29 27 (E2.get t 2) fun v40=>
 r30 v40 H29) H29) (fun r29=>r29 (E2.get t 6) H28) H28) (fun r28=>r28 v27 H27) H27) (fun r27=>binK P .neq 30 true v26 (.int .i64 0) fun v43=>
 r27 v43 H26) H26) (fun r26=>r26 (E2.get t 7) H25) H25) (fun r25=>r25 v24 H24) H24) (fun r24=>r24 (E2.get t 5) H21) H21) (fun r21=>pickV v9 v20 (.bool false) fun v47=>
 r21 v47 H20) H20) (fun r20=>pickV v17 (.bool true) v19 fun v48=>
 r20 v48 H19) H19) (fun r19=>binK P .neq 9 true v18 (.str []) fun v49=>
 r19 v49 H18) H18) (fun r18=>r18 (E2.get t 6) H17) H17) (fun r17=>r17 v16 H16) H16) (fun r16=>pickV v13 (.bool true) v15 fun v52=>
 r16 v52 H15) H15) (fun r15=>binK P .neq 30 true v14 (.int .i64 1) fun v53=>
 r15 v53 H14) H14) (fun r14=>r14 (E2.get t 7) H13) H13) (fun r13=>r13 v12 H12) H12) (fun r12=>binK P .neq 30 true v11 (.int .i64 1) fun v56=>
 r12 v56 H11) H11) (fun r11=>cl P (G K) 11 [v10] H10 fun v57 H57=>
 r11 v57 H57) H10) (fun r10=>loadK P (G K) H9 27 (E2.get t 2) fun v58=>
 r10 v58 H9) H9) (fun r9=>r9 v8 H8) H8) (fun r8=>unK .not v7 fun v60=>
 r8 v60 H7) H7) (fun r7=>r7 (E2.get t 5) H2) H2):=of_fun fun f=>by kernel_rfl
theorem h3_7 (dm:List Dm) (ro:Option Nat) (H:Hp) (k:AEx→En→Hp→Bool):∀(t:E2),cd P (G K) 192 95 (subC 3 [1,1,1,1,1,1,0,1]) ro ⟨t,dm⟩ H k=
 (condV (E2.get t 73) (fun _=>
 k .ret ⟨(es t [(4,(.bool false))]),dm⟩ H) (fun _=>
 k .normal ⟨t,dm⟩ H)):=of_fun fun f=>by kernel_rfl
theorem h3_8 (dm:List Dm) (ro:Option Nat) (H:Hp) (k:AEx→En→Hp→Bool):∀(t:E2),cd P (G K) 192 95 (subC 3 [1,1,1,1,1,1,1,0]) ro ⟨t,dm⟩ H k=
 (cl P (G K) 6 [] H fun v1 H1=>
 gJoin (boolIs true v1) (fun v3 H3=>
 gJoin (boolIs true v1) (fun v4 H4=>
 gJoin (boolIs true v1) (fun v5 H5=>
 pickV v1 v5 (.bool false) fun v6=>
 gJoin (boolIs true v6) (fun v8 H8=>
 gJoin (boolIs true v6) (fun v9 H9=>
 gJoin (boolIs true v9) (fun v10 H10=>
 gJoin (boolIs true v9) (fun v11 H11=>
 gJoin (boolIs true v6) (fun v12 H12=>
 gJoin (boolIs true v6) (fun v13 H13=>
 gJoin (boolIs false v13) (fun v14 H14=>
 gJoin (boolIs false v13) (fun v15 H15=>
 gJoin (boolIs false v13) (fun v16 H16=>
 gJoin (boolIs true v16) (fun v17 H17=>
 gJoin (boolIs true v16) (fun v18 H18=>
 gJoin (boolIs false v13) (fun v19 H19=>
 gJoin (boolIs true v6) (fun v20 H20=>
 pickV v6 v20 (.bool false) fun v21=>
 k .normal ⟨(es t [(74,v1),(75,v1),(76,v3),(77,v4),(78,v5),(79,v6),(80,v6),(81,v8),(82,v9),(83,v10),(84,v11),(85,v12),(86,v13),(87,v14),(88,v15),(89,v16),(90,v17),(91,v18),(92,v19),(93,v20),(94,v21),(4,v21)]),dm⟩ H20) (fun r20=>pickV v13 (.bool true) v19 fun v23=>
 r20 v23 H19) H19) (fun r19=>pickV v16 v18 (.bool false) fun v24=>
 r19 v24 H18) H18) (fun r18=>binK P .eql 30 true v17 (.int .i64 7) fun v25=>
 r18 v25 H17) H17) (fun r17=>r17 (E2.get t 9) H16) H16) (fun r16=>r16 v15 H15) H15) (fun r15=>unK .not v14 fun v28=>
 r15 v28 H14) H14) (fun r14=>r14 (E2.get t 11) H13) H13) (fun r13=>r13 v12 H12) H12) (fun r12=>pickV v9 v11 (.bool false) fun v31=>
 r12 v31 H11) H11) (fun r11=>binK P .eql 30 true v10 (.int .i64 0) fun v32=>
 r11 v32 H10) H10) (fun r10=>r10 (E2.get t 9) H9) H9) (fun r9=>r9 v8 H8) H8) (fun r8=>r8 (E2.get t 11) H5) H5) (fun r5=>binK P .eql 27 false v3 v4 fun v36=>
 r5 v36 H4) H4) (fun r4=>loadK P (G K) H3 27 (E2.get t 10) fun v37=>
 r4 v37 H3) H3) (fun r3=>loadK P (G K) H1 27 (E2.get t 8) fun v38=>
 r3 v38 H1) H1):=of_fun fun f=>by kernel_rfl
theorem h3_9 (dm:List Dm) (ro:Option Nat) (H:Hp) (k:AEx→En→Hp→Bool):∀(t:E2),cd P (G K) 192 95 (subC 3 [1,1,1,1,1,1,1,1]) ro ⟨t,dm⟩ H k=
 (k .ret ⟨t,dm⟩ H):=of_fun fun f=>by kernel_rfl
theorem h4 (a0 a1:AV) (H:Hp) (k:AEnd→Hp→Bool):callBody P (G K) ⟨cd P (G K) 200,callS P (G K)⟩ 4 [a0,a1] H k=
 (let n0:AEx→En→Hp→Bool:=fun x e H=>bodyEnd P (G K) Tryz.f4 ⟨cd P (G K) 200,callS P (G K)⟩ k x e H;
 Hp.new H (.cells (some 27) false (AV.cells a0)) fun b1 H1=>
 cd P (G K) 198 65 (subC 4 [1,0]) none ⟨(es E2.empty [(0,a0),(1,a1),(2,(.ptr b1 0)),(4,(.bool false))]),[]⟩ H1 fun x e H=>isNormal x (fun _=>cd P (G K) 198 65 (subC 4 [1,1]) none e H fun x e H=>n0 x e H) (fun x=>n0 x e H)):=by kernel_rfl
theorem r4 (t:E2) (H:Hp) (k:AEnd→Hp→Bool) (i:Evs):bodyEnd P (G K) Tryz.f4 i k .ret ⟨t,[]⟩ H=k (.ret (E2.get t 4)) H:=by kernel_rfl
theorem h4_0 (dm:List Dm) (ro:Option Nat) (H:Hp) (k:AEx→En→Hp→Bool):∀(t:E2),cd P (G K) 198 65 (subC 4 [1,0]) ro ⟨t,dm⟩ H k=
 (cd P (G K) 197 65 (subC 4 [1,0,0]) ro ⟨t,dm⟩ H fun x e H=>isNormal x (fun _=>cd P (G K) 197 65 (subC 4 [1,0,1]) ro e H fun x e H=>k x e H) (fun x=>k x e H)):=of_fun fun f=>by kernel_rfl
theorem h4_1 (dm:List Dm) (ro:Option Nat) (H:Hp) (k:AEx→En→Hp→Bool):∀(t:E2),cd P (G K) 198 65 (subC 4 [1,1]) ro ⟨t,dm⟩ H k=
 (loadK P (G K) H 27 (E2.get t 2) fun v1=>
 cl P (G K) 8 [v1] H fun v2 H2=>
 extractV v2 0 fun v4=>
 extractV v2 1 fun v5=>
 cd P (G K) 196 65 (subC 4 [1,1,1,0]) ro ⟨(es t [(24,v1),(25,v2),(23,v2),(26,v4),(27,v5),(5,v4),(6,v5)]),dm⟩ H2 fun x e H=>isNormal x (fun _=>cd P (G K) 196 65 (subC 4 [1,1,1,1]) ro e H fun x e H=>k x e H) (fun x=>k x e H)):=of_fun fun f=>by kernel_rfl
theorem h4_2 (dm:List Dm) (ro:Option Nat) (H:Hp) (k:AEx→En→Hp→Bool):∀(t:E2),cd P (G K) 197 65 (subC 4 [1,0,0]) ro ⟨t,dm⟩ H k=
 (lenK P 9 (E2.get t 1) H fun v2=>
 binK P .gtr 3 true v2 (.int .i64 200) fun v3=>
 gJoin (boolIs false v3) (fun v5 H5=>
 gJoin (boolIs false v3) (fun v6 H6=>
 gJoin (boolIs false v3) (fun v7 H7=>
 gJoin (boolIs false v3) (fun v8 H8=>
 pickV v3 (.bool true) v8 fun v9=>
 k .normal ⟨(es t [(13,(E2.get t 1)),(14,v2),(15,v3),(16,v3),(17,v5),(18,v6),(19,v7),(20,v8),(21,v9)]),dm⟩ H8) (fun r8=>binK P .gtr 3 true v7 (.int .i64 100) fun v10=>
 r8 v10 H7) H7) (fun r7=>lenK P 9 v6 H6 fun v11=>
 r7 v11 H6) H6) (fun r6=>loadK P (G K) H5 9 v5 fun v12=>
 r6 v12 H5) H5) (fun r5=>ptrPlus (E2.get t 2) 3 fun v13=>
 r5 v13 H) H):=of_fun fun f=>by kernel_rfl
theorem h4_3 (dm:List Dm) (ro:Option Nat) (H:Hp) (k:AEx→En→Hp→Bool):∀(t:E2),cd P (G K) 197 65 (subC 4 [1,0,1]) ro ⟨t,dm⟩ H k=
 (condV (E2.get t 21) (fun _=>
 cl P (G K) 6 [] H fun v1 H1=>
 k .ret ⟨(es t [(22,v1),(4,v1)]),dm⟩ H1) (fun _=>
 k .normal ⟨t,dm⟩ H)):=of_fun fun f=>by kernel_rfl
theorem h4_4 (dm:List Dm) (ro:Option Nat) (H:Hp) (k:AEx→En→Hp→Bool):∀(t:E2),cd P (G K) 196 65 (subC 4 [1,1,1,0]) ro ⟨t,dm⟩ H k=
 (binK P .eql 30 true (E2.get t 6) (.int .i64 0) fun v2=>
 condV v2 (fun _=>
 cl P (G K) 9 [(E2.get t 5)] H fun v4 H4=>
 extractV v4 0 fun v6=>
 extractV v4 1 fun v7=>
 Hp.new H4 (.cells (some 27) false [(.int .i64 0),(.int .i64 0),(.int .i64 0),(.str []),(.int .i64 0),(.int .i64 0),(.int .i64 0),(.int .i64 0),(.int .i64 0),(.int .i64 0)]) fun b8 H8=>
 storeK P H8 27 (.ptr b8 0) v6 fun H9=>
 cd P (G K) 192 65 (subC 4 [1,1,1,0,1,0,1,0]) ro ⟨(es t [(28,(E2.get t 6)),(29,v2),(31,(E2.get t 5)),(32,v4),(30,v4),(33,v6),(34,v7),(7,(.ptr b8 0)),(8,v7)]),dm⟩ H9 fun x e H=>isNormal x (fun _=>cd P (G K) 192 65 (subC 4 [1,1,1,0,1,0,1,1]) ro e H fun x e H=>k x e H) (fun x=>k x e H)) (fun _=>
 k .normal ⟨(es t [(28,(E2.get t 6)),(29,v2)]),dm⟩ H)):=of_fun fun f=>by kernel_rfl
theorem h4_5 (dm:List Dm) (ro:Option Nat) (H:Hp) (k:AEx→En→Hp→Bool):∀(t:E2),cd P (G K) 196 65 (subC 4 [1,1,1,1]) ro ⟨t,dm⟩ H k=
 (cl P (G K) 9 [(E2.get t 1)] H fun v2 H2=>
 extractV v2 0 fun v4=>
 extractV v2 1 fun v5=>
 Hp.new H2 (.cells (some 27) false [(.int .i64 0),(.int .i64 0),(.int .i64 0),(.str []),(.int .i64 0),(.int .i64 0),(.int .i64 0),(.int .i64 0),(.int .i64 0),(.int .i64 0)]) fun b6 H6=>
 storeK P H6 27 (.ptr b6 0) v4 fun H7=>
 binK P .neq 30 true v5 (.int .i64 0) fun v10=>
 condV v10 (fun _=>
 cl P (G K) 6 [] H7 fun v11 H11=>
 k .ret ⟨(es t [(43,(E2.get t 1)),(44,v2),(42,v2),(45,v4),(46,v5),(9,(.ptr b6 0)),(10,v5),(47,v5),(48,v10),(49,v11),(4,v11)]),dm⟩ H11) (fun _=>
 loadK P (G K) H7 27 (.ptr b6 0) fun v13=>
 cl P (G K) 8 [v13] H7 fun v14 H14=>
 extractV v14 0 fun v16=>
 extractV v14 1 fun v17=>
 cd P (G K) 192 65 (subC 4 [1,1,1,1,1,1,1,0]) ro ⟨(es t [(43,(E2.get t 1)),(44,v2),(42,v2),(45,v4),(46,v5),(9,(.ptr b6 0)),(10,v5),(47,v5),(48,v10),(51,v13),(52,v14),(50,v14),(53,v16),(54,v17),(11,v16),(12,v17)]),dm⟩ H14 fun x e H=>isNormal x (fun _=>cd P (G K) 192 65 (subC 4 [1,1,1,1,1,1,1,1]) ro e H fun x e H=>k x e H) (fun x=>k x e H))):=of_fun fun f=>by kernel_rfl
theorem h4_6 (dm:List Dm) (ro:Option Nat) (H:Hp) (k:AEx→En→Hp→Bool):∀(t:E2),cd P (G K) 192 65 (subC 4 [1,1,1,0,1,0,1,0]) ro ⟨t,dm⟩ H k=
 (binK P .neq 30 true (E2.get t 8) (.int .i64 0) fun v2=>
 gJoin (boolIs false v2) (fun v4 H4=>
 gJoin (boolIs false v2) (fun v5 H5=>
 gJoin (boolIs false v2) (fun v6 H6=>
 pickV v2 (.bool true) v6 fun v7=>
 k .normal ⟨(es t [(35,(E2.get t 8)),(36,v2),(37,v2),(38,v4),(39,v5),(40,v6),(41,v7)]),dm⟩ H6) (fun r6=>binK P .neq 27 false v4 v5 fun v8=>
 r6 v8 H5) H5) (fun r5=>loadK P (G K) H4 27 (E2.get t 2) fun v9=>
 r5 v9 H4) H4) (fun r4=>loadK P (G K) H 27 (E2.get t 7) fun v10=>
 r4 v10 H) H):=of_fun fun f=>by kernel_rfl
theorem h4_7 (dm:List Dm) (ro:Option Nat) (H:Hp) (k:AEx→En→Hp→Bool):∀(t:E2),cd P (G K) 192 65 (subC 4 [1,1,1,0,1,0,1,1]) ro ⟨t,dm⟩ H k=
 (condV (E2.get t 41) (fun _=>
 k .ret ⟨(es t [(4,(.bool false))]),dm⟩ H) (fun _=>
 k .normal ⟨t,dm⟩ H)):=of_fun fun f=>by kernel_rfl
theorem h4_8 (dm:List Dm) (ro:Option Nat) (H:Hp) (k:AEx→En→Hp→Bool):∀(t:E2),cd P (G K) 192 65 (subC 4 [1,1,1,1,1,1,1,0]) ro ⟨t,dm⟩ H k=
 (cl P (G K) 6 [] H fun v1 H1=>
 gJoin (boolIs true v1) (fun v3 H3=>
 gJoin (boolIs true v1) (fun v4 H4=>
 pickV v1 v4 (.bool false) fun v5=>
 gJoin (boolIs true v5) (fun v7 H7=>
 gJoin (boolIs true v5) (fun v8 H8=>
 gJoin (boolIs true v5) (fun v9 H9=>
 pickV v5 v9 (.bool false) fun v10=>
 k .normal ⟨(es t [(55,v1),(56,v1),(57,v3),(58,v4),(59,v5),(60,v5),(61,v7),(62,v8),(63,v9),(64,v10),(4,v10)]),dm⟩ H9) (fun r9=>binK P .eql 9 false v7 v8 fun v12=>
 r9 v12 H8) H8) (fun r8=>r8 (E2.get t 1) H7) H7) (fun r7=>r7 (E2.get t 11) H4) H4) (fun r4=>binK P .eql 30 true v3 (.int .i64 0) fun v15=>
 r4 v15 H3) H3) (fun r3=>r3 (E2.get t 12) H1) H1):=of_fun fun f=>by kernel_rfl
theorem h4_9 (dm:List Dm) (ro:Option Nat) (H:Hp) (k:AEx→En→Hp→Bool):∀(t:E2),cd P (G K) 192 65 (subC 4 [1,1,1,1,1,1,1,1]) ro ⟨t,dm⟩ H k=
 (k .ret ⟨t,dm⟩ H):=of_fun fun f=>by kernel_rfl
theorem h7 (a0:AV) (H:Hp) (k:AEnd→Hp→Bool):callBody P (G K) ⟨cd P (G K) 200,callS P (G K)⟩ 7 [a0] H k=
 (let n0:AEx→En→Hp→Bool:=fun x e H=>bodyEnd P (G K) Tryz.f7 ⟨cd P (G K) 200,callS P (G K)⟩ k x e H;
 Hp.new H (.cells (some 27) false (AV.cells a0)) fun b1 H1=>
 ptrPlus (.ptr b1 0) 0 fun v3=>
 loadK P (G K) H1 3 v3 fun v4=>
 ptrPlus (.ptr b1 0) 1 fun v5=>
 loadK P (G K) H1 3 v5 fun v6=>
 buildK P 27 [(0,v4),(1,v6)] fun v7=>
 Hp.new H1 (.cells (some 27) false [(.int .i64 0),(.int .i64 0),(.int .i64 0),(.str []),(.int .i64 0),(.int .i64 0),(.int .i64 0),(.int .i64 0),(.int .i64 0),(.int .i64 0)]) fun b8 H8=>
 storeK P H8 27 (.ptr b8 0) v7 fun H9=>
 ptrPlus (.ptr b1 0) 1 fun v10=>
 loadK P (G K) H9 3 v10 fun v11=>
 cl P (G K) 21 [v11] H9 fun v12 H12=>
 ptrPlus (.ptr b1 0) 2 fun v14=>
 loadK P (G K) H12 3 v14 fun v15=>
 cl P (G K) 22 [v15,(.int .i64 1),(.int .i64 1099511627776)] H12 fun v16 H16=>
 ptrPlus (.ptr b1 0) 3 fun v18=>
 loadK P (G K) H16 9 v18 fun v19=>
 cl P (G K) 23 [v19] H16 fun v20 H20=>
 cd P (G K) 194 150 (subC 7 [1,1,1,1,1,0]) none ⟨(es E2.empty [(0,a0),(1,(.ptr b1 0)),(2,(.bool false)),(7,v3),(8,v4),(9,v5),(10,v6),(11,v7),(3,(.ptr b8 0)),(12,v10),(13,v11),(14,v12),(4,v12),(15,v14),(16,v15),(17,v16),(5,v16),(18,v18),(19,v19),(20,v20),(6,v20)]),[]⟩ H20 fun x e H=>isNormal x (fun _=>cd P (G K) 194 150 (subC 7 [1,1,1,1,1,1]) none e H fun x e H=>n0 x e H) (fun x=>n0 x e H)):=by kernel_rfl
theorem r7 (t:E2) (H:Hp) (k:AEnd→Hp→Bool) (i:Evs):bodyEnd P (G K) Tryz.f7 i k .ret ⟨t,[]⟩ H=k (.ret (E2.get t 2)) H:=by kernel_rfl
theorem h7_0 (dm:List Dm) (ro:Option Nat) (H:Hp) (k:AEx→En→Hp→Bool):∀(t:E2),cd P (G K) 194 150 (subC 7 [1,1,1,1,1,0]) ro ⟨t,dm⟩ H k=
 (ptrPlus (E2.get t 1) 0 fun v1=>
 loadK P (G K) H 3 v1 fun v2=>
 binK P .eql 3 true v2 (.int .i64 1) fun v3=>
 condV v3 (fun _=>
 ptrPlus (E2.get t 1) 2 fun v5=>
 loadK P (G K) H 3 v5 fun v6=>
 ptrPlus (E2.get t 3) 2 fun v7=>
 storeK P H 3 v7 v6 fun H8=>
 gJoin (boolIs true (E2.get t 4)) (fun v11 H11=>
 pickV (E2.get t 4) v11 (.bool false) fun v12=>
 k .normal ⟨(es t [(21,v1),(22,v2),(24,v3),(23,v3),(25,v5),(26,v6),(27,v7),(28,(E2.get t 4)),(29,(E2.get t 4)),(30,v11),(31,v12),(4,v12)]),dm⟩ H11) (fun r11=>r11 (E2.get t 5) H8) H8) (fun _=>
 let n15:AEx→En→Hp→Bool:=fun x e H=>isNormal x (fun _=>cd P (G K) 189 150 (subC 7 [1,1,1,1,1,0,1,0,1,1,1]) ro e H fun x e H=>isExit 0 x (fun _=>k .normal e H) (fun x=>k x e H)) (fun x=>isExit 0 x (fun _=>k .normal e H) (fun x=>k x e H));
 binK P .eql 3 true v2 (.int .i64 2) fun v16=>
 condV v16 (fun _=>
 n15 .normal ⟨(es t [(21,v1),(22,v2),(24,v3),(23,v3),(33,v16),(32,v16)]),dm⟩ H) (fun _=>
 binK P .eql 3 true v2 (.int .i64 3) fun v18=>
 condV v18 (fun _=>
 n15 .normal ⟨(es t [(21,v1),(22,v2),(24,v3),(23,v3),(33,v16),(34,v18),(32,v18)]),dm⟩ H) (fun _=>
 binK P .eql 3 true v2 (.int .i64 4) fun v20=>
 n15 .normal ⟨(es t [(21,v1),(22,v2),(24,v3),(23,v3),(33,v16),(34,v18),(35,v20),(32,v20)]),dm⟩ H)))):=of_fun fun f=>by kernel_rfl
theorem h7_1 (dm:List Dm) (ro:Option Nat) (H:Hp) (k:AEx→En→Hp→Bool):∀(t:E2),cd P (G K) 194 150 (subC 7 [1,1,1,1,1,1]) ro ⟨t,dm⟩ H k=
 (cd P (G K) 193 150 (subC 7 [1,1,1,1,1,1,0]) ro ⟨t,dm⟩ H fun x e H=>isNormal x (fun _=>cd P (G K) 193 150 (subC 7 [1,1,1,1,1,1,1]) ro e H fun x e H=>k x e H) (fun x=>k x e H)):=of_fun fun f=>by kernel_rfl
theorem h7_2 (dm:List Dm) (ro:Option Nat) (H:Hp) (k:AEx→En→Hp→Bool):∀(t:E2),cd P (G K) 189 150 (subC 7 [1,1,1,1,1,0,1,0,1,1,1]) ro ⟨t,dm⟩ H k=
 (condV (E2.get t 32) (fun _=>
 ptrPlus (E2.get t 1) 2 fun v1=>
 loadK P (G K) H 3 v1 fun v2=>
 ptrPlus (E2.get t 3) 2 fun v3=>
 storeK P H 3 v3 v2 fun H4=>
 ptrPlus (E2.get t 1) 3 fun v5=>
 loadK P (G K) H4 9 v5 fun v6=>
 ptrPlus (E2.get t 3) 3 fun v7=>
 storeK P H4 9 v7 v6 fun H8=>
 gJoin (boolIs true (E2.get t 4)) (fun v11 H11=>
 pickV (E2.get t 4) v11 (.bool false) fun v12=>
 gJoin (boolIs true v12) (fun v14 H14=>
 pickV v12 v14 (.bool false) fun v15=>
 k .normal ⟨(es t [(36,v1),(37,v2),(38,v3),(39,v5),(40,v6),(41,v7),(42,(E2.get t 4)),(43,(E2.get t 4)),(44,v11),(45,v12),(46,v12),(47,v14),(48,v15),(4,v15)]),dm⟩ H14) (fun r14=>r14 (E2.get t 6) H11) H11) (fun r11=>r11 (E2.get t 5) H8) H8) (fun _=>
 binK P .eql 3 true (E2.get t 22) (.int .i64 5) fun v19=>
 condV v19 (fun _=>
 ptrPlus (E2.get t 1) 2 fun v21=>
 loadK P (G K) H 3 v21 fun v22=>
 ptrPlus (E2.get t 3) 2 fun v23=>
 storeK P H 3 v23 v22 fun H24=>
 ptrPlus (E2.get t 1) 3 fun v25=>
 loadK P (G K) H24 9 v25 fun v26=>
 ptrPlus (E2.get t 3) 3 fun v27=>
 storeK P H24 9 v27 v26 fun H28=>
 ptrPlus (E2.get t 1) 4 fun v29=>
 loadK P (G K) H28 23 v29 fun v30=>
 ptrPlus (E2.get t 3) 4 fun v31=>
 storeK P H28 23 v31 v30 fun H32=>
 gJoin (boolIs true (E2.get t 4)) (fun v35 H35=>
 pickV (E2.get t 4) v35 (.bool false) fun v36=>
 gJoin (boolIs true v36) (fun v38 H38=>
 pickV v36 v38 (.bool false) fun v39=>
 gJoin (boolIs true v39) (fun v41 H41=>
 gJoin (boolIs true v39) (fun v42 H42=>
 gJoin (boolIs true v39) (fun v43 H43=>
 gJoin (boolIs true v39) (fun v44 H44=>
 pickV v39 v44 (.bool false) fun v45=>
 gJoin (boolIs true v45) (fun v47 H47=>
 gJoin (boolIs true v45) (fun v48 H48=>
 gJoin (boolIs true v45) (fun v49 H49=>
 gJoin (boolIs true v45) (fun v50 H50=>
 pickV v45 v50 (.bool false) fun v51=>
 gJoin (boolIs true v51) (fun v53 H53=>
 gJoin (boolIs true v51) (fun v54 H54=>
 gJoin (boolIs true v51) (fun v55 H55=>
 gJoin (boolIs true v51) (fun v56 H56=>
 gJoin (boolIs true v51) (fun v57 H57=>
 gJoin (boolIs true v51) (fun v58 H58=>
 gJoin (boolIs true v51) (fun v59 H59=>
 pickV v51 v59 (.bool false) fun v60=>
 k .normal ⟨(es t [(50,v19),(49,v19),(51,v21),(52,v22),(53,v23),(54,v25),(55,v26),(56,v27),(57,v29),(58,v30),(59,v31),(60,(E2.get t 4)),(61,(E2.get t 4)),(62,v35),(63,v36),(64,v36),(65,v38),(66,v39),(67,v39),(68,v41),(69,v42),(70,v43),(71,v44),(72,v45),(73,v45),(74,v47),(75,v48),(76,v49),(77,v50),(78,v51),(79,v51),(80,v53),(81,v54),(82,v55),(83,v56),(84,v57),(85,v58),(86,v59),(87,v60),(4,v60)]),dm⟩ H59) (fun r59=>binK P .leq 3 false v55 v58 fun v62=>
 r59 v62 H58) H58) (fun r58=>loadK P (G K) H57 3 v57 fun v63=>
 r58 v63 H57) H57) (fun r57=>ptrPlus v56 1 fun v64=>
 r57 v64 H56) H56) (fun r56=>ptrPlus (E2.get t 1) 4 fun v65=>
 r56 v65 H55) H55) (fun r55=>loadK P (G K) H54 3 v54 fun v66=>
 r55 v66 H54) H54) (fun r54=>ptrPlus v53 0 fun v67=>
 r54 v67 H53) H53) (fun r53=>ptrPlus (E2.get t 1) 4 fun v68=>
 r53 v68 H50) H50) (fun r50=>cl P (G K) 21 [v49] H49 fun v69 H69=>
 r50 v69 H69) H49) (fun r49=>loadK P (G K) H48 3 v48 fun v70=>
 r49 v70 H48) H48) (fun r48=>ptrPlus v47 1 fun v71=>
 r48 v71 H47) H47) (fun r47=>ptrPlus (E2.get t 1) 4 fun v72=>
 r47 v72 H44) H44) (fun r44=>cl P (G K) 21 [v43] H43 fun v73 H73=>
 r44 v73 H73) H43) (fun r43=>loadK P (G K) H42 3 v42 fun v74=>
 r43 v74 H42) H42) (fun r42=>ptrPlus v41 0 fun v75=>
 r42 v75 H41) H41) (fun r41=>ptrPlus (E2.get t 1) 4 fun v76=>
 r41 v76 H38) H38) (fun r38=>r38 (E2.get t 6) H35) H35) (fun r35=>r35 (E2.get t 5) H32) H32) (fun _=>
 binK P .eql 3 true (E2.get t 22) (.int .i64 6) fun v79=>
 condV v79 (fun _=>
 ptrPlus (E2.get t 1) 6 fun v81=>
 loadK P (G K) H 3 v81 fun v82=>
 ptrPlus (E2.get t 3) 6 fun v83=>
 storeK P H 3 v83 v82 fun H84=>
 ptrPlus (E2.get t 1) 4 fun v85=>
 loadK P (G K) H84 23 v85 fun v86=>
 ptrPlus (E2.get t 3) 4 fun v87=>
 storeK P H84 23 v87 v86 fun H88=>
 gJoin (boolIs true (E2.get t 4)) (fun v91 H91=>
 gJoin (boolIs true (E2.get t 4)) (fun v92 H92=>
 gJoin (boolIs true (E2.get t 4)) (fun v93 H93=>
 pickV (E2.get t 4) v93 (.bool false) fun v94=>
 gJoin (boolIs true v94) (fun v96 H96=>
 gJoin (boolIs true v94) (fun v97 H97=>
 gJoin (boolIs true v94) (fun v98 H98=>
 pickV v94 v98 (.bool false) fun v99=>
 k .normal ⟨(es t [(50,v19),(49,v19),(89,v79),(88,v79),(90,v81),(91,v82),(92,v83),(93,v85),(94,v86),(95,v87),(96,(E2.get t 4)),(97,(E2.get t 4)),(98,v91),(99,v92),(100,v93),(101,v94),(102,v94),(103,v96),(104,v97),(105,v98),(106,v99),(4,v99)]),dm⟩ H98) (fun r98=>cl P (G K) 25 [v97] H97 fun v101 H101=>
 r98 v101 H101) H97) (fun r97=>loadK P (G K) H96 23 v96 fun v102=>
 r97 v102 H96) H96) (fun r96=>ptrPlus (E2.get t 1) 4 fun v103=>
 r96 v103 H93) H93) (fun r93=>cl P (G K) 24 [v92] H92 fun v104 H104=>
 r93 v104 H104) H92) (fun r92=>loadK P (G K) H91 3 v91 fun v105=>
 r92 v105 H91) H91) (fun r91=>ptrPlus (E2.get t 1) 6 fun v106=>
 r91 v106 H88) H88) (fun _=>
 binK P .eql 3 true (E2.get t 22) (.int .i64 7) fun v107=>
 condV v107 (fun _=>
 ptrPlus (E2.get t 1) 7 fun v109=>
 loadK P (G K) H 3 v109 fun v110=>
 ptrPlus (E2.get t 3) 7 fun v111=>
 storeK P H 3 v111 v110 fun H112=>
 ptrPlus (E2.get t 1) 4 fun v113=>
 loadK P (G K) H112 23 v113 fun v114=>
 ptrPlus (E2.get t 3) 4 fun v115=>
 storeK P H112 23 v115 v114 fun H116=>
 gJoin (boolIs true (E2.get t 4)) (fun v119 H119=>
 gJoin (boolIs true (E2.get t 4)) (fun v120 H120=>
 gJoin (boolIs true (E2.get t 4)) (fun v121 H121=>
 pickV (E2.get t 4) v121 (.bool false) fun v122=>
 gJoin (boolIs true v122) (fun v124 H124=>
 gJoin (boolIs true v122) (fun v125 H125=>
 gJoin (boolIs true v122) (fun v126 H126=>
 pickV v122 v126 (.bool false) fun v127=>
 k .normal ⟨(es t [(50,v19),(49,v19),(89,v79),(88,v79),(108,v107),(107,v107),(109,v109),(110,v110),(111,v111),(112,v113),(113,v114),(114,v115),(115,(E2.get t 4)),(116,(E2.get t 4)),(117,v119),(118,v120),(119,v121),(120,v122),(121,v122),(122,v124),(123,v125),(124,v126),(125,v127),(4,v127)]),dm⟩ H126) (fun r126=>cl P (G K) 25 [v125] H125 fun v129 H129=>
 r126 v129 H129) H125) (fun r125=>loadK P (G K) H124 23 v124 fun v130=>
 r125 v130 H124) H124) (fun r124=>ptrPlus (E2.get t 1) 4 fun v131=>
 r124 v131 H121) H121) (fun r121=>cl P (G K) 21 [v120] H120 fun v132 H132=>
 r121 v132 H132) H120) (fun r120=>loadK P (G K) H119 3 v119 fun v133=>
 r120 v133 H119) H119) (fun r119=>ptrPlus (E2.get t 1) 7 fun v134=>
 r119 v134 H116) H116) (fun _=>
 binK P .eql 3 true (E2.get t 22) (.int .i64 8) fun v135=>
 condV v135 (fun _=>
 ptrPlus (E2.get t 1) 8 fun v137=>
 loadK P (G K) H 25 v137 fun v138=>
 ptrPlus (E2.get t 3) 8 fun v139=>
 storeK P H 25 v139 v138 fun H140=>
 gJoin (boolIs true (E2.get t 4)) (fun v143 H143=>
 gJoin (boolIs true (E2.get t 4)) (fun v144 H144=>
 gJoin (boolIs true (E2.get t 4)) (fun v145 H145=>
 gJoin (boolIs true (E2.get t 4)) (fun v146 H146=>
 pickV (E2.get t 4) v146 (.bool false) fun v147=>
 gJoin (boolIs true v147) (fun v149 H149=>
 gJoin (boolIs true v147) (fun v150 H150=>
 gJoin (boolIs true v147) (fun v151 H151=>
 gJoin (boolIs true v147) (fun v152 H152=>
 pickV v147 v152 (.bool false) fun v153=>
 k .normal ⟨(es t [(50,v19),(49,v19),(89,v79),(88,v79),(108,v107),(107,v107),(127,v135),(126,v135),(128,v137),(129,v138),(130,v139),(131,(E2.get t 4)),(132,(E2.get t 4)),(133,v143),(134,v144),(135,v145),(136,v146),(137,v147),(138,v147),(139,v149),(140,v150),(141,v151),(142,v152),(143,v153),(4,v153)]),dm⟩ H152) (fun r152=>cl P (G K) 22 [v151,(.int .i64 1),(.int .i64 60)] H151 fun v155 H155=>
 r152 v155 H155) H151) (fun r151=>loadK P (G K) H150 3 v150 fun v156=>
 r151 v156 H150) H150) (fun r150=>ptrPlus v149 1 fun v157=>
 r150 v157 H149) H149) (fun r149=>ptrPlus (E2.get t 1) 8 fun v158=>
 r149 v158 H146) H146) (fun r146=>cl P (G K) 22 [v145,(.int .i64 1),(.int .i64 8)] H145 fun v159 H159=>
 r146 v159 H159) H145) (fun r145=>loadK P (G K) H144 3 v144 fun v160=>
 r145 v160 H144) H144) (fun r144=>ptrPlus v143 0 fun v161=>
 r144 v161 H143) H143) (fun r143=>ptrPlus (E2.get t 1) 8 fun v162=>
 r143 v162 H140) H140) (fun _=>
 k .ret ⟨(es t [(50,v19),(49,v19),(89,v79),(88,v79),(108,v107),(107,v107),(127,v135),(126,v135),(2,(.bool false))]),dm⟩ H)))))):=of_fun fun f=>by kernel_rfl
theorem h7_3 (dm:List Dm) (ro:Option Nat) (H:Hp) (k:AEx→En→Hp→Bool):∀(t:E2),cd P (G K) 193 150 (subC 7 [1,1,1,1,1,1,0]) ro ⟨t,dm⟩ H k=
 (gJoin (boolIs true (E2.get t 4)) (fun v3 H3=>
 gJoin (boolIs true (E2.get t 4)) (fun v4 H4=>
 gJoin (boolIs true (E2.get t 4)) (fun v5 H5=>
 pickV (E2.get t 4) v5 (.bool false) fun v6=>
 k .normal ⟨(es t [(144,(E2.get t 4)),(145,(E2.get t 4)),(146,v3),(147,v4),(148,v5),(149,v6),(2,v6)]),dm⟩ H5) (fun r5=>binK P .eql 27 false v3 v4 fun v8=>
 r5 v8 H4) H4) (fun r4=>loadK P (G K) H3 27 (E2.get t 3) fun v9=>
 r4 v9 H3) H3) (fun r3=>loadK P (G K) H 27 (E2.get t 1) fun v10=>
 r3 v10 H) H):=of_fun fun f=>by kernel_rfl
theorem h7_4 (dm:List Dm) (ro:Option Nat) (H:Hp) (k:AEx→En→Hp→Bool):∀(t:E2),cd P (G K) 193 150 (subC 7 [1,1,1,1,1,1,1]) ro ⟨t,dm⟩ H k=
 (k .ret ⟨t,dm⟩ H):=of_fun fun f=>by kernel_rfl
theorem h8 (a0:AV) (H:Hp) (k:AEnd→Hp→Bool):callBody P (G K) ⟨cd P (G K) 200,callS P (G K)⟩ 8 [a0] H k=
 (let n0:AEx→En→Hp→Bool:=fun x e H=>bodyEnd P (G K) Tryz.f8 ⟨cd P (G K) 200,callS P (G K)⟩ k x e H;
 Hp.new H (.cells (some 27) false (AV.cells a0)) fun b1 H1=>
 loadK P (G K) H1 27 (.ptr b1 0) fun v4=>
 cl P (G K) 11 [v4] H1 fun v5 H5=>
 binK P .neq 30 true v5 (.int .i64 0) fun v8=>
 condV v8 (fun _=>
 k (.ret (.tup [(.str []),v5])) H5) (fun _=>
 ptrPlus (.ptr b1 0) 0 fun v12=>
 loadK P (G K) H5 3 v12 fun v13=>
 ptrPlus (.ptr b1 0) 1 fun v14=>
 loadK P (G K) H5 3 v14 fun v15=>
 layAnc 0 [] H5 fun Q17 H17=>cl P (G K) 26 [] H17 fun v16 H16=>
 Bool.casesOn (recheck 0 ((6,fun H'=>loadK P (G K) H' 3 v14 fun v'=>avSame 1000 v15 v')::((2,fun H'=>loadK P (G K) H' 3 v12 fun v'=>avSame 1000 v13 v')::[])) H16) false (indexAtK P 58 v16 v13 fun v18=>
 loadK P (G K) H16 9 v18 fun v19=>
 layAnc 97 Q17 H16 fun Q21 H21=>cl P (G K) 27 [v15] H21 fun v20 H20=>
 Bool.casesOn (recheck 97 ((4,fun H'=>loadK P (G K) H' 9 v18 fun v'=>avSame 1000 v19 v')::((6,fun H'=>loadK P (G K) H' 3 v14 fun v'=>avSame 1000 v15 v')::((2,fun H'=>loadK P (G K) H' 3 v12 fun v'=>avSame 1000 v13 v')::[]))) H20) false (buildSliceK P 58 2 [(0,v19),(1,v20)] fun k22 r22=>Hp.reserve H20 fun b22 H22=>
 layAll ((8,b22,k22)::Q21) H22 fun H24=>
 let n25:AEx→En→Hp→Bool:=fun x e H=>isNormal x (fun _=>cd P (G K) 196 92 (subC 8 [1,1,1,1]) none e H fun x e H=>n0 x e H) (fun x=>n0 x e H);
 ptrPlus (.ptr b1 0) 0 fun v26=>
 loadK P (G K) H24 3 v26 fun v27=>
 binK P .eql 3 true v27 (.int .i64 1) fun v28=>
 condV v28 (fun _=>
 ptrPlus (.ptr b1 0) 2 fun v31=>
 loadK P (G K) H24 3 v31 fun v32=>
 cl P (G K) 27 [v32] H24 fun v33 H33=>
 buildSliceK P 58 1 [(0,v33)] fun k34 r34=>Hp.new H33 k34 fun b34 H34=>
 appendK P H34 58 58 (r22 b22) (r34 b34) fun v35 H35=>
 n25 .normal ⟨(es E2.empty [(0,a0),(1,(.ptr b1 0)),(2,(.str [])),(3,(.int .i64 0)),(6,v4),(7,v5),(4,v5),(8,v5),(9,v8),(12,v12),(13,v13),(16,v14),(17,v15),(11,v16),(14,v18),(15,v19),(18,v20),(19,(r22 b22)),(20,v26),(21,v27),(23,v28),(22,v28),(24,(r22 b22)),(25,v31),(26,v32),(27,v33),(28,(r34 b34)),(29,v35),(5,v35)]),[]⟩ H35) (fun _=>
 let n37:AEx→En→Hp→Bool:=fun x e H=>isNormal x (fun _=>cd P (G K) 191 92 (subC 8 [1,1,1,0,1,0,1,1,1]) none e H fun x e H=>isExit 0 x (fun _=>n25 .normal e H) (fun x=>n25 x e H)) (fun x=>isExit 0 x (fun _=>n25 .normal e H) (fun x=>n25 x e H));
 binK P .eql 3 true v27 (.int .i64 2) fun v38=>
 condV v38 (fun _=>
 n37 .normal ⟨(es E2.empty [(0,a0),(1,(.ptr b1 0)),(2,(.str [])),(3,(.int .i64 0)),(6,v4),(7,v5),(4,v5),(8,v5),(9,v8),(12,v12),(13,v13),(16,v14),(17,v15),(11,v16),(14,v18),(15,v19),(18,v20),(19,(r22 b22)),(5,(r22 b22)),(20,v26),(21,v27),(23,v28),(22,v28),(31,v38),(30,v38)]),[]⟩ H24) (fun _=>
 binK P .eql 3 true v27 (.int .i64 3) fun v40=>
 condV v40 (fun _=>
 n37 .normal ⟨(es E2.empty [(0,a0),(1,(.ptr b1 0)),(2,(.str [])),(3,(.int .i64 0)),(6,v4),(7,v5),(4,v5),(8,v5),(9,v8),(12,v12),(13,v13),(16,v14),(17,v15),(11,v16),(14,v18),(15,v19),(18,v20),(19,(r22 b22)),(5,(r22 b22)),(20,v26),(21,v27),(23,v28),(22,v28),(31,v38),(32,v40),(30,v40)]),[]⟩ H24) (fun _=>
 binK P .eql 3 true v27 (.int .i64 4) fun v42=>
 n37 .normal ⟨(es E2.empty [(0,a0),(1,(.ptr b1 0)),(2,(.str [])),(3,(.int .i64 0)),(6,v4),(7,v5),(4,v5),(8,v5),(9,v8),(12,v12),(13,v13),(16,v14),(17,v15),(11,v16),(14,v18),(15,v19),(18,v20),(19,(r22 b22)),(5,(r22 b22)),(20,v26),(21,v27),(23,v28),(22,v28),(31,v38),(32,v40),(33,v42),(30,v42)]),[]⟩ H24))))))):=by kernel_rfl
theorem r8 (t:E2) (H:Hp) (k:AEnd→Hp→Bool) (i:Evs):bodyEnd P (G K) Tryz.f8 i k .ret ⟨t,[]⟩ H=k (.ret (.tup [(E2.get t 2),(E2.get t 3)])) H:=by kernel_rfl
theorem h8_0 (dm:List Dm) (ro:Option Nat) (H:Hp) (k:AEx→En→Hp→Bool):∀(t:E2),cd P (G K) 196 92 (subC 8 [1,1,1,1]) ro ⟨t,dm⟩ H k=
 (cl P (G K) 29 [(E2.get t 5),(.str [32])] H fun v2 H2=>
 k .ret ⟨(es t [(90,(E2.get t 5)),(91,v2),(2,v2),(3,(.int .i64 0))]),dm⟩ H2):=of_fun fun f=>by kernel_rfl
theorem h8_1 (dm:List Dm) (ro:Option Nat) (H:Hp) (k:AEx→En→Hp→Bool):∀(t:E2),cd P (G K) 191 92 (subC 8 [1,1,1,0,1,0,1,1,1]) ro ⟨t,dm⟩ H k=
 (condV (E2.get t 30) (fun _=>
 ptrPlus (E2.get t 1) 2 fun v2=>
 loadK P (G K) H 3 v2 fun v3=>
 ptrPlus (E2.get t 1) 3 fun v4=>
 loadK P (G K) H 9 v4 fun v5=>
 layAnc 6 [] H fun Q7 H7=>cl P (G K) 27 [v3] H7 fun v6 H6=>
 Bool.casesOn (recheck 6 ((5,fun H'=>loadK P (G K) H' 9 v4 fun v'=>avSame 1000 v5 v')::((2,fun H'=>loadK P (G K) H' 3 v2 fun v'=>avSame 1000 v3 v')::[])) H6) false (buildSliceK P 58 2 [(0,v6),(1,v5)] fun k8 r8=>Hp.reserve H6 fun b8 H8=>
 layAnc 127 ((6,b8,k8)::Q7) H8 fun Q10 H10=>appendK P H10 58 58 (E2.get t 5) (r8 b8) fun v9 H9=>
 Bool.casesOn (recheck 127 ((5,fun H'=>loadK P (G K) H' 9 v4 fun v'=>avSame 1000 v5 v')::((2,fun H'=>loadK P (G K) H' 3 v2 fun v'=>avSame 1000 v3 v')::[])) H9) false (layAll Q10 H9 fun H12=>
 k .normal ⟨(es t [(34,(E2.get t 5)),(35,v2),(36,v3),(38,v4),(39,v5),(37,v6),(40,(r8 b8)),(41,v9),(5,v9)]),dm⟩ H12))) (fun _=>
 binK P .eql 3 true (E2.get t 21) (.int .i64 5) fun v13=>
 condV v13 (fun _=>
 ptrPlus (E2.get t 1) 2 fun v16=>
 loadK P (G K) H 3 v16 fun v17=>
 ptrPlus (E2.get t 1) 3 fun v18=>
 loadK P (G K) H 9 v18 fun v19=>
 ptrPlus (E2.get t 1) 4 fun v20=>
 loadK P (G K) H 23 v20 fun v21=>
 layAnc 6 [] H fun Q23 H23=>cl P (G K) 27 [v17] H23 fun v22 H22=>
 Bool.casesOn (recheck 6 ((7,fun H'=>loadK P (G K) H' 23 v20 fun v'=>avSame 1000 v21 v')::((5,fun H'=>loadK P (G K) H' 9 v18 fun v'=>avSame 1000 v19 v')::((2,fun H'=>loadK P (G K) H' 3 v16 fun v'=>avSame 1000 v17 v')::[]))) H22) false (layAnc 206 Q23 H22 fun Q25 H25=>cl P (G K) 28 [v21] H25 fun v24 H24=>
 Bool.casesOn (recheck 206 ((7,fun H'=>loadK P (G K) H' 23 v20 fun v'=>avSame 1000 v21 v')::((5,fun H'=>loadK P (G K) H' 9 v18 fun v'=>avSame 1000 v19 v')::((2,fun H'=>loadK P (G K) H' 3 v16 fun v'=>avSame 1000 v17 v')::[]))) H24) false (buildSliceK P 58 3 [(0,v22),(1,v19),(2,v24)] fun k26 r26=>Hp.reserve H24 fun b26 H26=>
 layAnc 1023 ((9,b26,k26)::Q25) H26 fun Q28 H28=>appendK P H28 58 58 (E2.get t 5) (r26 b26) fun v27 H27=>
 Bool.casesOn (recheck 1023 ((7,fun H'=>loadK P (G K) H' 23 v20 fun v'=>avSame 1000 v21 v')::((5,fun H'=>loadK P (G K) H' 9 v18 fun v'=>avSame 1000 v19 v')::((2,fun H'=>loadK P (G K) H' 3 v16 fun v'=>avSame 1000 v17 v')::[]))) H27) false (layAll Q28 H27 fun H30=>
 k .normal ⟨(es t [(43,v13),(42,v13),(44,(E2.get t 5)),(45,v16),(46,v17),(48,v18),(49,v19),(50,v20),(51,v21),(47,v22),(52,v24),(53,(r26 b26)),(54,v27),(5,v27)]),dm⟩ H30)))) (fun _=>
 binK P .eql 3 true (E2.get t 21) (.int .i64 6) fun v31=>
 condV v31 (fun _=>
 ptrPlus (E2.get t 1) 6 fun v34=>
 loadK P (G K) H 3 v34 fun v35=>
 ptrPlus (E2.get t 1) 4 fun v36=>
 loadK P (G K) H 23 v36 fun v37=>
 layAnc 6 [] H fun Q39 H39=>cl P (G K) 27 [v35] H39 fun v38 H38=>
 Bool.casesOn (recheck 6 ((5,fun H'=>loadK P (G K) H' 23 v36 fun v'=>avSame 1000 v37 v')::((2,fun H'=>loadK P (G K) H' 3 v34 fun v'=>avSame 1000 v35 v')::[])) H38) false (layAnc 62 Q39 H38 fun Q41 H41=>cl P (G K) 28 [v37] H41 fun v40 H40=>
 Bool.casesOn (recheck 62 ((5,fun H'=>loadK P (G K) H' 23 v36 fun v'=>avSame 1000 v37 v')::((2,fun H'=>loadK P (G K) H' 3 v34 fun v'=>avSame 1000 v35 v')::[])) H40) false (buildSliceK P 58 2 [(0,v38),(1,v40)] fun k42 r42=>Hp.reserve H40 fun b42 H42=>
 layAnc 255 ((7,b42,k42)::Q41) H42 fun Q44 H44=>appendK P H44 58 58 (E2.get t 5) (r42 b42) fun v43 H43=>
 Bool.casesOn (recheck 255 ((5,fun H'=>loadK P (G K) H' 23 v36 fun v'=>avSame 1000 v37 v')::((2,fun H'=>loadK P (G K) H' 3 v34 fun v'=>avSame 1000 v35 v')::[])) H43) false (layAll Q44 H43 fun H46=>
 k .normal ⟨(es t [(43,v13),(42,v13),(56,v31),(55,v31),(57,(E2.get t 5)),(58,v34),(59,v35),(61,v36),(62,v37),(60,v38),(63,v40),(64,(r42 b42)),(65,v43),(5,v43)]),dm⟩ H46)))) (fun _=>
 binK P .eql 3 true (E2.get t 21) (.int .i64 7) fun v47=>
 condV v47 (fun _=>
 ptrPlus (E2.get t 1) 7 fun v50=>
 loadK P (G K) H 3 v50 fun v51=>
 ptrPlus (E2.get t 1) 4 fun v52=>
 loadK P (G K) H 23 v52 fun v53=>
 layAnc 6 [] H fun Q55 H55=>cl P (G K) 27 [v51] H55 fun v54 H54=>
 Bool.casesOn (recheck 6 ((5,fun H'=>loadK P (G K) H' 23 v52 fun v'=>avSame 1000 v53 v')::((2,fun H'=>loadK P (G K) H' 3 v50 fun v'=>avSame 1000 v51 v')::[])) H54) false (layAnc 62 Q55 H54 fun Q57 H57=>cl P (G K) 28 [v53] H57 fun v56 H56=>
 Bool.casesOn (recheck 62 ((5,fun H'=>loadK P (G K) H' 23 v52 fun v'=>avSame 1000 v53 v')::((2,fun H'=>loadK P (G K) H' 3 v50 fun v'=>avSame 1000 v51 v')::[])) H56) false (buildSliceK P 58 2 [(0,v54),(1,v56)] fun k58 r58=>Hp.reserve H56 fun b58 H58=>
 layAnc 255 ((7,b58,k58)::Q57) H58 fun Q60 H60=>appendK P H60 58 58 (E2.get t 5) (r58 b58) fun v59 H59=>
 Bool.casesOn (recheck 255 ((5,fun H'=>loadK P (G K) H' 23 v52 fun v'=>avSame 1000 v53 v')::((2,fun H'=>loadK P (G K) H' 3 v50 fun v'=>avSame 1000 v51 v')::[])) H59) false (layAll Q60 H59 fun H62=>
 k .normal ⟨(es t [(43,v13),(42,v13),(56,v31),(55,v31),(67,v47),(66,v47),(68,(E2.get t 5)),(69,v50),(70,v51),(72,v52),(73,v53),(71,v54),(74,v56),(75,(r58 b58)),(76,v59),(5,v59)]),dm⟩ H62)))) (fun _=>
 binK P .eql 3 true (E2.get t 21) (.int .i64 8) fun v63=>
 condV v63 (fun _=>
 ptrPlus (E2.get t 1) 8 fun v66=>
 ptrPlus v66 0 fun v67=>
 loadK P (G K) H 3 v67 fun v68=>
 ptrPlus (E2.get t 1) 8 fun v69=>
 ptrPlus v69 1 fun v70=>
 loadK P (G K) H 3 v70 fun v71=>
 layAnc 14 [] H fun Q73 H73=>cl P (G K) 27 [v68] H73 fun v72 H72=>
 Bool.casesOn (recheck 14 ((7,fun H'=>loadK P (G K) H' 3 v70 fun v'=>avSame 1000 v71 v')::((3,fun H'=>loadK P (G K) H' 3 v67 fun v'=>avSame 1000 v68 v')::[])) H72) false (layAnc 254 Q73 H72 fun Q75 H75=>cl P (G K) 27 [v71] H75 fun v74 H74=>
 Bool.casesOn (recheck 254 ((7,fun H'=>loadK P (G K) H' 3 v70 fun v'=>avSame 1000 v71 v')::((3,fun H'=>loadK P (G K) H' 3 v67 fun v'=>avSame 1000 v68 v')::[])) H74) false (buildSliceK P 58 2 [(0,v72),(1,v74)] fun k76 r76=>Hp.reserve H74 fun b76 H76=>
 layAnc 1023 ((9,b76,k76)::Q75) H76 fun Q78 H78=>appendK P H78 58 58 (E2.get t 5) (r76 b76) fun v77 H77=>
 Bool.casesOn (recheck 1023 ((7,fun H'=>loadK P (G K) H' 3 v70 fun v'=>avSame 1000 v71 v')::((3,fun H'=>loadK P (G K) H' 3 v67 fun v'=>avSame 1000 v68 v')::[])) H77) false (layAll Q78 H77 fun H80=>
 k .normal ⟨(es t [(43,v13),(42,v13),(56,v31),(55,v31),(67,v47),(66,v47),(78,v63),(77,v63),(79,(E2.get t 5)),(80,v66),(81,v67),(82,v68),(84,v69),(85,v70),(86,v71),(83,v72),(87,v74),(88,(r76 b76)),(89,v77),(5,v77)]),dm⟩ H80)))) (fun _=>
 k .normal ⟨(es t [(43,v13),(42,v13),(56,v31),(55,v31),(67,v47),(66,v47),(78,v63),(77,v63)]),dm⟩ H)))))):=of_fun fun f=>by kernel_rfl
theorem h9 (a0:AV) (H:Hp) (k:AEnd→Hp→Bool):callBody P (G K) ⟨cd P (G K) 200,callS P (G K)⟩ 9 [a0] H k=
 (let n0:AEx→En→Hp→Bool:=fun x e H=>bodyEnd P (G K) Tryz.f9 ⟨cd P (G K) 200,callS P (G K)⟩ k x e H;
 Hp.new H (.cells (some 27) false [(.int .i64 0),(.int .i64 0),(.int .i64 0),(.str []),(.int .i64 0),(.int .i64 0),(.int .i64 0),(.int .i64 0),(.int .i64 0),(.int .i64 0)]) fun b1 H1=>
 cl P (G K) 30 [a0,(.str [32])] H1 fun v4 H4=>
 buildSliceK P 58 5 [(0,(.str [])),(1,(.str [])),(2,(.str [])),(3,(.str [])),(4,(.str []))] fun k5 r5=>Hp.new H4 k5 fun b5 H5=>
 appendK P H5 58 58 v4 (r5 b5) fun v6 H6=>
 indexAtK P 58 v6 (.int .i64 0) fun v9=>
 loadK P (G K) H6 9 v9 fun v10=>
 indexAtK P 58 v6 (.int .i64 1) fun v12=>
 loadK P (G K) H6 9 v12 fun v13=>
 Hp.reserve H6 fun b14 H14=>
 layAnc 0 ((11,b14,(.cells (some 27) false [(.int .i64 0),(.int .i64 0),(.int .i64 0),(.str []),(.int .i64 0),(.int .i64 0),(.int .i64 0),(.int .i64 0),(.int .i64 0),(.int .i64 0)]))::[]) H14 fun Q16 H16=>cl P (G K) 26 [] H16 fun v15 H15=>
 Bool.casesOn (recheck 0 ((8,fun H'=>loadK P (G K) H' 9 v12 fun v'=>avSame 1000 v13 v')::((3,fun H'=>loadK P (G K) H' 9 v9 fun v'=>avSame 1000 v10 v')::[])) H15) false (layAnc 15 Q16 H15 fun Q18 H18=>cl P (G K) 31 [v15,v10] H18 fun v17 H17=>
 Bool.casesOn (recheck 15 ((8,fun H'=>loadK P (G K) H' 9 v12 fun v'=>avSame 1000 v13 v')::((3,fun H'=>loadK P (G K) H' 9 v9 fun v'=>avSame 1000 v10 v')::[])) H17) false (minV true [(.int .i64 0),v17] fun v19=>
 layAnc 479 Q18 H17 fun Q21 H21=>cl P (G K) 32 [v13] H21 fun v20 H20=>
 Bool.casesOn (recheck 479 ((8,fun H'=>loadK P (G K) H' 9 v12 fun v'=>avSame 1000 v13 v')::((3,fun H'=>loadK P (G K) H' 9 v9 fun v'=>avSame 1000 v10 v')::[])) H20) false (buildK P 27 [(0,v19),(1,v20)] fun v22=>
 layAnc 4095 Q21 H20 fun Q24 H24=>storeK P H24 27 (.ptr b14 0) v22 fun H23=>
 Bool.casesOn (recheck 4095 ((8,fun H'=>loadK P (G K) H' 9 v12 fun v'=>avSame 1000 v13 v')::((3,fun H'=>loadK P (G K) H' 9 v9 fun v'=>avSame 1000 v10 v')::[])) H23) false (layAll Q24 H23 fun H25=>
 let n26:AEx→En→Hp→Bool:=fun x e H=>isNormal x (fun _=>cd P (G K) 196 111 (subC 9 [1,1,1,1]) none e H fun x e H=>n0 x e H) (fun x=>n0 x e H);
 ptrPlus (.ptr b14 0) 0 fun v27=>
 loadK P (G K) H25 3 v27 fun v28=>
 binK P .eql 3 true v28 (.int .i64 1) fun v29=>
 condV v29 (fun _=>
 indexAtK P 58 v6 (.int .i64 2) fun v32=>
 loadK P (G K) H25 9 v32 fun v33=>
 cl P (G K) 32 [v33] H25 fun v34 H34=>
 ptrPlus (.ptr b14 0) 2 fun v35=>
 storeK P H34 3 v35 v34 fun H36=>
 n26 .normal ⟨(es E2.empty [(0,a0),(2,(.ptr b1 0)),(3,(.int .i64 0)),(8,a0),(9,v4),(10,(r5 b5)),(11,v6),(4,v6),(13,v6),(14,v9),(15,v10),(18,v6),(19,v12),(20,v13),(5,(.ptr b14 0)),(12,v15),(16,v17),(17,v19),(21,v20),(22,v22),(23,v27),(24,v28),(26,v29),(25,v29),(27,v6),(28,v32),(29,v33),(30,v34),(31,v35)]),[]⟩ H36) (fun _=>
 let n37:AEx→En→Hp→Bool:=fun x e H=>isNormal x (fun _=>cd P (G K) 191 111 (subC 9 [1,1,1,0,1,0,1,1,1]) none e H fun x e H=>isExit 0 x (fun _=>n26 .normal e H) (fun x=>n26 x e H)) (fun x=>isExit 0 x (fun _=>n26 .normal e H) (fun x=>n26 x e H));
 binK P .eql 3 true v28 (.int .i64 2) fun v38=>
 condV v38 (fun _=>
 n37 .normal ⟨(es E2.empty [(0,a0),(2,(.ptr b1 0)),(3,(.int .i64 0)),(8,a0),(9,v4),(10,(r5 b5)),(11,v6),(4,v6),(13,v6),(14,v9),(15,v10),(18,v6),(19,v12),(20,v13),(5,(.ptr b14 0)),(12,v15),(16,v17),(17,v19),(21,v20),(22,v22),(23,v27),(24,v28),(26,v29),(25,v29),(33,v38),(32,v38)]),[]⟩ H25) (fun _=>
 binK P .eql 3 true v28 (.int .i64 3) fun v40=>
 condV v40 (fun _=>
 n37 .normal ⟨(es E2.empty [(0,a0),(2,(.ptr b1 0)),(3,(.int .i64 0)),(8,a0),(9,v4),(10,(r5 b5)),(11,v6),(4,v6),(13,v6),(14,v9),(15,v10),(18,v6),(19,v12),(20,v13),(5,(.ptr b14 0)),(12,v15),(16,v17),(17,v19),(21,v20),(22,v22),(23,v27),(24,v28),(26,v29),(25,v29),(33,v38),(34,v40),(32,v40)]),[]⟩ H25) (fun _=>
 binK P .eql 3 true v28 (.int .i64 4) fun v42=>
 n37 .normal ⟨(es E2.empty [(0,a0),(2,(.ptr b1 0)),(3,(.int .i64 0)),(8,a0),(9,v4),(10,(r5 b5)),(11,v6),(4,v6),(13,v6),(14,v9),(15,v10),(18,v6),(19,v12),(20,v13),(5,(.ptr b14 0)),(12,v15),(16,v17),(17,v19),(21,v20),(22,v22),(23,v27),(24,v28),(26,v29),(25,v29),(33,v38),(34,v40),(35,v42),(32,v42)]),[]⟩ H25)))))))):=by kernel_rfl
theorem r9 (H:Hp) (k:AEnd→Hp→Bool) (i:Evs):∀(t:E2),bodyEnd P (G K) Tryz.f9 i k .ret ⟨t,[]⟩ H=(loadK P (G K) H 27 (E2.get t 2) fun v0=>k (.ret (.tup [v0,(E2.get t 3)])) H):=of_fun fun f=>by kernel_rfl
theorem h9_0 (dm:List Dm) (ro:Option Nat) (H:Hp) (k:AEx→En→Hp→Bool):∀(t:E2),cd P (G K) 196 111 (subC 9 [1,1,1,1]) ro ⟨t,dm⟩ H k=
 (cd P (G K) 195 111 (subC 9 [1,1,1,1,0]) ro ⟨t,dm⟩ H fun x e H=>isNormal x (fun _=>cd P (G K) 195 111 (subC 9 [1,1,1,1,1]) ro e H fun x e H=>k x e H) (fun x=>k x e H)):=of_fun fun f=>by kernel_rfl
theorem h9_1 (dm:List Dm) (ro:Option Nat) (H:Hp) (k:AEx→En→Hp→Bool):∀(t:E2),cd P (G K) 191 111 (subC 9 [1,1,1,0,1,0,1,1,1]) ro ⟨t,dm⟩ H k=
 (condV (E2.get t 32) (fun _=>
 indexAtK P 58 (E2.get t 4) (.int .i64 2) fun v2=>
 loadK P (G K) H 9 v2 fun v3=>
 indexAtK P 58 (E2.get t 4) (.int .i64 3) fun v5=>
 loadK P (G K) H 9 v5 fun v6=>
 layAnc 7 [] H fun Q8 H8=>cl P (G K) 32 [v3] H8 fun v7 H7=>
 Bool.casesOn (recheck 7 ((6,fun H'=>loadK P (G K) H' 9 v5 fun v'=>avSame 1000 v6 v')::((2,fun H'=>loadK P (G K) H' 9 v2 fun v'=>avSame 1000 v3 v')::[])) H7) false (ptrPlus (E2.get t 5) 2 fun v9=>
 layAnc 143 Q8 H7 fun Q11 H11=>storeK P H11 3 v9 v7 fun H10=>
 Bool.casesOn (recheck 143 ((6,fun H'=>loadK P (G K) H' 9 v5 fun v'=>avSame 1000 v6 v')::((2,fun H'=>loadK P (G K) H' 9 v2 fun v'=>avSame 1000 v3 v')::[])) H10) false (ptrPlus (E2.get t 5) 3 fun v12=>
 layAnc 1023 Q11 H10 fun Q14 H14=>storeK P H14 9 v12 v6 fun H13=>
 Bool.casesOn (recheck 1023 ((6,fun H'=>loadK P (G K) H' 9 v5 fun v'=>avSame 1000 v6 v')::((2,fun H'=>loadK P (G K) H' 9 v2 fun v'=>avSame 1000 v3 v')::[])) H13) false (layAll Q14 H13 fun H15=>
 k .normal ⟨(es t [(36,(E2.get t 4)),(37,v2),(38,v3),(40,(E2.get t 4)),(41,v5),(42,v6),(39,v7),(43,v9),(44,v12)]),dm⟩ H15)))) (fun _=>
 binK P .eql 3 true (E2.get t 24) (.int .i64 5) fun v16=>
 condV v16 (fun _=>
 indexAtK P 58 (E2.get t 4) (.int .i64 2) fun v19=>
 loadK P (G K) H 9 v19 fun v20=>
 indexAtK P 58 (E2.get t 4) (.int .i64 3) fun v22=>
 loadK P (G K) H 9 v22 fun v23=>
 indexAtK P 58 (E2.get t 4) (.int .i64 4) fun v25=>
 loadK P (G K) H 9 v25 fun v26=>
 layAnc 7 [] H fun Q28 H28=>cl P (G K) 32 [v20] H28 fun v27 H27=>
 Bool.casesOn (recheck 7 ((9,fun H'=>loadK P (G K) H' 9 v25 fun v'=>avSame 1000 v26 v')::((6,fun H'=>loadK P (G K) H' 9 v22 fun v'=>avSame 1000 v23 v')::((2,fun H'=>loadK P (G K) H' 9 v19 fun v'=>avSame 1000 v20 v')::[]))) H27) false (ptrPlus (E2.get t 5) 2 fun v29=>
 layAnc 911 Q28 H27 fun Q31 H31=>cl P (G K) 33 [v26] H31 fun v30 H30=>
 Bool.casesOn (recheck 911 ((9,fun H'=>loadK P (G K) H' 9 v25 fun v'=>avSame 1000 v26 v')::((6,fun H'=>loadK P (G K) H' 9 v22 fun v'=>avSame 1000 v23 v')::((2,fun H'=>loadK P (G K) H' 9 v19 fun v'=>avSame 1000 v20 v')::[]))) H30) false (layAnc 3983 Q31 H30 fun Q33 H33=>storeK P H33 3 v29 v27 fun H32=>
 Bool.casesOn (recheck 3983 ((9,fun H'=>loadK P (G K) H' 9 v25 fun v'=>avSame 1000 v26 v')::((6,fun H'=>loadK P (G K) H' 9 v22 fun v'=>avSame 1000 v23 v')::((2,fun H'=>loadK P (G K) H' 9 v19 fun v'=>avSame 1000 v20 v')::[]))) H32) false (ptrPlus (E2.get t 5) 3 fun v34=>
 layAnc 16383 Q33 H32 fun Q36 H36=>storeK P H36 9 v34 v23 fun H35=>
 Bool.casesOn (recheck 16383 ((9,fun H'=>loadK P (G K) H' 9 v25 fun v'=>avSame 1000 v26 v')::((6,fun H'=>loadK P (G K) H' 9 v22 fun v'=>avSame 1000 v23 v')::((2,fun H'=>loadK P (G K) H' 9 v19 fun v'=>avSame 1000 v20 v')::[]))) H35) false (ptrPlus (E2.get t 5) 4 fun v37=>
 layAnc 65535 Q36 H35 fun Q39 H39=>storeK P H39 23 v37 v30 fun H38=>
 Bool.casesOn (recheck 65535 ((9,fun H'=>loadK P (G K) H' 9 v25 fun v'=>avSame 1000 v26 v')::((6,fun H'=>loadK P (G K) H' 9 v22 fun v'=>avSame 1000 v23 v')::((2,fun H'=>loadK P (G K) H' 9 v19 fun v'=>avSame 1000 v20 v')::[]))) H38) false (layAll Q39 H38 fun H40=>
 k .normal ⟨(es t [(46,v16),(45,v16),(47,(E2.get t 4)),(48,v19),(49,v20),(51,(E2.get t 4)),(52,v22),(53,v23),(54,(E2.get t 4)),(55,v25),(56,v26),(50,v27),(58,v29),(57,v30),(59,v34),(60,v37)]),dm⟩ H40)))))) (fun _=>
 binK P .eql 3 true (E2.get t 24) (.int .i64 6) fun v41=>
 condV v41 (fun _=>
 indexAtK P 58 (E2.get t 4) (.int .i64 2) fun v44=>
 loadK P (G K) H 9 v44 fun v45=>
 indexAtK P 58 (E2.get t 4) (.int .i64 3) fun v47=>
 loadK P (G K) H 9 v47 fun v48=>
 layAnc 7 [] H fun Q50 H50=>cl P (G K) 32 [v45] H50 fun v49 H49=>
 Bool.casesOn (recheck 7 ((6,fun H'=>loadK P (G K) H' 9 v47 fun v'=>avSame 1000 v48 v')::((2,fun H'=>loadK P (G K) H' 9 v44 fun v'=>avSame 1000 v45 v')::[])) H49) false (ptrPlus (E2.get t 5) 6 fun v51=>
 layAnc 127 Q50 H49 fun Q53 H53=>cl P (G K) 33 [v48] H53 fun v52 H52=>
 Bool.casesOn (recheck 127 ((6,fun H'=>loadK P (G K) H' 9 v47 fun v'=>avSame 1000 v48 v')::((2,fun H'=>loadK P (G K) H' 9 v44 fun v'=>avSame 1000 v45 v')::[])) H52) false (layAnc 511 Q53 H52 fun Q55 H55=>storeK P H55 3 v51 v49 fun H54=>
 Bool.casesOn (recheck 511 ((6,fun H'=>loadK P (G K) H' 9 v47 fun v'=>avSame 1000 v48 v')::((2,fun H'=>loadK P (G K) H' 9 v44 fun v'=>avSame 1000 v45 v')::[])) H54) false (ptrPlus (E2.get t 5) 4 fun v56=>
 layAnc 2047 Q55 H54 fun Q58 H58=>storeK P H58 23 v56 v52 fun H57=>
 Bool.casesOn (recheck 2047 ((6,fun H'=>loadK P (G K) H' 9 v47 fun v'=>avSame 1000 v48 v')::((2,fun H'=>loadK P (G K) H' 9 v44 fun v'=>avSame 1000 v45 v')::[])) H57) false (layAll Q58 H57 fun H59=>
 k .normal ⟨(es t [(46,v16),(45,v16),(62,v41),(61,v41),(63,(E2.get t 4)),(64,v44),(65,v45),(67,(E2.get t 4)),(68,v47),(69,v48),(66,v49),(71,v51),(70,v52),(72,v56)]),dm⟩ H59))))) (fun _=>
 binK P .eql 3 true (E2.get t 24) (.int .i64 7) fun v60=>
 condV v60 (fun _=>
 indexAtK P 58 (E2.get t 4) (.int .i64 2) fun v63=>
 loadK P (G K) H 9 v63 fun v64=>
 indexAtK P 58 (E2.get t 4) (.int .i64 3) fun v66=>
 loadK P (G K) H 9 v66 fun v67=>
 layAnc 7 [] H fun Q69 H69=>cl P (G K) 32 [v64] H69 fun v68 H68=>
 Bool.casesOn (recheck 7 ((6,fun H'=>loadK P (G K) H' 9 v66 fun v'=>avSame 1000 v67 v')::((2,fun H'=>loadK P (G K) H' 9 v63 fun v'=>avSame 1000 v64 v')::[])) H68) false (ptrPlus (E2.get t 5) 7 fun v70=>
 layAnc 127 Q69 H68 fun Q72 H72=>cl P (G K) 33 [v67] H72 fun v71 H71=>
 Bool.casesOn (recheck 127 ((6,fun H'=>loadK P (G K) H' 9 v66 fun v'=>avSame 1000 v67 v')::((2,fun H'=>loadK P (G K) H' 9 v63 fun v'=>avSame 1000 v64 v')::[])) H71) false (layAnc 511 Q72 H71 fun Q74 H74=>storeK P H74 3 v70 v68 fun H73=>
 Bool.casesOn (recheck 511 ((6,fun H'=>loadK P (G K) H' 9 v66 fun v'=>avSame 1000 v67 v')::((2,fun H'=>loadK P (G K) H' 9 v63 fun v'=>avSame 1000 v64 v')::[])) H73) false (ptrPlus (E2.get t 5) 4 fun v75=>
 layAnc 2047 Q74 H73 fun Q77 H77=>storeK P H77 23 v75 v71 fun H76=>
 Bool.casesOn (recheck 2047 ((6,fun H'=>loadK P (G K) H' 9 v66 fun v'=>avSame 1000 v67 v')::((2,fun H'=>loadK P (G K) H' 9 v63 fun v'=>avSame 1000 v64 v')::[])) H76) false (layAll Q77 H76 fun H78=>
 k .normal ⟨(es t [(46,v16),(45,v16),(62,v41),(61,v41),(74,v60),(73,v60),(75,(E2.get t 4)),(76,v63),(77,v64),(79,(E2.get t 4)),(80,v66),(81,v67),(78,v68),(83,v70),(82,v71),(84,v75)]),dm⟩ H78))))) (fun _=>
 binK P .eql 3 true (E2.get t 24) (.int .i64 8) fun v79=>
 condV v79 (fun _=>
 indexAtK P 58 (E2.get t 4) (.int .i64 2) fun v82=>
 loadK P (G K) H 9 v82 fun v83=>
 indexAtK P 58 (E2.get t 4) (.int .i64 3) fun v85=>
 loadK P (G K) H 9 v85 fun v86=>
 layAnc 7 [] H fun Q88 H88=>cl P (G K) 32 [v83] H88 fun v87 H87=>
 Bool.casesOn (recheck 7 ((6,fun H'=>loadK P (G K) H' 9 v85 fun v'=>avSame 1000 v86 v')::((2,fun H'=>loadK P (G K) H' 9 v82 fun v'=>avSame 1000 v83 v')::[])) H87) false (layAnc 127 Q88 H87 fun Q90 H90=>cl P (G K) 32 [v86] H90 fun v89 H89=>
 Bool.casesOn (recheck 127 ((6,fun H'=>loadK P (G K) H' 9 v85 fun v'=>avSame 1000 v86 v')::((2,fun H'=>loadK P (G K) H' 9 v82 fun v'=>avSame 1000 v83 v')::[])) H89) false (buildK P 25 [(0,v87),(1,v89)] fun v91=>
 ptrPlus (E2.get t 5) 8 fun v92=>
 layAnc 1023 Q90 H89 fun Q94 H94=>storeK P H94 25 v92 v91 fun H93=>
 Bool.casesOn (recheck 1023 ((6,fun H'=>loadK P (G K) H' 9 v85 fun v'=>avSame 1000 v86 v')::((2,fun H'=>loadK P (G K) H' 9 v82 fun v'=>avSame 1000 v83 v')::[])) H93) false (layAll Q94 H93 fun H95=>
 k .normal ⟨(es t [(46,v16),(45,v16),(62,v41),(61,v41),(74,v60),(73,v60),(86,v79),(85,v79),(87,(E2.get t 4)),(88,v82),(89,v83),(91,(E2.get t 4)),(92,v85),(93,v86),(90,v87),(94,v89),(95,v91),(96,v92)]),dm⟩ H95)))) (fun _=>
 k .normal ⟨(es t [(46,v16),(45,v16),(62,v41),(61,v41),(74,v60),(73,v60),(86,v79),(85,v79)]),dm⟩ H)))))):=of_fun fun f=>by kernel_rfl
theorem h9_2 (dm:List Dm) (ro:Option Nat) (H:Hp) (k:AEx→En→Hp→Bool):∀(t:E2),cd P (G K) 195 111 (subC 9 [1,1,1,1,0]) ro ⟨t,dm⟩ H k=
 (loadK P (G K) H 27 (E2.get t 5) fun v1=>
 cl P (G K) 8 [v1] H fun v2 H2=>
 extractV v2 0 fun v4=>
 extractV v2 1 fun v5=>
 cd P (G K) 193 111 (subC 9 [1,1,1,1,0,1,0]) ro ⟨(es t [(98,v1),(99,v2),(97,v2),(100,v4),(101,v5),(6,v4),(7,v5)]),dm⟩ H2 fun x e H=>isNormal x (fun _=>cd P (G K) 193 111 (subC 9 [1,1,1,1,0,1,1]) ro e H fun x e H=>k x e H) (fun x=>k x e H)):=of_fun fun f=>by kernel_rfl
theorem h9_3 (dm:List Dm) (ro:Option Nat) (H:Hp) (k:AEx→En→Hp→Bool):∀(t:E2),cd P (G K) 195 111 (subC 9 [1,1,1,1,1]) ro ⟨t,dm⟩ H k=
 (loadK P (G K) H 27 (E2.get t 5) fun v1=>
 storeK P H 27 (E2.get t 2) v1 fun H2=>
 k .ret ⟨(es t [(110,v1),(3,(.int .i64 0))]),dm⟩ H2):=of_fun fun f=>by kernel_rfl
theorem h9_4 (dm:List Dm) (ro:Option Nat) (H:Hp) (k:AEx→En→Hp→Bool):∀(t:E2),cd P (G K) 193 111 (subC 9 [1,1,1,1,0,1,0]) ro ⟨t,dm⟩ H k=
 (binK P .neq 30 true (E2.get t 7) (.int .i64 0) fun v2=>
 gJoin (boolIs false v2) (fun v4 H4=>
 gJoin (boolIs false v2) (fun v5 H5=>
 gJoin (boolIs false v2) (fun v6 H6=>
 pickV v2 (.bool true) v6 fun v7=>
 k .normal ⟨(es t [(102,(E2.get t 7)),(103,v2),(104,v2),(105,v4),(106,v5),(107,v6),(108,v7)]),dm⟩ H6) (fun r6=>binK P .neq 9 false v4 v5 fun v8=>
 r6 v8 H5) H5) (fun r5=>r5 (E2.get t 0) H4) H4) (fun r4=>r4 (E2.get t 6) H) H):=of_fun fun f=>by kernel_rfl
theorem h9_5 (dm:List Dm) (ro:Option Nat) (H:Hp) (k:AEx→En→Hp→Bool):∀(t:E2),cd P (G K) 193 111 (subC 9 [1,1,1,1,0,1,1]) ro ⟨t,dm⟩ H k=
 (condV (E2.get t 108) (fun _=>
 buildK P 27 [] fun v1=>
 storeK P H 27 (E2.get t 2) v1 fun H2=>
 k .ret ⟨(es t [(109,v1),(3,(.int .i64 7))]),dm⟩ H2) (fun _=>
 k .normal ⟨t,dm⟩ H)):=of_fun fun f=>by kernel_rfl
end
end Go.S9
