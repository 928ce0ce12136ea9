/- A part of the proof of TribunalBack. -/
import Derived.Test.YtmmghibnfjfnbaaGreatDoorBAd
set_option linter.unusedVariables false
set_option linter.unusedSimpArgs false
namespace Go.S9
open Go.Ev Go.Proofs
set_option maxRecDepth 1000000
set_option linter.unusedVariables false
noncomputable section
variable {K : GP}
theorem h10 (a0:AV) (H:Hp) (k:AEnd→Hp→Bool):callBody P (G K) ⟨cd P (G K) 200,callS P (G K)⟩ 10 [a0] H k=
 (let n0:AEx→En→Hp→Bool:=fun x e H=>bodyEnd P (G K) Tryz.f10 ⟨cd P (G K) 200,callS P (G K)⟩ k x e H;
 Hp.new H (.cells (some 27) false [(.int .i64 0),(.int .i64 0),(.int .i64 0),(.str []),(.int .i64 0),(.int .i64 0),(.int .i64 0),(.int .i64 0),(.int .i64 0),(.int .i64 0)]) fun b1 H1=>
 cl P (G K) 34 [a0,(.int .u8 32)] H1 fun v4 H4=>
 cl P (G K) 36 [v4,(.int .i64 1)] H4 fun v7 H7=>
 cl P (G K) 35 [v7] H7 fun v8 H8=>
 buildK P 27 [(1,v8)] fun v9=>
 Hp.new H8 (.cells (some 27) false [(.int .i64 0),(.int .i64 0),(.int .i64 0),(.str []),(.int .i64 0),(.int .i64 0),(.int .i64 0),(.int .i64 0),(.int .i64 0),(.int .i64 0)]) fun b10 H10=>
 storeK P H10 27 (.ptr b10 0) v9 fun H11=>
 cl P (G K) 36 [v4,(.int .i64 2)] H11 fun v13 H13=>
 cl P (G K) 36 [v4,(.int .i64 3)] H13 fun v16 H16=>
 let n18:AEx→En→Hp→Bool:=fun x e H=>isNormal x (fun _=>cd P (G K) 194 94 (subC 10 [1,1,1,1,1,1]) none e H fun x e H=>n0 x e H) (fun x=>n0 x e H);
 cl P (G K) 36 [v4,(.int .i64 0)] H16 fun v20 H20=>
 binK P .eql 9 true v20 (.str [118,101,114,100,105,99,116]) fun v21=>
 condV v21 (fun _=>
 ptrPlus (.ptr b10 0) 0 fun v23=>
 storeK P H20 3 v23 (.int .i64 1) fun H24=>
 cl P (G K) 35 [v13] H24 fun v26 H26=>
 ptrPlus (.ptr b10 0) 2 fun v27=>
 storeK P H26 3 v27 v26 fun H28=>
 n18 .normal ⟨(es E2.empty [(0,a0),(2,(.ptr b1 0)),(3,(.bool false)),(8,a0),(9,v4),(4,v4),(10,v4),(11,v7),(12,v8),(13,v9),(5,(.ptr b10 0)),(14,v4),(15,v13),(6,v13),(16,v4),(17,v16),(7,v16),(18,v4),(19,v20),(21,v21),(20,v21),(22,v23),(23,v13),(24,v26),(25,v27)]),[]⟩ H28) (fun _=>
 let n29:AEx→En→Hp→Bool:=fun x e H=>isNormal x (fun _=>cd P (G K) 189 94 (subC 10 [1,1,1,1,1,0,1,0,1,1,1]) none e H fun x e H=>isExit 0 x (fun _=>n18 .normal e H) (fun x=>n18 x e H)) (fun x=>isExit 0 x (fun _=>n18 .normal e H) (fun x=>n18 x e H));
 binK P .eql 9 true v20 (.str [109,105,115,115,101,100]) fun v30=>
 condV v30 (fun _=>
 n29 .normal ⟨(es E2.empty [(0,a0),(2,(.ptr b1 0)),(3,(.bool false)),(8,a0),(9,v4),(4,v4),(10,v4),(11,v7),(12,v8),(13,v9),(5,(.ptr b10 0)),(14,v4),(15,v13),(6,v13),(16,v4),(17,v16),(7,v16),(18,v4),(19,v20),(21,v21),(20,v21),(27,v30),(26,v30)]),[]⟩ H20) (fun _=>
 binK P .eql 9 true v20 (.str [119,104,101,110]) fun v32=>
 condV v32 (fun _=>
 n29 .normal ⟨(es E2.empty [(0,a0),(2,(.ptr b1 0)),(3,(.bool false)),(8,a0),(9,v4),(4,v4),(10,v4),(11,v7),(12,v8),(13,v9),(5,(.ptr b10 0)),(14,v4),(15,v13),(6,v13),(16,v4),(17,v16),(7,v16),(18,v4),(19,v20),(21,v21),(20,v21),(27,v30),(28,v32),(26,v32)]),[]⟩ H20) (fun _=>
 binK P .eql 9 true v20 (.str [119,104,111]) fun v34=>
 condV v34 (fun _=>
 n29 .normal ⟨(es E2.empty [(0,a0),(2,(.ptr b1 0)),(3,(.bool false)),(8,a0),(9,v4),(4,v4),(10,v4),(11,v7),(12,v8),(13,v9),(5,(.ptr b10 0)),(14,v4),(15,v13),(6,v13),(16,v4),(17,v16),(7,v16),(18,v4),(19,v20),(21,v21),(20,v21),(27,v30),(28,v32),(29,v34),(26,v34)]),[]⟩ H20) (fun _=>
 binK P .eql 9 true v20 (.str [112,108,97,99,101,100]) fun v36=>
 n29 .normal ⟨(es E2.empty [(0,a0),(2,(.ptr b1 0)),(3,(.bool false)),(8,a0),(9,v4),(4,v4),(10,v4),(11,v7),(12,v8),(13,v9),(5,(.ptr b10 0)),(14,v4),(15,v13),(6,v13),(16,v4),(17,v16),(7,v16),(18,v4),(19,v20),(21,v21),(20,v21),(27,v30),(28,v32),(29,v34),(30,v36),(26,v36)]),[]⟩ H20))))):=by kernel_rfl
theorem r10 (H:Hp) (k:AEnd→Hp→Bool) (i:Evs):∀(t:E2),bodyEnd P (G K) Tryz.f10 i k .ret ⟨t,[]⟩ H=(loadK P (G K) H 27 (E2.get t 2) fun v0=>k (.ret (.tup [v0,(E2.get t 3)])) H):=of_fun fun f=>by kernel_rfl
theorem h10_0 (dm:List Dm) (ro:Option Nat) (H:Hp) (k:AEx→En→Hp→Bool):∀(t:E2),cd P (G K) 194 94 (subC 10 [1,1,1,1,1,1]) ro ⟨t,dm⟩ H k=
 (cd P (G K) 193 94 (subC 10 [1,1,1,1,1,1,0]) ro ⟨t,dm⟩ H fun x e H=>isNormal x (fun _=>cd P (G K) 193 94 (subC 10 [1,1,1,1,1,1,1]) ro e H fun x e H=>k x e H) (fun x=>k x e H)):=of_fun fun f=>by kernel_rfl
theorem h10_1 (dm:List Dm) (ro:Option Nat) (H:Hp) (k:AEx→En→Hp→Bool):∀(t:E2),cd P (G K) 189 94 (subC 10 [1,1,1,1,1,0,1,0,1,1,1]) ro ⟨t,dm⟩ H k=
 (condV (E2.get t 26) (fun _=>
 ptrPlus (E2.get t 5) 0 fun v1=>
 storeK P H 3 v1 (.int .i64 2) fun H2=>
 let n3:AEx→En→Hp→Bool:=fun x e H=>isNormal x (fun _=>cd P (G K) 186 94 (subC 10 [1,1,1,1,1,0,1,0,1,1,1,0,1,1]) ro e H fun x e H=>k x e H) (fun x=>k x e H);
 indexAtK P 58 (E2.get t 4) (.int .i64 0) fun v5=>
 loadK P (G K) H2 9 v5 fun v6=>
 binK P .eql 9 true v6 (.str [119,104,101,110]) fun v7=>
 condV v7 (fun _=>
 ptrPlus (E2.get t 5) 0 fun v8=>
 storeK P H2 3 v8 (.int .i64 3) fun H9=>
 n3 .normal ⟨(es t [(31,v1),(32,(E2.get t 4)),(33,v5),(34,v6),(35,v7),(36,v8)]),dm⟩ H9) (fun _=>
 n3 .normal ⟨(es t [(31,v1),(32,(E2.get t 4)),(33,v5),(34,v6),(35,v7)]),dm⟩ H2)) (fun _=>
 binK P .eql 9 true (E2.get t 19) (.str [98,97,108,97,110,99,101]) fun v10=>
 condV v10 (fun _=>
 ptrPlus (E2.get t 5) 0 fun v12=>
 storeK P H 3 v12 (.int .i64 6) fun H13=>
 cl P (G K) 35 [(E2.get t 6)] H13 fun v15 H15=>
 ptrPlus (E2.get t 5) 6 fun v16=>
 storeK P H15 3 v16 v15 fun H17=>
 cl P (G K) 37 [(E2.get t 7)] H17 fun v19 H19=>
 ptrPlus (E2.get t 5) 4 fun v20=>
 storeK P H19 23 v20 v19 fun H21=>
 k .normal ⟨(es t [(57,v10),(56,v10),(58,v12),(59,(E2.get t 6)),(60,v15),(61,v16),(62,(E2.get t 7)),(63,v19),(64,v20)]),dm⟩ H21) (fun _=>
 binK P .eql 9 true (E2.get t 19) (.str [97,109,101,110,100]) fun v22=>
 condV v22 (fun _=>
 ptrPlus (E2.get t 5) 0 fun v24=>
 storeK P H 3 v24 (.int .i64 7) fun H25=>
 cl P (G K) 35 [(E2.get t 6)] H25 fun v27 H27=>
 ptrPlus (E2.get t 5) 7 fun v28=>
 storeK P H27 3 v28 v27 fun H29=>
 cl P (G K) 37 [(E2.get t 7)] H29 fun v31 H31=>
 ptrPlus (E2.get t 5) 4 fun v32=>
 storeK P H31 23 v32 v31 fun H33=>
 k .normal ⟨(es t [(57,v10),(56,v10),(66,v22),(65,v22),(67,v24),(68,(E2.get t 6)),(69,v27),(70,v28),(71,(E2.get t 7)),(72,v31),(73,v32)]),dm⟩ H33) (fun _=>
 binK P .eql 9 true (E2.get t 19) (.str [114,101,115,116,115]) fun v34=>
 condV v34 (fun _=>
 ptrPlus (E2.get t 5) 0 fun v36=>
 storeK P H 3 v36 (.int .i64 8) fun H37=>
 cl P (G K) 35 [(E2.get t 6)] H37 fun v39 H39=>
 cl P (G K) 35 [(E2.get t 7)] H39 fun v41 H41=>
 buildK P 25 [(0,v39),(1,v41)] fun v42=>
 ptrPlus (E2.get t 5) 8 fun v43=>
 storeK P H41 25 v43 v42 fun H44=>
 k .normal ⟨(es t [(57,v10),(56,v10),(66,v22),(65,v22),(75,v34),(74,v34),(76,v36),(77,(E2.get t 6)),(78,v39),(79,(E2.get t 7)),(80,v41),(81,v42),(82,v43)]),dm⟩ H44) (fun _=>
 k .normal ⟨(es t [(57,v10),(56,v10),(66,v22),(65,v22),(75,v34),(74,v34)]),dm⟩ H))))):=of_fun fun f=>by kernel_rfl
theorem h10_2 (dm:List Dm) (ro:Option Nat) (H:Hp) (k:AEx→En→Hp→Bool):∀(t:E2),cd P (G K) 193 94 (subC 10 [1,1,1,1,1,1,0]) ro ⟨t,dm⟩ H k=
 (cd P (G K) 192 94 (subC 10 [1,1,1,1,1,1,0,0]) ro ⟨t,dm⟩ H fun x e H=>isNormal x (fun _=>cd P (G K) 192 94 (subC 10 [1,1,1,1,1,1,0,1]) ro e H fun x e H=>k x e H) (fun x=>k x e H)):=of_fun fun f=>by kernel_rfl
theorem h10_3 (dm:List Dm) (ro:Option Nat) (H:Hp) (k:AEx→En→Hp→Bool):∀(t:E2),cd P (G K) 193 94 (subC 10 [1,1,1,1,1,1,1]) ro ⟨t,dm⟩ H k=
 (loadK P (G K) H 27 (E2.get t 5) fun v1=>
 storeK P H 27 (E2.get t 2) v1 fun H2=>
 k .ret ⟨(es t [(93,v1),(3,(.bool true))]),dm⟩ H2):=of_fun fun f=>by kernel_rfl
theorem h10_4 (dm:List Dm) (ro:Option Nat) (H:Hp) (k:AEx→En→Hp→Bool):∀(t:E2),cd P (G K) 186 94 (subC 10 [1,1,1,1,1,0,1,0,1,1,1,0,1,1]) ro ⟨t,dm⟩ H k=
 (let n1:AEx→En→Hp→Bool:=fun x e H=>isNormal x (fun _=>cd P (G K) 185 94 (subC 10 [1,1,1,1,1,0,1,0,1,1,1,0,1,1,1]) ro e H fun x e H=>k x e H) (fun x=>k x e H);
 indexAtK P 58 (E2.get t 4) (.int .i64 0) fun v3=>
 loadK P (G K) H 9 v3 fun v4=>
 binK P .eql 9 true v4 (.str [119,104,111]) fun v5=>
 condV v5 (fun _=>
 ptrPlus (E2.get t 5) 0 fun v6=>
 storeK P H 3 v6 (.int .i64 4) fun H7=>
 n1 .normal ⟨(es t [(37,(E2.get t 4)),(38,v3),(39,v4),(40,v5),(41,v6)]),dm⟩ H7) (fun _=>
 n1 .normal ⟨(es t [(37,(E2.get t 4)),(38,v3),(39,v4),(40,v5)]),dm⟩ H)):=of_fun fun f=>by kernel_rfl
theorem h10_5 (dm:List Dm) (ro:Option Nat) (H:Hp) (k:AEx→En→Hp→Bool):∀(t:E2),cd P (G K) 192 94 (subC 10 [1,1,1,1,1,1,0,0]) ro ⟨t,dm⟩ H k=
 (loadK P (G K) H 27 (E2.get t 5) fun v1=>
 cl P (G K) 7 [v1] H fun v2 H2=>
 unK .not v2 fun v3=>
 gJoin (boolIs false v3) (fun v5 H5=>
 gJoin (boolIs false v3) (fun v6 H6=>
 gJoin (boolIs false v3) (fun v7 H7=>
 gJoin (boolIs false v3) (fun v8 H8=>
 pickV v3 (.bool true) v8 fun v9=>
 k .normal ⟨(es t [(83,v1),(84,v2),(85,v3),(86,v3),(87,v5),(88,v6),(89,v7),(90,v8),(91,v9)]),dm⟩ H8) (fun r8=>binK P .neq 9 false v6 v7 fun v10=>
 r8 v10 H7) H7) (fun r7=>r7 (E2.get t 0) H6) H6) (fun r6=>cl P (G K) 12 [v5] H5 fun v12 H12=>
 r6 v12 H12) H5) (fun r5=>loadK P (G K) H2 27 (E2.get t 5) fun v13=>
 r5 v13 H2) H2):=of_fun fun f=>by kernel_rfl
theorem h10_6 (dm:List Dm) (ro:Option Nat) (H:Hp) (k:AEx→En→Hp→Bool):∀(t:E2),cd P (G K) 192 94 (subC 10 [1,1,1,1,1,1,0,1]) ro ⟨t,dm⟩ H k=
 (condV (E2.get t 91) (fun _=>
 buildK P 27 [] fun v1=>
 storeK P H 27 (E2.get t 2) v1 fun H2=>
 k .ret ⟨(es t [(92,v1),(3,(.bool false))]),dm⟩ H2) (fun _=>
 k .normal ⟨t,dm⟩ H)):=of_fun fun f=>by kernel_rfl
theorem h10_7 (dm:List Dm) (ro:Option Nat) (H:Hp) (k:AEx→En→Hp→Bool):∀(t:E2),cd P (G K) 185 94 (subC 10 [1,1,1,1,1,0,1,0,1,1,1,0,1,1,1]) ro ⟨t,dm⟩ H k=
 (let n1:AEx→En→Hp→Bool:=fun x e H=>isNormal x (fun _=>cd P (G K) 184 94 (subC 10 [1,1,1,1,1,0,1,0,1,1,1,0,1,1,1,1]) ro e H fun x e H=>k x e H) (fun x=>k x e H);
 indexAtK P 58 (E2.get t 4) (.int .i64 0) fun v3=>
 loadK P (G K) H 9 v3 fun v4=>
 binK P .eql 9 true v4 (.str [112,108,97,99,101,100]) fun v5=>
 condV v5 (fun _=>
 ptrPlus (E2.get t 5) 0 fun v6=>
 storeK P H 3 v6 (.int .i64 5) fun H7=>
 cl P (G K) 36 [(E2.get t 4),(.int .i64 4)] H7 fun v9 H9=>
 cl P (G K) 37 [v9] H9 fun v10 H10=>
 ptrPlus (E2.get t 5) 4 fun v11=>
 storeK P H10 23 v11 v10 fun H12=>
 n1 .normal ⟨(es t [(42,(E2.get t 4)),(43,v3),(44,v4),(45,v5),(46,v6),(47,(E2.get t 4)),(48,v9),(49,v10),(50,v11)]),dm⟩ H12) (fun _=>
 n1 .normal ⟨(es t [(42,(E2.get t 4)),(43,v3),(44,v4),(45,v5)]),dm⟩ H)):=of_fun fun f=>by kernel_rfl
theorem h10_8 (dm:List Dm) (ro:Option Nat) (H:Hp) (k:AEx→En→Hp→Bool):∀(t:E2),cd P (G K) 184 94 (subC 10 [1,1,1,1,1,0,1,0,1,1,1,0,1,1,1,1]) ro ⟨t,dm⟩ H k=
 (cl P (G K) 35 [(E2.get t 6)] H fun v2 H2=>
 ptrPlus (E2.get t 5) 2 fun v3=>
 storeK P H2 3 v3 v2 fun H4=>
 ptrPlus (E2.get t 5) 3 fun v6=>
 storeK P H4 9 v6 (E2.get t 7) fun H7=>
 k .normal ⟨(es t [(51,(E2.get t 6)),(52,v2),(53,v3),(54,(E2.get t 7)),(55,v6)]),dm⟩ H7):=of_fun fun f=>by kernel_rfl
theorem h11 (a0:AV) (H:Hp) (k:AEnd→Hp→Bool):callBody P (G K) ⟨cd P (G K) 200,callS P (G K)⟩ 11 [a0] H k=
 (let n0:AEx→En→Hp→Bool:=fun x e H=>bodyEnd P (G K) Tryz.f11 ⟨cd P (G K) 200,callS P (G K)⟩ k x e H;
 Hp.new H (.cells (some 27) false (AV.cells a0)) fun b1 H1=>
 cd P (G K) 198 23 (subC 11 [1,0]) none ⟨(es E2.empty [(0,a0),(1,(.ptr b1 0)),(2,(.int .i64 0))]),[]⟩ H1 fun x e H=>isNormal x (fun _=>cd P (G K) 198 23 (subC 11 [1,1]) none e H fun x e H=>n0 x e H) (fun x=>n0 x e H)):=by kernel_rfl
theorem r11 (t:E2) (H:Hp) (k:AEnd→Hp→Bool) (i:Evs):bodyEnd P (G K) Tryz.f11 i k .ret ⟨t,[]⟩ H=k (.ret (E2.get t 2)) H:=by kernel_rfl
theorem h11_0 (dm:List Dm) (ro:Option Nat) (H:Hp) (k:AEx→En→Hp→Bool):∀(t:E2),cd P (G K) 198 23 (subC 11 [1,0]) ro ⟨t,dm⟩ H k=
 (loadK P (G K) H 27 (E2.get t 1) fun v1=>
 cl P (G K) 38 [v1] H fun v2 H2=>
 extractV v2 0 fun v4=>
 extractV v2 1 fun v5=>
 Hp.new H2 (.cells (some 27) false [(.int .i64 0),(.int .i64 0),(.int .i64 0),(.str []),(.int .i64 0),(.int .i64 0),(.int .i64 0),(.int .i64 0),(.int .i64 0),(.int .i64 0)]) fun b6 H6=>
 storeK P H6 27 (.ptr b6 0) v4 fun H7=>
 cd P (G K) 196 23 (subC 11 [1,0,1,0]) ro ⟨(es t [(6,v1),(7,v2),(5,v2),(8,v4),(9,v5),(3,(.ptr b6 0)),(4,v5)]),dm⟩ H7 fun x e H=>isNormal x (fun _=>cd P (G K) 196 23 (subC 11 [1,0,1,1]) ro e H fun x e H=>k x e H) (fun x=>k x e H)):=of_fun fun f=>by kernel_rfl
theorem h11_1 (dm:List Dm) (ro:Option Nat) (H:Hp) (k:AEx→En→Hp→Bool):∀(t:E2),cd P (G K) 198 23 (subC 11 [1,1]) ro ⟨t,dm⟩ H k=
 (k .ret ⟨(es t [(2,(.int .i64 0))]),dm⟩ H):=of_fun fun f=>by kernel_rfl
theorem h11_2 (dm:List Dm) (ro:Option Nat) (H:Hp) (k:AEx→En→Hp→Bool):∀(t:E2),cd P (G K) 196 23 (subC 11 [1,0,1,0]) ro ⟨t,dm⟩ H k=
 (unK .not (E2.get t 4) fun v2=>
 gJoin (boolIs false v2) (fun v4 H4=>
 gJoin (boolIs false v2) (fun v5 H5=>
 gJoin (boolIs false v2) (fun v6 H6=>
 pickV v2 (.bool true) v6 fun v7=>
 gJoin (boolIs false v7) (fun v9 H9=>
 gJoin (boolIs false v7) (fun v10 H10=>
 gJoin (boolIs false v7) (fun v11 H11=>
 gJoin (boolIs false v7) (fun v12 H12=>
 pickV v7 (.bool true) v12 fun v13=>
 k .normal ⟨(es t [(10,(E2.get t 4)),(11,v2),(12,v2),(13,v4),(14,v5),(15,v6),(16,v7),(17,v7),(18,v9),(19,v10),(20,v11),(21,v12),(22,v13)]),dm⟩ H12) (fun r12=>unK .not v11 fun v14=>
 r12 v14 H11) H11) (fun r11=>cl P (G K) 39 [v10] H10 fun v15 H15=>
 r11 v15 H15) H10) (fun r10=>loadK P (G K) H9 3 v9 fun v16=>
 r10 v16 H9) H9) (fun r9=>ptrPlus (E2.get t 1) 1 fun v17=>
 r9 v17 H6) H6) (fun r6=>binK P .neq 27 false v4 v5 fun v18=>
 r6 v18 H5) H5) (fun r5=>loadK P (G K) H4 27 (E2.get t 1) fun v19=>
 r5 v19 H4) H4) (fun r4=>loadK P (G K) H 27 (E2.get t 3) fun v20=>
 r4 v20 H) H):=of_fun fun f=>by kernel_rfl
theorem h11_3 (dm:List Dm) (ro:Option Nat) (H:Hp) (k:AEx→En→Hp→Bool):∀(t:E2),cd P (G K) 196 23 (subC 11 [1,0,1,1]) ro ⟨t,dm⟩ H k=
 (condV (E2.get t 22) (fun _=>
 k .ret ⟨(es t [(2,(.int .i64 1))]),dm⟩ H) (fun _=>
 k .normal ⟨t,dm⟩ H)):=of_fun fun f=>by kernel_rfl
theorem h12 (a0:AV) (H:Hp) (k:AEnd→Hp→Bool):callBody P (G K) ⟨cd P (G K) 200,callS P (G K)⟩ 12 [a0] H k=
 (Hp.new H (.cells (some 27) false (AV.cells a0)) fun b1 H1=>
 ptrPlus (.ptr b1 0) 1 fun v3=>
 loadK P (G K) H1 3 v3 fun v4=>
 cl P (G K) 40 [v4] H1 fun v5 H5=>
 binK P .add 9 true (.str [32]) v5 fun v6=>
 binK P .add 9 true v6 (.str [32]) fun v7=>
 ptrPlus (.ptr b1 0) 2 fun v10=>
 loadK P (G K) H5 3 v10 fun v11=>
 ptrPlus (.ptr b1 0) 3 fun v12=>
 loadK P (G K) H5 9 v12 fun v13=>
 layAnc 6 [] H5 fun Q15 H15=>cl P (G K) 40 [v11] H15 fun v14 H14=>
 Bool.casesOn (recheck 6 ((7,fun H'=>loadK P (G K) H' 9 v12 fun v'=>avSame 1000 v13 v')::((2,fun H'=>loadK P (G K) H' 3 v10 fun v'=>avSame 1000 v11 v')::[])) H14) false (binK P .add 9 false v7 v14 fun v16=>
 binK P .add 9 true v16 (.str [32]) fun v17=>
 binK P .add 9 false v17 v13 fun v18=>
 layAll Q15 H14 fun H20=>
 ptrPlus (.ptr b1 0) 0 fun v21=>
 loadK P (G K) H20 3 v21 fun v22=>
 binK P .eql 3 true v22 (.int .i64 1) fun v23=>
 condV v23 (fun _=>
 binK P .add 9 true (.str [118,101,114,100,105,99,116]) v7 fun v26=>
 ptrPlus (.ptr b1 0) 2 fun v27=>
 loadK P (G K) H20 3 v27 fun v28=>
 cl P (G K) 40 [v28] H20 fun v29 H29=>
 binK P .add 9 false v26 v29 fun v30=>
 k (.ret v30) H29) (fun _=>
 binK P .eql 3 true v22 (.int .i64 2) fun v32=>
 condV v32 (fun _=>
 binK P .add 9 true (.str [109,105,115,115,101,100]) v18 fun v35=>
 k (.ret v35) H20) (fun _=>
 binK P .eql 3 true v22 (.int .i64 3) fun v37=>
 condV v37 (fun _=>
 binK P .add 9 true (.str [119,104,101,110]) v18 fun v40=>
 k (.ret v40) H20) (fun _=>
 binK P .eql 3 true v22 (.int .i64 4) fun v42=>
 condV v42 (fun _=>
 binK P .add 9 true (.str [119,104,111]) v18 fun v45=>
 k (.ret v45) H20) (fun _=>
 binK P .eql 3 true v22 (.int .i64 5) fun v47=>
 condV v47 (fun _=>
 binK P .add 9 true (.str [112,108,97,99,101,100]) v18 fun v50=>
 binK P .add 9 true v50 (.str [32]) fun v51=>
 ptrPlus (.ptr b1 0) 4 fun v52=>
 loadK P (G K) H20 23 v52 fun v53=>
 cl P (G K) 41 [v53] H20 fun v54 H54=>
 binK P .add 9 false v51 v54 fun v55=>
 k (.ret v55) H54) (fun _=>
 binK P .eql 3 true v22 (.int .i64 6) fun v57=>
 condV v57 (fun _=>
 binK P .add 9 true (.str [98,97,108,97,110,99,101]) v7 fun v60=>
 ptrPlus (.ptr b1 0) 6 fun v61=>
 loadK P (G K) H20 3 v61 fun v62=>
 ptrPlus (.ptr b1 0) 4 fun v63=>
 loadK P (G K) H20 23 v63 fun v64=>
 layAnc 12 [] H20 fun Q66 H66=>cl P (G K) 40 [v62] H66 fun v65 H65=>
 Bool.casesOn (recheck 12 ((8,fun H'=>loadK P (G K) H' 23 v63 fun v'=>avSame 1000 v64 v')::((3,fun H'=>loadK P (G K) H' 3 v61 fun v'=>avSame 1000 v62 v')::[])) H65) false (binK P .add 9 false v60 v65 fun v67=>
 binK P .add 9 true v67 (.str [32]) fun v68=>
 layAnc 412 Q66 H65 fun Q70 H70=>cl P (G K) 41 [v64] H70 fun v69 H69=>
 Bool.casesOn (recheck 412 ((8,fun H'=>loadK P (G K) H' 23 v63 fun v'=>avSame 1000 v64 v')::((3,fun H'=>loadK P (G K) H' 3 v61 fun v'=>avSame 1000 v62 v')::[])) H69) false (binK P .add 9 false v68 v69 fun v71=>
 layAll Q70 H69 fun H73=>
 k (.ret v71) H73))) (fun _=>
 binK P .eql 3 true v22 (.int .i64 7) fun v74=>
 condV v74 (fun _=>
 binK P .add 9 true (.str [97,109,101,110,100]) v7 fun v77=>
 ptrPlus (.ptr b1 0) 7 fun v78=>
 loadK P (G K) H20 3 v78 fun v79=>
 ptrPlus (.ptr b1 0) 4 fun v80=>
 loadK P (G K) H20 23 v80 fun v81=>
 layAnc 12 [] H20 fun Q83 H83=>cl P (G K) 40 [v79] H83 fun v82 H82=>
 Bool.casesOn (recheck 12 ((8,fun H'=>loadK P (G K) H' 23 v80 fun v'=>avSame 1000 v81 v')::((3,fun H'=>loadK P (G K) H' 3 v78 fun v'=>avSame 1000 v79 v')::[])) H82) false (binK P .add 9 false v77 v82 fun v84=>
 binK P .add 9 true v84 (.str [32]) fun v85=>
 layAnc 412 Q83 H82 fun Q87 H87=>cl P (G K) 41 [v81] H87 fun v86 H86=>
 Bool.casesOn (recheck 412 ((8,fun H'=>loadK P (G K) H' 23 v80 fun v'=>avSame 1000 v81 v')::((3,fun H'=>loadK P (G K) H' 3 v78 fun v'=>avSame 1000 v79 v')::[])) H86) false (binK P .add 9 false v85 v86 fun v88=>
 layAll Q87 H86 fun H90=>
 k (.ret v88) H90))) (fun _=>
 binK P .add 9 true (.str [114,101,115,116,115]) v7 fun v92=>
 ptrPlus (.ptr b1 0) 8 fun v93=>
 ptrPlus v93 0 fun v94=>
 loadK P (G K) H20 3 v94 fun v95=>
 ptrPlus (.ptr b1 0) 8 fun v96=>
 ptrPlus v96 1 fun v97=>
 loadK P (G K) H20 3 v97 fun v98=>
 layAnc 28 [] H20 fun Q100 H100=>cl P (G K) 40 [v95] H100 fun v99 H99=>
 Bool.casesOn (recheck 28 ((10,fun H'=>loadK P (G K) H' 3 v97 fun v'=>avSame 1000 v98 v')::((4,fun H'=>loadK P (G K) H' 3 v94 fun v'=>avSame 1000 v95 v')::[])) H99) false (binK P .add 9 false v92 v99 fun v101=>
 binK P .add 9 true v101 (.str [32]) fun v102=>
 layAnc 1852 Q100 H99 fun Q104 H104=>cl P (G K) 40 [v98] H104 fun v103 H103=>
 Bool.casesOn (recheck 1852 ((10,fun H'=>loadK P (G K) H' 3 v97 fun v'=>avSame 1000 v98 v')::((4,fun H'=>loadK P (G K) H' 3 v94 fun v'=>avSame 1000 v95 v')::[])) H103) false (binK P .add 9 false v102 v103 fun v105=>
 layAll Q104 H103 fun H107=>
 k (.ret v105) H107))))))))))):=by kernel_rfl
theorem h21 (a0:AV) (H:Hp) (k:AEnd→Hp→Bool):callBody P (G K) ⟨cd P (G K) 200,callS P (G K)⟩ 21 [a0] H k=
 (cl P (G K) 66 [a0,(.int .i64 0),(.int .i64 1073741823)] H fun v3 H3=>
 k (.ret v3) H3):=by kernel_rfl
theorem h22 (a0 a1 a2:AV) (H:Hp) (k:AEnd→Hp→Bool):callBody P (G K) ⟨cd P (G K) 200,callS P (G K)⟩ 22 [a0,a1,a2] H k=
 (let n0:AEx→En→Hp→Bool:=fun x e H=>bodyEnd P (G K) Tryz.f22 ⟨cd P (G K) 200,callS P (G K)⟩ k x e H;
 cd P (G K) 198 15 (subC 22 [1,0]) none ⟨(es E2.empty [(0,a0),(1,a1),(2,a2),(6,(.bool false))]),[]⟩ H fun x e H=>isNormal x (fun _=>cd P (G K) 198 15 (subC 22 [1,1]) none e H fun x e H=>n0 x e H) (fun x=>n0 x e H)):=by kernel_rfl
theorem r22 (t:E2) (H:Hp) (k:AEnd→Hp→Bool) (i:Evs):bodyEnd P (G K) Tryz.f22 i k .ret ⟨t,[]⟩ H=k (.ret (E2.get t 6)) H:=by kernel_rfl
theorem h22_0 (dm:List Dm) (ro:Option Nat) (H:Hp) (k:AEx→En→Hp→Bool):∀(t:E2),cd P (G K) 198 15 (subC 22 [1,0]) ro ⟨t,dm⟩ H k=
 (binK P .geq 3 false (E2.get t 0) (E2.get t 1) fun v3=>
 gJoin (boolIs true v3) (fun v5 H5=>
 gJoin (boolIs true v3) (fun v6 H6=>
 gJoin (boolIs true v3) (fun v7 H7=>
 pickV v3 v7 (.bool false) fun v8=>
 k .normal ⟨(es t [(7,(E2.get t 0)),(8,(E2.get t 1)),(9,v3),(10,v3),(11,v5),(12,v6),(13,v7),(14,v8),(6,v8)]),dm⟩ H7) (fun r7=>binK P .leq 3 false v5 v6 fun v10=>
 r7 v10 H6) H6) (fun r6=>r6 (E2.get t 2) H5) H5) (fun r5=>r5 (E2.get t 0) H) H):=of_fun fun f=>by kernel_rfl
theorem h22_1 (dm:List Dm) (ro:Option Nat) (H:Hp) (k:AEx→En→Hp→Bool):∀(t:E2),cd P (G K) 198 15 (subC 22 [1,1]) ro ⟨t,dm⟩ H k=
 (k .ret ⟨t,dm⟩ H):=of_fun fun f=>by kernel_rfl
theorem h23 (a0:AV) (H:Hp) (k:AEnd→Hp→Bool):callBody P (G K) ⟨cd P (G K) 200,callS P (G K)⟩ 23 [a0] H k=
 (let n0:AEx→En→Hp→Bool:=fun x e H=>bodyEnd P (G K) Tryz.f23 ⟨cd P (G K) 200,callS P (G K)⟩ k x e H;
 cd P (G K) 198 46 (subC 23 [1,0]) none ⟨(es E2.empty [(0,a0),(2,(.bool false))]),[]⟩ H fun x e H=>isNormal x (fun _=>cd P (G K) 198 46 (subC 23 [1,1]) none e H fun x e H=>n0 x e H) (fun x=>n0 x e H)):=by kernel_rfl
theorem r23 (t:E2) (H:Hp) (k:AEnd→Hp→Bool) (i:Evs):bodyEnd P (G K) Tryz.f23 i k .ret ⟨t,[]⟩ H=k (.ret (E2.get t 2)) H:=by kernel_rfl
theorem h23_0 (dm:List Dm) (ro:Option Nat) (H:Hp) (k:AEx→En→Hp→Bool):∀(t:E2),cd P (G K) 198 46 (subC 23 [1,0]) ro ⟨t,dm⟩ H k=
 (cd P (G K) 197 46 (subC 23 [1,0,0]) ro ⟨t,dm⟩ H fun x e H=>isNormal x (fun _=>cd P (G K) 197 46 (subC 23 [1,0,1]) ro e H fun x e H=>k x e H) (fun x=>k x e H)):=of_fun fun f=>by kernel_rfl
theorem h23_1 (dm:List Dm) (ro:Option Nat) (H:Hp) (k:AEx→En→Hp→Bool):∀(t:E2),cd P (G K) 198 46 (subC 23 [1,1]) ro ⟨t,dm⟩ H k=
 (let n1:AEx→En→Hp→Bool:=fun x e H=>isNormal x (fun _=>cd P (G K) 197 46 (subC 23 [1,1,1]) ro e H fun x e H=>k x e H) (fun x=>k x e H);
 semC P (G K) 46 (.loop (subC 23 [1,1,0,1,0])) ro ⟨(es t [(3,(.int .i64 0))]),dm⟩ H fun x e3 H3=>isExit 0 x (fun _=>n1 .normal e3 H3) (fun x=>n1 x e3 H3)):=of_fun fun f=>by kernel_rfl
theorem h23_2 (dm:List Dm) (ro:Option Nat) (H:Hp) (k:AEx→En→Hp→Bool):∀(t:E2),cd P (G K) 200 46 (subC 23 [1,1,0,1,0]) ro ⟨t,dm⟩ H k=
 (lenK P 9 (E2.get t 0) H fun v3=>
 binK P .lss 3 false (E2.get t 3) v3 fun v4=>
 condV v4 (fun _=>
 cd P (G K) 198 46 (subC 23 [1,1,0,1,0,0,1,0]) ro ⟨(es t [(14,(E2.get t 3)),(15,(E2.get t 0)),(16,v3),(17,v4)]),dm⟩ H fun x e H=>isNormal x (fun _=>cd P (G K) 198 46 (subC 23 [1,1,0,1,0,0,1,1]) ro e H fun x e H=>k x e H) (fun x=>k x e H)) (fun _=>
 k (.exit 0) ⟨(es t [(14,(E2.get t 3)),(15,(E2.get t 0)),(16,v3),(17,v4)]),dm⟩ H)):=of_fun fun f=>by kernel_rfl
theorem h23_3 (dm:List Dm) (ro:Option Nat) (H:Hp) (k:AEx→En→Hp→Bool):∀(t:E2),cd P (G K) 197 46 (subC 23 [1,0,0]) ro ⟨t,dm⟩ H k=
 (lenK P 9 (E2.get t 0) H fun v2=>
 binK P .lss 3 true v2 (.int .i64 1) fun v3=>
 gJoin (boolIs false v3) (fun v5 H5=>
 gJoin (boolIs false v3) (fun v6 H6=>
 gJoin (boolIs false v3) (fun v7 H7=>
 pickV v3 (.bool true) v7 fun v8=>
 k .normal ⟨(es t [(6,(E2.get t 0)),(7,v2),(8,v3),(9,v3),(10,v5),(11,v6),(12,v7),(13,v8)]),dm⟩ H7) (fun r7=>binK P .gtr 3 true v6 (.int .i64 16) fun v9=>
 r7 v9 H6) H6) (fun r6=>lenK P 9 v5 H5 fun v10=>
 r6 v10 H5) H5) (fun r5=>r5 (E2.get t 0) H) H):=of_fun fun f=>by kernel_rfl
theorem h23_4 (dm:List Dm) (ro:Option Nat) (H:Hp) (k:AEx→En→Hp→Bool):∀(t:E2),cd P (G K) 197 46 (subC 23 [1,0,1]) ro ⟨t,dm⟩ H k=
 (condV (E2.get t 13) (fun _=>
 k .ret ⟨(es t [(2,(.bool false))]),dm⟩ H) (fun _=>
 k .normal ⟨t,dm⟩ H)):=of_fun fun f=>by kernel_rfl
theorem h23_5 (dm:List Dm) (ro:Option Nat) (H:Hp) (k:AEx→En→Hp→Bool):∀(t:E2),cd P (G K) 197 46 (subC 23 [1,1,1]) ro ⟨t,dm⟩ H k=
 (k .ret ⟨(es t [(2,(.bool true))]),dm⟩ H):=of_fun fun f=>by kernel_rfl
theorem h23_6 (dm:List Dm) (ro:Option Nat) (H:Hp) (k:AEx→En→Hp→Bool):∀(t:E2),cd P (G K) 198 46 (subC 23 [1,1,0,1,0,0,1,0]) ro ⟨t,dm⟩ H k=
 (cd P (G K) 196 46 (subC 23 [1,1,0,1,0,0,1,0,0,0]) ro ⟨t,dm⟩ H fun x e H=>isNormal x (fun _=>cd P (G K) 196 46 (subC 23 [1,1,0,1,0,0,1,0,0,1]) ro e H fun x e H=>isExit 1 x (fun _=>k .normal e H) (fun x=>k x e H)) (fun x=>isExit 1 x (fun _=>k .normal e H) (fun x=>k x e H))):=of_fun fun f=>by kernel_rfl
theorem h23_7 (dm:List Dm) (ro:Option Nat) (H:Hp) (k:AEx→En→Hp→Bool):∀(t:E2),cd P (G K) 198 46 (subC 23 [1,1,0,1,0,0,1,1]) ro ⟨t,dm⟩ H k=
 (binK P .add 3 true (E2.get t 3) (.int .i64 1) fun v2=>
 k .normal ⟨(es t [(18,(E2.get t 3)),(19,v2),(3,v2)]),dm⟩ H):=of_fun fun f=>by kernel_rfl
theorem h23_8 (dm:List Dm) (ro:Option Nat) (H:Hp) (k:AEx→En→Hp→Bool):∀(t:E2),cd P (G K) 196 46 (subC 23 [1,1,0,1,0,0,1,0,0,0]) ro ⟨t,dm⟩ H k=
 (indexV P 9 (E2.get t 0) (E2.get t 3) fun v3=>
 binK P .geq 5 true v3 (.int .u8 97) fun v4=>
 gJoin (boolIs true v4) (fun v6 H6=>
 gJoin (boolIs true v4) (fun v7 H7=>
 gJoin (boolIs true v4) (fun v8 H8=>
 gJoin (boolIs true v4) (fun v9 H9=>
 pickV v4 v9 (.bool false) fun v10=>
 k .normal ⟨(es t [(20,(E2.get t 0)),(21,(E2.get t 3)),(22,v3),(23,v4),(24,v4),(25,v6),(26,v7),(27,v8),(28,v9),(29,v10),(4,v10)]),dm⟩ H9) (fun r9=>binK P .leq 5 true v8 (.int .u8 122) fun v12=>
 r9 v12 H8) H8) (fun r8=>indexV P 9 v6 v7 fun v13=>
 r8 v13 H7) H7) (fun r7=>r7 (E2.get t 3) H6) H6) (fun r6=>r6 (E2.get t 0) H) H):=of_fun fun f=>by kernel_rfl
theorem h23_9 (dm:List Dm) (ro:Option Nat) (H:Hp) (k:AEx→En→Hp→Bool):∀(t:E2),cd P (G K) 196 46 (subC 23 [1,1,0,1,0,0,1,0,0,1]) ro ⟨t,dm⟩ H k=
 (cd P (G K) 195 46 (subC 23 [1,1,0,1,0,0,1,0,0,1,0]) ro ⟨t,dm⟩ H fun x e H=>isNormal x (fun _=>cd P (G K) 195 46 (subC 23 [1,1,0,1,0,0,1,0,0,1,1]) ro e H fun x e H=>k x e H) (fun x=>k x e H)):=of_fun fun f=>by kernel_rfl
theorem h23_10 (dm:List Dm) (ro:Option Nat) (H:Hp) (k:AEx→En→Hp→Bool):∀(t:E2),cd P (G K) 195 46 (subC 23 [1,1,0,1,0,0,1,0,0,1,0]) ro ⟨t,dm⟩ H k=
 (indexV P 9 (E2.get t 0) (E2.get t 3) fun v3=>
 binK P .geq 5 true v3 (.int .u8 48) fun v4=>
 gJoin (boolIs true v4) (fun v6 H6=>
 gJoin (boolIs true v4) (fun v7 H7=>
 gJoin (boolIs true v4) (fun v8 H8=>
 gJoin (boolIs true v4) (fun v9 H9=>
 pickV v4 v9 (.bool false) fun v10=>
 k .normal ⟨(es t [(30,(E2.get t 0)),(31,(E2.get t 3)),(32,v3),(33,v4),(34,v4),(35,v6),(36,v7),(37,v8),(38,v9),(39,v10),(5,v10)]),dm⟩ H9) (fun r9=>binK P .leq 5 true v8 (.int .u8 57) fun v12=>
 r9 v12 H8) H8) (fun r8=>indexV P 9 v6 v7 fun v13=>
 r8 v13 H7) H7) (fun r7=>r7 (E2.get t 3) H6) H6) (fun r6=>r6 (E2.get t 0) H) H):=of_fun fun f=>by kernel_rfl
theorem h23_11 (dm:List Dm) (ro:Option Nat) (H:Hp) (k:AEx→En→Hp→Bool):∀(t:E2),cd P (G K) 195 46 (subC 23 [1,1,0,1,0,0,1,0,0,1,1]) ro ⟨t,dm⟩ H k=
 (cd P (G K) 194 46 (subC 23 [1,1,0,1,0,0,1,0,0,1,1,0]) ro ⟨t,dm⟩ H fun x e H=>isNormal x (fun _=>cd P (G K) 194 46 (subC 23 [1,1,0,1,0,0,1,0,0,1,1,1]) ro e H fun x e H=>k x e H) (fun x=>k x e H)):=of_fun fun f=>by kernel_rfl
theorem h23_12 (dm:List Dm) (ro:Option Nat) (H:Hp) (k:AEx→En→Hp→Bool):∀(t:E2),cd P (G K) 194 46 (subC 23 [1,1,0,1,0,0,1,0,0,1,1,0]) ro ⟨t,dm⟩ H k=
 (unK .not (E2.get t 4) fun v2=>
 gJoin (boolIs true v2) (fun v4 H4=>
 gJoin (boolIs true v2) (fun v5 H5=>
 pickV v2 v5 (.bool false) fun v6=>
 k .normal ⟨(es t [(40,(E2.get t 4)),(41,v2),(42,v2),(43,v4),(44,v5),(45,v6)]),dm⟩ H5) (fun r5=>unK .not v4 fun v7=>
 r5 v7 H4) H4) (fun r4=>r4 (E2.get t 5) H) H):=of_fun fun f=>by kernel_rfl
theorem h23_13 (dm:List Dm) (ro:Option Nat) (H:Hp) (k:AEx→En→Hp→Bool):∀(t:E2),cd P (G K) 194 46 (subC 23 [1,1,0,1,0,0,1,0,0,1,1,1]) ro ⟨t,dm⟩ H k=
 (condV (E2.get t 45) (fun _=>
 k .ret ⟨(es t [(2,(.bool false))]),dm⟩ H) (fun _=>
 k .normal ⟨t,dm⟩ H)):=of_fun fun f=>by kernel_rfl
theorem h24 (a0:AV) (H:Hp) (k:AEnd→Hp→Bool):callBody P (G K) ⟨cd P (G K) 200,callS P (G K)⟩ 24 [a0] H k=
 (let n0:AEx→En→Hp→Bool:=fun x e H=>bodyEnd P (G K) Tryz.f24 ⟨cd P (G K) 200,callS P (G K)⟩ k x e H;
 cd P (G K) 198 13 (subC 24 [1,0]) none ⟨(es E2.empty [(0,a0),(2,(.bool false))]),[]⟩ H fun x e H=>isNormal x (fun _=>cd P (G K) 198 13 (subC 24 [1,1]) none e H fun x e H=>n0 x e H) (fun x=>n0 x e H)):=by kernel_rfl
theorem r24 (t:E2) (H:Hp) (k:AEnd→Hp→Bool) (i:Evs):bodyEnd P (G K) Tryz.f24 i k .ret ⟨t,[]⟩ H=k (.ret (E2.get t 2)) H:=by kernel_rfl
theorem h24_0 (dm:List Dm) (ro:Option Nat) (H:Hp) (k:AEx→En→Hp→Bool):∀(t:E2),cd P (G K) 198 13 (subC 24 [1,0]) ro ⟨t,dm⟩ H k=
 (binK P .eql 3 true (E2.get t 0) (.int .i64 (-1)) fun v2=>
 gJoin (boolIs false v2) (fun v4 H4=>
 gJoin (boolIs false v2) (fun v5 H5=>
 pickV v2 (.bool true) v5 fun v6=>
 gJoin (boolIs false v6) (fun v8 H8=>
 gJoin (boolIs false v6) (fun v9 H9=>
 pickV v6 (.bool true) v9 fun v10=>
 k .normal ⟨(es t [(3,(E2.get t 0)),(4,v2),(5,v2),(6,v4),(7,v5),(8,v6),(9,v6),(10,v8),(11,v9),(12,v10),(2,v10)]),dm⟩ H9) (fun r9=>cl P (G K) 67 [v8,(.int .i64 1),(.int .i64 1099511627776)] H8 fun v12 H12=>
 r9 v12 H12) H8) (fun r8=>r8 (E2.get t 0) H5) H5) (fun r5=>binK P .eql 3 true v4 (.int .i64 (-2)) fun v14=>
 r5 v14 H4) H4) (fun r4=>r4 (E2.get t 0) H) H):=of_fun fun f=>by kernel_rfl
theorem h24_1 (dm:List Dm) (ro:Option Nat) (H:Hp) (k:AEx→En→Hp→Bool):∀(t:E2),cd P (G K) 198 13 (subC 24 [1,1]) ro ⟨t,dm⟩ H k=
 (k .ret ⟨t,dm⟩ H):=of_fun fun f=>by kernel_rfl
theorem h25 (a0:AV) (H:Hp) (k:AEnd→Hp→Bool):callBody P (G K) ⟨cd P (G K) 200,callS P (G K)⟩ 25 [a0] H k=
 (Hp.new H (.cells (some 23) false (AV.cells a0)) fun b1 H1=>
 loadK P (G K) H1 23 (.ptr b1 0) fun v3=>
 cl P (G K) 68 [v3] H1 fun v4 H4=>
 binK P .eql 30 true v4 (.int .i64 0) fun v5=>
 k (.ret v5) H4):=by kernel_rfl
theorem h26 (H:Hp) (k:AEnd→Hp→Bool):callBody P (G K) ⟨cd P (G K) 200,callS P (G K)⟩ 26 [] H k=
 (buildSliceK P 58 9 [(0,(.str [])),(1,(.str [118,101,114,100,105,99,116])),(2,(.str [109,105,115,115,101,100])),(3,(.str [119,104,101,110])),(4,(.str [119,104,111])),(5,(.str [112,108,97,99,101,100])),(6,(.str [98,97,108,97,110,99,101])),(7,(.str [97,109,101,110,100])),(8,(.str [114,101,115,116,115]))] fun k2 r2=>Hp.new H k2 fun b2 H2=>
 k (.ret (r2 b2)) H2):=by kernel_rfl
theorem h28 (a0:AV) (H:Hp) (k:AEnd→Hp→Bool):callBody P (G K) ⟨cd P (G K) 200,callS P (G K)⟩ 28 [a0] H k=
 (Hp.new H (.cells (some 23) false (AV.cells a0)) fun b1 H1=>
 ptrPlus (.ptr b1 0) 0 fun v3=>
 loadK P (G K) H1 3 v3 fun v4=>
 ptrPlus (.ptr b1 0) 1 fun v5=>
 loadK P (G K) H1 3 v5 fun v6=>
 layAnc 3 [] H1 fun Q8 H8=>cl P (G K) 27 [v4] H8 fun v7 H7=>
 Bool.casesOn (recheck 3 ((5,fun H'=>loadK P (G K) H' 3 v5 fun v'=>avSame 1000 v6 v')::((1,fun H'=>loadK P (G K) H' 3 v3 fun v'=>avSame 1000 v4 v')::[])) H7) false (binK P .add 9 true v7 (.str [45]) fun v9=>
 layAnc 55 Q8 H7 fun Q11 H11=>cl P (G K) 27 [v6] H11 fun v10 H10=>
 Bool.casesOn (recheck 55 ((5,fun H'=>loadK P (G K) H' 3 v5 fun v'=>avSame 1000 v6 v')::((1,fun H'=>loadK P (G K) H' 3 v3 fun v'=>avSame 1000 v4 v')::[])) H10) false (binK P .add 9 false v9 v10 fun v12=>
 layAll Q11 H10 fun H14=>
 k (.ret v12) H14))):=by kernel_rfl
theorem h31 (a0 a1:AV) (H:Hp) (k:AEnd→Hp→Bool):callBody P (G K) ⟨cd P (G K) 200,callS P (G K)⟩ 31 [a0,a1] H k=
 (let n0:AEx→En→Hp→Bool:=fun x e H=>bodyEnd P (G K) Tryz.f31 ⟨cd P (G K) 200,callS P (G K)⟩ k x e H;
 let n2:AEx→En→Hp→Bool:=fun x e H=>isNormal x (fun _=>cd P (G K) 198 19 (subC 31 [1,1]) none e H fun x e H=>n0 x e H) (fun x=>n0 x e H);
 lenK P 58 a0 H fun v4=>
 semC P (G K) 19 (.loop (subC 31 [1,0,1,0])) none ⟨(es E2.empty [(0,a0),(1,a1),(4,(.int .i64 0)),(6,a0),(7,v4),(8,(.int .i64 0))]),[]⟩ H fun x e6 H6=>isExit 0 x (fun _=>n2 .normal e6 H6) (fun x=>n2 x e6 H6)):=by kernel_rfl
theorem r31 (t:E2) (H:Hp) (k:AEnd→Hp→Bool) (i:Evs):bodyEnd P (G K) Tryz.f31 i k .ret ⟨t,[]⟩ H=k (.ret (E2.get t 4)) H:=by kernel_rfl
theorem h31_0 (dm:List Dm) (ro:Option Nat) (H:Hp) (k:AEx→En→Hp→Bool):∀(t:E2),cd P (G K) 198 19 (subC 31 [1,1]) ro ⟨t,dm⟩ H k=
 (k .ret ⟨(es t [(4,(.int .i64 (-1)))]),dm⟩ H):=of_fun fun f=>by kernel_rfl
theorem h31_1 (dm:List Dm) (ro:Option Nat) (H:Hp) (k:AEx→En→Hp→Bool):∀(t:E2),cd P (G K) 200 19 (subC 31 [1,0,1,0]) ro ⟨t,dm⟩ H k=
 (binK P .lss 3 false (E2.get t 8) (E2.get t 7) fun v1=>
 condV v1 (fun _=>
 indexAtK P 58 (E2.get t 0) (E2.get t 8) fun v7=>
 loadK P (G K) H 9 v7 fun v8=>
 binK P .eql 9 false (E2.get t 1) v8 fun v9=>
 condV v9 (fun _=>
 k .ret ⟨(es t [(9,v1),(10,(E2.get t 8)),(5,(E2.get t 8)),(11,(E2.get t 1)),(12,(E2.get t 0)),(13,(E2.get t 8)),(14,v7),(15,v8),(16,v9),(17,(E2.get t 8)),(4,(E2.get t 8))]),dm⟩ H) (fun _=>
 binK P .add 3 true (E2.get t 8) (.int .i64 1) fun v12=>
 k .normal ⟨(es t [(9,v1),(10,(E2.get t 8)),(5,(E2.get t 8)),(11,(E2.get t 1)),(12,(E2.get t 0)),(13,(E2.get t 8)),(14,v7),(15,v8),(16,v9),(18,v12),(8,v12)]),dm⟩ H)) (fun _=>
 k (.exit 0) ⟨(es t [(9,v1)]),dm⟩ H)):=of_fun fun f=>by kernel_rfl
theorem h32 (a0:AV) (H:Hp) (k:AEnd→Hp→Bool):callBody P (G K) ⟨cd P (G K) 200,callS P (G K)⟩ 32 [a0] H k=
 (cl P (G K) 72 [a0] H fun v3 H3=>
 extractV v3 0 fun v5=>
 extractV v3 1 fun v6=>
 binK P .neq 86 true v6 .nili fun v10=>
 condV v10 (fun _=>
 k (.ret (.int .i64 0)) H3) (fun _=>
 k (.ret v5) H3)):=by kernel_rfl
theorem h33 (a0:AV) (H:Hp) (k:AEnd→Hp→Bool):callBody P (G K) ⟨cd P (G K) 200,callS P (G K)⟩ 33 [a0] H k=
 (Hp.new H (.cells (some 23) false [(.int .i64 0),(.int .i64 0)]) fun b1 H1=>
 cl P (G K) 73 [a0,(.str [45])] H1 fun v3 H3=>
 extractV v3 0 fun v5=>
 extractV v3 1 fun v6=>
 extractV v3 2 fun v7=>
 cl P (G K) 32 [v5] H3 fun v12 H12=>
 cl P (G K) 32 [v6] H12 fun v14 H14=>
 buildK P 23 [(0,v12),(1,v14)] fun v15=>
 storeK P H14 23 (.ptr b1 0) v15 fun H16=>
 loadK P (G K) H16 23 (.ptr b1 0) fun v17=>
 k (.ret v17) H16):=by kernel_rfl
theorem h34 (a0 a1:AV) (H:Hp) (k:AEnd→Hp→Bool):callBody P (G K) ⟨cd P (G K) 200,callS P (G K)⟩ 34 [a0,a1] H k=
 (let n0:AEx→En→Hp→Bool:=fun x e H=>bodyEnd P (G K) Tryz.f34 ⟨cd P (G K) 200,callS P (G K)⟩ k x e H;
 let n4:AEx→En→Hp→Bool:=fun x e H=>isNormal x (fun _=>cd P (G K) 196 34 (subC 34 [1,1,1,1]) none e H fun x e H=>n0 x e H) (fun x=>n0 x e H);
 semC P (G K) 34 (.loop (subC 34 [1,1,1,0,1,0])) none ⟨(es E2.empty [(0,a0),(1,a1),(4, .nils),(5, .nils),(6,(.int .i64 0)),(7,(.int .i64 0))]),[]⟩ H fun x e6 H6=>isExit 0 x (fun _=>n4 .normal e6 H6) (fun x=>n4 x e6 H6)):=by kernel_rfl
theorem r34 (t:E2) (H:Hp) (k:AEnd→Hp→Bool) (i:Evs):bodyEnd P (G K) Tryz.f34 i k .ret ⟨t,[]⟩ H=k (.ret (E2.get t 4)) H:=by kernel_rfl
theorem h34_0 (dm:List Dm) (ro:Option Nat) (H:Hp) (k:AEx→En→Hp→Bool):∀(t:E2),cd P (G K) 196 34 (subC 34 [1,1,1,1]) ro ⟨t,dm⟩ H k=
 (sliceAtK P H 9 (E2.get t 0) (some (E2.get t 6)) none none fun v4=>
 buildSliceK P 58 1 [(0,v4)] fun k5 r5=>Hp.new H k5 fun b5 H5=>
 appendK P H5 58 58 (E2.get t 5) (r5 b5) fun v6 H6=>
 k .ret ⟨(es t [(28,(E2.get t 5)),(29,(E2.get t 0)),(30,(E2.get t 6)),(31,v4),(32,(r5 b5)),(33,v6),(4,v6)]),dm⟩ H6):=of_fun fun f=>by kernel_rfl
theorem h34_1 (dm:List Dm) (ro:Option Nat) (H:Hp) (k:AEx→En→Hp→Bool):∀(t:E2),cd P (G K) 200 34 (subC 34 [1,1,1,0,1,0]) ro ⟨t,dm⟩ H k=
 (lenK P 9 (E2.get t 0) H fun v3=>
 binK P .lss 3 false (E2.get t 7) v3 fun v4=>
 condV v4 (fun _=>
 let n5:AEx→En→Hp→Bool:=fun x e H=>isNormal x (fun _=>cd P (G K) 198 34 (subC 34 [1,1,1,0,1,0,0,1,1]) ro e H fun x e H=>k x e H) (fun x=>k x e H);
 indexV P 9 (E2.get t 0) (E2.get t 7) fun v8=>
 binK P .eql 5 false v8 (E2.get t 1) fun v10=>
 condV v10 (fun _=>
 sliceAtK P H 9 (E2.get t 0) (some (E2.get t 6)) (some (E2.get t 7)) none fun v15=>
 buildSliceK P 58 1 [(0,v15)] fun k16 r16=>Hp.new H k16 fun b16 H16=>
 appendK P H16 58 58 (E2.get t 5) (r16 b16) fun v17 H17=>
 binK P .add 3 true (E2.get t 7) (.int .i64 1) fun v20=>
 n5 .normal ⟨(es t [(8,(E2.get t 7)),(9,(E2.get t 0)),(10,v3),(11,v4),(14,(E2.get t 0)),(15,(E2.get t 7)),(16,v8),(17,(E2.get t 1)),(18,v10),(19,(E2.get t 5)),(20,(E2.get t 0)),(21,(E2.get t 6)),(22,(E2.get t 7)),(23,v15),(24,(r16 b16)),(25,v17),(5,v17),(26,(E2.get t 7)),(27,v20),(6,v20)]),dm⟩ H17) (fun _=>
 n5 .normal ⟨(es t [(8,(E2.get t 7)),(9,(E2.get t 0)),(10,v3),(11,v4),(14,(E2.get t 0)),(15,(E2.get t 7)),(16,v8),(17,(E2.get t 1)),(18,v10)]),dm⟩ H)) (fun _=>
 k (.exit 0) ⟨(es t [(8,(E2.get t 7)),(9,(E2.get t 0)),(10,v3),(11,v4)]),dm⟩ H)):=of_fun fun f=>by kernel_rfl
theorem h34_2 (dm:List Dm) (ro:Option Nat) (H:Hp) (k:AEx→En→Hp→Bool):∀(t:E2),cd P (G K) 198 34 (subC 34 [1,1,1,0,1,0,0,1,1]) ro ⟨t,dm⟩ H k=
 (binK P .add 3 true (E2.get t 7) (.int .i64 1) fun v2=>
 k .normal ⟨(es t [(12,(E2.get t 7)),(13,v2),(7,v2)]),dm⟩ H):=of_fun fun f=>by kernel_rfl
theorem h35 (a0:AV) (H:Hp) (k:AEnd→Hp→Bool):callBody P (G K) ⟨cd P (G K) 200,callS P (G K)⟩ 35 [a0] H k=
 (let n0:AEx→En→Hp→Bool:=fun x e H=>bodyEnd P (G K) Tryz.f35 ⟨cd P (G K) 200,callS P (G K)⟩ k x e H;
 cd P (G K) 197 44 (subC 35 [1,1,0]) none ⟨(es E2.empty [(0,a0),(2,(.int .i64 0)),(3,(.int .i64 1))]),[]⟩ H fun x e H=>isNormal x (fun _=>cd P (G K) 197 44 (subC 35 [1,1,1]) none e H fun x e H=>n0 x e H) (fun x=>n0 x e H)):=by kernel_rfl
theorem r35 (t:E2) (H:Hp) (k:AEnd→Hp→Bool) (i:Evs):bodyEnd P (G K) Tryz.f35 i k .ret ⟨t,[]⟩ H=k (.ret (E2.get t 2)) H:=by kernel_rfl
theorem h35_0 (dm:List Dm) (ro:Option Nat) (H:Hp) (k:AEx→En→Hp→Bool):∀(t:E2),cd P (G K) 197 44 (subC 35 [1,1,0]) ro ⟨t,dm⟩ H k=
 (cd P (G K) 196 44 (subC 35 [1,1,0,0]) ro ⟨t,dm⟩ H fun x e H=>isNormal x (fun _=>cd P (G K) 196 44 (subC 35 [1,1,0,1]) ro e H fun x e H=>k x e H) (fun x=>k x e H)):=of_fun fun f=>by kernel_rfl
theorem h35_1 (dm:List Dm) (ro:Option Nat) (H:Hp) (k:AEx→En→Hp→Bool):∀(t:E2),cd P (G K) 197 44 (subC 35 [1,1,1]) ro ⟨t,dm⟩ H k=
 (let n2:AEx→En→Hp→Bool:=fun x e H=>isNormal x (fun _=>cd P (G K) 195 44 (subC 35 [1,1,1,1,1]) ro e H fun x e H=>k x e H) (fun x=>k x e H);
 semC P (G K) 44 (.loop (subC 35 [1,1,1,1,0,1,0])) ro ⟨(es t [(4,(.int .i64 0)),(5,(.int .i64 0))]),dm⟩ H fun x e4 H4=>isExit 0 x (fun _=>n2 .normal e4 H4) (fun x=>n2 x e4 H4)):=of_fun fun f=>by kernel_rfl
theorem h35_2 (dm:List Dm) (ro:Option Nat) (H:Hp) (k:AEx→En→Hp→Bool):∀(t:E2),cd P (G K) 200 44 (subC 35 [1,1,1,1,0,1,0]) ro ⟨t,dm⟩ H k=
 (lenK P 9 (E2.get t 0) H fun v3=>
 binK P .lss 3 false (E2.get t 5) v3 fun v4=>
 condV v4 (fun _=>
 cd P (G K) 198 44 (subC 35 [1,1,1,1,0,1,0,0,1,0]) ro ⟨(es t [(16,(E2.get t 5)),(17,(E2.get t 0)),(18,v3),(19,v4)]),dm⟩ H fun x e H=>isNormal x (fun _=>cd P (G K) 198 44 (subC 35 [1,1,1,1,0,1,0,0,1,1]) ro e H fun x e H=>k x e H) (fun x=>k x e H)) (fun _=>
 k (.exit 0) ⟨(es t [(16,(E2.get t 5)),(17,(E2.get t 0)),(18,v3),(19,v4)]),dm⟩ H)):=of_fun fun f=>by kernel_rfl
theorem h35_3 (dm:List Dm) (ro:Option Nat) (H:Hp) (k:AEx→En→Hp→Bool):∀(t:E2),cd P (G K) 196 44 (subC 35 [1,1,0,0]) ro ⟨t,dm⟩ H k=
 (lenK P 9 (E2.get t 0) H fun v2=>
 binK P .gtr 3 true v2 (.int .i64 0) fun v3=>
 gJoin (boolIs true v3) (fun v5 H5=>
 gJoin (boolIs true v3) (fun v6 H6=>
 gJoin (boolIs true v3) (fun v7 H7=>
 pickV v3 v7 (.bool false) fun v8=>
 k .normal ⟨(es t [(6,(E2.get t 0)),(7,v2),(8,v3),(9,v3),(10,v5),(11,v6),(12,v7),(13,v8)]),dm⟩ H7) (fun r7=>binK P .eql 5 true v6 (.int .u8 45) fun v9=>
 r7 v9 H6) H6) (fun r6=>indexV P 9 v5 (.int .i64 0) fun v10=>
 r6 v10 H5) H5) (fun r5=>r5 (E2.get t 0) H) H):=of_fun fun f=>by kernel_rfl
theorem h35_4 (dm:List Dm) (ro:Option Nat) (H:Hp) (k:AEx→En→Hp→Bool):∀(t:E2),cd P (G K) 196 44 (subC 35 [1,1,0,1]) ro ⟨t,dm⟩ H k=
 (condV (E2.get t 13) (fun _=>
 sliceAtK P H 9 (E2.get t 0) (some (.int .i64 1)) none none fun v3=>
 k .normal ⟨(es t [(3,(.int .i64 (-1))),(14,(E2.get t 0)),(15,v3),(0,v3)]),dm⟩ H) (fun _=>
 k .normal ⟨t,dm⟩ H)):=of_fun fun f=>by kernel_rfl
theorem h35_5 (dm:List Dm) (ro:Option Nat) (H:Hp) (k:AEx→En→Hp→Bool):∀(t:E2),cd P (G K) 195 44 (subC 35 [1,1,1,1,1]) ro ⟨t,dm⟩ H k=
 (binK P .mul 3 false (E2.get t 3) (E2.get t 4) fun v3=>
 k .ret ⟨(es t [(41,(E2.get t 3)),(42,(E2.get t 4)),(43,v3),(2,v3)]),dm⟩ H):=of_fun fun f=>by kernel_rfl
theorem h35_6 (dm:List Dm) (ro:Option Nat) (H:Hp) (k:AEx→En→Hp→Bool):∀(t:E2),cd P (G K) 198 44 (subC 35 [1,1,1,1,0,1,0,0,1,0]) ro ⟨t,dm⟩ H k=
 (cd P (G K) 196 44 (subC 35 [1,1,1,1,0,1,0,0,1,0,0,0]) ro ⟨t,dm⟩ H fun x e H=>isNormal x (fun _=>cd P (G K) 196 44 (subC 35 [1,1,1,1,0,1,0,0,1,0,0,1]) ro e H fun x e H=>isExit 1 x (fun _=>k .normal e H) (fun x=>k x e H)) (fun x=>isExit 1 x (fun _=>k .normal e H) (fun x=>k x e H))):=of_fun fun f=>by kernel_rfl
theorem h35_7 (dm:List Dm) (ro:Option Nat) (H:Hp) (k:AEx→En→Hp→Bool):∀(t:E2),cd P (G K) 198 44 (subC 35 [1,1,1,1,0,1,0,0,1,1]) ro ⟨t,dm⟩ H k=
 (binK P .add 3 true (E2.get t 5) (.int .i64 1) fun v2=>
 k .normal ⟨(es t [(20,(E2.get t 5)),(21,v2),(5,v2)]),dm⟩ H):=of_fun fun f=>by kernel_rfl
theorem h35_8 (dm:List Dm) (ro:Option Nat) (H:Hp) (k:AEx→En→Hp→Bool):∀(t:E2),cd P (G K) 196 44 (subC 35 [1,1,1,1,0,1,0,0,1,0,0,0]) ro ⟨t,dm⟩ H k=
 (cd P (G K) 195 44 (subC 35 [1,1,1,1,0,1,0,0,1,0,0,0,0]) ro ⟨t,dm⟩ H fun x e H=>isNormal x (fun _=>cd P (G K) 195 44 (subC 35 [1,1,1,1,0,1,0,0,1,0,0,0,1]) ro e H fun x e H=>k x e H) (fun x=>k x e H)):=of_fun fun f=>by kernel_rfl
theorem h35_9 (dm:List Dm) (ro:Option Nat) (H:Hp) (k:AEx→En→Hp→Bool):∀(t:E2),cd P (G K) 196 44 (subC 35 [1,1,1,1,0,1,0,0,1,0,0,1]) ro ⟨t,dm⟩ H k=
 (binK P .mul 3 true (.int .i64 10) (E2.get t 4) fun v2=>
 indexV P 9 (E2.get t 0) (E2.get t 5) fun v5=>
 binK P .sub 5 true v5 (.int .u8 48) fun v6=>
 convK P 5 3 v6 fun v7=>
 binK P .add 3 false v2 v7 fun v8=>
 minV false [v8,(.int .i64 4398046511104)] fun v9=>
 k .normal ⟨(es t [(32,(E2.get t 4)),(33,v2),(34,(E2.get t 0)),(35,(E2.get t 5)),(36,v5),(37,v6),(38,v7),(39,v8),(40,v9),(4,v9)]),dm⟩ H):=of_fun fun f=>by kernel_rfl
theorem h35_10 (dm:List Dm) (ro:Option Nat) (H:Hp) (k:AEx→En→Hp→Bool):∀(t:E2),cd P (G K) 195 44 (subC 35 [1,1,1,1,0,1,0,0,1,0,0,0,0]) ro ⟨t,dm⟩ H k=
 (indexV P 9 (E2.get t 0) (E2.get t 5) fun v3=>
 binK P .lss 5 true v3 (.int .u8 48) fun v4=>
 gJoin (boolIs false v4) (fun v6 H6=>
 gJoin (boolIs false v4) (fun v7 H7=>
 gJoin (boolIs false v4) (fun v8 H8=>
 gJoin (boolIs false v4) (fun v9 H9=>
 pickV v4 (.bool true) v9 fun v10=>
 k .normal ⟨(es t [(22,(E2.get t 0)),(23,(E2.get t 5)),(24,v3),(25,v4),(26,v4),(27,v6),(28,v7),(29,v8),(30,v9),(31,v10)]),dm⟩ H9) (fun r9=>binK P .gtr 5 true v8 (.int .u8 57) fun v11=>
 r9 v11 H8) H8) (fun r8=>indexV P 9 v6 v7 fun v12=>
 r8 v12 H7) H7) (fun r7=>r7 (E2.get t 5) H6) H6) (fun r6=>r6 (E2.get t 0) H) H):=of_fun fun f=>by kernel_rfl
theorem h35_11 (dm:List Dm) (ro:Option Nat) (H:Hp) (k:AEx→En→Hp→Bool):∀(t:E2),cd P (G K) 195 44 (subC 35 [1,1,1,1,0,1,0,0,1,0,0,0,1]) ro ⟨t,dm⟩ H k=
 (condV (E2.get t 31) (fun _=>
 k .ret ⟨(es t [(2,(.int .i64 0))]),dm⟩ H) (fun _=>
 k .normal ⟨t,dm⟩ H)):=of_fun fun f=>by kernel_rfl
theorem h36 (a0 a1:AV) (H:Hp) (k:AEnd→Hp→Bool):callBody P (G K) ⟨cd P (G K) 200,callS P (G K)⟩ 36 [a0,a1] H k=
 (lenK P 58 a0 H fun v4=>
 binK P .geq 3 false a1 v4 fun v5=>
 condV v5 (fun _=>
 k (.ret (.str [])) H) (fun _=>
 indexAtK P 58 a0 a1 fun v9=>
 loadK P (G K) H 9 v9 fun v10=>
 k (.ret v10) H)):=by kernel_rfl
theorem h37 (a0:AV) (H:Hp) (k:AEnd→Hp→Bool):callBody P (G K) ⟨cd P (G K) 200,callS P (G K)⟩ 37 [a0] H k=
 (let n0:AEx→En→Hp→Bool:=fun x e H=>bodyEnd P (G K) Tryz.f37 ⟨cd P (G K) 200,callS P (G K)⟩ k x e H;
 Hp.new H (.cells (some 23) false [(.int .i64 0),(.int .i64 0)]) fun b1 H1=>
 let n2:AEx→En→Hp→Bool:=fun x e H=>isNormal x (fun _=>cd P (G K) 198 25 (subC 37 [1,1]) none e H fun x e H=>n0 x e H) (fun x=>n0 x e H);
 semC P (G K) 25 (.loop (subC 37 [1,0,1,0])) none ⟨(es E2.empty [(0,a0),(2,(.ptr b1 0)),(3,(.int .i64 0))]),[]⟩ H1 fun x e4 H4=>isExit 0 x (fun _=>n2 .normal e4 H4) (fun x=>n2 x e4 H4)):=by kernel_rfl
theorem r37 (H:Hp) (k:AEnd→Hp→Bool) (i:Evs):∀(t:E2),bodyEnd P (G K) Tryz.f37 i k .ret ⟨t,[]⟩ H=(loadK P (G K) H 23 (E2.get t 2) fun v0=>k (.ret v0) H):=of_fun fun f=>by kernel_rfl
theorem h37_0 (dm:List Dm) (ro:Option Nat) (H:Hp) (k:AEx→En→Hp→Bool):∀(t:E2),cd P (G K) 198 25 (subC 37 [1,1]) ro ⟨t,dm⟩ H k=
 (buildK P 23 [] fun v1=>
 storeK P H 23 (E2.get t 2) v1 fun H2=>
 k .ret ⟨(es t [(24,v1)]),dm⟩ H2):=of_fun fun f=>by kernel_rfl
theorem h37_1 (dm:List Dm) (ro:Option Nat) (H:Hp) (k:AEx→En→Hp→Bool):∀(t:E2),cd P (G K) 200 25 (subC 37 [1,0,1,0]) ro ⟨t,dm⟩ H k=
 (lenK P 9 (E2.get t 0) H fun v3=>
 binK P .lss 3 false (E2.get t 3) v3 fun v4=>
 condV v4 (fun _=>
 indexV P 9 (E2.get t 0) (E2.get t 3) fun v7=>
 binK P .eql 5 true v7 (.int .u8 45) fun v8=>
 condV v8 (fun _=>
 sliceAtK P H 9 (E2.get t 0) none (some (E2.get t 3)) none fun v11=>
 binK P .add 3 true (E2.get t 3) (.int .i64 1) fun v14=>
 sliceAtK P H 9 (E2.get t 0) (some v14) none none fun v15=>
 layAnc 7 [] H fun Q17 H17=>cl P (G K) 35 [v11] H17 fun v16 H16=>
 Bool.casesOn (recheck 7 ((7,fun H'=>sliceAtK P H' 9 (E2.get t 0) (some v14) none none fun v'=>avSame 1000 v15 v')::((2,fun H'=>sliceAtK P H' 9 (E2.get t 0) none (some (E2.get t 3)) none fun v'=>avSame 1000 v11 v')::[])) H16) false (layAnc 255 Q17 H16 fun Q19 H19=>cl P (G K) 35 [v15] H19 fun v18 H18=>
 Bool.casesOn (recheck 255 ((7,fun H'=>sliceAtK P H' 9 (E2.get t 0) (some v14) none none fun v'=>avSame 1000 v15 v')::((2,fun H'=>sliceAtK P H' 9 (E2.get t 0) none (some (E2.get t 3)) none fun v'=>avSame 1000 v11 v')::[])) H18) false (buildK P 23 [(0,v16),(1,v18)] fun v20=>
 layAnc 1023 Q19 H18 fun Q22 H22=>storeK P H22 23 (E2.get t 2) v20 fun H21=>
 Bool.casesOn (recheck 1023 ((7,fun H'=>sliceAtK P H' 9 (E2.get t 0) (some v14) none none fun v'=>avSame 1000 v15 v')::((2,fun H'=>sliceAtK P H' 9 (E2.get t 0) none (some (E2.get t 3)) none fun v'=>avSame 1000 v11 v')::[])) H21) false (layAll Q22 H21 fun H23=>
 k .ret ⟨(es t [(4,(E2.get t 3)),(5,(E2.get t 0)),(6,v3),(7,v4),(10,(E2.get t 0)),(11,(E2.get t 3)),(12,v7),(13,v8),(14,(E2.get t 0)),(15,(E2.get t 3)),(16,v11),(18,(E2.get t 0)),(19,(E2.get t 3)),(20,v14),(21,v15),(17,v16),(22,v18),(23,v20)]),dm⟩ H23)))) (fun _=>
 binK P .add 3 true (E2.get t 3) (.int .i64 1) fun v25=>
 k .normal ⟨(es t [(4,(E2.get t 3)),(5,(E2.get t 0)),(6,v3),(7,v4),(10,(E2.get t 0)),(11,(E2.get t 3)),(12,v7),(13,v8),(8,(E2.get t 3)),(9,v25),(3,v25)]),dm⟩ H)) (fun _=>
 k (.exit 0) ⟨(es t [(4,(E2.get t 3)),(5,(E2.get t 0)),(6,v3),(7,v4)]),dm⟩ H)):=of_fun fun f=>by kernel_rfl
theorem h38 (a0:AV) (H:Hp) (k:AEnd→Hp→Bool):callBody P (G K) ⟨cd P (G K) 200,callS P (G K)⟩ 38 [a0] H k=
 (let n0:AEx→En→Hp→Bool:=fun x e H=>bodyEnd P (G K) Tryz.f38 ⟨cd P (G K) 200,callS P (G K)⟩ k x e H;
 Hp.new H (.cells (some 27) false (AV.cells a0)) fun b1 H1=>
 Hp.new H1 (.cells (some 27) false [(.int .i64 0),(.int .i64 0),(.int .i64 0),(.str []),(.int .i64 0),(.int .i64 0),(.int .i64 0),(.int .i64 0),(.int .i64 0),(.int .i64 0)]) fun b2 H2=>
 ptrPlus (.ptr b1 0) 0 fun v4=>
 loadK P (G K) H2 3 v4 fun v5=>
 ptrPlus (.ptr b1 0) 1 fun v6=>
 loadK P (G K) H2 3 v6 fun v7=>
 buildK P 27 [(0,v5),(1,v7)] fun v8=>
 Hp.new H2 (.cells (some 27) false [(.int .i64 0),(.int .i64 0),(.int .i64 0),(.str []),(.int .i64 0),(.int .i64 0),(.int .i64 0),(.int .i64 0),(.int .i64 0),(.int .i64 0)]) fun b9 H9=>
 storeK P H9 27 (.ptr b9 0) v8 fun H10=>
 cd P (G K) 197 147 (subC 38 [1,1,0]) none ⟨(es E2.empty [(0,a0),(1,(.ptr b1 0)),(2,(.ptr b2 0)),(3,(.bool false)),(6,v4),(7,v5),(8,v6),(9,v7),(10,v8),(4,(.ptr b9 0))]),[]⟩ H10 fun x e H=>isNormal x (fun _=>cd P (G K) 197 147 (subC 38 [1,1,1]) none e H fun x e H=>n0 x e H) (fun x=>n0 x e H)):=by kernel_rfl
theorem r38 (H:Hp) (k:AEnd→Hp→Bool) (i:Evs):∀(t:E2),bodyEnd P (G K) Tryz.f38 i k .ret ⟨t,[]⟩ H=(loadK P (G K) H 27 (E2.get t 2) fun v0=>k (.ret (.tup [v0,(E2.get t 3)])) H):=of_fun fun f=>by kernel_rfl
theorem h38_0 (dm:List Dm) (ro:Option Nat) (H:Hp) (k:AEx→En→Hp→Bool):∀(t:E2),cd P (G K) 197 147 (subC 38 [1,1,0]) ro ⟨t,dm⟩ H k=
 (ptrPlus (E2.get t 1) 2 fun v1=>
 loadK P (G K) H 3 v1 fun v2=>
 binK P .geq 3 true v2 (.int .i64 1) fun v3=>
 gJoin (boolIs true v3) (fun v5 H5=>
 gJoin (boolIs true v3) (fun v6 H6=>
 gJoin (boolIs true v3) (fun v7 H7=>
 pickV v3 v7 (.bool false) fun v8=>
 k .normal ⟨(es t [(11,v1),(12,v2),(13,v3),(14,v3),(15,v5),(16,v6),(17,v7),(18,v8),(5,v8)]),dm⟩ H7) (fun r7=>binK P .leq 3 true v6 (.int .i64 1099511627776) fun v10=>
 r7 v10 H6) H6) (fun r6=>loadK P (G K) H5 3 v5 fun v11=>
 r6 v11 H5) H5) (fun r5=>ptrPlus (E2.get t 1) 2 fun v12=>
 r5 v12 H) H):=of_fun fun f=>by kernel_rfl
theorem h38_1 (dm:List Dm) (ro:Option Nat) (H:Hp) (k:AEx→En→Hp→Bool):∀(t:E2),cd P (G K) 197 147 (subC 38 [1,1,1]) ro ⟨t,dm⟩ H k=
 (cd P (G K) 196 147 (subC 38 [1,1,1,0]) ro ⟨t,dm⟩ H fun x e H=>isNormal x (fun _=>cd P (G K) 196 147 (subC 38 [1,1,1,1]) ro e H fun x e H=>k x e H) (fun x=>k x e H)):=of_fun fun f=>by kernel_rfl
theorem h38_2 (dm:List Dm) (ro:Option Nat) (H:Hp) (k:AEx→En→Hp→Bool):∀(t:E2),cd P (G K) 196 147 (subC 38 [1,1,1,0]) ro ⟨t,dm⟩ H k=
 (ptrPlus (E2.get t 1) 0 fun v1=>
 loadK P (G K) H 3 v1 fun v2=>
 binK P .eql 3 true v2 (.int .i64 1) fun v3=>
 condV v3 (fun _=>
 ptrPlus (E2.get t 1) 2 fun v5=>
 loadK P (G K) H 3 v5 fun v6=>
 ptrPlus (E2.get t 4) 2 fun v7=>
 storeK P H 3 v7 v6 fun H8=>
 loadK P (G K) H8 27 (E2.get t 4) fun v9=>
 storeK P H8 27 (E2.get t 2) v9 fun H11=>
 k .ret ⟨(es t [(19,v1),(20,v2),(22,v3),(21,v3),(23,v5),(24,v6),(25,v7),(26,v9),(27,(E2.get t 5)),(3,(E2.get t 5))]),dm⟩ H11) (fun _=>
 let n13:AEx→En→Hp→Bool:=fun x e H=>isNormal x (fun _=>cd P (G K) 191 147 (subC 38 [1,1,1,0,1,0,1,1,1]) ro e H fun x e H=>isExit 0 x (fun _=>k .normal e H) (fun x=>k x e H)) (fun x=>isExit 0 x (fun _=>k .normal e H) (fun x=>k x e H));
 binK P .eql 3 true v2 (.int .i64 2) fun v14=>
 condV v14 (fun _=>
 n13 .normal ⟨(es t [(19,v1),(20,v2),(22,v3),(21,v3),(29,v14),(28,v14)]),dm⟩ H) (fun _=>
 binK P .eql 3 true v2 (.int .i64 3) fun v16=>
 condV v16 (fun _=>
 n13 .normal ⟨(es t [(19,v1),(20,v2),(22,v3),(21,v3),(29,v14),(30,v16),(28,v16)]),dm⟩ H) (fun _=>
 binK P .eql 3 true v2 (.int .i64 4) fun v18=>
 n13 .normal ⟨(es t [(19,v1),(20,v2),(22,v3),(21,v3),(29,v14),(30,v16),(31,v18),(28,v18)]),dm⟩ H)))):=of_fun fun f=>by kernel_rfl
theorem h38_3 (dm:List Dm) (ro:Option Nat) (H:Hp) (k:AEx→En→Hp→Bool):∀(t:E2),cd P (G K) 196 147 (subC 38 [1,1,1,1]) ro ⟨t,dm⟩ H k=
 (loadK P (G K) H 27 (E2.get t 4) fun v1=>
 storeK P H 27 (E2.get t 2) v1 fun H2=>
 k .ret ⟨(es t [(146,v1),(3,(.bool false))]),dm⟩ H2):=of_fun fun f=>by kernel_rfl
theorem h38_4 (dm:List Dm) (ro:Option Nat) (H:Hp) (k:AEx→En→Hp→Bool):∀(t:E2),cd P (G K) 191 147 (subC 38 [1,1,1,0,1,0,1,1,1]) ro ⟨t,dm⟩ H k=
 (condV (E2.get t 28) (fun _=>
 ptrPlus (E2.get t 1) 2 fun v1=>
 loadK P (G K) H 3 v1 fun v2=>
 ptrPlus (E2.get t 1) 3 fun v3=>
 loadK P (G K) H 9 v3 fun v4=>
 ptrPlus (E2.get t 4) 2 fun v5=>
 layAnc 19 [] H fun Q7 H7=>storeK P H7 3 v5 v2 fun H6=>
 Bool.casesOn (recheck 19 ((3,fun H'=>loadK P (G K) H' 9 v3 fun v'=>avSame 1000 v4 v')::((1,fun H'=>loadK P (G K) H' 3 v1 fun v'=>avSame 1000 v2 v')::[])) H6) false (ptrPlus (E2.get t 4) 3 fun v8=>
 layAnc 127 Q7 H6 fun Q10 H10=>storeK P H10 9 v8 v4 fun H9=>
 Bool.casesOn (recheck 127 ((3,fun H'=>loadK P (G K) H' 9 v3 fun v'=>avSame 1000 v4 v')::((1,fun H'=>loadK P (G K) H' 3 v1 fun v'=>avSame 1000 v2 v')::[])) H9) false (layAll Q10 H9 fun H11=>
 cd P (G K) 188 147 (subC 38 [1,1,1,0,1,0,1,1,1,0,1,0]) ro ⟨(es t [(32,v1),(33,v2),(34,v3),(35,v4),(36,v5),(37,v8)]),dm⟩ H11 fun x e H=>isNormal x (fun _=>cd P (G K) 188 147 (subC 38 [1,1,1,0,1,0,1,1,1,0,1,1]) ro e H fun x e H=>k x e H) (fun x=>k x e H)))) (fun _=>
 binK P .eql 3 true (E2.get t 20) (.int .i64 5) fun v12=>
 condV v12 (fun _=>
 ptrPlus (E2.get t 1) 2 fun v14=>
 loadK P (G K) H 3 v14 fun v15=>
 ptrPlus (E2.get t 1) 3 fun v16=>
 loadK P (G K) H 9 v16 fun v17=>
 ptrPlus (E2.get t 1) 4 fun v18=>
 loadK P (G K) H 23 v18 fun v19=>
 ptrPlus (E2.get t 4) 2 fun v20=>
 layAnc 67 [] H fun Q22 H22=>storeK P H22 3 v20 v15 fun H21=>
 Bool.casesOn (recheck 67 ((5,fun H'=>loadK P (G K) H' 23 v18 fun v'=>avSame 1000 v19 v')::((3,fun H'=>loadK P (G K) H' 9 v16 fun v'=>avSame 1000 v17 v')::((1,fun H'=>loadK P (G K) H' 3 v14 fun v'=>avSame 1000 v15 v')::[]))) H21) false (ptrPlus (E2.get t 4) 3 fun v23=>
 layAnc 463 Q22 H21 fun Q25 H25=>storeK P H25 9 v23 v17 fun H24=>
 Bool.casesOn (recheck 463 ((5,fun H'=>loadK P (G K) H' 23 v18 fun v'=>avSame 1000 v19 v')::((3,fun H'=>loadK P (G K) H' 9 v16 fun v'=>avSame 1000 v17 v')::((1,fun H'=>loadK P (G K) H' 3 v14 fun v'=>avSame 1000 v15 v')::[]))) H24) false (ptrPlus (E2.get t 4) 4 fun v26=>
 layAnc 2047 Q25 H24 fun Q28 H28=>storeK P H28 23 v26 v19 fun H27=>
 Bool.casesOn (recheck 2047 ((5,fun H'=>loadK P (G K) H' 23 v18 fun v'=>avSame 1000 v19 v')::((3,fun H'=>loadK P (G K) H' 9 v16 fun v'=>avSame 1000 v17 v')::((1,fun H'=>loadK P (G K) H' 3 v14 fun v'=>avSame 1000 v15 v')::[]))) H27) false (layAll Q28 H27 fun H29=>
 cd P (G K) 186 147 (subC 38 [1,1,1,0,1,0,1,1,1,1,1,0,1,0]) ro ⟨(es t [(46,v12),(45,v12),(47,v14),(48,v15),(49,v16),(50,v17),(51,v18),(52,v19),(53,v20),(54,v23),(55,v26)]),dm⟩ H29 fun x e H=>isNormal x (fun _=>cd P (G K) 186 147 (subC 38 [1,1,1,0,1,0,1,1,1,1,1,0,1,1]) ro e H fun x e H=>k x e H) (fun x=>k x e H))))) (fun _=>
 binK P .eql 3 true (E2.get t 20) (.int .i64 6) fun v30=>
 condV v30 (fun _=>
 ptrPlus (E2.get t 1) 6 fun v32=>
 loadK P (G K) H 3 v32 fun v33=>
 ptrPlus (E2.get t 1) 4 fun v34=>
 loadK P (G K) H 23 v34 fun v35=>
 ptrPlus (E2.get t 4) 6 fun v36=>
 layAnc 19 [] H fun Q38 H38=>storeK P H38 3 v36 v33 fun H37=>
 Bool.casesOn (recheck 19 ((3,fun H'=>loadK P (G K) H' 23 v34 fun v'=>avSame 1000 v35 v')::((1,fun H'=>loadK P (G K) H' 3 v32 fun v'=>avSame 1000 v33 v')::[])) H37) false (ptrPlus (E2.get t 4) 4 fun v39=>
 layAnc 127 Q38 H37 fun Q41 H41=>storeK P H41 23 v39 v35 fun H40=>
 Bool.casesOn (recheck 127 ((3,fun H'=>loadK P (G K) H' 23 v34 fun v'=>avSame 1000 v35 v')::((1,fun H'=>loadK P (G K) H' 3 v32 fun v'=>avSame 1000 v33 v')::[])) H40) false (layAll Q41 H40 fun H42=>
 cd P (G K) 184 147 (subC 38 [1,1,1,0,1,0,1,1,1,1,1,1,1,0,1,0]) ro ⟨(es t [(46,v12),(45,v12),(85,v30),(84,v30),(86,v32),(87,v33),(88,v34),(89,v35),(90,v36),(91,v39)]),dm⟩ H42 fun x e H=>isNormal x (fun _=>cd P (G K) 184 147 (subC 38 [1,1,1,0,1,0,1,1,1,1,1,1,1,0,1,1]) ro e H fun x e H=>k x e H) (fun x=>k x e H)))) (fun _=>
 binK P .eql 3 true (E2.get t 20) (.int .i64 7) fun v43=>
 condV v43 (fun _=>
 ptrPlus (E2.get t 1) 7 fun v45=>
 loadK P (G K) H 3 v45 fun v46=>
 ptrPlus (E2.get t 1) 4 fun v47=>
 loadK P (G K) H 23 v47 fun v48=>
 ptrPlus (E2.get t 4) 7 fun v49=>
 layAnc 19 [] H fun Q51 H51=>storeK P H51 3 v49 v46 fun H50=>
 Bool.casesOn (recheck 19 ((3,fun H'=>loadK P (G K) H' 23 v47 fun v'=>avSame 1000 v48 v')::((1,fun H'=>loadK P (G K) H' 3 v45 fun v'=>avSame 1000 v46 v')::[])) H50) false (ptrPlus (E2.get t 4) 4 fun v52=>
 layAnc 127 Q51 H50 fun Q54 H54=>storeK P H54 23 v52 v48 fun H53=>
 Bool.casesOn (recheck 127 ((3,fun H'=>loadK P (G K) H' 23 v47 fun v'=>avSame 1000 v48 v')::((1,fun H'=>loadK P (G K) H' 3 v45 fun v'=>avSame 1000 v46 v')::[])) H53) false (layAll Q54 H53 fun H55=>
 cd P (G K) 182 147 (subC 38 [1,1,1,0,1,0,1,1,1,1,1,1,1,1,1,0,1,0]) ro ⟨(es t [(46,v12),(45,v12),(85,v30),(84,v30),(102,v43),(101,v43),(103,v45),(104,v46),(105,v47),(106,v48),(107,v49),(108,v52)]),dm⟩ H55 fun x e H=>isNormal x (fun _=>cd P (G K) 182 147 (subC 38 [1,1,1,0,1,0,1,1,1,1,1,1,1,1,1,0,1,1]) ro e H fun x e H=>k x e H) (fun x=>k x e H)))) (fun _=>
 binK P .eql 3 true (E2.get t 20) (.int .i64 8) fun v56=>
 condV v56 (fun _=>
 ptrPlus (E2.get t 1) 8 fun v58=>
 loadK P (G K) H 25 v58 fun v59=>
 ptrPlus (E2.get t 4) 8 fun v60=>
 storeK P H 25 v60 v59 fun H61=>
 cd P (G K) 180 147 (subC 38 [1,1,1,0,1,0,1,1,1,1,1,1,1,1,1,1,1,0,1,0]) ro ⟨(es t [(46,v12),(45,v12),(85,v30),(84,v30),(102,v43),(101,v43),(119,v56),(118,v56),(120,v58),(121,v59),(122,v60)]),dm⟩ H61 fun x e H=>isNormal x (fun _=>cd P (G K) 180 147 (subC 38 [1,1,1,0,1,0,1,1,1,1,1,1,1,1,1,1,1,0,1,1]) ro e H fun x e H=>k x e H) (fun x=>k x e H)) (fun _=>
 k .normal ⟨(es t [(46,v12),(45,v12),(85,v30),(84,v30),(102,v43),(101,v43),(119,v56),(118,v56)]),dm⟩ H)))))):=of_fun fun f=>by kernel_rfl
theorem h38_5 (dm:List Dm) (ro:Option Nat) (H:Hp) (k:AEx→En→Hp→Bool):∀(t:E2),cd P (G K) 188 147 (subC 38 [1,1,1,0,1,0,1,1,1,0,1,0]) ro ⟨t,dm⟩ H k=
 (loadK P (G K) H 27 (E2.get t 4) fun v1=>
 gJoinD (boolIs true (E2.get t 5)) (fun v4 H4 L4 Q4=>
 gJoinD (boolIs true (E2.get t 5)) (fun v5 H5 L5 Q5=>
 gJoinD (boolIs true (E2.get t 5)) (fun v6 H6 L6 Q6=>
 pickV (E2.get t 5) v6 (.bool false) fun v7=>
 layAnc 63 Q6 H6 fun Q9 H9=>storeK P H9 27 (E2.get t 2) v1 fun H8=>
 Bool.casesOn (recheck 63 L6 H8) false (layAll Q9 H8 fun H11=>
 k .normal ⟨(es t [(38,v1),(39,(E2.get t 5)),(40,(E2.get t 5)),(41,v4),(42,v5),(43,v6),(44,v7),(3,v7)]),dm⟩ H11)) (fun r6=>layAnc 30 Q5 H5 fun Q13 H13=>cl P (G K) 74 [v5] H13 fun v12 H12=>
 Bool.casesOn (recheck 30 L5 H12) false (r6 v12 H12 L5 Q13)) H5 L5 Q5) (fun r5=>loadK P (G K) H4 9 v4 fun v14=>
 r5 v14 H4 ((4,fun H'=>loadK P (G K) H' 9 v4 fun v'=>avSame 1000 v14 v')::L4) Q4) H4 L4 Q4) (fun r4=>ptrPlus (E2.get t 1) 3 fun v15=>
 r4 v15 H ((0,fun H'=>loadK P (G K) H' 27 (E2.get t 4) fun v'=>avSame 1000 v1 v')::[]) []) H ((0,fun H'=>loadK P (G K) H' 27 (E2.get t 4) fun v'=>avSame 1000 v1 v')::[]) []):=of_fun fun f=>by kernel_rfl
theorem h38_6 (dm:List Dm) (ro:Option Nat) (H:Hp) (k:AEx→En→Hp→Bool):∀(t:E2),cd P (G K) 188 147 (subC 38 [1,1,1,0,1,0,1,1,1,0,1,1]) ro ⟨t,dm⟩ H k=
 (k .ret ⟨t,dm⟩ H):=of_fun fun f=>by kernel_rfl
theorem h38_7 (dm:List Dm) (ro:Option Nat) (H:Hp) (k:AEx→En→Hp→Bool):∀(t:E2),cd P (G K) 186 147 (subC 38 [1,1,1,0,1,0,1,1,1,1,1,0,1,0]) ro ⟨t,dm⟩ H k=
 (loadK P (G K) H 27 (E2.get t 4) fun v1=>
 gJoinD (boolIs true (E2.get t 5)) (fun v4 H4 L4 Q4=>
 gJoinD (boolIs true (E2.get t 5)) (fun v5 H5 L5 Q5=>
 gJoinD (boolIs true (E2.get t 5)) (fun v6 H6 L6 Q6=>
 pickV (E2.get t 5) v6 (.bool false) fun v7=>
 gJoinD (boolIs true v7) (fun v9 H9 L9 Q9=>
 gJoinD (boolIs true v7) (fun v10 H10 L10 Q10=>
 gJoinD (boolIs true v7) (fun v11 H11 L11 Q11=>
 gJoinD (boolIs true v7) (fun v12 H12 L12 Q12=>
 pickV v7 v12 (.bool false) fun v13=>
 gJoinD (boolIs true v13) (fun v15 H15 L15 Q15=>
 gJoinD (boolIs true v13) (fun v16 H16 L16 Q16=>
 gJoinD (boolIs true v13) (fun v17 H17 L17 Q17=>
 gJoinD (boolIs true v13) (fun v18 H18 L18 Q18=>
 pickV v13 v18 (.bool false) fun v19=>
 gJoinD (boolIs true v19) (fun v21 H21 L21 Q21=>
 gJoinD (boolIs true v19) (fun v22 H22 L22 Q22=>
 gJoinD (boolIs true v19) (fun v23 H23 L23 Q23=>
 gJoinD (boolIs true v19) (fun v24 H24 L24 Q24=>
 gJoinD (boolIs true v19) (fun v25 H25 L25 Q25=>
 gJoinD (boolIs true v19) (fun v26 H26 L26 Q26=>
 gJoinD (boolIs true v19) (fun v27 H27 L27 Q27=>
 pickV v19 v27 (.bool false) fun v28=>
 layAnc 1048575 Q27 H27 fun Q30 H30=>storeK P H30 27 (E2.get t 2) v1 fun H29=>
 Bool.casesOn (recheck 1048575 L27 H29) false (layAll Q30 H29 fun H32=>
 k .normal ⟨(es t [(56,v1),(57,(E2.get t 5)),(58,(E2.get t 5)),(59,v4),(60,v5),(61,v6),(62,v7),(63,v7),(64,v9),(65,v10),(66,v11),(67,v12),(68,v13),(69,v13),(70,v15),(71,v16),(72,v17),(73,v18),(74,v19),(75,v19),(76,v21),(77,v22),(78,v23),(79,v24),(80,v25),(81,v26),(82,v27),(83,v28),(3,v28)]),dm⟩ H32)) (fun r27=>binK P .leq 3 false v23 v26 fun v33=>
 r27 v33 H26 L26 Q26) H26 L26 Q26) (fun r26=>loadK P (G K) H25 3 v25 fun v34=>
 r26 v34 H25 ((25,fun H'=>loadK P (G K) H' 3 v25 fun v'=>avSame 1000 v34 v')::L25) Q25) H25 L25 Q25) (fun r25=>ptrPlus v24 1 fun v35=>
 r25 v35 H24 L24 Q24) H24 L24 Q24) (fun r24=>ptrPlus (E2.get t 1) 4 fun v36=>
 r24 v36 H23 L23 Q23) H23 L23 Q23) (fun r23=>loadK P (G K) H22 3 v22 fun v37=>
 r23 v37 H22 ((22,fun H'=>loadK P (G K) H' 3 v22 fun v'=>avSame 1000 v37 v')::L22) Q22) H22 L22 Q22) (fun r22=>ptrPlus v21 0 fun v38=>
 r22 v38 H21 L21 Q21) H21 L21 Q21) (fun r21=>ptrPlus (E2.get t 1) 4 fun v39=>
 r21 v39 H18 L18 Q18) H18 L18 Q18) (fun r18=>layAnc 131070 Q17 H17 fun Q41 H41=>cl P (G K) 39 [v17] H41 fun v40 H40=>
 Bool.casesOn (recheck 131070 L17 H40) false (r18 v40 H40 L17 Q41)) H17 L17 Q17) (fun r17=>loadK P (G K) H16 3 v16 fun v42=>
 r17 v42 H16 ((16,fun H'=>loadK P (G K) H' 3 v16 fun v'=>avSame 1000 v42 v')::L16) Q16) H16 L16 Q16) (fun r16=>ptrPlus v15 1 fun v43=>
 r16 v43 H15 L15 Q15) H15 L15 Q15) (fun r15=>ptrPlus (E2.get t 1) 4 fun v44=>
 r15 v44 H12 L12 Q12) H12 L12 Q12) (fun r12=>layAnc 2046 Q11 H11 fun Q46 H46=>cl P (G K) 39 [v11] H46 fun v45 H45=>
 Bool.casesOn (recheck 2046 L11 H45) false (r12 v45 H45 L11 Q46)) H11 L11 Q11) (fun r11=>loadK P (G K) H10 3 v10 fun v47=>
 r11 v47 H10 ((10,fun H'=>loadK P (G K) H' 3 v10 fun v'=>avSame 1000 v47 v')::L10) Q10) H10 L10 Q10) (fun r10=>ptrPlus v9 0 fun v48=>
 r10 v48 H9 L9 Q9) H9 L9 Q9) (fun r9=>ptrPlus (E2.get t 1) 4 fun v49=>
 r9 v49 H6 L6 Q6) H6 L6 Q6) (fun r6=>layAnc 30 Q5 H5 fun Q51 H51=>cl P (G K) 74 [v5] H51 fun v50 H50=>
 Bool.casesOn (recheck 30 L5 H50) false (r6 v50 H50 L5 Q51)) H5 L5 Q5) (fun r5=>loadK P (G K) H4 9 v4 fun v52=>
 r5 v52 H4 ((4,fun H'=>loadK P (G K) H' 9 v4 fun v'=>avSame 1000 v52 v')::L4) Q4) H4 L4 Q4) (fun r4=>ptrPlus (E2.get t 1) 3 fun v53=>
 r4 v53 H ((0,fun H'=>loadK P (G K) H' 27 (E2.get t 4) fun v'=>avSame 1000 v1 v')::[]) []) H ((0,fun H'=>loadK P (G K) H' 27 (E2.get t 4) fun v'=>avSame 1000 v1 v')::[]) []):=of_fun fun f=>by kernel_rfl
theorem h38_8 (dm:List Dm) (ro:Option Nat) (H:Hp) (k:AEx→En→Hp→Bool):∀(t:E2),cd P (G K) 186 147 (subC 38 [1,1,1,0,1,0,1,1,1,1,1,0,1,1]) ro ⟨t,dm⟩ H k=
 (k .ret ⟨t,dm⟩ H):=of_fun fun f=>by kernel_rfl
theorem h38_9 (dm:List Dm) (ro:Option Nat) (H:Hp) (k:AEx→En→Hp→Bool):∀(t:E2),cd P (G K) 184 147 (subC 38 [1,1,1,0,1,0,1,1,1,1,1,1,1,0,1,0]) ro ⟨t,dm⟩ H k=
 (loadK P (G K) H 27 (E2.get t 4) fun v1=>
 ptrPlus (E2.get t 1) 6 fun v2=>
 loadK P (G K) H 3 v2 fun v3=>
 layAnc 6 [] H fun Q5 H5=>cl P (G K) 75 [v3] H5 fun v4 H4=>
 Bool.casesOn (recheck 6 ((2,fun H'=>loadK P (G K) H' 3 v2 fun v'=>avSame 1000 v3 v')::((0,fun H'=>loadK P (G K) H' 27 (E2.get t 4) fun v'=>avSame 1000 v1 v')::[])) H4) false (gJoinD (boolIs true v4) (fun v7 H7 L7 Q7=>
 gJoinD (boolIs true v4) (fun v8 H8 L8 Q8=>
 gJoinD (boolIs true v4) (fun v9 H9 L9 Q9=>
 pickV v4 v9 (.bool false) fun v10=>
 layAnc 255 Q9 H9 fun Q12 H12=>storeK P H12 27 (E2.get t 2) v1 fun H11=>
 Bool.casesOn (recheck 255 L9 H11) false (layAll Q12 H11 fun H14=>
 k .normal ⟨(es t [(92,v1),(93,v2),(94,v3),(95,v4),(96,v4),(97,v7),(98,v8),(99,v9),(100,v10),(3,v10)]),dm⟩ H14)) (fun r9=>layAnc 126 Q8 H8 fun Q16 H16=>cl P (G K) 76 [v8] H16 fun v15 H15=>
 Bool.casesOn (recheck 126 L8 H15) false (r9 v15 H15 L8 Q16)) H8 L8 Q8) (fun r8=>loadK P (G K) H7 23 v7 fun v17=>
 r8 v17 H7 ((6,fun H'=>loadK P (G K) H' 23 v7 fun v'=>avSame 1000 v17 v')::L7) Q7) H7 L7 Q7) (fun r7=>ptrPlus (E2.get t 1) 4 fun v18=>
 r7 v18 H4 ((2,fun H'=>loadK P (G K) H' 3 v2 fun v'=>avSame 1000 v3 v')::((0,fun H'=>loadK P (G K) H' 27 (E2.get t 4) fun v'=>avSame 1000 v1 v')::[])) Q5) H4 ((2,fun H'=>loadK P (G K) H' 3 v2 fun v'=>avSame 1000 v3 v')::((0,fun H'=>loadK P (G K) H' 27 (E2.get t 4) fun v'=>avSame 1000 v1 v')::[])) Q5)):=of_fun fun f=>by kernel_rfl
theorem h38_10 (dm:List Dm) (ro:Option Nat) (H:Hp) (k:AEx→En→Hp→Bool):∀(t:E2),cd P (G K) 184 147 (subC 38 [1,1,1,0,1,0,1,1,1,1,1,1,1,0,1,1]) ro ⟨t,dm⟩ H k=
 (k .ret ⟨t,dm⟩ H):=of_fun fun f=>by kernel_rfl
theorem h38_11 (dm:List Dm) (ro:Option Nat) (H:Hp) (k:AEx→En→Hp→Bool):∀(t:E2),cd P (G K) 182 147 (subC 38 [1,1,1,0,1,0,1,1,1,1,1,1,1,1,1,0,1,0]) ro ⟨t,dm⟩ H k=
 (loadK P (G K) H 27 (E2.get t 4) fun v1=>
 ptrPlus (E2.get t 1) 7 fun v2=>
 loadK P (G K) H 3 v2 fun v3=>
 layAnc 6 [] H fun Q5 H5=>cl P (G K) 39 [v3] H5 fun v4 H4=>
 Bool.casesOn (recheck 6 ((2,fun H'=>loadK P (G K) H' 3 v2 fun v'=>avSame 1000 v3 v')::((0,fun H'=>loadK P (G K) H' 27 (E2.get t 4) fun v'=>avSame 1000 v1 v')::[])) H4) false (gJoinD (boolIs true v4) (fun v7 H7 L7 Q7=>
 gJoinD (boolIs true v4) (fun v8 H8 L8 Q8=>
 gJoinD (boolIs true v4) (fun v9 H9 L9 Q9=>
 pickV v4 v9 (.bool false) fun v10=>
 layAnc 255 Q9 H9 fun Q12 H12=>storeK P H12 27 (E2.get t 2) v1 fun H11=>
 Bool.casesOn (recheck 255 L9 H11) false (layAll Q12 H11 fun H14=>
 k .normal ⟨(es t [(109,v1),(110,v2),(111,v3),(112,v4),(113,v4),(114,v7),(115,v8),(116,v9),(117,v10),(3,v10)]),dm⟩ H14)) (fun r9=>layAnc 126 Q8 H8 fun Q16 H16=>cl P (G K) 76 [v8] H16 fun v15 H15=>
 Bool.casesOn (recheck 126 L8 H15) false (r9 v15 H15 L8 Q16)) H8 L8 Q8) (fun r8=>loadK P (G K) H7 23 v7 fun v17=>
 r8 v17 H7 ((6,fun H'=>loadK P (G K) H' 23 v7 fun v'=>avSame 1000 v17 v')::L7) Q7) H7 L7 Q7) (fun r7=>ptrPlus (E2.get t 1) 4 fun v18=>
 r7 v18 H4 ((2,fun H'=>loadK P (G K) H' 3 v2 fun v'=>avSame 1000 v3 v')::((0,fun H'=>loadK P (G K) H' 27 (E2.get t 4) fun v'=>avSame 1000 v1 v')::[])) Q5) H4 ((2,fun H'=>loadK P (G K) H' 3 v2 fun v'=>avSame 1000 v3 v')::((0,fun H'=>loadK P (G K) H' 27 (E2.get t 4) fun v'=>avSame 1000 v1 v')::[])) Q5)):=of_fun fun f=>by kernel_rfl
theorem h38_12 (dm:List Dm) (ro:Option Nat) (H:Hp) (k:AEx→En→Hp→Bool):∀(t:E2),cd P (G K) 182 147 (subC 38 [1,1,1,0,1,0,1,1,1,1,1,1,1,1,1,0,1,1]) ro ⟨t,dm⟩ H k=
 (k .ret ⟨t,dm⟩ H):=of_fun fun f=>by kernel_rfl
theorem h38_13 (dm:List Dm) (ro:Option Nat) (H:Hp) (k:AEx→En→Hp→Bool):∀(t:E2),cd P (G K) 180 147 (subC 38 [1,1,1,0,1,0,1,1,1,1,1,1,1,1,1,1,1,0,1,0]) ro ⟨t,dm⟩ H k=
 (loadK P (G K) H 27 (E2.get t 4) fun v1=>
 ptrPlus (E2.get t 1) 8 fun v2=>
 ptrPlus v2 0 fun v3=>
 loadK P (G K) H 3 v3 fun v4=>
 binK P .geq 3 true v4 (.int .i64 1) fun v5=>
 gJoinD (boolIs true v5) (fun v7 H7 L7 Q7=>
 gJoinD (boolIs true v5) (fun v8 H8 L8 Q8=>
 gJoinD (boolIs true v5) (fun v9 H9 L9 Q9=>
 gJoinD (boolIs true v5) (fun v10 H10 L10 Q10=>
 pickV v5 v10 (.bool false) fun v11=>
 gJoinD (boolIs true v11) (fun v13 H13 L13 Q13=>
 gJoinD (boolIs true v11) (fun v14 H14 L14 Q14=>
 gJoinD (boolIs true v11) (fun v15 H15 L15 Q15=>
 gJoinD (boolIs true v11) (fun v16 H16 L16 Q16=>
 pickV v11 v16 (.bool false) fun v17=>
 gJoinD (boolIs true v17) (fun v19 H19 L19 Q19=>
 gJoinD (boolIs true v17) (fun v20 H20 L20 Q20=>
 gJoinD (boolIs true v17) (fun v21 H21 L21 Q21=>
 gJoinD (boolIs true v17) (fun v22 H22 L22 Q22=>
 pickV v17 v22 (.bool false) fun v23=>
 layAnc 262143 Q22 H22 fun Q25 H25=>storeK P H25 27 (E2.get t 2) v1 fun H24=>
 Bool.casesOn (recheck 262143 L22 H24) false (layAll Q25 H24 fun H27=>
 k .normal ⟨(es t [(123,v1),(124,v2),(125,v3),(126,v4),(127,v5),(128,v5),(129,v7),(130,v8),(131,v9),(132,v10),(133,v11),(134,v11),(135,v13),(136,v14),(137,v15),(138,v16),(139,v17),(140,v17),(141,v19),(142,v20),(143,v21),(144,v22),(145,v23),(3,v23)]),dm⟩ H27)) (fun r22=>binK P .leq 3 true v21 (.int .i64 60) fun v28=>
 r22 v28 H21 L21 Q21) H21 L21 Q21) (fun r21=>loadK P (G K) H20 3 v20 fun v29=>
 r21 v29 H20 ((20,fun H'=>loadK P (G K) H' 3 v20 fun v'=>avSame 1000 v29 v')::L20) Q20) H20 L20 Q20) (fun r20=>ptrPlus v19 1 fun v30=>
 r20 v30 H19 L19 Q19) H19 L19 Q19) (fun r19=>ptrPlus (E2.get t 1) 8 fun v31=>
 r19 v31 H16 L16 Q16) H16 L16 Q16) (fun r16=>binK P .geq 3 true v15 (.int .i64 1) fun v32=>
 r16 v32 H15 L15 Q15) H15 L15 Q15) (fun r15=>loadK P (G K) H14 3 v14 fun v33=>
 r15 v33 H14 ((14,fun H'=>loadK P (G K) H' 3 v14 fun v'=>avSame 1000 v33 v')::L14) Q14) H14 L14 Q14) (fun r14=>ptrPlus v13 1 fun v34=>
 r14 v34 H13 L13 Q13) H13 L13 Q13) (fun r13=>ptrPlus (E2.get t 1) 8 fun v35=>
 r13 v35 H10 L10 Q10) H10 L10 Q10) (fun r10=>binK P .leq 3 true v9 (.int .i64 8) fun v36=>
 r10 v36 H9 L9 Q9) H9 L9 Q9) (fun r9=>loadK P (G K) H8 3 v8 fun v37=>
 r9 v37 H8 ((8,fun H'=>loadK P (G K) H' 3 v8 fun v'=>avSame 1000 v37 v')::L8) Q8) H8 L8 Q8) (fun r8=>ptrPlus v7 0 fun v38=>
 r8 v38 H7 L7 Q7) H7 L7 Q7) (fun r7=>ptrPlus (E2.get t 1) 8 fun v39=>
 r7 v39 H ((3,fun H'=>loadK P (G K) H' 3 v3 fun v'=>avSame 1000 v4 v')::((0,fun H'=>loadK P (G K) H' 27 (E2.get t 4) fun v'=>avSame 1000 v1 v')::[])) []) H ((3,fun H'=>loadK P (G K) H' 3 v3 fun v'=>avSame 1000 v4 v')::((0,fun H'=>loadK P (G K) H' 27 (E2.get t 4) fun v'=>avSame 1000 v1 v')::[])) []):=of_fun fun f=>by kernel_rfl
theorem h38_14 (dm:List Dm) (ro:Option Nat) (H:Hp) (k:AEx→En→Hp→Bool):∀(t:E2),cd P (G K) 180 147 (subC 38 [1,1,1,0,1,0,1,1,1,1,1,1,1,1,1,1,1,0,1,1]) ro ⟨t,dm⟩ H k=
 (k .ret ⟨t,dm⟩ H):=of_fun fun f=>by kernel_rfl
end
end Go.S9
