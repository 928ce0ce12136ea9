/- A part of the proof of TribunalReplies. -/
import Derived.Test.YtmmghibnfjfnbaaGreatDoorRAd
set_option linter.unusedVariables false
set_option linter.unusedSimpArgs false
namespace Go.S9
open Go.Ev Go.Proofs
set_option maxRecDepth 1000000
set_option linter.unusedVariables false
noncomputable section
variable {K : Int}
theorem h58 (a0 a1:AV) (H:Hp) (k:AEnd→Hp→Bool):callBody P (G K) ⟨cd P (G K) 200,callS P (G K)⟩ 58 [a0,a1] H k=
 (let n0:AEx→En→Hp→Bool:=fun x e H=>bodyEnd P (G K) Tryz.f58 ⟨cd P (G K) 200,callS P (G K)⟩ k x e H;
 lenK P 42 a0 H fun v3=>
 lenK P 42 a1 H fun v5=>
 binK P .neq 3 false v3 v5 fun v6=>
 condV v6 (fun _=>
 n0 .ret ⟨(es E2.empty [(0,a0),(1,a1),(6,a0),(7,v3),(8,a1),(9,v5),(10,v6),(4,(.bool false))]),[]⟩ H) (fun _=>
 let n8:AEx→En→Hp→Bool:=fun x e H=>isNormal x (fun _=>cd P (G K) 197 26 (subC 58 [1,1,1]) none e H fun x e H=>n0 x e H) (fun x=>n0 x e H);
 semC P (G K) 26 (.loop (subC 58 [1,1,0,1,0])) none ⟨(es E2.empty [(0,a0),(1,a1),(4,(.bool false)),(6,a0),(7,v3),(8,a1),(9,v5),(10,v6),(5,(.int .i64 0))]),[]⟩ H fun x e10 H10=>isExit 0 x (fun _=>n8 .normal e10 H10) (fun x=>n8 x e10 H10))):=by kernel_rfl
theorem r58 (t:E2) (H:Hp) (k:AEnd→Hp→Bool) (i:Evs):bodyEnd P (G K) Tryz.f58 i k .ret ⟨t,[]⟩ H=k (.ret (E2.get t 4)) H:=by kernel_rfl
theorem h58_0 (dm:List Dm) (ro:Option Nat) (H:Hp) (k:AEx→En→Hp→Bool):∀(t:E2),cd P (G K) 197 26 (subC 58 [1,1,1]) ro ⟨t,dm⟩ H k=
 (k .ret ⟨(es t [(4,(.bool true))]),dm⟩ H):=of_fun fun f=>by kernel_rfl
theorem h58_1 (dm:List Dm) (ro:Option Nat) (H:Hp) (k:AEx→En→Hp→Bool):∀(t:E2),cd P (G K) 200 26 (subC 58 [1,1,0,1,0]) ro ⟨t,dm⟩ H k=
 (lenK P 42 (E2.get t 0) H fun v3=>
 binK P .lss 3 false (E2.get t 5) v3 fun v4=>
 condV v4 (fun _=>
 indexAtK P 42 (E2.get t 0) (E2.get t 5) fun v7=>
 loadK P (G K) H 3 v7 fun v8=>
 indexAtK P 42 (E2.get t 1) (E2.get t 5) fun v11=>
 loadK P (G K) H 3 v11 fun v12=>
 binK P .neq 3 false v8 v12 fun v13=>
 condV v13 (fun _=>
 k .ret ⟨(es t [(11,(E2.get t 5)),(12,(E2.get t 0)),(13,v3),(14,v4),(17,(E2.get t 0)),(18,(E2.get t 5)),(19,v7),(20,v8),(21,(E2.get t 1)),(22,(E2.get t 5)),(23,v11),(24,v12),(25,v13),(4,(.bool false))]),dm⟩ H) (fun _=>
 binK P .add 3 true (E2.get t 5) (.int .i64 1) fun v16=>
 k .normal ⟨(es t [(11,(E2.get t 5)),(12,(E2.get t 0)),(13,v3),(14,v4),(17,(E2.get t 0)),(18,(E2.get t 5)),(19,v7),(20,v8),(21,(E2.get t 1)),(22,(E2.get t 5)),(23,v11),(24,v12),(25,v13),(15,(E2.get t 5)),(16,v16),(5,v16)]),dm⟩ H)) (fun _=>
 k (.exit 0) ⟨(es t [(11,(E2.get t 5)),(12,(E2.get t 0)),(13,v3),(14,v4)]),dm⟩ H)):=of_fun fun f=>by kernel_rfl
theorem h59 (a0 a1:AV) (H:Hp) (k:AEnd→Hp→Bool):callBody P (G K) ⟨cd P (G K) 200,callS P (G K)⟩ 59 [a0,a1] H k=
 (let n0:AEx→En→Hp→Bool:=fun x e H=>bodyEnd P (G K) Tryz.f59 ⟨cd P (G K) 200,callS P (G K)⟩ k x e H;
 lenK P 43 a0 H fun v3=>
 lenK P 43 a1 H fun v5=>
 binK P .neq 3 false v3 v5 fun v6=>
 condV v6 (fun _=>
 n0 .ret ⟨(es E2.empty [(0,a0),(1,a1),(6,a0),(7,v3),(8,a1),(9,v5),(10,v6),(4,(.bool false))]),[]⟩ H) (fun _=>
 let n8:AEx→En→Hp→Bool:=fun x e H=>isNormal x (fun _=>cd P (G K) 197 26 (subC 59 [1,1,1]) none e H fun x e H=>n0 x e H) (fun x=>n0 x e H);
 semC P (G K) 26 (.loop (subC 59 [1,1,0,1,0])) none ⟨(es E2.empty [(0,a0),(1,a1),(4,(.bool false)),(6,a0),(7,v3),(8,a1),(9,v5),(10,v6),(5,(.int .i64 0))]),[]⟩ H fun x e10 H10=>isExit 0 x (fun _=>n8 .normal e10 H10) (fun x=>n8 x e10 H10))):=by kernel_rfl
theorem r59 (t:E2) (H:Hp) (k:AEnd→Hp→Bool) (i:Evs):bodyEnd P (G K) Tryz.f59 i k .ret ⟨t,[]⟩ H=k (.ret (E2.get t 4)) H:=by kernel_rfl
theorem h59_0 (dm:List Dm) (ro:Option Nat) (H:Hp) (k:AEx→En→Hp→Bool):∀(t:E2),cd P (G K) 197 26 (subC 59 [1,1,1]) ro ⟨t,dm⟩ H k=
 (k .ret ⟨(es t [(4,(.bool true))]),dm⟩ H):=of_fun fun f=>by kernel_rfl
theorem h59_1 (dm:List Dm) (ro:Option Nat) (H:Hp) (k:AEx→En→Hp→Bool):∀(t:E2),cd P (G K) 200 26 (subC 59 [1,1,0,1,0]) ro ⟨t,dm⟩ H k=
 (lenK P 43 (E2.get t 0) H fun v3=>
 binK P .lss 3 false (E2.get t 5) v3 fun v4=>
 condV v4 (fun _=>
 indexAtK P 43 (E2.get t 0) (E2.get t 5) fun v7=>
 loadK P (G K) H 83 v7 fun v8=>
 indexAtK P 43 (E2.get t 1) (E2.get t 5) fun v11=>
 loadK P (G K) H 83 v11 fun v12=>
 binK P .neq 83 false v8 v12 fun v13=>
 condV v13 (fun _=>
 k .ret ⟨(es t [(11,(E2.get t 5)),(12,(E2.get t 0)),(13,v3),(14,v4),(17,(E2.get t 0)),(18,(E2.get t 5)),(19,v7),(20,v8),(21,(E2.get t 1)),(22,(E2.get t 5)),(23,v11),(24,v12),(25,v13),(4,(.bool false))]),dm⟩ H) (fun _=>
 binK P .add 3 true (E2.get t 5) (.int .i64 1) fun v16=>
 k .normal ⟨(es t [(11,(E2.get t 5)),(12,(E2.get t 0)),(13,v3),(14,v4),(17,(E2.get t 0)),(18,(E2.get t 5)),(19,v7),(20,v8),(21,(E2.get t 1)),(22,(E2.get t 5)),(23,v11),(24,v12),(25,v13),(15,(E2.get t 5)),(16,v16),(5,v16)]),dm⟩ H)) (fun _=>
 k (.exit 0) ⟨(es t [(11,(E2.get t 5)),(12,(E2.get t 0)),(13,v3),(14,v4)]),dm⟩ H)):=of_fun fun f=>by kernel_rfl
theorem h67 (a0 a1 a2:AV) (H:Hp) (k:AEnd→Hp→Bool):callBody P (G K) ⟨cd P (G K) 200,callS P (G K)⟩ 67 [a0,a1,a2] H k=
 (let n0:AEx→En→Hp→Bool:=fun x e H=>bodyEnd P (G K) Tryz.f67 ⟨cd P (G K) 200,callS P (G K)⟩ k x e H;
 cd P (G K) 198 15 (subC 67 [1,0]) none ⟨(es E2.empty [(0,a0),(1,a1),(2,a2),(6,(.bool false))]),[]⟩ H fun x e H=>isNormal x (fun _=>cd P (G K) 198 15 (subC 67 [1,1]) none e H fun x e H=>n0 x e H) (fun x=>n0 x e H)):=by kernel_rfl
theorem r67 (t:E2) (H:Hp) (k:AEnd→Hp→Bool) (i:Evs):bodyEnd P (G K) Tryz.f67 i k .ret ⟨t,[]⟩ H=k (.ret (E2.get t 6)) H:=by kernel_rfl
theorem h67_0 (dm:List Dm) (ro:Option Nat) (H:Hp) (k:AEx→En→Hp→Bool):∀(t:E2),cd P (G K) 198 15 (subC 67 [1,0]) ro ⟨t,dm⟩ H k=
 (binK P .geq 3 false (E2.get t 0) (E2.get t 1) fun v3=>
 gJoin (boolIs true v3) (fun v5 H5=>
 gJoin (boolIs true v3) (fun v6 H6=>
 gJoin (boolIs true v3) (fun v7 H7=>
 pickV v3 v7 (.bool false) fun v8=>
 k .normal ⟨(es t [(7,(E2.get t 0)),(8,(E2.get t 1)),(9,v3),(10,v3),(11,v5),(12,v6),(13,v7),(14,v8),(6,v8)]),dm⟩ H7) (fun r7=>binK P .leq 3 false v5 v6 fun v10=>
 r7 v10 H6) H6) (fun r6=>r6 (E2.get t 2) H5) H5) (fun r5=>r5 (E2.get t 0) H) H):=of_fun fun f=>by kernel_rfl
theorem h67_1 (dm:List Dm) (ro:Option Nat) (H:Hp) (k:AEx→En→Hp→Bool):∀(t:E2),cd P (G K) 198 15 (subC 67 [1,1]) ro ⟨t,dm⟩ H k=
 (k .ret ⟨t,dm⟩ H):=of_fun fun f=>by kernel_rfl
theorem h77 (a0:AV) (H:Hp) (k:AEnd→Hp→Bool):callBody P (G K) ⟨cd P (G K) 200,callS P (G K)⟩ 77 [a0] H k=
 (let n0:AEx→En→Hp→Bool:=fun x e H=>bodyEnd P (G K) Tryz.f77 ⟨cd P (G K) 200,callS P (G K)⟩ k x e H;
 binK P .rem 3 true a0 (.int .i64 10) fun v3=>
 binK P .add 3 true (.int .i64 48) v3 fun v4=>
 convK P 3 5 v4 fun v5=>
 buildSliceK P 74 1 [(0,v5)] fun k6 r6=>Hp.new H k6 fun b6 H6=>
 ptrConvK P 74 9 (r6 b6) H6 fun v7=>
 let n9:AEx→En→Hp→Bool:=fun x e H=>isNormal x (fun _=>cd P (G K) 197 23 (subC 77 [1,1,1]) none e H fun x e H=>n0 x e H) (fun x=>n0 x e H);
 semC P (G K) 23 (.loop (subC 77 [1,1,0,0])) none ⟨(es E2.empty [(0,a0),(2,(.str [])),(4,a0),(5,v3),(6,v4),(7,v5),(8,(r6 b6)),(9,v7),(3,v7)]),[]⟩ H6 fun x e10 H10=>isExit 0 x (fun _=>n9 .normal e10 H10) (fun x=>n9 x e10 H10)):=by kernel_rfl
theorem r77 (t:E2) (H:Hp) (k:AEnd→Hp→Bool) (i:Evs):bodyEnd P (G K) Tryz.f77 i k .ret ⟨t,[]⟩ H=k (.ret (E2.get t 2)) H:=by kernel_rfl
theorem h77_0 (dm:List Dm) (ro:Option Nat) (H:Hp) (k:AEx→En→Hp→Bool):∀(t:E2),cd P (G K) 197 23 (subC 77 [1,1,1]) ro ⟨t,dm⟩ H k=
 (k .ret ⟨(es t [(22,(E2.get t 3)),(2,(E2.get t 3))]),dm⟩ H):=of_fun fun f=>by kernel_rfl
theorem h77_1 (dm:List Dm) (ro:Option Nat) (H:Hp) (k:AEx→En→Hp→Bool):∀(t:E2),cd P (G K) 200 23 (subC 77 [1,1,0,0]) ro ⟨t,dm⟩ H k=
 (binK P .gtr 3 true (E2.get t 0) (.int .i64 9) fun v2=>
 condV v2 (fun _=>
 binK P .quo 3 true (E2.get t 0) (.int .i64 10) fun v4=>
 binK P .rem 3 true v4 (.int .i64 10) fun v7=>
 binK P .add 3 true (.int .i64 48) v7 fun v8=>
 convK P 3 5 v8 fun v9=>
 buildSliceK P 74 1 [(0,v9)] fun k10 r10=>Hp.new H k10 fun b10 H10=>
 ptrConvK P 74 9 (r10 b10) H10 fun v11=>
 binK P .add 9 false v11 (E2.get t 3) fun v13=>
 k .normal ⟨(es t [(10,(E2.get t 0)),(11,v2),(12,(E2.get t 0)),(13,v4),(0,v4),(14,v4),(15,v7),(16,v8),(17,v9),(18,(r10 b10)),(19,v11),(20,(E2.get t 3)),(21,v13),(3,v13)]),dm⟩ H10) (fun _=>
 k (.exit 0) ⟨(es t [(10,(E2.get t 0)),(11,v2)]),dm⟩ H)):=of_fun fun f=>by kernel_rfl
theorem h78 (a0:AV) (H:Hp) (k:AEnd→Hp→Bool):callBody P (G K) ⟨cd P (G K) 200,callS P (G K)⟩ 78 [a0] H k=
 (let n0:AEx→En→Hp→Bool:=fun x e H=>bodyEnd P (G K) Tryz.f78 ⟨cd P (G K) 200,callS P (G K)⟩ k x e H;
 lenK P 43 a0 H fun v4=>
 binK P .gtr 3 true v4 (.int .i64 4000) fun v5=>
 condV v5 (fun _=>
 n0 .ret ⟨(es E2.empty [(0,a0),(6,a0),(7,v4),(8,v5),(2,(.int .i64 2)),(3,(.int .i64 (-1)))]),[]⟩ H) (fun _=>
 let n8:AEx→En→Hp→Bool:=fun x e H=>isNormal x (fun _=>cd P (G K) 197 61 (subC 78 [1,1,1]) none e H fun x e H=>n0 x e H) (fun x=>n0 x e H);
 lenK P 43 a0 H fun v10=>
 semC P (G K) 61 (.loop (subC 78 [1,1,0,1,0])) none ⟨(es E2.empty [(0,a0),(2,(.int .i64 0)),(3,(.int .i64 0)),(6,a0),(7,v4),(8,v5),(9,a0),(10,v10),(11,(.int .i64 0))]),[]⟩ H fun x e12 H12=>isExit 0 x (fun _=>n8 .normal e12 H12) (fun x=>n8 x e12 H12))):=by kernel_rfl
theorem r78 (t:E2) (H:Hp) (k:AEnd→Hp→Bool) (i:Evs):bodyEnd P (G K) Tryz.f78 i k .ret ⟨t,[]⟩ H=k (.ret (.tup [(E2.get t 2),(E2.get t 3)])) H:=by kernel_rfl
theorem h78_0 (dm:List Dm) (ro:Option Nat) (H:Hp) (k:AEx→En→Hp→Bool):∀(t:E2),cd P (G K) 197 61 (subC 78 [1,1,1]) ro ⟨t,dm⟩ H k=
 (k .ret ⟨(es t [(2,(.int .i64 0)),(3,(.int .i64 (-1)))]),dm⟩ H):=of_fun fun f=>by kernel_rfl
theorem h78_1 (dm:List Dm) (ro:Option Nat) (H:Hp) (k:AEx→En→Hp→Bool):∀(t:E2),cd P (G K) 200 61 (subC 78 [1,1,0,1,0]) ro ⟨t,dm⟩ H k=
 (binK P .lss 3 false (E2.get t 11) (E2.get t 10) fun v1=>
 condV v1 (fun _=>
 cd P (G K) 197 61 (subC 78 [1,1,0,1,0,0,1,1,0]) ro ⟨(es t [(12,v1)]),dm⟩ H fun x e H=>isNormal x (fun _=>cd P (G K) 197 61 (subC 78 [1,1,0,1,0,0,1,1,1]) ro e H fun x e H=>k x e H) (fun x=>k x e H)) (fun _=>
 k (.exit 0) ⟨(es t [(12,v1)]),dm⟩ H)):=of_fun fun f=>by kernel_rfl
theorem h78_2 (dm:List Dm) (ro:Option Nat) (H:Hp) (k:AEx→En→Hp→Bool):∀(t:E2),cd P (G K) 197 61 (subC 78 [1,1,0,1,0,0,1,1,0]) ro ⟨t,dm⟩ H k=
 (indexAtK P 43 (E2.get t 9) (E2.get t 11) fun v2=>
 loadK P (G K) H 83 v2 fun v3=>
 Hp.new H (.cells (some 83) false [(.int .i64 0),(.int .i64 0),(.int .i64 0),(.int .i64 0),(.int .i64 0)]) fun b4 H4=>
 storeK P H4 83 (.ptr b4 0) v3 fun H6=>
 cd P (G K) 194 61 (subC 78 [1,1,0,1,0,0,1,1,0,0,1,0]) ro ⟨(es t [(13,(E2.get t 11)),(14,v2),(15,v3),(5,(.ptr b4 0)),(4,(E2.get t 11))]),dm⟩ H6 fun x e H=>isNormal x (fun _=>cd P (G K) 194 61 (subC 78 [1,1,0,1,0,0,1,1,0,0,1,1]) ro e H fun x e H=>isExit 1 x (fun _=>k .normal e H) (fun x=>k x e H)) (fun x=>isExit 1 x (fun _=>k .normal e H) (fun x=>k x e H))):=of_fun fun f=>by kernel_rfl
theorem h78_3 (dm:List Dm) (ro:Option Nat) (H:Hp) (k:AEx→En→Hp→Bool):∀(t:E2),cd P (G K) 197 61 (subC 78 [1,1,0,1,0,0,1,1,1]) ro ⟨t,dm⟩ H k=
 (binK P .add 3 true (E2.get t 11) (.int .i64 1) fun v1=>
 k .normal ⟨(es t [(60,v1),(11,v1)]),dm⟩ H):=of_fun fun f=>by kernel_rfl
theorem h78_4 (dm:List Dm) (ro:Option Nat) (H:Hp) (k:AEx→En→Hp→Bool):∀(t:E2),cd P (G K) 194 61 (subC 78 [1,1,0,1,0,0,1,1,0,0,1,0]) ro ⟨t,dm⟩ H k=
 (ptrPlus (E2.get t 5) 0 fun v1=>
 loadK P (G K) H 3 v1 fun v2=>
 cl P (G K) 107 [v2] H fun v3 H3=>
 unK .not v3 fun v4=>
 gJoin (boolIs false v4) (fun v6 H6=>
 gJoin (boolIs false v4) (fun v7 H7=>
 gJoin (boolIs false v4) (fun v8 H8=>
 pickV v4 (.bool true) v8 fun v9=>
 gJoin (boolIs false v9) (fun v11 H11=>
 gJoin (boolIs false v9) (fun v12 H12=>
 gJoin (boolIs false v9) (fun v13 H13=>
 pickV v9 (.bool true) v13 fun v14=>
 gJoin (boolIs false v14) (fun v16 H16=>
 gJoin (boolIs false v14) (fun v17 H17=>
 gJoin (boolIs false v14) (fun v18 H18=>
 gJoin (boolIs false v14) (fun v19 H19=>
 pickV v14 (.bool true) v19 fun v20=>
 gJoin (boolIs false v20) (fun v22 H22=>
 gJoin (boolIs false v20) (fun v23 H23=>
 gJoin (boolIs false v20) (fun v24 H24=>
 gJoin (boolIs false v20) (fun v25 H25=>
 pickV v20 (.bool true) v25 fun v26=>
 gJoin (boolIs false v26) (fun v28 H28=>
 gJoin (boolIs false v26) (fun v29 H29=>
 gJoin (boolIs false v26) (fun v30 H30=>
 gJoin (boolIs false v26) (fun v31 H31=>
 gJoin (boolIs false v26) (fun v32 H32=>
 pickV v26 (.bool true) v32 fun v33=>
 gJoin (boolIs false v33) (fun v35 H35=>
 gJoin (boolIs false v33) (fun v36 H36=>
 gJoin (boolIs false v33) (fun v37 H37=>
 pickV v33 (.bool true) v37 fun v38=>
 gJoin (boolIs false v38) (fun v40 H40=>
 gJoin (boolIs false v38) (fun v41 H41=>
 gJoin (boolIs false v38) (fun v42 H42=>
 pickV v38 (.bool true) v42 fun v43=>
 k .normal ⟨(es t [(16,v1),(17,v2),(18,v3),(19,v4),(20,v4),(21,v6),(22,v7),(23,v8),(24,v9),(25,v9),(26,v11),(27,v12),(28,v13),(29,v14),(30,v14),(31,v16),(32,v17),(33,v18),(34,v19),(35,v20),(36,v20),(37,v22),(38,v23),(39,v24),(40,v25),(41,v26),(42,v26),(43,v28),(44,v29),(45,v30),(46,v31),(47,v32),(48,v33),(49,v33),(50,v35),(51,v36),(52,v37),(53,v38),(54,v38),(55,v40),(56,v41),(57,v42),(58,v43)]),dm⟩ H42) (fun r42=>binK P .gtr 3 true v41 (.int .i64 1099511627776) fun v44=>
 r42 v44 H41) H41) (fun r41=>loadK P (G K) H40 3 v40 fun v45=>
 r41 v45 H40) H40) (fun r40=>ptrPlus (E2.get t 5) 4 fun v46=>
 r40 v46 H37) H37) (fun r37=>binK P .lss 3 true v36 (.int .i64 1) fun v47=>
 r37 v47 H36) H36) (fun r36=>loadK P (G K) H35 3 v35 fun v48=>
 r36 v48 H35) H35) (fun r35=>ptrPlus (E2.get t 5) 4 fun v49=>
 r35 v49 H32) H32) (fun r32=>binK P .eql 3 false v29 v31 fun v50=>
 r32 v50 H31) H31) (fun r31=>loadK P (G K) H30 3 v30 fun v51=>
 r31 v51 H30) H30) (fun r30=>ptrPlus (E2.get t 5) 3 fun v52=>
 r30 v52 H29) H29) (fun r29=>loadK P (G K) H28 3 v28 fun v53=>
 r29 v53 H28) H28) (fun r28=>ptrPlus (E2.get t 5) 2 fun v54=>
 r28 v54 H25) H25) (fun r25=>unK .not v24 fun v55=>
 r25 v55 H24) H24) (fun r24=>cl P (G K) 108 [v23] H23 fun v56 H56=>
 r24 v56 H56) H23) (fun r23=>loadK P (G K) H22 3 v22 fun v57=>
 r23 v57 H22) H22) (fun r22=>ptrPlus (E2.get t 5) 3 fun v58=>
 r22 v58 H19) H19) (fun r19=>unK .not v18 fun v59=>
 r19 v59 H18) H18) (fun r18=>cl P (G K) 108 [v17] H17 fun v60 H60=>
 r18 v60 H60) H17) (fun r17=>loadK P (G K) H16 3 v16 fun v61=>
 r17 v61 H16) H16) (fun r16=>ptrPlus (E2.get t 5) 2 fun v62=>
 r16 v62 H13) H13) (fun r13=>binK P .gtr 3 true v12 (.int .i64 12) fun v63=>
 r13 v63 H12) H12) (fun r12=>loadK P (G K) H11 3 v11 fun v64=>
 r12 v64 H11) H11) (fun r11=>ptrPlus (E2.get t 5) 1 fun v65=>
 r11 v65 H8) H8) (fun r8=>binK P .lss 3 true v7 (.int .i64 0) fun v66=>
 r8 v66 H7) H7) (fun r7=>loadK P (G K) H6 3 v6 fun v67=>
 r7 v67 H6) H6) (fun r6=>ptrPlus (E2.get t 5) 1 fun v68=>
 r6 v68 H3) H3):=of_fun fun f=>by kernel_rfl
theorem h78_5 (dm:List Dm) (ro:Option Nat) (H:Hp) (k:AEx→En→Hp→Bool):∀(t:E2),cd P (G K) 194 61 (subC 78 [1,1,0,1,0,0,1,1,0,0,1,1]) ro ⟨t,dm⟩ H k=
 (condV (E2.get t 58) (fun _=>
 k .ret ⟨(es t [(59,(E2.get t 4)),(2,(.int .i64 1)),(3,(E2.get t 4))]),dm⟩ H) (fun _=>
 k .normal ⟨t,dm⟩ H)):=of_fun fun f=>by kernel_rfl
theorem h79 (a0 a1:AV) (H:Hp) (k:AEnd→Hp→Bool):callBody P (G K) ⟨cd P (G K) 200,callS P (G K)⟩ 79 [a0,a1] H k=
 (let n0:AEx→En→Hp→Bool:=fun x e H=>bodyEnd P (G K) Tryz.f79 ⟨cd P (G K) 200,callS P (G K)⟩ k x e H;
 let n1:AEx→En→Hp→Bool:=fun x e H=>isNormal x (fun _=>cd P (G K) 199 30 (subC 79 [1]) none e H fun x e H=>n0 x e H) (fun x=>n0 x e H);
 lenK P 42 a1 H fun v3=>
 semC P (G K) 30 (.loop (subC 79 [0,1,0])) none ⟨(es E2.empty [(0,a0),(1,a1),(6,a1),(7,v3),(8,(.int .i64 0))]),[]⟩ H fun x e5 H5=>isExit 0 x (fun _=>n1 .normal e5 H5) (fun x=>n1 x e5 H5)):=by kernel_rfl
theorem h79_0 (dm:List Dm) (ro:Option Nat) (H:Hp) (k:AEx→En→Hp→Bool):∀(t:E2),cd P (G K) 199 30 (subC 79 [1]) ro ⟨t,dm⟩ H k=
 (nilCheckV (E2.get t 0) fun v2=>
 ptrPlus v2 0 fun v3=>
 cl P (G K) 109 [v3,(.int .u8 10)] H fun v4 H4=>
 k .normal ⟨(es t [(26,(E2.get t 0)),(27,v2),(28,v3),(29,v4)]),dm⟩ H4):=of_fun fun f=>by kernel_rfl
theorem h79_1 (dm:List Dm) (ro:Option Nat) (H:Hp) (k:AEx→En→Hp→Bool):∀(t:E2),cd P (G K) 200 30 (subC 79 [0,1,0]) ro ⟨t,dm⟩ H k=
 (binK P .lss 3 false (E2.get t 8) (E2.get t 7) fun v1=>
 condV v1 (fun _=>
 indexAtK P 42 (E2.get t 6) (E2.get t 8) fun v3=>
 loadK P (G K) H 3 v3 fun v4=>
 let n7:AEx→En→Hp→Bool:=fun x e H=>isNormal x (fun _=>cd P (G K) 194 30 (subC 79 [0,1,0,0,1,1,0,0,1,1]) ro e H fun x e H=>isExit 1 x (fun _=>isNormal .normal (fun _=>cd P (G K) 197 30 (subC 79 [0,1,0,0,1,1,1]) ro e H fun x e H=>k x e H) (fun x=>k x e H)) (fun x=>isNormal x (fun _=>cd P (G K) 197 30 (subC 79 [0,1,0,0,1,1,1]) ro e H fun x e H=>k x e H) (fun x=>k x e H))) (fun x=>isExit 1 x (fun _=>isNormal .normal (fun _=>cd P (G K) 197 30 (subC 79 [0,1,0,0,1,1,1]) ro e H fun x e H=>k x e H) (fun x=>k x e H)) (fun x=>isNormal x (fun _=>cd P (G K) 197 30 (subC 79 [0,1,0,0,1,1,1]) ro e H fun x e H=>k x e H) (fun x=>k x e H)));
 binK P .gtr 3 true (E2.get t 8) (.int .i64 0) fun v9=>
 condV v9 (fun _=>
 nilCheckV (E2.get t 0) fun v11=>
 ptrPlus v11 0 fun v12=>
 cl P (G K) 109 [v12,(.int .u8 32)] H fun v13 H13=>
 n7 .normal ⟨(es t [(9,v1),(10,(E2.get t 8)),(11,v3),(12,v4),(4,(E2.get t 8)),(5,v4),(13,(E2.get t 8)),(14,v9),(15,(E2.get t 0)),(16,v11),(17,v12),(18,v13)]),dm⟩ H13) (fun _=>
 n7 .normal ⟨(es t [(9,v1),(10,(E2.get t 8)),(11,v3),(12,v4),(4,(E2.get t 8)),(5,v4),(13,(E2.get t 8)),(14,v9)]),dm⟩ H)) (fun _=>
 k (.exit 0) ⟨(es t [(9,v1)]),dm⟩ H)):=of_fun fun f=>by kernel_rfl
theorem h79_2 (dm:List Dm) (ro:Option Nat) (H:Hp) (k:AEx→En→Hp→Bool):∀(t:E2),cd P (G K) 194 30 (subC 79 [0,1,0,0,1,1,0,0,1,1]) ro ⟨t,dm⟩ H k=
 (nilCheckV (E2.get t 0) fun v2=>
 ptrPlus v2 0 fun v3=>
 layAnc 8 [] H fun Q6 H6=>cl P (G K) 27 [(E2.get t 5)] H6 fun v5 H5=>
 Bool.casesOn (recheck 8 [] H5) false (layAnc 31 Q6 H5 fun Q8 H8=>cl P (G K) 46 [v3,v5] H8 fun v7 H7=>
 Bool.casesOn (recheck 31 [] H7) false (layAll Q8 H7 fun H9=>
 k .normal ⟨(es t [(19,(E2.get t 0)),(20,v2),(21,v3),(22,(E2.get t 5)),(23,v5),(24,v7)]),dm⟩ H9))):=of_fun fun f=>by kernel_rfl
theorem h79_3 (dm:List Dm) (ro:Option Nat) (H:Hp) (k:AEx→En→Hp→Bool):∀(t:E2),cd P (G K) 197 30 (subC 79 [0,1,0,0,1,1,1]) ro ⟨t,dm⟩ H k=
 (binK P .add 3 true (E2.get t 8) (.int .i64 1) fun v1=>
 k .normal ⟨(es t [(25,v1),(8,v1)]),dm⟩ H):=of_fun fun f=>by kernel_rfl
theorem h80 (a0:AV) (H:Hp) (k:AEnd→Hp→Bool):callBody P (G K) ⟨cd P (G K) 200,callS P (G K)⟩ 80 [a0] H k=
 (nilCheckV a0 fun v2=>
 ptrPlus v2 0 fun v3=>
 loadK P (G K) H 73 v3 fun v4=>
 binK P .eql 73 true v4 .nilp fun v5=>
 condV v5 (fun _=>
 ptrConvK P 73 216 a0 H fun v8=>
 ptrConvK P 216 73 v8 H fun v10=>
 nilCheckV a0 fun v11=>
 ptrPlus v11 0 fun v12=>
 storeK P H 73 v12 v10 fun H13=>
 k (.ret (.tup [])) H13) (fun _=>
 nilCheckV a0 fun v15=>
 ptrPlus v15 0 fun v16=>
 loadK P (G K) H 73 v16 fun v17=>
 binK P .neq 73 false v17 a0 fun v19=>
 condV v19 (fun _=>
 false) (fun _=>
 k (.ret (.tup [])) H))):=by kernel_rfl
theorem h81 (a0:AV) (H:Hp) (k:AEnd→Hp→Bool):callBody P (G K) ⟨cd P (G K) 200,callS P (G K)⟩ 81 [a0] H k=
 (let n0:AEx→En→Hp→Bool:=fun x e H=>bodyEnd P (G K) Tryz.f81 ⟨cd P (G K) 200,callS P (G K)⟩ k x e H;
 Hp.new H (.cells (some 83) false (AV.cells a0)) fun b1 H1=>
 ptrPlus (.ptr b1 0) 2 fun v3=>
 loadK P (G K) H1 3 v3 fun v4=>
 cl P (G K) 24 [v4] H1 fun v5 H5=>
 ptrPlus (.ptr b1 0) 3 fun v7=>
 loadK P (G K) H5 3 v7 fun v8=>
 cl P (G K) 24 [v8] H5 fun v9 H9=>
 cd P (G K) 196 37 (subC 81 [1,1,1,0]) none ⟨(es E2.empty [(0,a0),(1,(.ptr b1 0)),(2,(.bool false)),(5,v3),(6,v4),(7,v5),(3,v5),(8,v7),(9,v8),(10,v9),(4,v9)]),[]⟩ H9 fun x e H=>isNormal x (fun _=>cd P (G K) 196 37 (subC 81 [1,1,1,1]) none e H fun x e H=>n0 x e H) (fun x=>n0 x e H)):=by kernel_rfl
theorem r81 (t:E2) (H:Hp) (k:AEnd→Hp→Bool) (i:Evs):bodyEnd P (G K) Tryz.f81 i k .ret ⟨t,[]⟩ H=k (.ret (E2.get t 2)) H:=by kernel_rfl
theorem h81_0 (dm:List Dm) (ro:Option Nat) (H:Hp) (k:AEx→En→Hp→Bool):∀(t:E2),cd P (G K) 196 37 (subC 81 [1,1,1,0]) ro ⟨t,dm⟩ H k=
 (ptrPlus (E2.get t 1) 0 fun v1=>
 loadK P (G K) H 3 v1 fun v2=>
 cl P (G K) 67 [v2,(.int .i64 0),(.int .i64 20000)] H fun v3 H3=>
 gJoin (boolIs true v3) (fun v5 H5=>
 gJoin (boolIs true v3) (fun v6 H6=>
 gJoin (boolIs true v3) (fun v7 H7=>
 pickV v3 v7 (.bool false) fun v8=>
 gJoin (boolIs true v8) (fun v10 H10=>
 pickV v8 v10 (.bool false) fun v11=>
 gJoin (boolIs true v11) (fun v13 H13=>
 pickV v11 v13 (.bool false) fun v14=>
 gJoin (boolIs true v14) (fun v16 H16=>
 gJoin (boolIs true v14) (fun v17 H17=>
 gJoin (boolIs true v14) (fun v18 H18=>
 gJoin (boolIs true v14) (fun v19 H19=>
 gJoin (boolIs true v14) (fun v20 H20=>
 pickV v14 v20 (.bool false) fun v21=>
 gJoin (boolIs true v21) (fun v23 H23=>
 gJoin (boolIs true v21) (fun v24 H24=>
 gJoin (boolIs true v21) (fun v25 H25=>
 pickV v21 v25 (.bool false) fun v26=>
 k .normal ⟨(es t [(11,v1),(12,v2),(13,v3),(14,v3),(15,v5),(16,v6),(17,v7),(18,v8),(19,v8),(20,v10),(21,v11),(22,v11),(23,v13),(24,v14),(25,v14),(26,v16),(27,v17),(28,v18),(29,v19),(30,v20),(31,v21),(32,v21),(33,v23),(34,v24),(35,v25),(36,v26),(2,v26)]),dm⟩ H25) (fun r25=>cl P (G K) 67 [v24,(.int .i64 1),(.int .i64 1099511627776)] H24 fun v28 H28=>
 r25 v28 H28) H24) (fun r24=>loadK P (G K) H23 3 v23 fun v29=>
 r24 v29 H23) H23) (fun r23=>ptrPlus (E2.get t 1) 4 fun v30=>
 r23 v30 H20) H20) (fun r20=>binK P .neq 3 false v17 v19 fun v31=>
 r20 v31 H19) H19) (fun r19=>loadK P (G K) H18 3 v18 fun v32=>
 r19 v32 H18) H18) (fun r18=>ptrPlus (E2.get t 1) 3 fun v33=>
 r18 v33 H17) H17) (fun r17=>loadK P (G K) H16 3 v16 fun v34=>
 r17 v34 H16) H16) (fun r16=>ptrPlus (E2.get t 1) 2 fun v35=>
 r16 v35 H13) H13) (fun r13=>r13 (E2.get t 4) H10) H10) (fun r10=>r10 (E2.get t 3) H7) H7) (fun r7=>cl P (G K) 67 [v6,(.int .i64 0),(.int .i64 12)] H6 fun v38 H38=>
 r7 v38 H38) H6) (fun r6=>loadK P (G K) H5 3 v5 fun v39=>
 r6 v39 H5) H5) (fun r5=>ptrPlus (E2.get t 1) 1 fun v40=>
 r5 v40 H3) H3):=of_fun fun f=>by kernel_rfl
theorem h81_1 (dm:List Dm) (ro:Option Nat) (H:Hp) (k:AEx→En→Hp→Bool):∀(t:E2),cd P (G K) 196 37 (subC 81 [1,1,1,1]) ro ⟨t,dm⟩ H k=
 (k .ret ⟨t,dm⟩ H):=of_fun fun f=>by kernel_rfl
theorem h82 (a0:AV) (H:Hp) (k:AEnd→Hp→Bool):callBody P (G K) ⟨cd P (G K) 200,callS P (G K)⟩ 82 [a0] H k=
 (Hp.new H (.cells (some 83) false (AV.cells a0)) fun b1 H1=>
 ptrPlus (.ptr b1 0) 0 fun v3=>
 loadK P (G K) H1 3 v3 fun v4=>
 ptrPlus (.ptr b1 0) 1 fun v5=>
 loadK P (G K) H1 3 v5 fun v6=>
 ptrPlus (.ptr b1 0) 2 fun v7=>
 loadK P (G K) H1 3 v7 fun v8=>
 ptrPlus (.ptr b1 0) 3 fun v9=>
 loadK P (G K) H1 3 v9 fun v10=>
 ptrPlus (.ptr b1 0) 4 fun v11=>
 loadK P (G K) H1 3 v11 fun v12=>
 layAnc 3 [] H1 fun Q14 H14=>cl P (G K) 111 [v4] H14 fun v13 H13=>
 Bool.casesOn (recheck 3 ((20,fun H'=>loadK P (G K) H' 3 v11 fun v'=>avSame 1000 v12 v')::((15,fun H'=>loadK P (G K) H' 3 v9 fun v'=>avSame 1000 v10 v')::((10,fun H'=>loadK P (G K) H' 3 v7 fun v'=>avSame 1000 v8 v')::((5,fun H'=>loadK P (G K) H' 3 v5 fun v'=>avSame 1000 v6 v')::((1,fun H'=>loadK P (G K) H' 3 v3 fun v'=>avSame 1000 v4 v')::[]))))) H13) false (binK P .add 9 true v13 (.str [32]) fun v15=>
 layAnc 55 Q14 H13 fun Q17 H17=>cl P (G K) 111 [v6] H17 fun v16 H16=>
 Bool.casesOn (recheck 55 ((20,fun H'=>loadK P (G K) H' 3 v11 fun v'=>avSame 1000 v12 v')::((15,fun H'=>loadK P (G K) H' 3 v9 fun v'=>avSame 1000 v10 v')::((10,fun H'=>loadK P (G K) H' 3 v7 fun v'=>avSame 1000 v8 v')::((5,fun H'=>loadK P (G K) H' 3 v5 fun v'=>avSame 1000 v6 v')::((1,fun H'=>loadK P (G K) H' 3 v3 fun v'=>avSame 1000 v4 v')::[]))))) H16) false (binK P .add 9 false v15 v16 fun v18=>
 binK P .add 9 true v18 (.str [32]) fun v19=>
 layAnc 1655 Q17 H16 fun Q21 H21=>cl P (G K) 111 [v8] H21 fun v20 H20=>
 Bool.casesOn (recheck 1655 ((20,fun H'=>loadK P (G K) H' 3 v11 fun v'=>avSame 1000 v12 v')::((15,fun H'=>loadK P (G K) H' 3 v9 fun v'=>avSame 1000 v10 v')::((10,fun H'=>loadK P (G K) H' 3 v7 fun v'=>avSame 1000 v8 v')::((5,fun H'=>loadK P (G K) H' 3 v5 fun v'=>avSame 1000 v6 v')::((1,fun H'=>loadK P (G K) H' 3 v3 fun v'=>avSame 1000 v4 v')::[]))))) H20) false (binK P .add 9 false v19 v20 fun v22=>
 binK P .add 9 true v22 (.str [32]) fun v23=>
 layAnc 52855 Q21 H20 fun Q25 H25=>cl P (G K) 111 [v10] H25 fun v24 H24=>
 Bool.casesOn (recheck 52855 ((20,fun H'=>loadK P (G K) H' 3 v11 fun v'=>avSame 1000 v12 v')::((15,fun H'=>loadK P (G K) H' 3 v9 fun v'=>avSame 1000 v10 v')::((10,fun H'=>loadK P (G K) H' 3 v7 fun v'=>avSame 1000 v8 v')::((5,fun H'=>loadK P (G K) H' 3 v5 fun v'=>avSame 1000 v6 v')::((1,fun H'=>loadK P (G K) H' 3 v3 fun v'=>avSame 1000 v4 v')::[]))))) H24) false (binK P .add 9 false v23 v24 fun v26=>
 binK P .add 9 true v26 (.str [32]) fun v27=>
 layAnc 1691255 Q25 H24 fun Q29 H29=>cl P (G K) 111 [v12] H29 fun v28 H28=>
 Bool.casesOn (recheck 1691255 ((20,fun H'=>loadK P (G K) H' 3 v11 fun v'=>avSame 1000 v12 v')::((15,fun H'=>loadK P (G K) H' 3 v9 fun v'=>avSame 1000 v10 v')::((10,fun H'=>loadK P (G K) H' 3 v7 fun v'=>avSame 1000 v8 v')::((5,fun H'=>loadK P (G K) H' 3 v5 fun v'=>avSame 1000 v6 v')::((1,fun H'=>loadK P (G K) H' 3 v3 fun v'=>avSame 1000 v4 v')::[]))))) H28) false (binK P .add 9 false v27 v28 fun v30=>
 binK P .add 9 true v30 (.str [10]) fun v31=>
 layAll Q29 H28 fun H33=>
 k (.ret v31) H33)))))):=by kernel_rfl
theorem h83 (a0 a1:AV) (H:Hp) (k:AEnd→Hp→Bool):callBody P (G K) ⟨cd P (G K) 200,callS P (G K)⟩ 83 [a0,a1] H k=
 (let n0:AEx→En→Hp→Bool:=fun x e H=>bodyEnd P (G K) Tryz.f83 ⟨cd P (G K) 200,callS P (G K)⟩ k x e H;
 lenK P 43 a0 H fun v3=>
 lenK P 43 a1 H fun v5=>
 binK P .neq 3 false v3 v5 fun v6=>
 condV v6 (fun _=>
 n0 .ret ⟨(es E2.empty [(0,a0),(1,a1),(6,a0),(7,v3),(8,a1),(9,v5),(10,v6),(4,(.bool false))]),[]⟩ H) (fun _=>
 let n8:AEx→En→Hp→Bool:=fun x e H=>isNormal x (fun _=>cd P (G K) 197 26 (subC 83 [1,1,1]) none e H fun x e H=>n0 x e H) (fun x=>n0 x e H);
 lenK P 43 a0 H fun v10=>
 semC P (G K) 26 (.loop (subC 83 [1,1,0,1,0])) none ⟨(es E2.empty [(0,a0),(1,a1),(4,(.bool false)),(6,a0),(7,v3),(8,a1),(9,v5),(10,v6),(11,a0),(12,v10),(13,(.int .i64 0))]),[]⟩ H fun x e12 H12=>isExit 0 x (fun _=>n8 .normal e12 H12) (fun x=>n8 x e12 H12))):=by kernel_rfl
theorem r83 (t:E2) (H:Hp) (k:AEnd→Hp→Bool) (i:Evs):bodyEnd P (G K) Tryz.f83 i k .ret ⟨t,[]⟩ H=k (.ret (E2.get t 4)) H:=by kernel_rfl
theorem h83_0 (dm:List Dm) (ro:Option Nat) (H:Hp) (k:AEx→En→Hp→Bool):∀(t:E2),cd P (G K) 197 26 (subC 83 [1,1,1]) ro ⟨t,dm⟩ H k=
 (k .ret ⟨(es t [(4,(.bool true))]),dm⟩ H):=of_fun fun f=>by kernel_rfl
theorem h83_1 (dm:List Dm) (ro:Option Nat) (H:Hp) (k:AEx→En→Hp→Bool):∀(t:E2),cd P (G K) 200 26 (subC 83 [1,1,0,1,0]) ro ⟨t,dm⟩ H k=
 (binK P .lss 3 false (E2.get t 13) (E2.get t 12) fun v1=>
 condV v1 (fun _=>
 indexAtK P 43 (E2.get t 0) (E2.get t 13) fun v6=>
 loadK P (G K) H 83 v6 fun v7=>
 indexAtK P 43 (E2.get t 1) (E2.get t 13) fun v10=>
 loadK P (G K) H 83 v10 fun v11=>
 binK P .neq 83 false v7 v11 fun v12=>
 condV v12 (fun _=>
 k .ret ⟨(es t [(14,v1),(15,(E2.get t 13)),(5,(E2.get t 13)),(16,(E2.get t 0)),(17,(E2.get t 13)),(18,v6),(19,v7),(20,(E2.get t 1)),(21,(E2.get t 13)),(22,v10),(23,v11),(24,v12),(4,(.bool false))]),dm⟩ H) (fun _=>
 binK P .add 3 true (E2.get t 13) (.int .i64 1) fun v14=>
 k .normal ⟨(es t [(14,v1),(15,(E2.get t 13)),(5,(E2.get t 13)),(16,(E2.get t 0)),(17,(E2.get t 13)),(18,v6),(19,v7),(20,(E2.get t 1)),(21,(E2.get t 13)),(22,v10),(23,v11),(24,v12),(25,v14),(13,v14)]),dm⟩ H)) (fun _=>
 k (.exit 0) ⟨(es t [(14,v1)]),dm⟩ H)):=of_fun fun f=>by kernel_rfl
theorem h84 (a0 a1:AV) (H:Hp) (k:AEnd→Hp→Bool):callBody P (G K) ⟨cd P (G K) 200,callS P (G K)⟩ 84 [a0,a1] H k=
 (let n0:AEx→En→Hp→Bool:=fun x e H=>bodyEnd P (G K) Tryz.f84 ⟨cd P (G K) 200,callS P (G K)⟩ k x e H;
 lenK P 70 a0 H fun v3=>
 lenK P 70 a1 H fun v5=>
 binK P .neq 3 false v3 v5 fun v6=>
 condV v6 (fun _=>
 n0 .ret ⟨(es E2.empty [(0,a0),(1,a1),(6,a0),(7,v3),(8,a1),(9,v5),(10,v6),(4,(.bool false))]),[]⟩ H) (fun _=>
 let n8:AEx→En→Hp→Bool:=fun x e H=>isNormal x (fun _=>cd P (G K) 197 26 (subC 84 [1,1,1]) none e H fun x e H=>n0 x e H) (fun x=>n0 x e H);
 semC P (G K) 26 (.loop (subC 84 [1,1,0,1,0])) none ⟨(es E2.empty [(0,a0),(1,a1),(4,(.bool false)),(6,a0),(7,v3),(8,a1),(9,v5),(10,v6),(5,(.int .i64 0))]),[]⟩ H fun x e10 H10=>isExit 0 x (fun _=>n8 .normal e10 H10) (fun x=>n8 x e10 H10))):=by kernel_rfl
theorem r84 (t:E2) (H:Hp) (k:AEnd→Hp→Bool) (i:Evs):bodyEnd P (G K) Tryz.f84 i k .ret ⟨t,[]⟩ H=k (.ret (E2.get t 4)) H:=by kernel_rfl
theorem h84_0 (dm:List Dm) (ro:Option Nat) (H:Hp) (k:AEx→En→Hp→Bool):∀(t:E2),cd P (G K) 197 26 (subC 84 [1,1,1]) ro ⟨t,dm⟩ H k=
 (k .ret ⟨(es t [(4,(.bool true))]),dm⟩ H):=of_fun fun f=>by kernel_rfl
theorem h84_1 (dm:List Dm) (ro:Option Nat) (H:Hp) (k:AEx→En→Hp→Bool):∀(t:E2),cd P (G K) 200 26 (subC 84 [1,1,0,1,0]) ro ⟨t,dm⟩ H k=
 (lenK P 70 (E2.get t 0) H fun v3=>
 binK P .lss 3 false (E2.get t 5) v3 fun v4=>
 condV v4 (fun _=>
 indexAtK P 70 (E2.get t 0) (E2.get t 5) fun v7=>
 loadK P (G K) H 90 v7 fun v8=>
 indexAtK P 70 (E2.get t 1) (E2.get t 5) fun v11=>
 loadK P (G K) H 90 v11 fun v12=>
 binK P .neq 90 false v8 v12 fun v13=>
 condV v13 (fun _=>
 k .ret ⟨(es t [(11,(E2.get t 5)),(12,(E2.get t 0)),(13,v3),(14,v4),(17,(E2.get t 0)),(18,(E2.get t 5)),(19,v7),(20,v8),(21,(E2.get t 1)),(22,(E2.get t 5)),(23,v11),(24,v12),(25,v13),(4,(.bool false))]),dm⟩ H) (fun _=>
 binK P .add 3 true (E2.get t 5) (.int .i64 1) fun v16=>
 k .normal ⟨(es t [(11,(E2.get t 5)),(12,(E2.get t 0)),(13,v3),(14,v4),(17,(E2.get t 0)),(18,(E2.get t 5)),(19,v7),(20,v8),(21,(E2.get t 1)),(22,(E2.get t 5)),(23,v11),(24,v12),(25,v13),(15,(E2.get t 5)),(16,v16),(5,v16)]),dm⟩ H)) (fun _=>
 k (.exit 0) ⟨(es t [(11,(E2.get t 5)),(12,(E2.get t 0)),(13,v3),(14,v4)]),dm⟩ H)):=of_fun fun f=>by kernel_rfl
theorem h24 (a0:AV) (H:Hp) (k:AEnd→Hp→Bool):callBody P (G K) ⟨cd P (G K) 200,callS P (G K)⟩ 24 [a0] H k=
 (let n0:AEx→En→Hp→Bool:=fun x e H=>bodyEnd P (G K) Tryz.f24 ⟨cd P (G K) 200,callS P (G K)⟩ k x e H;
 cd P (G K) 198 13 (subC 24 [1,0]) none ⟨(es E2.empty [(0,a0),(2,(.bool false))]),[]⟩ H fun x e H=>isNormal x (fun _=>cd P (G K) 198 13 (subC 24 [1,1]) none e H fun x e H=>n0 x e H) (fun x=>n0 x e H)):=by kernel_rfl
theorem r24 (t:E2) (H:Hp) (k:AEnd→Hp→Bool) (i:Evs):bodyEnd P (G K) Tryz.f24 i k .ret ⟨t,[]⟩ H=k (.ret (E2.get t 2)) H:=by kernel_rfl
theorem h24_0 (dm:List Dm) (ro:Option Nat) (H:Hp) (k:AEx→En→Hp→Bool):∀(t:E2),cd P (G K) 198 13 (subC 24 [1,0]) ro ⟨t,dm⟩ H k=
 (binK P .eql 3 true (E2.get t 0) (.int .i64 (-1)) fun v2=>
 gJoin (boolIs false v2) (fun v4 H4=>
 gJoin (boolIs false v2) (fun v5 H5=>
 pickV v2 (.bool true) v5 fun v6=>
 gJoin (boolIs false v6) (fun v8 H8=>
 gJoin (boolIs false v6) (fun v9 H9=>
 pickV v6 (.bool true) v9 fun v10=>
 k .normal ⟨(es t [(3,(E2.get t 0)),(4,v2),(5,v2),(6,v4),(7,v5),(8,v6),(9,v6),(10,v8),(11,v9),(12,v10),(2,v10)]),dm⟩ H9) (fun r9=>cl P (G K) 67 [v8,(.int .i64 1),(.int .i64 1099511627776)] H8 fun v12 H12=>
 r9 v12 H12) H8) (fun r8=>r8 (E2.get t 0) H5) H5) (fun r5=>binK P .eql 3 true v4 (.int .i64 (-2)) fun v14=>
 r5 v14 H4) H4) (fun r4=>r4 (E2.get t 0) H) H):=of_fun fun f=>by kernel_rfl
theorem h24_1 (dm:List Dm) (ro:Option Nat) (H:Hp) (k:AEx→En→Hp→Bool):∀(t:E2),cd P (G K) 198 13 (subC 24 [1,1]) ro ⟨t,dm⟩ H k=
 (k .ret ⟨t,dm⟩ H):=of_fun fun f=>by kernel_rfl
theorem h107 (a0:AV) (H:Hp) (k:AEnd→Hp→Bool):callBody P (G K) ⟨cd P (G K) 200,callS P (G K)⟩ 107 [a0] H k=
 (let n0:AEx→En→Hp→Bool:=fun x e H=>bodyEnd P (G K) Tryz.f107 ⟨cd P (G K) 200,callS P (G K)⟩ k x e H;
 cd P (G K) 198 9 (subC 107 [1,0]) none ⟨(es E2.empty [(0,a0),(2,(.bool false))]),[]⟩ H fun x e H=>isNormal x (fun _=>cd P (G K) 198 9 (subC 107 [1,1]) none e H fun x e H=>n0 x e H) (fun x=>n0 x e H)):=by kernel_rfl
theorem r107 (t:E2) (H:Hp) (k:AEnd→Hp→Bool) (i:Evs):bodyEnd P (G K) Tryz.f107 i k .ret ⟨t,[]⟩ H=k (.ret (E2.get t 2)) H:=by kernel_rfl
theorem h107_0 (dm:List Dm) (ro:Option Nat) (H:Hp) (k:AEx→En→Hp→Bool):∀(t:E2),cd P (G K) 198 9 (subC 107 [1,0]) ro ⟨t,dm⟩ H k=
 (binK P .geq 3 true (E2.get t 0) (.int .i64 0) fun v2=>
 gJoin (boolIs true v2) (fun v4 H4=>
 gJoin (boolIs true v2) (fun v5 H5=>
 pickV v2 v5 (.bool false) fun v6=>
 k .normal ⟨(es t [(3,(E2.get t 0)),(4,v2),(5,v2),(6,v4),(7,v5),(8,v6),(2,v6)]),dm⟩ H5) (fun r5=>binK P .leq 3 true v4 (.int .i64 20000) fun v8=>
 r5 v8 H4) H4) (fun r4=>r4 (E2.get t 0) H) H):=of_fun fun f=>by kernel_rfl
theorem h107_1 (dm:List Dm) (ro:Option Nat) (H:Hp) (k:AEx→En→Hp→Bool):∀(t:E2),cd P (G K) 198 9 (subC 107 [1,1]) ro ⟨t,dm⟩ H k=
 (k .ret ⟨t,dm⟩ H):=of_fun fun f=>by kernel_rfl
theorem h108 (a0:AV) (H:Hp) (k:AEnd→Hp→Bool):callBody P (G K) ⟨cd P (G K) 200,callS P (G K)⟩ 108 [a0] H k=
 (let n0:AEx→En→Hp→Bool:=fun x e H=>bodyEnd P (G K) Tryz.f108 ⟨cd P (G K) 200,callS P (G K)⟩ k x e H;
 cd P (G K) 198 17 (subC 108 [1,0]) none ⟨(es E2.empty [(0,a0),(2,(.bool false))]),[]⟩ H fun x e H=>isNormal x (fun _=>cd P (G K) 198 17 (subC 108 [1,1]) none e H fun x e H=>n0 x e H) (fun x=>n0 x e H)):=by kernel_rfl
theorem r108 (t:E2) (H:Hp) (k:AEnd→Hp→Bool) (i:Evs):bodyEnd P (G K) Tryz.f108 i k .ret ⟨t,[]⟩ H=k (.ret (E2.get t 2)) H:=by kernel_rfl
theorem h108_0 (dm:List Dm) (ro:Option Nat) (H:Hp) (k:AEx→En→Hp→Bool):∀(t:E2),cd P (G K) 198 17 (subC 108 [1,0]) ro ⟨t,dm⟩ H k=
 (binK P .eql 3 true (E2.get t 0) (.int .i64 (-1)) fun v2=>
 gJoin (boolIs false v2) (fun v4 H4=>
 gJoin (boolIs false v2) (fun v5 H5=>
 pickV v2 (.bool true) v5 fun v6=>
 gJoin (boolIs false v6) (fun v8 H8=>
 gJoin (boolIs false v6) (fun v9 H9=>
 gJoin (boolIs false v6) (fun v10 H10=>
 gJoin (boolIs true v10) (fun v11 H11=>
 gJoin (boolIs true v10) (fun v12 H12=>
 gJoin (boolIs false v6) (fun v13 H13=>
 pickV v6 (.bool true) v13 fun v14=>
 k .normal ⟨(es t [(3,(E2.get t 0)),(4,v2),(5,v2),(6,v4),(7,v5),(8,v6),(9,v6),(10,v8),(11,v9),(12,v10),(13,v11),(14,v12),(15,v13),(16,v14),(2,v14)]),dm⟩ H13) (fun r13=>pickV v10 v12 (.bool false) fun v16=>
 r13 v16 H12) H12) (fun r12=>binK P .leq 3 true v11 (.int .i64 1099511627776) fun v17=>
 r12 v17 H11) H11) (fun r11=>r11 (E2.get t 0) H10) H10) (fun r10=>r10 v9 H9) H9) (fun r9=>binK P .geq 3 true v8 (.int .i64 1) fun v20=>
 r9 v20 H8) H8) (fun r8=>r8 (E2.get t 0) H5) H5) (fun r5=>binK P .eql 3 true v4 (.int .i64 (-2)) fun v22=>
 r5 v22 H4) H4) (fun r4=>r4 (E2.get t 0) H) H):=of_fun fun f=>by kernel_rfl
theorem h108_1 (dm:List Dm) (ro:Option Nat) (H:Hp) (k:AEx→En→Hp→Bool):∀(t:E2),cd P (G K) 198 17 (subC 108 [1,1]) ro ⟨t,dm⟩ H k=
 (k .ret ⟨t,dm⟩ H):=of_fun fun f=>by kernel_rfl
theorem h109 (a0 a1:AV) (H:Hp) (k:AEnd→Hp→Bool):callBody P (G K) ⟨cd P (G K) 200,callS P (G K)⟩ 109 [a0,a1] H k=
 (cl P (G K) 80 [a0] H fun v3 H3=>
 nilCheckV a0 fun v6=>
 ptrPlus v6 1 fun v7=>
 loadK P (G K) H3 74 v7 fun v8=>
 buildSliceK P 74 1 [(0,a1)] fun k10 r10=>Hp.new H3 k10 fun b10 H10=>
 appendK P H10 74 74 v8 (r10 b10) fun v11 H11=>
 nilCheckV a0 fun v12=>
 ptrPlus v12 1 fun v13=>
 storeK P H11 74 v13 v11 fun H14=>
 k (.ret .nili) H14):=by kernel_rfl
theorem h111 (a0:AV) (H:Hp) (k:AEnd→Hp→Bool):callBody P (G K) ⟨cd P (G K) 200,callS P (G K)⟩ 111 [a0] H k=
 (binK P .lss 3 true a0 (.int .i64 0) fun v3=>
 condV v3 (fun _=>
 binK P .sub 3 true (.int .i64 0) a0 fun v5=>
 cl P (G K) 111 [v5] H fun v6 H6=>
 binK P .add 9 true (.str [45]) v6 fun v7=>
 k (.ret v7) H6) (fun _=>
 binK P .rem 3 true a0 (.int .i64 10) fun v10=>
 binK P .add 3 true (.int .i64 48) v10 fun v11=>
 convK P 3 5 v11 fun v12=>
 buildSliceK P 74 1 [(0,v12)] fun k13 r13=>Hp.new H k13 fun b13 H13=>
 ptrConvK P 74 9 (r13 b13) H13 fun v14=>
 binK P .gtr 3 true a0 (.int .i64 9) fun v17=>
 condV v17 (fun _=>
 binK P .quo 3 true a0 (.int .i64 10) fun v19=>
 cl P (G K) 111 [v19] H13 fun v20 H20=>
 binK P .add 9 false v20 v14 fun v22=>
 k (.ret v22) H20) (fun _=>
 k (.ret v14) H13))):=by kernel_rfl
end
end Go.S9
