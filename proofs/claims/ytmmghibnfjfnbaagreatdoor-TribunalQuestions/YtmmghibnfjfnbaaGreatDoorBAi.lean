/- A part of the proof of TribunalBack. -/
import Derived.Test.YtmmghibnfjfnbaaGreatDoorBAd
set_option linter.unusedVariables false
set_option linter.unusedSimpArgs false
namespace Go.S9
open Go.Ev Go.Proofs
set_option maxRecDepth 1000000
set_option linter.unusedVariables false
noncomputable section
variable {K : GP}
theorem h105 (a0 a1:AV) (H:Hp) (k:AEnd→Hp→Bool):callBody P (G K) ⟨cd P (G K) 200,callS P (G K)⟩ 105 [a0,a1] H k=
 (let n0:AEx→En→Hp→Bool:=fun x e H=>bodyEnd P (G K) Tryz.f105 ⟨cd P (G K) 200,callS P (G K)⟩ k x e H;
 cl P (G K) 78 [a0] H fun v4 H4=>
 extractV v4 0 fun v6=>
 extractV v4 1 fun v7=>
 binK P .neq 30 true v6 (.int .i64 0) fun v11=>
 condV v11 (fun _=>
 n0 .ret ⟨(es E2.empty [(0,a0),(1,a1),(12,a0),(13,v4),(11,v4),(14,v6),(15,v7),(6,v6),(7,v7),(16,v6),(17,v11),(18,v6),(4,(.int .i64 0)),(5,v6)]),[]⟩ H4) (fun _=>
 cl P (G K) 108 [a1] H4 fun v16 H16=>
 unK .not v16 fun v17=>
 condV v17 (fun _=>
 n0 .ret ⟨(es E2.empty [(0,a0),(1,a1),(12,a0),(13,v4),(11,v4),(14,v6),(15,v7),(6,v6),(7,v7),(16,v6),(17,v11),(19,a1),(20,v16),(21,v17),(4,(.int .i64 0)),(5,(.int .i64 1))]),[]⟩ H16) (fun _=>
 let n21:AEx→En→Hp→Bool:=fun x e H=>isNormal x (fun _=>cd P (G K) 195 35 (subC 105 [1,1,1,1,1]) none e H fun x e H=>n0 x e H) (fun x=>n0 x e H);
 lenK P 43 a0 H16 fun v23=>
 semC P (G K) 35 (.loop (subC 105 [1,1,1,1,0,1,0])) none ⟨(es E2.empty [(0,a0),(1,a1),(4,(.int .i64 0)),(5,(.int .i64 0)),(12,a0),(13,v4),(11,v4),(14,v6),(15,v7),(6,v6),(7,v7),(16,v6),(17,v11),(19,a1),(20,v16),(21,v17),(8,(.int .i64 0)),(22,a0),(23,v23),(24,(.int .i64 0))]),[]⟩ H16 fun x e25 H25=>isExit 0 x (fun _=>n21 .normal e25 H25) (fun x=>n21 x e25 H25)))):=by kernel_rfl
theorem r105 (t:E2) (H:Hp) (k:AEnd→Hp→Bool) (i:Evs):bodyEnd P (G K) Tryz.f105 i k .ret ⟨t,[]⟩ H=k (.ret (.tup [(E2.get t 4),(E2.get t 5)])) H:=by kernel_rfl
theorem h105_0 (dm:List Dm) (ro:Option Nat) (H:Hp) (k:AEx→En→Hp→Bool):∀(t:E2),cd P (G K) 195 35 (subC 105 [1,1,1,1,1]) ro ⟨t,dm⟩ H k=
 (k .ret ⟨(es t [(34,(E2.get t 8)),(4,(E2.get t 8)),(5,(.int .i64 0))]),dm⟩ H):=of_fun fun f=>by kernel_rfl
theorem h105_1 (dm:List Dm) (ro:Option Nat) (H:Hp) (k:AEx→En→Hp→Bool):∀(t:E2),cd P (G K) 200 35 (subC 105 [1,1,1,1,0,1,0]) ro ⟨t,dm⟩ H k=
 (binK P .lss 3 false (E2.get t 24) (E2.get t 23) fun v1=>
 condV v1 (fun _=>
 indexAtK P 43 (E2.get t 22) (E2.get t 24) fun v2=>
 loadK P (G K) H 83 v2 fun v3=>
 Hp.new H (.cells (some 83) false [(.int .i64 0),(.int .i64 0),(.int .i64 0),(.int .i64 0),(.int .i64 0)]) fun b4 H4=>
 storeK P H4 83 (.ptr b4 0) v3 fun H5=>
 loadK P (G K) H5 83 (.ptr b4 0) fun v7=>
 cl P (G K) 167 [v7,(E2.get t 1)] H5 fun v9 H9=>
 binK P .add 3 false (E2.get t 8) v9 fun v10=>
 binK P .add 3 true (E2.get t 24) (.int .i64 1) fun v12=>
 k .normal ⟨(es t [(25,v1),(26,v2),(27,v3),(10,(.ptr b4 0)),(28,(E2.get t 8)),(29,v7),(30,(E2.get t 1)),(31,v9),(32,v10),(8,v10),(33,v12),(24,v12)]),dm⟩ H9) (fun _=>
 k (.exit 0) ⟨(es t [(25,v1)]),dm⟩ H)):=of_fun fun f=>by kernel_rfl
theorem h106 (a0 a1 a2:AV) (H:Hp) (k:AEnd→Hp→Bool):callBody P (G K) ⟨cd P (G K) 200,callS P (G K)⟩ 106 [a0,a1,a2] H k=
 (Hp.new H (.cells (some 23) false (AV.cells a2)) fun b1 H1=>
 loadK P (G K) H1 23 (.ptr b1 0) fun v6=>
 cl P (G K) 168 [a0,a1,v6] H1 fun v7 H7=>
 binK P .neq 30 true v7 (.int .i64 0) fun v10=>
 condV v10 (fun _=>
 k (.ret (.tup [.nils,v7])) H7) (fun _=>
 loadK P (G K) H7 23 (.ptr b1 0) fun v16=>
 cl P (G K) 169 [a0,a1,v16] H7 fun v17 H17=>
 k (.ret (.tup [v17,(.int .i64 0)])) H17)):=by kernel_rfl
theorem h107 (a0:AV) (H:Hp) (k:AEnd→Hp→Bool):callBody P (G K) ⟨cd P (G K) 200,callS P (G K)⟩ 107 [a0] H k=
 (let n0:AEx→En→Hp→Bool:=fun x e H=>bodyEnd P (G K) Tryz.f107 ⟨cd P (G K) 200,callS P (G K)⟩ k x e H;
 cd P (G K) 198 9 (subC 107 [1,0]) none ⟨(es E2.empty [(0,a0),(2,(.bool false))]),[]⟩ H fun x e H=>isNormal x (fun _=>cd P (G K) 198 9 (subC 107 [1,1]) none e H fun x e H=>n0 x e H) (fun x=>n0 x e H)):=by kernel_rfl
theorem r107 (t:E2) (H:Hp) (k:AEnd→Hp→Bool) (i:Evs):bodyEnd P (G K) Tryz.f107 i k .ret ⟨t,[]⟩ H=k (.ret (E2.get t 2)) H:=by kernel_rfl
theorem h107_0 (dm:List Dm) (ro:Option Nat) (H:Hp) (k:AEx→En→Hp→Bool):∀(t:E2),cd P (G K) 198 9 (subC 107 [1,0]) ro ⟨t,dm⟩ H k=
 (binK P .geq 3 true (E2.get t 0) (.int .i64 0) fun v2=>
 gJoin (boolIs true v2) (fun v4 H4=>
 gJoin (boolIs true v2) (fun v5 H5=>
 pickV v2 v5 (.bool false) fun v6=>
 k .normal ⟨(es t [(3,(E2.get t 0)),(4,v2),(5,v2),(6,v4),(7,v5),(8,v6),(2,v6)]),dm⟩ H5) (fun r5=>binK P .leq 3 true v4 (.int .i64 20000) fun v8=>
 r5 v8 H4) H4) (fun r4=>r4 (E2.get t 0) H) H):=of_fun fun f=>by kernel_rfl
theorem h107_1 (dm:List Dm) (ro:Option Nat) (H:Hp) (k:AEx→En→Hp→Bool):∀(t:E2),cd P (G K) 198 9 (subC 107 [1,1]) ro ⟨t,dm⟩ H k=
 (k .ret ⟨t,dm⟩ H):=of_fun fun f=>by kernel_rfl
theorem h108 (a0:AV) (H:Hp) (k:AEnd→Hp→Bool):callBody P (G K) ⟨cd P (G K) 200,callS P (G K)⟩ 108 [a0] H k=
 (let n0:AEx→En→Hp→Bool:=fun x e H=>bodyEnd P (G K) Tryz.f108 ⟨cd P (G K) 200,callS P (G K)⟩ k x e H;
 cd P (G K) 198 17 (subC 108 [1,0]) none ⟨(es E2.empty [(0,a0),(2,(.bool false))]),[]⟩ H fun x e H=>isNormal x (fun _=>cd P (G K) 198 17 (subC 108 [1,1]) none e H fun x e H=>n0 x e H) (fun x=>n0 x e H)):=by kernel_rfl
theorem r108 (t:E2) (H:Hp) (k:AEnd→Hp→Bool) (i:Evs):bodyEnd P (G K) Tryz.f108 i k .ret ⟨t,[]⟩ H=k (.ret (E2.get t 2)) H:=by kernel_rfl
theorem h108_0 (dm:List Dm) (ro:Option Nat) (H:Hp) (k:AEx→En→Hp→Bool):∀(t:E2),cd P (G K) 198 17 (subC 108 [1,0]) ro ⟨t,dm⟩ H k=
 (binK P .eql 3 true (E2.get t 0) (.int .i64 (-1)) fun v2=>
 gJoin (boolIs false v2) (fun v4 H4=>
 gJoin (boolIs false v2) (fun v5 H5=>
 pickV v2 (.bool true) v5 fun v6=>
 gJoin (boolIs false v6) (fun v8 H8=>
 gJoin (boolIs false v6) (fun v9 H9=>
 gJoin (boolIs false v6) (fun v10 H10=>
 gJoin (boolIs true v10) (fun v11 H11=>
 gJoin (boolIs true v10) (fun v12 H12=>
 gJoin (boolIs false v6) (fun v13 H13=>
 pickV v6 (.bool true) v13 fun v14=>
 k .normal ⟨(es t [(3,(E2.get t 0)),(4,v2),(5,v2),(6,v4),(7,v5),(8,v6),(9,v6),(10,v8),(11,v9),(12,v10),(13,v11),(14,v12),(15,v13),(16,v14),(2,v14)]),dm⟩ H13) (fun r13=>pickV v10 v12 (.bool false) fun v16=>
 r13 v16 H12) H12) (fun r12=>binK P .leq 3 true v11 (.int .i64 1099511627776) fun v17=>
 r12 v17 H11) H11) (fun r11=>r11 (E2.get t 0) H10) H10) (fun r10=>r10 v9 H9) H9) (fun r9=>binK P .geq 3 true v8 (.int .i64 1) fun v20=>
 r9 v20 H8) H8) (fun r8=>r8 (E2.get t 0) H5) H5) (fun r5=>binK P .eql 3 true v4 (.int .i64 (-2)) fun v22=>
 r5 v22 H4) H4) (fun r4=>r4 (E2.get t 0) H) H):=of_fun fun f=>by kernel_rfl
theorem h108_1 (dm:List Dm) (ro:Option Nat) (H:Hp) (k:AEx→En→Hp→Bool):∀(t:E2),cd P (G K) 198 17 (subC 108 [1,1]) ro ⟨t,dm⟩ H k=
 (k .ret ⟨t,dm⟩ H):=of_fun fun f=>by kernel_rfl
theorem h111 (a0:AV) (H:Hp) (k:AEnd→Hp→Bool):callBody P (G K) ⟨cd P (G K) 200,callS P (G K)⟩ 111 [a0] H k=
 (binK P .lss 3 true a0 (.int .i64 0) fun v3=>
 condV v3 (fun _=>
 binK P .sub 3 true (.int .i64 0) a0 fun v5=>
 cl P (G K) 111 [v5] H fun v6 H6=>
 binK P .add 9 true (.str [45]) v6 fun v7=>
 k (.ret v7) H6) (fun _=>
 binK P .rem 3 true a0 (.int .i64 10) fun v10=>
 binK P .add 3 true (.int .i64 48) v10 fun v11=>
 convK P 3 5 v11 fun v12=>
 buildSliceK P 74 1 [(0,v12)] fun k13 r13=>Hp.new H k13 fun b13 H13=>
 ptrConvK P 74 9 (r13 b13) H13 fun v14=>
 binK P .gtr 3 true a0 (.int .i64 9) fun v17=>
 condV v17 (fun _=>
 binK P .quo 3 true a0 (.int .i64 10) fun v19=>
 cl P (G K) 111 [v19] H13 fun v20 H20=>
 binK P .add 9 false v20 v14 fun v22=>
 k (.ret v22) H20) (fun _=>
 k (.ret v14) H13))):=by kernel_rfl
theorem h164 (a0:AV) (H:Hp) (k:AEnd→Hp→Bool):callBody P (G K) ⟨cd P (G K) 200,callS P (G K)⟩ 164 [a0] H k=
 (let n0:AEx→En→Hp→Bool:=fun x e H=>bodyEnd P (G K) Tryz.f164 ⟨cd P (G K) 200,callS P (G K)⟩ k x e H;
 let n2:AEx→En→Hp→Bool:=fun x e H=>isNormal x (fun _=>cd P (G K) 198 40 (subC 164 [1,1]) none e H fun x e H=>n0 x e H) (fun x=>n0 x e H);
 lenK P 9 a0 H fun v4=>
 semC P (G K) 40 (.loop (subC 164 [1,0,1,0])) none ⟨(es E2.empty [(0,a0),(2,(.bool false)),(4,a0),(5,v4),(6,(.int .i64 0))]),[]⟩ H fun x e6 H6=>isExit 0 x (fun _=>n2 .normal e6 H6) (fun x=>n2 x e6 H6)):=by kernel_rfl
theorem r164 (t:E2) (H:Hp) (k:AEnd→Hp→Bool) (i:Evs):bodyEnd P (G K) Tryz.f164 i k .ret ⟨t,[]⟩ H=k (.ret (E2.get t 2)) H:=by kernel_rfl
theorem h164_0 (dm:List Dm) (ro:Option Nat) (H:Hp) (k:AEx→En→Hp→Bool):∀(t:E2),cd P (G K) 198 40 (subC 164 [1,1]) ro ⟨t,dm⟩ H k=
 (cd P (G K) 197 40 (subC 164 [1,1,0]) ro ⟨t,dm⟩ H fun x e H=>isNormal x (fun _=>cd P (G K) 197 40 (subC 164 [1,1,1]) ro e H fun x e H=>k x e H) (fun x=>k x e H)):=of_fun fun f=>by kernel_rfl
theorem h164_1 (dm:List Dm) (ro:Option Nat) (H:Hp) (k:AEx→En→Hp→Bool):∀(t:E2),cd P (G K) 200 40 (subC 164 [1,0,1,0]) ro ⟨t,dm⟩ H k=
 (binK P .lss 3 false (E2.get t 6) (E2.get t 5) fun v1=>
 condV v1 (fun _=>
 cd P (G K) 197 40 (subC 164 [1,0,1,0,0,1,1,0]) ro ⟨(es t [(7,v1)]),dm⟩ H fun x e H=>isNormal x (fun _=>cd P (G K) 197 40 (subC 164 [1,0,1,0,0,1,1,1]) ro e H fun x e H=>k x e H) (fun x=>k x e H)) (fun _=>
 k (.exit 0) ⟨(es t [(7,v1)]),dm⟩ H)):=of_fun fun f=>by kernel_rfl
theorem h164_2 (dm:List Dm) (ro:Option Nat) (H:Hp) (k:AEx→En→Hp→Bool):∀(t:E2),cd P (G K) 197 40 (subC 164 [1,1,0]) ro ⟨t,dm⟩ H k=
 (lenK P 9 (E2.get t 0) H fun v2=>
 binK P .geq 3 true v2 (.int .i64 1) fun v3=>
 gJoin (boolIs true v3) (fun v5 H5=>
 gJoin (boolIs true v3) (fun v6 H6=>
 gJoin (boolIs true v3) (fun v7 H7=>
 pickV v3 v7 (.bool false) fun v8=>
 k .normal ⟨(es t [(32,(E2.get t 0)),(33,v2),(34,v3),(35,v3),(36,v5),(37,v6),(38,v7),(39,v8),(2,v8)]),dm⟩ H7) (fun r7=>binK P .leq 3 true v6 (.int .i64 16) fun v10=>
 r7 v10 H6) H6) (fun r6=>lenK P 9 v5 H5 fun v11=>
 r6 v11 H5) H5) (fun r5=>r5 (E2.get t 0) H) H):=of_fun fun f=>by kernel_rfl
theorem h164_3 (dm:List Dm) (ro:Option Nat) (H:Hp) (k:AEx→En→Hp→Bool):∀(t:E2),cd P (G K) 197 40 (subC 164 [1,1,1]) ro ⟨t,dm⟩ H k=
 (k .ret ⟨t,dm⟩ H):=of_fun fun f=>by kernel_rfl
theorem h164_4 (dm:List Dm) (ro:Option Nat) (H:Hp) (k:AEx→En→Hp→Bool):∀(t:E2),cd P (G K) 197 40 (subC 164 [1,0,1,0,0,1,1,0]) ro ⟨t,dm⟩ H k=
 (cd P (G K) 194 40 (subC 164 [1,0,1,0,0,1,1,0,0,1,0]) ro ⟨(es t [(8,(E2.get t 6)),(3,(E2.get t 6))]),dm⟩ H fun x e H=>isNormal x (fun _=>cd P (G K) 194 40 (subC 164 [1,0,1,0,0,1,1,0,0,1,1]) ro e H fun x e H=>isExit 1 x (fun _=>k .normal e H) (fun x=>k x e H)) (fun x=>isExit 1 x (fun _=>k .normal e H) (fun x=>k x e H))):=of_fun fun f=>by kernel_rfl
theorem h164_5 (dm:List Dm) (ro:Option Nat) (H:Hp) (k:AEx→En→Hp→Bool):∀(t:E2),cd P (G K) 197 40 (subC 164 [1,0,1,0,0,1,1,1]) ro ⟨t,dm⟩ H k=
 (binK P .add 3 true (E2.get t 6) (.int .i64 1) fun v1=>
 k .normal ⟨(es t [(31,v1),(6,v1)]),dm⟩ H):=of_fun fun f=>by kernel_rfl
theorem h164_6 (dm:List Dm) (ro:Option Nat) (H:Hp) (k:AEx→En→Hp→Bool):∀(t:E2),cd P (G K) 194 40 (subC 164 [1,0,1,0,0,1,1,0,0,1,0]) ro ⟨t,dm⟩ H k=
 (indexV P 9 (E2.get t 0) (E2.get t 3) fun v3=>
 binK P .lss 5 true v3 (.int .u8 97) fun v4=>
 gJoin (boolIs false v4) (fun v6 H6=>
 gJoin (boolIs false v4) (fun v7 H7=>
 gJoin (boolIs false v4) (fun v8 H8=>
 gJoin (boolIs false v4) (fun v9 H9=>
 pickV v4 (.bool true) v9 fun v10=>
 gJoin (boolIs true v10) (fun v12 H12=>
 gJoin (boolIs true v10) (fun v13 H13=>
 gJoin (boolIs true v10) (fun v14 H14=>
 gJoin (boolIs true v10) (fun v15 H15=>
 gJoin (boolIs true v10) (fun v16 H16=>
 gJoin (boolIs false v16) (fun v17 H17=>
 gJoin (boolIs false v16) (fun v18 H18=>
 gJoin (boolIs false v16) (fun v19 H19=>
 gJoin (boolIs false v16) (fun v20 H20=>
 gJoin (boolIs true v10) (fun v21 H21=>
 pickV v10 v21 (.bool false) fun v22=>
 k .normal ⟨(es t [(9,(E2.get t 0)),(10,(E2.get t 3)),(11,v3),(12,v4),(13,v4),(14,v6),(15,v7),(16,v8),(17,v9),(18,v10),(19,v10),(20,v12),(21,v13),(22,v14),(23,v15),(24,v16),(25,v17),(26,v18),(27,v19),(28,v20),(29,v21),(30,v22)]),dm⟩ H21) (fun r21=>pickV v16 (.bool true) v20 fun v23=>
 r21 v23 H20) H20) (fun r20=>binK P .gtr 5 true v19 (.int .u8 57) fun v24=>
 r20 v24 H19) H19) (fun r19=>indexV P 9 v17 v18 fun v25=>
 r19 v25 H18) H18) (fun r18=>r18 (E2.get t 3) H17) H17) (fun r17=>r17 (E2.get t 0) H16) H16) (fun r16=>r16 v15 H15) H15) (fun r15=>binK P .lss 5 true v14 (.int .u8 48) fun v29=>
 r15 v29 H14) H14) (fun r14=>indexV P 9 v12 v13 fun v30=>
 r14 v30 H13) H13) (fun r13=>r13 (E2.get t 3) H12) H12) (fun r12=>r12 (E2.get t 0) H9) H9) (fun r9=>binK P .gtr 5 true v8 (.int .u8 122) fun v33=>
 r9 v33 H8) H8) (fun r8=>indexV P 9 v6 v7 fun v34=>
 r8 v34 H7) H7) (fun r7=>r7 (E2.get t 3) H6) H6) (fun r6=>r6 (E2.get t 0) H) H):=of_fun fun f=>by kernel_rfl
theorem h164_7 (dm:List Dm) (ro:Option Nat) (H:Hp) (k:AEx→En→Hp→Bool):∀(t:E2),cd P (G K) 194 40 (subC 164 [1,0,1,0,0,1,1,0,0,1,1]) ro ⟨t,dm⟩ H k=
 (condV (E2.get t 30) (fun _=>
 k .ret ⟨(es t [(2,(.bool false))]),dm⟩ H) (fun _=>
 k .normal ⟨t,dm⟩ H)):=of_fun fun f=>by kernel_rfl
theorem h168 (a0 a1 a2:AV) (H:Hp) (k:AEnd→Hp→Bool):callBody P (G K) ⟨cd P (G K) 200,callS P (G K)⟩ 168 [a0,a1,a2] H k=
 (Hp.new H (.cells (some 23) false (AV.cells a2)) fun b1 H1=>
 cl P (G K) 255 [a0] H1 fun v4 H4=>
 extractV v4 0 fun v6=>
 extractV v4 1 fun v7=>
 binK P .neq 30 true v6 (.int .i64 0) fun v11=>
 condV v11 (fun _=>
 k (.ret v6) H4) (fun _=>
 cl P (G K) 256 [a1] H4 fun v15 H15=>
 extractV v15 0 fun v17=>
 extractV v15 1 fun v18=>
 binK P .neq 30 true v17 (.int .i64 0) fun v22=>
 condV v22 (fun _=>
 k (.ret v17) H15) (fun _=>
 loadK P (G K) H15 23 (.ptr b1 0) fun v25=>
 cl P (G K) 257 [v25] H15 fun v26 H26=>
 k (.ret v26) H26))):=by kernel_rfl
theorem h169 (a0 a1 a2:AV) (H:Hp) (k:AEnd→Hp→Bool):callBody P (G K) ⟨cd P (G K) 200,callS P (G K)⟩ 169 [a0,a1,a2] H k=
 (let n0:AEx→En→Hp→Bool:=fun x e H=>bodyEnd P (G K) Tryz.f169 ⟨cd P (G K) 200,callS P (G K)⟩ k x e H;
 Hp.new H (.cells (some 23) false (AV.cells a2)) fun b1 H1=>
 let n4:AEx→En→Hp→Bool:=fun x e H=>isNormal x (fun _=>cd P (G K) 197 33 (subC 169 [1,1,1]) none e H fun x e H=>n0 x e H) (fun x=>n0 x e H);
 ptrPlus (.ptr b1 0) 0 fun v5=>
 loadK P (G K) H1 3 v5 fun v6=>
 semC P (G K) 33 (.loop (subC 169 [1,1,0,1,0])) none ⟨(es E2.empty [(0,a0),(1,a1),(2,a2),(5,(.ptr b1 0)),(6, .nils),(7, .nils),(11,v5),(12,v6),(8,v6)]),[]⟩ H1 fun x e8 H8=>isExit 0 x (fun _=>n4 .normal e8 H8) (fun x=>n4 x e8 H8)):=by kernel_rfl
theorem r169 (t:E2) (H:Hp) (k:AEnd→Hp→Bool) (i:Evs):bodyEnd P (G K) Tryz.f169 i k .ret ⟨t,[]⟩ H=k (.ret (E2.get t 6)) H:=by kernel_rfl
theorem h169_0 (dm:List Dm) (ro:Option Nat) (H:Hp) (k:AEx→En→Hp→Bool):∀(t:E2),cd P (G K) 197 33 (subC 169 [1,1,1]) ro ⟨t,dm⟩ H k=
 (k .ret ⟨(es t [(32,(E2.get t 7)),(6,(E2.get t 7))]),dm⟩ H):=of_fun fun f=>by kernel_rfl
theorem h169_1 (dm:List Dm) (ro:Option Nat) (H:Hp) (k:AEx→En→Hp→Bool):∀(t:E2),cd P (G K) 200 33 (subC 169 [1,1,0,1,0]) ro ⟨t,dm⟩ H k=
 (ptrPlus (E2.get t 5) 1 fun v2=>
 loadK P (G K) H 3 v2 fun v3=>
 binK P .leq 3 false (E2.get t 8) v3 fun v4=>
 condV v4 (fun _=>
 let n5:AEx→En→Hp→Bool:=fun x e H=>isNormal x (fun _=>cd P (G K) 198 33 (subC 169 [1,1,0,1,0,0,1,1]) ro e H fun x e H=>k x e H) (fun x=>k x e H);
 cl P (G K) 258 [(E2.get t 0),(E2.get t 8)] H fun v8 H8=>
 extractV v8 0 fun v10=>
 extractV v8 1 fun v11=>
 Hp.new H8 (.cells (some 140) false [(.int .i64 0),(.int .i64 0),(.int .i64 0),(.int .i64 0),(.int .i64 0),(.int .i64 0),(.int .i64 0)]) fun b12 H12=>
 storeK P H12 140 (.ptr b12 0) v10 fun H13=>
 condV v11 (fun _=>
 loadK P (G K) H13 140 (.ptr b12 0) fun v17=>
 cl P (G K) 260 [v17,(E2.get t 8),(E2.get t 1)] H13 fun v20 H20=>
 cl P (G K) 259 [(E2.get t 7),v20] H20 fun v21 H21=>
 n5 .normal ⟨(es t [(13,(E2.get t 8)),(14,v2),(15,v3),(16,v4),(20,(E2.get t 0)),(21,(E2.get t 8)),(22,v8),(19,v8),(23,v10),(24,v11),(9,(.ptr b12 0)),(10,v11),(25,v11),(26,(E2.get t 7)),(27,v17),(28,(E2.get t 8)),(29,(E2.get t 1)),(30,v20),(31,v21),(7,v21)]),dm⟩ H21) (fun _=>
 n5 .normal ⟨(es t [(13,(E2.get t 8)),(14,v2),(15,v3),(16,v4),(20,(E2.get t 0)),(21,(E2.get t 8)),(22,v8),(19,v8),(23,v10),(24,v11),(9,(.ptr b12 0)),(10,v11),(25,v11)]),dm⟩ H13)) (fun _=>
 k (.exit 0) ⟨(es t [(13,(E2.get t 8)),(14,v2),(15,v3),(16,v4)]),dm⟩ H)):=of_fun fun f=>by kernel_rfl
theorem h169_2 (dm:List Dm) (ro:Option Nat) (H:Hp) (k:AEx→En→Hp→Bool):∀(t:E2),cd P (G K) 198 33 (subC 169 [1,1,0,1,0,0,1,1]) ro ⟨t,dm⟩ H k=
 (binK P .add 3 true (E2.get t 8) (.int .i64 1) fun v2=>
 k .normal ⟨(es t [(17,(E2.get t 8)),(18,v2),(8,v2)]),dm⟩ H):=of_fun fun f=>by kernel_rfl
theorem h255 (a0:AV) (H:Hp) (k:AEnd→Hp→Bool):callBody P (G K) ⟨cd P (G K) 200,callS P (G K)⟩ 255 [a0] H k=
 (let n0:AEx→En→Hp→Bool:=fun x e H=>bodyEnd P (G K) Tryz.f255 ⟨cd P (G K) 200,callS P (G K)⟩ k x e H;
 lenK P 270 a0 H fun v4=>
 binK P .gtr 3 true v4 (.int .i64 20) fun v5=>
 condV v5 (fun _=>
 n0 .ret ⟨(es E2.empty [(0,a0),(6,a0),(7,v4),(8,v5),(2,(.int .i64 2)),(3,(.int .i64 (-1)))]),[]⟩ H) (fun _=>
 let n8:AEx→En→Hp→Bool:=fun x e H=>isNormal x (fun _=>cd P (G K) 197 82 (subC 255 [1,1,1]) none e H fun x e H=>n0 x e H) (fun x=>n0 x e H);
 lenK P 270 a0 H fun v10=>
 semC P (G K) 82 (.loop (subC 255 [1,1,0,1,0])) none ⟨(es E2.empty [(0,a0),(2,(.int .i64 0)),(3,(.int .i64 0)),(6,a0),(7,v4),(8,v5),(9,a0),(10,v10),(11,(.int .i64 0))]),[]⟩ H fun x e12 H12=>isExit 0 x (fun _=>n8 .normal e12 H12) (fun x=>n8 x e12 H12))):=by kernel_rfl
theorem r255 (t:E2) (H:Hp) (k:AEnd→Hp→Bool) (i:Evs):bodyEnd P (G K) Tryz.f255 i k .ret ⟨t,[]⟩ H=k (.ret (.tup [(E2.get t 2),(E2.get t 3)])) H:=by kernel_rfl
theorem h255_0 (dm:List Dm) (ro:Option Nat) (H:Hp) (k:AEx→En→Hp→Bool):∀(t:E2),cd P (G K) 197 82 (subC 255 [1,1,1]) ro ⟨t,dm⟩ H k=
 (k .ret ⟨(es t [(2,(.int .i64 0)),(3,(.int .i64 (-1)))]),dm⟩ H):=of_fun fun f=>by kernel_rfl
theorem h255_1 (dm:List Dm) (ro:Option Nat) (H:Hp) (k:AEx→En→Hp→Bool):∀(t:E2),cd P (G K) 200 82 (subC 255 [1,1,0,1,0]) ro ⟨t,dm⟩ H k=
 (binK P .lss 3 false (E2.get t 11) (E2.get t 10) fun v1=>
 condV v1 (fun _=>
 cd P (G K) 197 82 (subC 255 [1,1,0,1,0,0,1,1,0]) ro ⟨(es t [(12,v1)]),dm⟩ H fun x e H=>isNormal x (fun _=>cd P (G K) 197 82 (subC 255 [1,1,0,1,0,0,1,1,1]) ro e H fun x e H=>k x e H) (fun x=>k x e H)) (fun _=>
 k (.exit 0) ⟨(es t [(12,v1)]),dm⟩ H)):=of_fun fun f=>by kernel_rfl
theorem h255_2 (dm:List Dm) (ro:Option Nat) (H:Hp) (k:AEx→En→Hp→Bool):∀(t:E2),cd P (G K) 197 82 (subC 255 [1,1,0,1,0,0,1,1,0]) ro ⟨t,dm⟩ H k=
 (indexAtK P 270 (E2.get t 9) (E2.get t 11) fun v2=>
 loadK P (G K) H 140 v2 fun v3=>
 Hp.new H (.cells (some 140) false [(.int .i64 0),(.int .i64 0),(.int .i64 0),(.int .i64 0),(.int .i64 0),(.int .i64 0),(.int .i64 0)]) fun b4 H4=>
 storeK P H4 140 (.ptr b4 0) v3 fun H6=>
 cd P (G K) 194 82 (subC 255 [1,1,0,1,0,0,1,1,0,0,1,0]) ro ⟨(es t [(13,(E2.get t 11)),(14,v2),(15,v3),(5,(.ptr b4 0)),(4,(E2.get t 11))]),dm⟩ H6 fun x e H=>isNormal x (fun _=>cd P (G K) 194 82 (subC 255 [1,1,0,1,0,0,1,1,0,0,1,1]) ro e H fun x e H=>isExit 1 x (fun _=>k .normal e H) (fun x=>k x e H)) (fun x=>isExit 1 x (fun _=>k .normal e H) (fun x=>k x e H))):=of_fun fun f=>by kernel_rfl
theorem h255_3 (dm:List Dm) (ro:Option Nat) (H:Hp) (k:AEx→En→Hp→Bool):∀(t:E2),cd P (G K) 197 82 (subC 255 [1,1,0,1,0,0,1,1,1]) ro ⟨t,dm⟩ H k=
 (binK P .add 3 true (E2.get t 11) (.int .i64 1) fun v1=>
 k .normal ⟨(es t [(81,v1),(11,v1)]),dm⟩ H):=of_fun fun f=>by kernel_rfl
theorem h255_4 (dm:List Dm) (ro:Option Nat) (H:Hp) (k:AEx→En→Hp→Bool):∀(t:E2),cd P (G K) 194 82 (subC 255 [1,1,0,1,0,0,1,1,0,0,1,0]) ro ⟨t,dm⟩ H k=
 (cd P (G K) 193 82 (subC 255 [1,1,0,1,0,0,1,1,0,0,1,0,0]) ro ⟨t,dm⟩ H fun x e H=>isNormal x (fun _=>cd P (G K) 193 82 (subC 255 [1,1,0,1,0,0,1,1,0,0,1,0,1]) ro e H fun x e H=>k x e H) (fun x=>k x e H)):=of_fun fun f=>by kernel_rfl
theorem h255_5 (dm:List Dm) (ro:Option Nat) (H:Hp) (k:AEx→En→Hp→Bool):∀(t:E2),cd P (G K) 194 82 (subC 255 [1,1,0,1,0,0,1,1,0,0,1,1]) ro ⟨t,dm⟩ H k=
 (cd P (G K) 193 82 (subC 255 [1,1,0,1,0,0,1,1,0,0,1,1,0]) ro ⟨t,dm⟩ H fun x e H=>isNormal x (fun _=>cd P (G K) 193 82 (subC 255 [1,1,0,1,0,0,1,1,0,0,1,1,1]) ro e H fun x e H=>k x e H) (fun x=>k x e H)):=of_fun fun f=>by kernel_rfl
theorem h255_6 (dm:List Dm) (ro:Option Nat) (H:Hp) (k:AEx→En→Hp→Bool):∀(t:E2),cd P (G K) 193 82 (subC 255 [1,1,0,1,0,0,1,1,0,0,1,0,0]) ro ⟨t,dm⟩ H k=
 (ptrPlus (E2.get t 5) 0 fun v1=>
 loadK P (G K) H 3 v1 fun v2=>
 cl P (G K) 107 [v2] H fun v3 H3=>
 unK .not v3 fun v4=>
 gJoin (boolIs false v4) (fun v6 H6=>
 gJoin (boolIs false v4) (fun v7 H7=>
 gJoin (boolIs false v4) (fun v8 H8=>
 gJoin (boolIs false v4) (fun v9 H9=>
 pickV v4 (.bool true) v9 fun v10=>
 gJoin (boolIs false v10) (fun v12 H12=>
 gJoin (boolIs false v10) (fun v13 H13=>
 gJoin (boolIs false v10) (fun v14 H14=>
 gJoin (boolIs false v10) (fun v15 H15=>
 pickV v10 (.bool true) v15 fun v16=>
 gJoin (boolIs false v16) (fun v18 H18=>
 gJoin (boolIs false v16) (fun v19 H19=>
 gJoin (boolIs false v16) (fun v20 H20=>
 gJoin (boolIs false v16) (fun v21 H21=>
 pickV v16 (.bool true) v21 fun v22=>
 gJoin (boolIs false v22) (fun v24 H24=>
 gJoin (boolIs false v22) (fun v25 H25=>
 gJoin (boolIs false v22) (fun v26 H26=>
 gJoin (boolIs false v22) (fun v27 H27=>
 pickV v22 (.bool true) v27 fun v28=>
 gJoin (boolIs false v28) (fun v30 H30=>
 gJoin (boolIs false v28) (fun v31 H31=>
 gJoin (boolIs false v28) (fun v32 H32=>
 pickV v28 (.bool true) v32 fun v33=>
 gJoin (boolIs false v33) (fun v35 H35=>
 gJoin (boolIs false v33) (fun v36 H36=>
 gJoin (boolIs false v33) (fun v37 H37=>
 gJoin (boolIs false v33) (fun v38 H38=>
 gJoin (boolIs false v33) (fun v39 H39=>
 pickV v33 (.bool true) v39 fun v40=>
 gJoin (boolIs false v40) (fun v42 H42=>
 gJoin (boolIs false v40) (fun v43 H43=>
 gJoin (boolIs false v40) (fun v44 H44=>
 pickV v40 (.bool true) v44 fun v45=>
 gJoin (boolIs false v45) (fun v47 H47=>
 gJoin (boolIs false v45) (fun v48 H48=>
 gJoin (boolIs false v45) (fun v49 H49=>
 pickV v45 (.bool true) v49 fun v50=>
 k .normal ⟨(es t [(16,v1),(17,v2),(18,v3),(19,v4),(20,v4),(21,v6),(22,v7),(23,v8),(24,v9),(25,v10),(26,v10),(27,v12),(28,v13),(29,v14),(30,v15),(31,v16),(32,v16),(33,v18),(34,v19),(35,v20),(36,v21),(37,v22),(38,v22),(39,v24),(40,v25),(41,v26),(42,v27),(43,v28),(44,v28),(45,v30),(46,v31),(47,v32),(48,v33),(49,v33),(50,v35),(51,v36),(52,v37),(53,v38),(54,v39),(55,v40),(56,v40),(57,v42),(58,v43),(59,v44),(60,v45),(61,v45),(62,v47),(63,v48),(64,v49),(65,v50)]),dm⟩ H49) (fun r49=>binK P .gtr 3 true v48 (.int .i64 1000) fun v51=>
 r49 v51 H48) H48) (fun r48=>loadK P (G K) H47 3 v47 fun v52=>
 r48 v52 H47) H47) (fun r47=>ptrPlus (E2.get t 5) 6 fun v53=>
 r47 v53 H44) H44) (fun r44=>binK P .lss 3 true v43 (.int .i64 0) fun v54=>
 r44 v54 H43) H43) (fun r43=>loadK P (G K) H42 3 v42 fun v55=>
 r43 v55 H42) H42) (fun r42=>ptrPlus (E2.get t 5) 6 fun v56=>
 r42 v56 H39) H39) (fun r39=>binK P .gtr 3 false v36 v38 fun v57=>
 r39 v57 H38) H38) (fun r38=>loadK P (G K) H37 3 v37 fun v58=>
 r38 v58 H37) H37) (fun r37=>ptrPlus (E2.get t 5) 1 fun v59=>
 r37 v59 H36) H36) (fun r36=>loadK P (G K) H35 3 v35 fun v60=>
 r36 v60 H35) H35) (fun r35=>ptrPlus (E2.get t 5) 5 fun v61=>
 r35 v61 H32) H32) (fun r32=>binK P .lss 3 true v31 (.int .i64 0) fun v62=>
 r32 v62 H31) H31) (fun r31=>loadK P (G K) H30 3 v30 fun v63=>
 r31 v63 H30) H30) (fun r30=>ptrPlus (E2.get t 5) 5 fun v64=>
 r30 v64 H27) H27) (fun r27=>unK .not v26 fun v65=>
 r27 v65 H26) H26) (fun r26=>cl P (G K) 388 [v25] H25 fun v66 H66=>
 r26 v66 H66) H25) (fun r25=>loadK P (G K) H24 3 v24 fun v67=>
 r25 v67 H24) H24) (fun r24=>ptrPlus (E2.get t 5) 4 fun v68=>
 r24 v68 H21) H21) (fun r21=>unK .not v20 fun v69=>
 r21 v69 H20) H20) (fun r20=>cl P (G K) 388 [v19] H19 fun v70 H70=>
 r20 v70 H70) H19) (fun r19=>loadK P (G K) H18 3 v18 fun v71=>
 r19 v71 H18) H18) (fun r18=>ptrPlus (E2.get t 5) 3 fun v72=>
 r18 v72 H15) H15) (fun r15=>unK .not v14 fun v73=>
 r15 v73 H14) H14) (fun r14=>cl P (G K) 388 [v13] H13 fun v74 H74=>
 r14 v74 H74) H13) (fun r13=>loadK P (G K) H12 3 v12 fun v75=>
 r13 v75 H12) H12) (fun r12=>ptrPlus (E2.get t 5) 2 fun v76=>
 r12 v76 H9) H9) (fun r9=>unK .not v8 fun v77=>
 r9 v77 H8) H8) (fun r8=>cl P (G K) 388 [v7] H7 fun v78 H78=>
 r8 v78 H78) H7) (fun r7=>loadK P (G K) H6 3 v6 fun v79=>
 r7 v79 H6) H6) (fun r6=>ptrPlus (E2.get t 5) 1 fun v80=>
 r6 v80 H3) H3):=of_fun fun f=>by kernel_rfl
theorem h255_7 (dm:List Dm) (ro:Option Nat) (H:Hp) (k:AEx→En→Hp→Bool):∀(t:E2),cd P (G K) 193 82 (subC 255 [1,1,0,1,0,0,1,1,0,0,1,0,1]) ro ⟨t,dm⟩ H k=
 (condV (E2.get t 65) (fun _=>
 k .ret ⟨(es t [(66,(E2.get t 4)),(2,(.int .i64 1)),(3,(E2.get t 4))]),dm⟩ H) (fun _=>
 k .normal ⟨t,dm⟩ H)):=of_fun fun f=>by kernel_rfl
theorem h255_8 (dm:List Dm) (ro:Option Nat) (H:Hp) (k:AEx→En→Hp→Bool):∀(t:E2),cd P (G K) 193 82 (subC 255 [1,1,0,1,0,0,1,1,0,0,1,1,0]) ro ⟨t,dm⟩ H k=
 (binK P .gtr 3 true (E2.get t 4) (.int .i64 0) fun v2=>
 gJoinD (boolIs true v2) (fun v4 H4 L4 Q4=>
 gJoinD (boolIs true v2) (fun v5 H5 L5 Q5=>
 gJoinD (boolIs true v2) (fun v6 H6 L6 Q6=>
 gJoinD (boolIs true v2) (fun v7 H7 L7 Q7=>
 gJoinD (boolIs true v2) (fun v8 H8 L8 Q8=>
 gJoinD (boolIs true v2) (fun v9 H9 L9 Q9=>
 gJoinD (boolIs true v2) (fun v10 H10 L10 Q10=>
 gJoinD (boolIs true v2) (fun v11 H11 L11 Q11=>
 gJoinD (boolIs true v2) (fun v12 H12 L12 Q12=>
 pickV v2 v12 (.bool false) fun v13=>
 layAll Q12 H12 fun H14=>
 k .normal ⟨(es t [(67,(E2.get t 4)),(68,v2),(69,v2),(70,v4),(71,v5),(72,v6),(73,v7),(74,v8),(75,v9),(76,v10),(77,v11),(78,v12),(79,v13)]),dm⟩ H14) (fun r12=>binK P .leq 3 false v5 v11 fun v15=>
 r12 v15 H11 L11 Q11) H11 L11 Q11) (fun r11=>loadK P (G K) H10 3 v10 fun v16=>
 r11 v16 H10 ((10,fun H'=>loadK P (G K) H' 3 v10 fun v'=>avSame 1000 v16 v')::L10) Q10) H10 L10 Q10) (fun r10=>ptrPlus v9 0 fun v17=>
 r10 v17 H9 L9 Q9) H9 L9 Q9) (fun r9=>indexAtK P 270 v6 v8 fun v18=>
 r9 v18 H8 L8 Q8) H8 L8 Q8) (fun r8=>binK P .sub 3 true v7 (.int .i64 1) fun v19=>
 r8 v19 H7 L7 Q7) H7 L7 Q7) (fun r7=>r7 (E2.get t 4) H6 L6 Q6) H6 L6 Q6) (fun r6=>r6 (E2.get t 0) H5 L5 Q5) H5 L5 Q5) (fun r5=>loadK P (G K) H4 3 v4 fun v22=>
 r5 v22 H4 ((4,fun H'=>loadK P (G K) H' 3 v4 fun v'=>avSame 1000 v22 v')::L4) Q4) H4 L4 Q4) (fun r4=>ptrPlus (E2.get t 5) 0 fun v23=>
 r4 v23 H [] []) H [] []):=of_fun fun f=>by kernel_rfl
theorem h255_9 (dm:List Dm) (ro:Option Nat) (H:Hp) (k:AEx→En→Hp→Bool):∀(t:E2),cd P (G K) 193 82 (subC 255 [1,1,0,1,0,0,1,1,0,0,1,1,1]) ro ⟨t,dm⟩ H k=
 (condV (E2.get t 79) (fun _=>
 k .ret ⟨(es t [(80,(E2.get t 4)),(2,(.int .i64 6)),(3,(E2.get t 4))]),dm⟩ H) (fun _=>
 k .normal ⟨t,dm⟩ H)):=of_fun fun f=>by kernel_rfl
theorem h256 (a0:AV) (H:Hp) (k:AEnd→Hp→Bool):callBody P (G K) ⟨cd P (G K) 200,callS P (G K)⟩ 256 [a0] H k=
 (let n0:AEx→En→Hp→Bool:=fun x e H=>bodyEnd P (G K) Tryz.f256 ⟨cd P (G K) 200,callS P (G K)⟩ k x e H;
 lenK P 271 a0 H fun v4=>
 binK P .gtr 3 true v4 (.int .i64 200) fun v5=>
 condV v5 (fun _=>
 n0 .ret ⟨(es E2.empty [(0,a0),(6,a0),(7,v4),(8,v5),(2,(.int .i64 2)),(3,(.int .i64 (-1)))]),[]⟩ H) (fun _=>
 let n8:AEx→En→Hp→Bool:=fun x e H=>isNormal x (fun _=>cd P (G K) 197 57 (subC 256 [1,1,1]) none e H fun x e H=>n0 x e H) (fun x=>n0 x e H);
 lenK P 271 a0 H fun v10=>
 semC P (G K) 57 (.loop (subC 256 [1,1,0,1,0])) none ⟨(es E2.empty [(0,a0),(2,(.int .i64 0)),(3,(.int .i64 0)),(6,a0),(7,v4),(8,v5),(9,a0),(10,v10),(11,(.int .i64 0))]),[]⟩ H fun x e12 H12=>isExit 0 x (fun _=>n8 .normal e12 H12) (fun x=>n8 x e12 H12))):=by kernel_rfl
theorem r256 (t:E2) (H:Hp) (k:AEnd→Hp→Bool) (i:Evs):bodyEnd P (G K) Tryz.f256 i k .ret ⟨t,[]⟩ H=k (.ret (.tup [(E2.get t 2),(E2.get t 3)])) H:=by kernel_rfl
theorem h256_0 (dm:List Dm) (ro:Option Nat) (H:Hp) (k:AEx→En→Hp→Bool):∀(t:E2),cd P (G K) 197 57 (subC 256 [1,1,1]) ro ⟨t,dm⟩ H k=
 (k .ret ⟨(es t [(2,(.int .i64 0)),(3,(.int .i64 (-1)))]),dm⟩ H):=of_fun fun f=>by kernel_rfl
theorem h256_1 (dm:List Dm) (ro:Option Nat) (H:Hp) (k:AEx→En→Hp→Bool):∀(t:E2),cd P (G K) 200 57 (subC 256 [1,1,0,1,0]) ro ⟨t,dm⟩ H k=
 (binK P .lss 3 false (E2.get t 11) (E2.get t 10) fun v1=>
 condV v1 (fun _=>
 cd P (G K) 197 57 (subC 256 [1,1,0,1,0,0,1,1,0]) ro ⟨(es t [(12,v1)]),dm⟩ H fun x e H=>isNormal x (fun _=>cd P (G K) 197 57 (subC 256 [1,1,0,1,0,0,1,1,1]) ro e H fun x e H=>k x e H) (fun x=>k x e H)) (fun _=>
 k (.exit 0) ⟨(es t [(12,v1)]),dm⟩ H)):=of_fun fun f=>by kernel_rfl
theorem h256_2 (dm:List Dm) (ro:Option Nat) (H:Hp) (k:AEx→En→Hp→Bool):∀(t:E2),cd P (G K) 197 57 (subC 256 [1,1,0,1,0,0,1,1,0]) ro ⟨t,dm⟩ H k=
 (indexAtK P 271 (E2.get t 9) (E2.get t 11) fun v2=>
 loadK P (G K) H 541 v2 fun v3=>
 Hp.new H (.cells (some 541) false [(.int .i64 0),(.int .i64 0),(.int .i64 0), .nils]) fun b4 H4=>
 storeK P H4 541 (.ptr b4 0) v3 fun H6=>
 loadK P (G K) H6 541 (.ptr b4 0) fun v7=>
 cl P (G K) 389 [v7] H6 fun v8 H8=>
 unK .not v8 fun v9=>
 condV v9 (fun _=>
 k .ret ⟨(es t [(13,(E2.get t 11)),(14,v2),(15,v3),(5,(.ptr b4 0)),(4,(E2.get t 11)),(16,v7),(17,v8),(18,v9),(19,(E2.get t 11)),(2,(.int .i64 1)),(3,(E2.get t 11))]),dm⟩ H8) (fun _=>
 cd P (G K) 193 57 (subC 256 [1,1,0,1,0,0,1,1,0,0,1,1,0]) ro ⟨(es t [(13,(E2.get t 11)),(14,v2),(15,v3),(5,(.ptr b4 0)),(4,(E2.get t 11)),(16,v7),(17,v8),(18,v9)]),dm⟩ H8 fun x e H=>isNormal x (fun _=>cd P (G K) 193 57 (subC 256 [1,1,0,1,0,0,1,1,0,0,1,1,1]) ro e H fun x e H=>isExit 1 x (fun _=>k .normal e H) (fun x=>k x e H)) (fun x=>isExit 1 x (fun _=>k .normal e H) (fun x=>k x e H)))):=of_fun fun f=>by kernel_rfl
theorem h256_3 (dm:List Dm) (ro:Option Nat) (H:Hp) (k:AEx→En→Hp→Bool):∀(t:E2),cd P (G K) 197 57 (subC 256 [1,1,0,1,0,0,1,1,1]) ro ⟨t,dm⟩ H k=
 (binK P .add 3 true (E2.get t 11) (.int .i64 1) fun v1=>
 k .normal ⟨(es t [(56,v1),(11,v1)]),dm⟩ H):=of_fun fun f=>by kernel_rfl
theorem h256_4 (dm:List Dm) (ro:Option Nat) (H:Hp) (k:AEx→En→Hp→Bool):∀(t:E2),cd P (G K) 193 57 (subC 256 [1,1,0,1,0,0,1,1,0,0,1,1,0]) ro ⟨t,dm⟩ H k=
 (binK P .gtr 3 true (E2.get t 4) (.int .i64 0) fun v2=>
 gJoinD (boolIs true v2) (fun v4 H4 L4 Q4=>
 gJoinD (boolIs true v2) (fun v5 H5 L5 Q5=>
 gJoinD (boolIs true v2) (fun v6 H6 L6 Q6=>
 gJoinD (boolIs true v2) (fun v7 H7 L7 Q7=>
 gJoinD (boolIs true v2) (fun v8 H8 L8 Q8=>
 gJoinD (boolIs true v2) (fun v9 H9 L9 Q9=>
 gJoinD (boolIs true v2) (fun v10 H10 L10 Q10=>
 gJoinD (boolIs true v2) (fun v11 H11 L11 Q11=>
 gJoinD (boolIs true v2) (fun v12 H12 L12 Q12=>
 gJoinD (boolIs true v2) (fun v13 H13 L13 Q13=>
 gJoinD (boolIs false v13) (fun v14 H14 L14 Q14=>
 gJoinD (boolIs false v13) (fun v15 H15 L15 Q15=>
 gJoinD (boolIs false v13) (fun v16 H16 L16 Q16=>
 gJoinD (boolIs false v13) (fun v17 H17 L17 Q17=>
 gJoinD (boolIs false v13) (fun v18 H18 L18 Q18=>
 gJoinD (boolIs false v13) (fun v19 H19 L19 Q19=>
 gJoinD (boolIs false v13) (fun v20 H20 L20 Q20=>
 gJoinD (boolIs false v13) (fun v21 H21 L21 Q21=>
 gJoinD (boolIs false v13) (fun v22 H22 L22 Q22=>
 gJoinD (boolIs false v13) (fun v23 H23 L23 Q23=>
 gJoinD (boolIs true v23) (fun v24 H24 L24 Q24=>
 gJoinD (boolIs true v23) (fun v25 H25 L25 Q25=>
 gJoinD (boolIs true v23) (fun v26 H26 L26 Q26=>
 gJoinD (boolIs true v23) (fun v27 H27 L27 Q27=>
 gJoinD (boolIs true v23) (fun v28 H28 L28 Q28=>
 gJoinD (boolIs true v23) (fun v29 H29 L29 Q29=>
 gJoinD (boolIs true v23) (fun v30 H30 L30 Q30=>
 gJoinD (boolIs true v23) (fun v31 H31 L31 Q31=>
 gJoinD (boolIs true v23) (fun v32 H32 L32 Q32=>
 gJoinD (boolIs false v13) (fun v33 H33 L33 Q33=>
 gJoinD (boolIs true v2) (fun v34 H34 L34 Q34=>
 pickV v2 v34 (.bool false) fun v35=>
 layAll Q34 H34 fun H36=>
 k .normal ⟨(es t [(20,(E2.get t 4)),(21,v2),(22,v2),(23,v4),(24,v5),(25,v6),(26,v7),(27,v8),(28,v9),(29,v10),(30,v11),(31,v12),(32,v13),(33,v14),(34,v15),(35,v16),(36,v17),(37,v18),(38,v19),(39,v20),(40,v21),(41,v22),(42,v23),(43,v24),(44,v25),(45,v26),(46,v27),(47,v28),(48,v29),(49,v30),(50,v31),(51,v32),(52,v33),(53,v34),(54,v35)]),dm⟩ H36) (fun r34=>pickV v13 (.bool true) v33 fun v37=>
 r34 v37 H33 L33 Q33) H33 L33 Q33) (fun r33=>pickV v23 v32 (.bool false) fun v38=>
 r33 v38 H32 L32 Q32) H32 L32 Q32) (fun r32=>binK P .leq 3 false v25 v31 fun v39=>
 r32 v39 H31 L31 Q31) H31 L31 Q31) (fun r31=>loadK P (G K) H30 3 v30 fun v40=>
 r31 v40 H30 ((30,fun H'=>loadK P (G K) H' 3 v30 fun v'=>avSame 1000 v40 v')::L30) Q30) H30 L30 Q30) (fun r30=>ptrPlus v29 1 fun v41=>
 r30 v41 H29 L29 Q29) H29 L29 Q29) (fun r29=>indexAtK P 271 v26 v28 fun v42=>
 r29 v42 H28 L28 Q28) H28 L28 Q28) (fun r28=>binK P .sub 3 true v27 (.int .i64 1) fun v43=>
 r28 v43 H27 L27 Q27) H27 L27 Q27) (fun r27=>r27 (E2.get t 4) H26 L26 Q26) H26 L26 Q26) (fun r26=>r26 (E2.get t 0) H25 L25 Q25) H25 L25 Q25) (fun r25=>loadK P (G K) H24 3 v24 fun v46=>
 r25 v46 H24 ((24,fun H'=>loadK P (G K) H' 3 v24 fun v'=>avSame 1000 v46 v')::L24) Q24) H24 L24 Q24) (fun r24=>ptrPlus (E2.get t 5) 1 fun v47=>
 r24 v47 H23 L23 Q23) H23 L23 Q23) (fun r23=>r23 v22 H22 L22 Q22) H22 L22 Q22) (fun r22=>binK P .eql 3 false v15 v21 fun v49=>
 r22 v49 H21 L21 Q21) H21 L21 Q21) (fun r21=>loadK P (G K) H20 3 v20 fun v50=>
 r21 v50 H20 ((20,fun H'=>loadK P (G K) H' 3 v20 fun v'=>avSame 1000 v50 v')::L20) Q20) H20 L20 Q20) (fun r20=>ptrPlus v19 0 fun v51=>
 r20 v51 H19 L19 Q19) H19 L19 Q19) (fun r19=>indexAtK P 271 v16 v18 fun v52=>
 r19 v52 H18 L18 Q18) H18 L18 Q18) (fun r18=>binK P .sub 3 true v17 (.int .i64 1) fun v53=>
 r18 v53 H17 L17 Q17) H17 L17 Q17) (fun r17=>r17 (E2.get t 4) H16 L16 Q16) H16 L16 Q16) (fun r16=>r16 (E2.get t 0) H15 L15 Q15) H15 L15 Q15) (fun r15=>loadK P (G K) H14 3 v14 fun v56=>
 r15 v56 H14 ((14,fun H'=>loadK P (G K) H' 3 v14 fun v'=>avSame 1000 v56 v')::L14) Q14) H14 L14 Q14) (fun r14=>ptrPlus (E2.get t 5) 0 fun v57=>
 r14 v57 H13 L13 Q13) H13 L13 Q13) (fun r13=>r13 v12 H12 L12 Q12) H12 L12 Q12) (fun r12=>binK P .lss 3 false v5 v11 fun v59=>
 r12 v59 H11 L11 Q11) H11 L11 Q11) (fun r11=>loadK P (G K) H10 3 v10 fun v60=>
 r11 v60 H10 ((10,fun H'=>loadK P (G K) H' 3 v10 fun v'=>avSame 1000 v60 v')::L10) Q10) H10 L10 Q10) (fun r10=>ptrPlus v9 0 fun v61=>
 r10 v61 H9 L9 Q9) H9 L9 Q9) (fun r9=>indexAtK P 271 v6 v8 fun v62=>
 r9 v62 H8 L8 Q8) H8 L8 Q8) (fun r8=>binK P .sub 3 true v7 (.int .i64 1) fun v63=>
 r8 v63 H7 L7 Q7) H7 L7 Q7) (fun r7=>r7 (E2.get t 4) H6 L6 Q6) H6 L6 Q6) (fun r6=>r6 (E2.get t 0) H5 L5 Q5) H5 L5 Q5) (fun r5=>loadK P (G K) H4 3 v4 fun v66=>
 r5 v66 H4 ((4,fun H'=>loadK P (G K) H' 3 v4 fun v'=>avSame 1000 v66 v')::L4) Q4) H4 L4 Q4) (fun r4=>ptrPlus (E2.get t 5) 0 fun v67=>
 r4 v67 H [] []) H [] []):=of_fun fun f=>by kernel_rfl
theorem h256_5 (dm:List Dm) (ro:Option Nat) (H:Hp) (k:AEx→En→Hp→Bool):∀(t:E2),cd P (G K) 193 57 (subC 256 [1,1,0,1,0,0,1,1,0,0,1,1,1]) ro ⟨t,dm⟩ H k=
 (condV (E2.get t 54) (fun _=>
 k .ret ⟨(es t [(55,(E2.get t 4)),(2,(.int .i64 6)),(3,(E2.get t 4))]),dm⟩ H) (fun _=>
 k .normal ⟨t,dm⟩ H)):=of_fun fun f=>by kernel_rfl
theorem h257 (a0:AV) (H:Hp) (k:AEnd→Hp→Bool):callBody P (G K) ⟨cd P (G K) 200,callS P (G K)⟩ 257 [a0] H k=
 (let n0:AEx→En→Hp→Bool:=fun x e H=>bodyEnd P (G K) Tryz.f257 ⟨cd P (G K) 200,callS P (G K)⟩ k x e H;
 Hp.new H (.cells (some 23) false (AV.cells a0)) fun b1 H1=>
 cd P (G K) 198 26 (subC 257 [1,0]) none ⟨(es E2.empty [(0,a0),(1,(.ptr b1 0)),(2,(.int .i64 0))]),[]⟩ H1 fun x e H=>isNormal x (fun _=>cd P (G K) 198 26 (subC 257 [1,1]) none e H fun x e H=>n0 x e H) (fun x=>n0 x e H)):=by kernel_rfl
theorem r257 (t:E2) (H:Hp) (k:AEnd→Hp→Bool) (i:Evs):bodyEnd P (G K) Tryz.f257 i k .ret ⟨t,[]⟩ H=k (.ret (E2.get t 2)) H:=by kernel_rfl
theorem h257_0 (dm:List Dm) (ro:Option Nat) (H:Hp) (k:AEx→En→Hp→Bool):∀(t:E2),cd P (G K) 198 26 (subC 257 [1,0]) ro ⟨t,dm⟩ H k=
 (cd P (G K) 197 26 (subC 257 [1,0,0]) ro ⟨t,dm⟩ H fun x e H=>isNormal x (fun _=>cd P (G K) 197 26 (subC 257 [1,0,1]) ro e H fun x e H=>k x e H) (fun x=>k x e H)):=of_fun fun f=>by kernel_rfl
theorem h257_1 (dm:List Dm) (ro:Option Nat) (H:Hp) (k:AEx→En→Hp→Bool):∀(t:E2),cd P (G K) 198 26 (subC 257 [1,1]) ro ⟨t,dm⟩ H k=
 (ptrPlus (E2.get t 1) 1 fun v1=>
 loadK P (G K) H 3 v1 fun v2=>
 ptrPlus (E2.get t 1) 0 fun v3=>
 loadK P (G K) H 3 v3 fun v4=>
 binK P .sub 3 false v2 v4 fun v5=>
 binK P .geq 3 true v5 (.int .i64 400) fun v6=>
 condV v6 (fun _=>
 k .ret ⟨(es t [(20,v1),(21,v2),(22,v3),(23,v4),(24,v5),(25,v6),(2,(.int .i64 2))]),dm⟩ H) (fun _=>
 k .ret ⟨(es t [(20,v1),(21,v2),(22,v3),(23,v4),(24,v5),(25,v6),(2,(.int .i64 0))]),dm⟩ H)):=of_fun fun f=>by kernel_rfl
theorem h257_2 (dm:List Dm) (ro:Option Nat) (H:Hp) (k:AEx→En→Hp→Bool):∀(t:E2),cd P (G K) 197 26 (subC 257 [1,0,0]) ro ⟨t,dm⟩ H k=
 (ptrPlus (E2.get t 1) 0 fun v1=>
 loadK P (G K) H 3 v1 fun v2=>
 ptrPlus (E2.get t 1) 1 fun v3=>
 loadK P (G K) H 3 v3 fun v4=>
 binK P .gtr 3 false v2 v4 fun v5=>
 gJoin (boolIs false v5) (fun v7 H7=>
 gJoin (boolIs false v5) (fun v8 H8=>
 gJoin (boolIs false v5) (fun v9 H9=>
 gJoin (boolIs false v5) (fun v10 H10=>
 pickV v5 (.bool true) v10 fun v11=>
 gJoin (boolIs false v11) (fun v13 H13=>
 gJoin (boolIs false v11) (fun v14 H14=>
 gJoin (boolIs false v11) (fun v15 H15=>
 gJoin (boolIs false v11) (fun v16 H16=>
 pickV v11 (.bool true) v16 fun v17=>
 k .normal ⟨(es t [(3,v1),(4,v2),(5,v3),(6,v4),(7,v5),(8,v5),(9,v7),(10,v8),(11,v9),(12,v10),(13,v11),(14,v11),(15,v13),(16,v14),(17,v15),(18,v16),(19,v17)]),dm⟩ H16) (fun r16=>unK .not v15 fun v18=>
 r16 v18 H15) H15) (fun r15=>cl P (G K) 107 [v14] H14 fun v19 H19=>
 r15 v19 H19) H14) (fun r14=>loadK P (G K) H13 3 v13 fun v20=>
 r14 v20 H13) H13) (fun r13=>ptrPlus (E2.get t 1) 1 fun v21=>
 r13 v21 H10) H10) (fun r10=>unK .not v9 fun v22=>
 r10 v22 H9) H9) (fun r9=>cl P (G K) 107 [v8] H8 fun v23 H23=>
 r9 v23 H23) H8) (fun r8=>loadK P (G K) H7 3 v7 fun v24=>
 r8 v24 H7) H7) (fun r7=>ptrPlus (E2.get t 1) 0 fun v25=>
 r7 v25 H) H):=of_fun fun f=>by kernel_rfl
theorem h257_3 (dm:List Dm) (ro:Option Nat) (H:Hp) (k:AEx→En→Hp→Bool):∀(t:E2),cd P (G K) 197 26 (subC 257 [1,0,1]) ro ⟨t,dm⟩ H k=
 (condV (E2.get t 19) (fun _=>
 k .ret ⟨(es t [(2,(.int .i64 1))]),dm⟩ H) (fun _=>
 k .normal ⟨t,dm⟩ H)):=of_fun fun f=>by kernel_rfl
theorem h258 (a0 a1:AV) (H:Hp) (k:AEnd→Hp→Bool):callBody P (G K) ⟨cd P (G K) 200,callS P (G K)⟩ 258 [a0,a1] H k=
 (let n0:AEx→En→Hp→Bool:=fun x e H=>bodyEnd P (G K) Tryz.f258 ⟨cd P (G K) 200,callS P (G K)⟩ k x e H;
 Hp.new H (.cells (some 140) false [(.int .i64 0),(.int .i64 0),(.int .i64 0),(.int .i64 0),(.int .i64 0),(.int .i64 0),(.int .i64 0)]) fun b1 H1=>
 buildK P 140 [] fun v3=>
 Hp.new H1 (.cells (some 140) false [(.int .i64 0),(.int .i64 0),(.int .i64 0),(.int .i64 0),(.int .i64 0),(.int .i64 0),(.int .i64 0)]) fun b4 H4=>
 storeK P H4 140 (.ptr b4 0) v3 fun H5=>
 let n7:AEx→En→Hp→Bool:=fun x e H=>isNormal x (fun _=>cd P (G K) 197 25 (subC 258 [1,1,1]) none e H fun x e H=>n0 x e H) (fun x=>n0 x e H);
 lenK P 270 a0 H5 fun v9=>
 semC P (G K) 25 (.loop (subC 258 [1,1,0,1,0])) none ⟨(es E2.empty [(0,a0),(1,a1),(4,(.ptr b1 0)),(5,(.bool false)),(10,v3),(6,(.ptr b4 0)),(7,(.bool false)),(11,a0),(12,v9),(13,(.int .i64 0))]),[]⟩ H5 fun x e11 H11=>isExit 0 x (fun _=>n7 .normal e11 H11) (fun x=>n7 x e11 H11)):=by kernel_rfl
theorem r258 (H:Hp) (k:AEnd→Hp→Bool) (i:Evs):∀(t:E2),bodyEnd P (G K) Tryz.f258 i k .ret ⟨t,[]⟩ H=(loadK P (G K) H 140 (E2.get t 4) fun v0=>k (.ret (.tup [v0,(E2.get t 5)])) H):=of_fun fun f=>by kernel_rfl
theorem h258_0 (dm:List Dm) (ro:Option Nat) (H:Hp) (k:AEx→En→Hp→Bool):∀(t:E2),cd P (G K) 197 25 (subC 258 [1,1,1]) ro ⟨t,dm⟩ H k=
 (loadK P (G K) H 140 (E2.get t 6) fun v1=>
 storeK P H 140 (E2.get t 4) v1 fun H3=>
 k .ret ⟨(es t [(23,v1),(24,(E2.get t 7)),(5,(E2.get t 7))]),dm⟩ H3):=of_fun fun f=>by kernel_rfl
theorem h258_1 (dm:List Dm) (ro:Option Nat) (H:Hp) (k:AEx→En→Hp→Bool):∀(t:E2),cd P (G K) 200 25 (subC 258 [1,1,0,1,0]) ro ⟨t,dm⟩ H k=
 (binK P .lss 3 false (E2.get t 13) (E2.get t 12) fun v1=>
 condV v1 (fun _=>
 let n2:AEx→En→Hp→Bool:=fun x e H=>isNormal x (fun _=>cd P (G K) 197 25 (subC 258 [1,1,0,1,0,0,1,1,1]) ro e H fun x e H=>k x e H) (fun x=>k x e H);
 indexAtK P 270 (E2.get t 11) (E2.get t 13) fun v3=>
 loadK P (G K) H 140 v3 fun v4=>
 Hp.new H (.cells (some 140) false [(.int .i64 0),(.int .i64 0),(.int .i64 0),(.int .i64 0),(.int .i64 0),(.int .i64 0),(.int .i64 0)]) fun b5 H5=>
 storeK P H5 140 (.ptr b5 0) v4 fun H6=>
 ptrPlus (.ptr b5 0) 0 fun v7=>
 loadK P (G K) H6 3 v7 fun v8=>
 binK P .leq 3 false v8 (E2.get t 1) fun v10=>
 condV v10 (fun _=>
 loadK P (G K) H6 140 (.ptr b5 0) fun v11=>
 storeK P H6 140 (E2.get t 6) v11 fun H12=>
 n2 .normal ⟨(es t [(14,v1),(15,v3),(16,v4),(9,(.ptr b5 0)),(17,v7),(18,v8),(19,(E2.get t 1)),(20,v10),(21,v11),(7,(.bool true))]),dm⟩ H12) (fun _=>
 n2 .normal ⟨(es t [(14,v1),(15,v3),(16,v4),(9,(.ptr b5 0)),(17,v7),(18,v8),(19,(E2.get t 1)),(20,v10)]),dm⟩ H6)) (fun _=>
 k (.exit 0) ⟨(es t [(14,v1)]),dm⟩ H)):=of_fun fun f=>by kernel_rfl
theorem h258_2 (dm:List Dm) (ro:Option Nat) (H:Hp) (k:AEx→En→Hp→Bool):∀(t:E2),cd P (G K) 197 25 (subC 258 [1,1,0,1,0,0,1,1,1]) ro ⟨t,dm⟩ H k=
 (binK P .add 3 true (E2.get t 13) (.int .i64 1) fun v1=>
 k .normal ⟨(es t [(22,v1),(13,v1)]),dm⟩ H):=of_fun fun f=>by kernel_rfl
end
end Go.S9
