/- A part of the proof of TribunalBack. -/
import Derived.Test.YtmmghibnfjfnbaaGreatDoorBAd
set_option linter.unusedVariables false
set_option linter.unusedSimpArgs false
namespace Go.S9
open Go.Ev Go.Proofs
set_option maxRecDepth 1000000
set_option linter.unusedVariables false
noncomputable section
variable {K : GP}
theorem h39 (a0:AV) (H:Hp) (k:AEnd→Hp→Bool):callBody P (G K) ⟨cd P (G K) 200,callS P (G K)⟩ 39 [a0] H k=
 (let n0:AEx→En→Hp→Bool:=fun x e H=>bodyEnd P (G K) Tryz.f39 ⟨cd P (G K) 200,callS P (G K)⟩ k x e H;
 cd P (G K) 198 9 (subC 39 [1,0]) none ⟨(es E2.empty [(0,a0),(2,(.bool false))]),[]⟩ H fun x e H=>isNormal x (fun _=>cd P (G K) 198 9 (subC 39 [1,1]) none e H fun x e H=>n0 x e H) (fun x=>n0 x e H)):=by kernel_rfl
theorem r39 (t:E2) (H:Hp) (k:AEnd→Hp→Bool) (i:Evs):bodyEnd P (G K) Tryz.f39 i k .ret ⟨t,[]⟩ H=k (.ret (E2.get t 2)) H:=by kernel_rfl
theorem h39_0 (dm:List Dm) (ro:Option Nat) (H:Hp) (k:AEx→En→Hp→Bool):∀(t:E2),cd P (G K) 198 9 (subC 39 [1,0]) ro ⟨t,dm⟩ H k=
 (binK P .geq 3 true (E2.get t 0) (.int .i64 0) fun v2=>
 gJoin (boolIs true v2) (fun v4 H4=>
 gJoin (boolIs true v2) (fun v5 H5=>
 pickV v2 v5 (.bool false) fun v6=>
 k .normal ⟨(es t [(3,(E2.get t 0)),(4,v2),(5,v2),(6,v4),(7,v5),(8,v6),(2,v6)]),dm⟩ H5) (fun r5=>binK P .leq 3 true v4 (.int .i64 1073741823) fun v8=>
 r5 v8 H4) H4) (fun r4=>r4 (E2.get t 0) H) H):=of_fun fun f=>by kernel_rfl
theorem h39_1 (dm:List Dm) (ro:Option Nat) (H:Hp) (k:AEx→En→Hp→Bool):∀(t:E2),cd P (G K) 198 9 (subC 39 [1,1]) ro ⟨t,dm⟩ H k=
 (k .ret ⟨t,dm⟩ H):=of_fun fun f=>by kernel_rfl
theorem h40 (a0:AV) (H:Hp) (k:AEnd→Hp→Bool):callBody P (G K) ⟨cd P (G K) 200,callS P (G K)⟩ 40 [a0] H k=
 (binK P .geq 3 true a0 (.int .i64 0) fun v3=>
 condV v3 (fun _=>
 cl P (G K) 77 [a0] H fun v5 H5=>
 k (.ret v5) H5) (fun _=>
 binK P .rem 3 true a0 (.int .i64 10) fun v8=>
 binK P .sub 3 true (.int .i64 48) v8 fun v9=>
 convK P 3 5 v9 fun v10=>
 buildSliceK P 74 1 [(0,v10)] fun k11 r11=>Hp.new H k11 fun b11 H11=>
 ptrConvK P 74 9 (r11 b11) H11 fun v12=>
 binK P .gtr 3 true a0 (.int .i64 (-10)) fun v15=>
 condV v15 (fun _=>
 binK P .add 9 true (.str [45]) v12 fun v17=>
 k (.ret v17) H11) (fun _=>
 binK P .quo 3 true a0 (.int .i64 10) fun v20=>
 unK .neg v20 fun v21=>
 cl P (G K) 77 [v21] H11 fun v22 H22=>
 binK P .add 9 true (.str [45]) v22 fun v23=>
 binK P .add 9 false v23 v12 fun v25=>
 k (.ret v25) H22))):=by kernel_rfl
theorem h41 (a0:AV) (H:Hp) (k:AEnd→Hp→Bool):callBody P (G K) ⟨cd P (G K) 200,callS P (G K)⟩ 41 [a0] H k=
 (Hp.new H (.cells (some 23) false (AV.cells a0)) fun b1 H1=>
 ptrPlus (.ptr b1 0) 0 fun v3=>
 loadK P (G K) H1 3 v3 fun v4=>
 ptrPlus (.ptr b1 0) 1 fun v5=>
 loadK P (G K) H1 3 v5 fun v6=>
 layAnc 3 [] H1 fun Q8 H8=>cl P (G K) 40 [v4] H8 fun v7 H7=>
 Bool.casesOn (recheck 3 ((5,fun H'=>loadK P (G K) H' 3 v5 fun v'=>avSame 1000 v6 v')::((1,fun H'=>loadK P (G K) H' 3 v3 fun v'=>avSame 1000 v4 v')::[])) H7) false (binK P .add 9 true v7 (.str [45]) fun v9=>
 layAnc 55 Q8 H7 fun Q11 H11=>cl P (G K) 40 [v6] H11 fun v10 H10=>
 Bool.casesOn (recheck 55 ((5,fun H'=>loadK P (G K) H' 3 v5 fun v'=>avSame 1000 v6 v')::((1,fun H'=>loadK P (G K) H' 3 v3 fun v'=>avSame 1000 v4 v')::[])) H10) false (binK P .add 9 false v9 v10 fun v12=>
 layAll Q11 H10 fun H14=>
 k (.ret v12) H14))):=by kernel_rfl
theorem h66 (a0 a1 a2:AV) (H:Hp) (k:AEnd→Hp→Bool):callBody P (G K) ⟨cd P (G K) 200,callS P (G K)⟩ 66 [a0,a1,a2] H k=
 (let n0:AEx→En→Hp→Bool:=fun x e H=>bodyEnd P (G K) Tryz.f66 ⟨cd P (G K) 200,callS P (G K)⟩ k x e H;
 cd P (G K) 198 15 (subC 66 [1,0]) none ⟨(es E2.empty [(0,a0),(1,a1),(2,a2),(6,(.bool false))]),[]⟩ H fun x e H=>isNormal x (fun _=>cd P (G K) 198 15 (subC 66 [1,1]) none e H fun x e H=>n0 x e H) (fun x=>n0 x e H)):=by kernel_rfl
theorem r66 (t:E2) (H:Hp) (k:AEnd→Hp→Bool) (i:Evs):bodyEnd P (G K) Tryz.f66 i k .ret ⟨t,[]⟩ H=k (.ret (E2.get t 6)) H:=by kernel_rfl
theorem h66_0 (dm:List Dm) (ro:Option Nat) (H:Hp) (k:AEx→En→Hp→Bool):∀(t:E2),cd P (G K) 198 15 (subC 66 [1,0]) ro ⟨t,dm⟩ H k=
 (binK P .geq 3 false (E2.get t 0) (E2.get t 1) fun v3=>
 gJoin (boolIs true v3) (fun v5 H5=>
 gJoin (boolIs true v3) (fun v6 H6=>
 gJoin (boolIs true v3) (fun v7 H7=>
 pickV v3 v7 (.bool false) fun v8=>
 k .normal ⟨(es t [(7,(E2.get t 0)),(8,(E2.get t 1)),(9,v3),(10,v3),(11,v5),(12,v6),(13,v7),(14,v8),(6,v8)]),dm⟩ H7) (fun r7=>binK P .leq 3 false v5 v6 fun v10=>
 r7 v10 H6) H6) (fun r6=>r6 (E2.get t 2) H5) H5) (fun r5=>r5 (E2.get t 0) H) H):=of_fun fun f=>by kernel_rfl
theorem h66_1 (dm:List Dm) (ro:Option Nat) (H:Hp) (k:AEx→En→Hp→Bool):∀(t:E2),cd P (G K) 198 15 (subC 66 [1,1]) ro ⟨t,dm⟩ H k=
 (k .ret ⟨t,dm⟩ H):=of_fun fun f=>by kernel_rfl
theorem h67 (a0 a1 a2:AV) (H:Hp) (k:AEnd→Hp→Bool):callBody P (G K) ⟨cd P (G K) 200,callS P (G K)⟩ 67 [a0,a1,a2] H k=
 (let n0:AEx→En→Hp→Bool:=fun x e H=>bodyEnd P (G K) Tryz.f67 ⟨cd P (G K) 200,callS P (G K)⟩ k x e H;
 cd P (G K) 198 15 (subC 67 [1,0]) none ⟨(es E2.empty [(0,a0),(1,a1),(2,a2),(6,(.bool false))]),[]⟩ H fun x e H=>isNormal x (fun _=>cd P (G K) 198 15 (subC 67 [1,1]) none e H fun x e H=>n0 x e H) (fun x=>n0 x e H)):=by kernel_rfl
theorem r67 (t:E2) (H:Hp) (k:AEnd→Hp→Bool) (i:Evs):bodyEnd P (G K) Tryz.f67 i k .ret ⟨t,[]⟩ H=k (.ret (E2.get t 6)) H:=by kernel_rfl
theorem h67_0 (dm:List Dm) (ro:Option Nat) (H:Hp) (k:AEx→En→Hp→Bool):∀(t:E2),cd P (G K) 198 15 (subC 67 [1,0]) ro ⟨t,dm⟩ H k=
 (binK P .geq 3 false (E2.get t 0) (E2.get t 1) fun v3=>
 gJoin (boolIs true v3) (fun v5 H5=>
 gJoin (boolIs true v3) (fun v6 H6=>
 gJoin (boolIs true v3) (fun v7 H7=>
 pickV v3 v7 (.bool false) fun v8=>
 k .normal ⟨(es t [(7,(E2.get t 0)),(8,(E2.get t 1)),(9,v3),(10,v3),(11,v5),(12,v6),(13,v7),(14,v8),(6,v8)]),dm⟩ H7) (fun r7=>binK P .leq 3 false v5 v6 fun v10=>
 r7 v10 H6) H6) (fun r6=>r6 (E2.get t 2) H5) H5) (fun r5=>r5 (E2.get t 0) H) H):=of_fun fun f=>by kernel_rfl
theorem h67_1 (dm:List Dm) (ro:Option Nat) (H:Hp) (k:AEx→En→Hp→Bool):∀(t:E2),cd P (G K) 198 15 (subC 67 [1,1]) ro ⟨t,dm⟩ H k=
 (k .ret ⟨t,dm⟩ H):=of_fun fun f=>by kernel_rfl
theorem h68 (a0:AV) (H:Hp) (k:AEnd→Hp→Bool):callBody P (G K) ⟨cd P (G K) 200,callS P (G K)⟩ 68 [a0] H k=
 (let n0:AEx→En→Hp→Bool:=fun x e H=>bodyEnd P (G K) Tryz.f68 ⟨cd P (G K) 200,callS P (G K)⟩ k x e H;
 Hp.new H (.cells (some 23) false (AV.cells a0)) fun b1 H1=>
 cd P (G K) 198 26 (subC 68 [1,0]) none ⟨(es E2.empty [(0,a0),(1,(.ptr b1 0)),(2,(.int .i64 0))]),[]⟩ H1 fun x e H=>isNormal x (fun _=>cd P (G K) 198 26 (subC 68 [1,1]) none e H fun x e H=>n0 x e H) (fun x=>n0 x e H)):=by kernel_rfl
theorem r68 (t:E2) (H:Hp) (k:AEnd→Hp→Bool) (i:Evs):bodyEnd P (G K) Tryz.f68 i k .ret ⟨t,[]⟩ H=k (.ret (E2.get t 2)) H:=by kernel_rfl
theorem h68_0 (dm:List Dm) (ro:Option Nat) (H:Hp) (k:AEx→En→Hp→Bool):∀(t:E2),cd P (G K) 198 26 (subC 68 [1,0]) ro ⟨t,dm⟩ H k=
 (cd P (G K) 197 26 (subC 68 [1,0,0]) ro ⟨t,dm⟩ H fun x e H=>isNormal x (fun _=>cd P (G K) 197 26 (subC 68 [1,0,1]) ro e H fun x e H=>k x e H) (fun x=>k x e H)):=of_fun fun f=>by kernel_rfl
theorem h68_1 (dm:List Dm) (ro:Option Nat) (H:Hp) (k:AEx→En→Hp→Bool):∀(t:E2),cd P (G K) 198 26 (subC 68 [1,1]) ro ⟨t,dm⟩ H k=
 (ptrPlus (E2.get t 1) 1 fun v1=>
 loadK P (G K) H 3 v1 fun v2=>
 ptrPlus (E2.get t 1) 0 fun v3=>
 loadK P (G K) H 3 v3 fun v4=>
 binK P .sub 3 false v2 v4 fun v5=>
 binK P .geq 3 true v5 (.int .i64 400) fun v6=>
 condV v6 (fun _=>
 k .ret ⟨(es t [(20,v1),(21,v2),(22,v3),(23,v4),(24,v5),(25,v6),(2,(.int .i64 2))]),dm⟩ H) (fun _=>
 k .ret ⟨(es t [(20,v1),(21,v2),(22,v3),(23,v4),(24,v5),(25,v6),(2,(.int .i64 0))]),dm⟩ H)):=of_fun fun f=>by kernel_rfl
theorem h68_2 (dm:List Dm) (ro:Option Nat) (H:Hp) (k:AEx→En→Hp→Bool):∀(t:E2),cd P (G K) 197 26 (subC 68 [1,0,0]) ro ⟨t,dm⟩ H k=
 (ptrPlus (E2.get t 1) 0 fun v1=>
 loadK P (G K) H 3 v1 fun v2=>
 ptrPlus (E2.get t 1) 1 fun v3=>
 loadK P (G K) H 3 v3 fun v4=>
 binK P .gtr 3 false v2 v4 fun v5=>
 gJoin (boolIs false v5) (fun v7 H7=>
 gJoin (boolIs false v5) (fun v8 H8=>
 gJoin (boolIs false v5) (fun v9 H9=>
 gJoin (boolIs false v5) (fun v10 H10=>
 pickV v5 (.bool true) v10 fun v11=>
 gJoin (boolIs false v11) (fun v13 H13=>
 gJoin (boolIs false v11) (fun v14 H14=>
 gJoin (boolIs false v11) (fun v15 H15=>
 gJoin (boolIs false v11) (fun v16 H16=>
 pickV v11 (.bool true) v16 fun v17=>
 k .normal ⟨(es t [(3,v1),(4,v2),(5,v3),(6,v4),(7,v5),(8,v5),(9,v7),(10,v8),(11,v9),(12,v10),(13,v11),(14,v11),(15,v13),(16,v14),(17,v15),(18,v16),(19,v17)]),dm⟩ H16) (fun r16=>unK .not v15 fun v18=>
 r16 v18 H15) H15) (fun r15=>cl P (G K) 67 [v14,(.int .i64 0),(.int .i64 20000)] H14 fun v19 H19=>
 r15 v19 H19) H14) (fun r14=>loadK P (G K) H13 3 v13 fun v20=>
 r14 v20 H13) H13) (fun r13=>ptrPlus (E2.get t 1) 1 fun v21=>
 r13 v21 H10) H10) (fun r10=>unK .not v9 fun v22=>
 r10 v22 H9) H9) (fun r9=>cl P (G K) 67 [v8,(.int .i64 0),(.int .i64 20000)] H8 fun v23 H23=>
 r9 v23 H23) H8) (fun r8=>loadK P (G K) H7 3 v7 fun v24=>
 r8 v24 H7) H7) (fun r7=>ptrPlus (E2.get t 1) 0 fun v25=>
 r7 v25 H) H):=of_fun fun f=>by kernel_rfl
theorem h68_3 (dm:List Dm) (ro:Option Nat) (H:Hp) (k:AEx→En→Hp→Bool):∀(t:E2),cd P (G K) 197 26 (subC 68 [1,0,1]) ro ⟨t,dm⟩ H k=
 (condV (E2.get t 19) (fun _=>
 k .ret ⟨(es t [(2,(.int .i64 1))]),dm⟩ H) (fun _=>
 k .normal ⟨t,dm⟩ H)):=of_fun fun f=>by kernel_rfl
theorem h74 (a0:AV) (H:Hp) (k:AEnd→Hp→Bool):callBody P (G K) ⟨cd P (G K) 200,callS P (G K)⟩ 74 [a0] H k=
 (buildK P 103 [(0,a0)] fun v3=>
 buildSliceK P 104 1 [(0,v3)] fun k4 r4=>Hp.new H k4 fun b4 H4=>
 buildK P 113 [(0,(r4 b4))] fun v5=>
 cl P (G K) 104 [v5] H4 fun v6 H6=>
 extractV v6 0 fun v8=>
 extractV v6 1 fun v9=>
 binK P .eql 30 true v8 (.int .i64 0) fun v13=>
 k (.ret v13) H6):=by kernel_rfl
theorem h75 (a0:AV) (H:Hp) (k:AEnd→Hp→Bool):callBody P (G K) ⟨cd P (G K) 200,callS P (G K)⟩ 75 [a0] H k=
 (cl P (G K) 105 [.nils,a0] H fun v3 H3=>
 extractV v3 0 fun v5=>
 extractV v3 1 fun v6=>
 binK P .eql 30 true v6 (.int .i64 0) fun v10=>
 k (.ret v10) H3):=by kernel_rfl
theorem h76 (a0:AV) (H:Hp) (k:AEnd→Hp→Bool):callBody P (G K) ⟨cd P (G K) 200,callS P (G K)⟩ 76 [a0] H k=
 (Hp.new H (.cells (some 23) false (AV.cells a0)) fun b1 H1=>
 loadK P (G K) H1 23 (.ptr b1 0) fun v3=>
 cl P (G K) 106 [.nils, .nils,v3] H1 fun v4 H4=>
 extractV v4 0 fun v6=>
 extractV v4 1 fun v7=>
 binK P .eql 30 true v7 (.int .i64 0) fun v11=>
 k (.ret v11) H4):=by kernel_rfl
theorem h77 (a0:AV) (H:Hp) (k:AEnd→Hp→Bool):callBody P (G K) ⟨cd P (G K) 200,callS P (G K)⟩ 77 [a0] H k=
 (let n0:AEx→En→Hp→Bool:=fun x e H=>bodyEnd P (G K) Tryz.f77 ⟨cd P (G K) 200,callS P (G K)⟩ k x e H;
 binK P .rem 3 true a0 (.int .i64 10) fun v3=>
 binK P .add 3 true (.int .i64 48) v3 fun v4=>
 convK P 3 5 v4 fun v5=>
 buildSliceK P 74 1 [(0,v5)] fun k6 r6=>Hp.new H k6 fun b6 H6=>
 ptrConvK P 74 9 (r6 b6) H6 fun v7=>
 let n9:AEx→En→Hp→Bool:=fun x e H=>isNormal x (fun _=>cd P (G K) 197 23 (subC 77 [1,1,1]) none e H fun x e H=>n0 x e H) (fun x=>n0 x e H);
 semC P (G K) 23 (.loop (subC 77 [1,1,0,0])) none ⟨(es E2.empty [(0,a0),(2,(.str [])),(4,a0),(5,v3),(6,v4),(7,v5),(8,(r6 b6)),(9,v7),(3,v7)]),[]⟩ H6 fun x e10 H10=>isExit 0 x (fun _=>n9 .normal e10 H10) (fun x=>n9 x e10 H10)):=by kernel_rfl
theorem r77 (t:E2) (H:Hp) (k:AEnd→Hp→Bool) (i:Evs):bodyEnd P (G K) Tryz.f77 i k .ret ⟨t,[]⟩ H=k (.ret (E2.get t 2)) H:=by kernel_rfl
theorem h77_0 (dm:List Dm) (ro:Option Nat) (H:Hp) (k:AEx→En→Hp→Bool):∀(t:E2),cd P (G K) 197 23 (subC 77 [1,1,1]) ro ⟨t,dm⟩ H k=
 (k .ret ⟨(es t [(22,(E2.get t 3)),(2,(E2.get t 3))]),dm⟩ H):=of_fun fun f=>by kernel_rfl
theorem h77_1 (dm:List Dm) (ro:Option Nat) (H:Hp) (k:AEx→En→Hp→Bool):∀(t:E2),cd P (G K) 200 23 (subC 77 [1,1,0,0]) ro ⟨t,dm⟩ H k=
 (binK P .gtr 3 true (E2.get t 0) (.int .i64 9) fun v2=>
 condV v2 (fun _=>
 binK P .quo 3 true (E2.get t 0) (.int .i64 10) fun v4=>
 binK P .rem 3 true v4 (.int .i64 10) fun v7=>
 binK P .add 3 true (.int .i64 48) v7 fun v8=>
 convK P 3 5 v8 fun v9=>
 buildSliceK P 74 1 [(0,v9)] fun k10 r10=>Hp.new H k10 fun b10 H10=>
 ptrConvK P 74 9 (r10 b10) H10 fun v11=>
 binK P .add 9 false v11 (E2.get t 3) fun v13=>
 k .normal ⟨(es t [(10,(E2.get t 0)),(11,v2),(12,(E2.get t 0)),(13,v4),(0,v4),(14,v4),(15,v7),(16,v8),(17,v9),(18,(r10 b10)),(19,v11),(20,(E2.get t 3)),(21,v13),(3,v13)]),dm⟩ H10) (fun _=>
 k (.exit 0) ⟨(es t [(10,(E2.get t 0)),(11,v2)]),dm⟩ H)):=of_fun fun f=>by kernel_rfl
theorem h78 (a0:AV) (H:Hp) (k:AEnd→Hp→Bool):callBody P (G K) ⟨cd P (G K) 200,callS P (G K)⟩ 78 [a0] H k=
 (let n0:AEx→En→Hp→Bool:=fun x e H=>bodyEnd P (G K) Tryz.f78 ⟨cd P (G K) 200,callS P (G K)⟩ k x e H;
 lenK P 43 a0 H fun v4=>
 binK P .gtr 3 true v4 (.int .i64 4000) fun v5=>
 condV v5 (fun _=>
 n0 .ret ⟨(es E2.empty [(0,a0),(6,a0),(7,v4),(8,v5),(2,(.int .i64 2)),(3,(.int .i64 (-1)))]),[]⟩ H) (fun _=>
 let n8:AEx→En→Hp→Bool:=fun x e H=>isNormal x (fun _=>cd P (G K) 197 61 (subC 78 [1,1,1]) none e H fun x e H=>n0 x e H) (fun x=>n0 x e H);
 lenK P 43 a0 H fun v10=>
 semC P (G K) 61 (.loop (subC 78 [1,1,0,1,0])) none ⟨(es E2.empty [(0,a0),(2,(.int .i64 0)),(3,(.int .i64 0)),(6,a0),(7,v4),(8,v5),(9,a0),(10,v10),(11,(.int .i64 0))]),[]⟩ H fun x e12 H12=>isExit 0 x (fun _=>n8 .normal e12 H12) (fun x=>n8 x e12 H12))):=by kernel_rfl
theorem r78 (t:E2) (H:Hp) (k:AEnd→Hp→Bool) (i:Evs):bodyEnd P (G K) Tryz.f78 i k .ret ⟨t,[]⟩ H=k (.ret (.tup [(E2.get t 2),(E2.get t 3)])) H:=by kernel_rfl
theorem h78_0 (dm:List Dm) (ro:Option Nat) (H:Hp) (k:AEx→En→Hp→Bool):∀(t:E2),cd P (G K) 197 61 (subC 78 [1,1,1]) ro ⟨t,dm⟩ H k=
 (k .ret ⟨(es t [(2,(.int .i64 0)),(3,(.int .i64 (-1)))]),dm⟩ H):=of_fun fun f=>by kernel_rfl
theorem h78_1 (dm:List Dm) (ro:Option Nat) (H:Hp) (k:AEx→En→Hp→Bool):∀(t:E2),cd P (G K) 200 61 (subC 78 [1,1,0,1,0]) ro ⟨t,dm⟩ H k=
 (binK P .lss 3 false (E2.get t 11) (E2.get t 10) fun v1=>
 condV v1 (fun _=>
 cd P (G K) 197 61 (subC 78 [1,1,0,1,0,0,1,1,0]) ro ⟨(es t [(12,v1)]),dm⟩ H fun x e H=>isNormal x (fun _=>cd P (G K) 197 61 (subC 78 [1,1,0,1,0,0,1,1,1]) ro e H fun x e H=>k x e H) (fun x=>k x e H)) (fun _=>
 k (.exit 0) ⟨(es t [(12,v1)]),dm⟩ H)):=of_fun fun f=>by kernel_rfl
theorem h78_2 (dm:List Dm) (ro:Option Nat) (H:Hp) (k:AEx→En→Hp→Bool):∀(t:E2),cd P (G K) 197 61 (subC 78 [1,1,0,1,0,0,1,1,0]) ro ⟨t,dm⟩ H k=
 (indexAtK P 43 (E2.get t 9) (E2.get t 11) fun v2=>
 loadK P (G K) H 83 v2 fun v3=>
 Hp.new H (.cells (some 83) false [(.int .i64 0),(.int .i64 0),(.int .i64 0),(.int .i64 0),(.int .i64 0)]) fun b4 H4=>
 storeK P H4 83 (.ptr b4 0) v3 fun H6=>
 cd P (G K) 194 61 (subC 78 [1,1,0,1,0,0,1,1,0,0,1,0]) ro ⟨(es t [(13,(E2.get t 11)),(14,v2),(15,v3),(5,(.ptr b4 0)),(4,(E2.get t 11))]),dm⟩ H6 fun x e H=>isNormal x (fun _=>cd P (G K) 194 61 (subC 78 [1,1,0,1,0,0,1,1,0,0,1,1]) ro e H fun x e H=>isExit 1 x (fun _=>k .normal e H) (fun x=>k x e H)) (fun x=>isExit 1 x (fun _=>k .normal e H) (fun x=>k x e H))):=of_fun fun f=>by kernel_rfl
theorem h78_3 (dm:List Dm) (ro:Option Nat) (H:Hp) (k:AEx→En→Hp→Bool):∀(t:E2),cd P (G K) 197 61 (subC 78 [1,1,0,1,0,0,1,1,1]) ro ⟨t,dm⟩ H k=
 (binK P .add 3 true (E2.get t 11) (.int .i64 1) fun v1=>
 k .normal ⟨(es t [(60,v1),(11,v1)]),dm⟩ H):=of_fun fun f=>by kernel_rfl
theorem h78_4 (dm:List Dm) (ro:Option Nat) (H:Hp) (k:AEx→En→Hp→Bool):∀(t:E2),cd P (G K) 194 61 (subC 78 [1,1,0,1,0,0,1,1,0,0,1,0]) ro ⟨t,dm⟩ H k=
 (ptrPlus (E2.get t 5) 0 fun v1=>
 loadK P (G K) H 3 v1 fun v2=>
 cl P (G K) 107 [v2] H fun v3 H3=>
 unK .not v3 fun v4=>
 gJoin (boolIs false v4) (fun v6 H6=>
 gJoin (boolIs false v4) (fun v7 H7=>
 gJoin (boolIs false v4) (fun v8 H8=>
 pickV v4 (.bool true) v8 fun v9=>
 gJoin (boolIs false v9) (fun v11 H11=>
 gJoin (boolIs false v9) (fun v12 H12=>
 gJoin (boolIs false v9) (fun v13 H13=>
 pickV v9 (.bool true) v13 fun v14=>
 gJoin (boolIs false v14) (fun v16 H16=>
 gJoin (boolIs false v14) (fun v17 H17=>
 gJoin (boolIs false v14) (fun v18 H18=>
 gJoin (boolIs false v14) (fun v19 H19=>
 pickV v14 (.bool true) v19 fun v20=>
 gJoin (boolIs false v20) (fun v22 H22=>
 gJoin (boolIs false v20) (fun v23 H23=>
 gJoin (boolIs false v20) (fun v24 H24=>
 gJoin (boolIs false v20) (fun v25 H25=>
 pickV v20 (.bool true) v25 fun v26=>
 gJoin (boolIs false v26) (fun v28 H28=>
 gJoin (boolIs false v26) (fun v29 H29=>
 gJoin (boolIs false v26) (fun v30 H30=>
 gJoin (boolIs false v26) (fun v31 H31=>
 gJoin (boolIs false v26) (fun v32 H32=>
 pickV v26 (.bool true) v32 fun v33=>
 gJoin (boolIs false v33) (fun v35 H35=>
 gJoin (boolIs false v33) (fun v36 H36=>
 gJoin (boolIs false v33) (fun v37 H37=>
 pickV v33 (.bool true) v37 fun v38=>
 gJoin (boolIs false v38) (fun v40 H40=>
 gJoin (boolIs false v38) (fun v41 H41=>
 gJoin (boolIs false v38) (fun v42 H42=>
 pickV v38 (.bool true) v42 fun v43=>
 k .normal ⟨(es t [(16,v1),(17,v2),(18,v3),(19,v4),(20,v4),(21,v6),(22,v7),(23,v8),(24,v9),(25,v9),(26,v11),(27,v12),(28,v13),(29,v14),(30,v14),(31,v16),(32,v17),(33,v18),(34,v19),(35,v20),(36,v20),(37,v22),(38,v23),(39,v24),(40,v25),(41,v26),(42,v26),(43,v28),(44,v29),(45,v30),(46,v31),(47,v32),(48,v33),(49,v33),(50,v35),(51,v36),(52,v37),(53,v38),(54,v38),(55,v40),(56,v41),(57,v42),(58,v43)]),dm⟩ H42) (fun r42=>binK P .gtr 3 true v41 (.int .i64 1099511627776) fun v44=>
 r42 v44 H41) H41) (fun r41=>loadK P (G K) H40 3 v40 fun v45=>
 r41 v45 H40) H40) (fun r40=>ptrPlus (E2.get t 5) 4 fun v46=>
 r40 v46 H37) H37) (fun r37=>binK P .lss 3 true v36 (.int .i64 1) fun v47=>
 r37 v47 H36) H36) (fun r36=>loadK P (G K) H35 3 v35 fun v48=>
 r36 v48 H35) H35) (fun r35=>ptrPlus (E2.get t 5) 4 fun v49=>
 r35 v49 H32) H32) (fun r32=>binK P .eql 3 false v29 v31 fun v50=>
 r32 v50 H31) H31) (fun r31=>loadK P (G K) H30 3 v30 fun v51=>
 r31 v51 H30) H30) (fun r30=>ptrPlus (E2.get t 5) 3 fun v52=>
 r30 v52 H29) H29) (fun r29=>loadK P (G K) H28 3 v28 fun v53=>
 r29 v53 H28) H28) (fun r28=>ptrPlus (E2.get t 5) 2 fun v54=>
 r28 v54 H25) H25) (fun r25=>unK .not v24 fun v55=>
 r25 v55 H24) H24) (fun r24=>cl P (G K) 108 [v23] H23 fun v56 H56=>
 r24 v56 H56) H23) (fun r23=>loadK P (G K) H22 3 v22 fun v57=>
 r23 v57 H22) H22) (fun r22=>ptrPlus (E2.get t 5) 3 fun v58=>
 r22 v58 H19) H19) (fun r19=>unK .not v18 fun v59=>
 r19 v59 H18) H18) (fun r18=>cl P (G K) 108 [v17] H17 fun v60 H60=>
 r18 v60 H60) H17) (fun r17=>loadK P (G K) H16 3 v16 fun v61=>
 r17 v61 H16) H16) (fun r16=>ptrPlus (E2.get t 5) 2 fun v62=>
 r16 v62 H13) H13) (fun r13=>binK P .gtr 3 true v12 (.int .i64 12) fun v63=>
 r13 v63 H12) H12) (fun r12=>loadK P (G K) H11 3 v11 fun v64=>
 r12 v64 H11) H11) (fun r11=>ptrPlus (E2.get t 5) 1 fun v65=>
 r11 v65 H8) H8) (fun r8=>binK P .lss 3 true v7 (.int .i64 0) fun v66=>
 r8 v66 H7) H7) (fun r7=>loadK P (G K) H6 3 v6 fun v67=>
 r7 v67 H6) H6) (fun r6=>ptrPlus (E2.get t 5) 1 fun v68=>
 r6 v68 H3) H3):=of_fun fun f=>by kernel_rfl
theorem h78_5 (dm:List Dm) (ro:Option Nat) (H:Hp) (k:AEx→En→Hp→Bool):∀(t:E2),cd P (G K) 194 61 (subC 78 [1,1,0,1,0,0,1,1,0,0,1,1]) ro ⟨t,dm⟩ H k=
 (condV (E2.get t 58) (fun _=>
 k .ret ⟨(es t [(59,(E2.get t 4)),(2,(.int .i64 1)),(3,(E2.get t 4))]),dm⟩ H) (fun _=>
 k .normal ⟨t,dm⟩ H)):=of_fun fun f=>by kernel_rfl
theorem h81 (a0:AV) (H:Hp) (k:AEnd→Hp→Bool):callBody P (G K) ⟨cd P (G K) 200,callS P (G K)⟩ 81 [a0] H k=
 (let n0:AEx→En→Hp→Bool:=fun x e H=>bodyEnd P (G K) Tryz.f81 ⟨cd P (G K) 200,callS P (G K)⟩ k x e H;
 Hp.new H (.cells (some 83) false (AV.cells a0)) fun b1 H1=>
 ptrPlus (.ptr b1 0) 2 fun v3=>
 loadK P (G K) H1 3 v3 fun v4=>
 cl P (G K) 24 [v4] H1 fun v5 H5=>
 ptrPlus (.ptr b1 0) 3 fun v7=>
 loadK P (G K) H5 3 v7 fun v8=>
 cl P (G K) 24 [v8] H5 fun v9 H9=>
 cd P (G K) 196 37 (subC 81 [1,1,1,0]) none ⟨(es E2.empty [(0,a0),(1,(.ptr b1 0)),(2,(.bool false)),(5,v3),(6,v4),(7,v5),(3,v5),(8,v7),(9,v8),(10,v9),(4,v9)]),[]⟩ H9 fun x e H=>isNormal x (fun _=>cd P (G K) 196 37 (subC 81 [1,1,1,1]) none e H fun x e H=>n0 x e H) (fun x=>n0 x e H)):=by kernel_rfl
theorem r81 (t:E2) (H:Hp) (k:AEnd→Hp→Bool) (i:Evs):bodyEnd P (G K) Tryz.f81 i k .ret ⟨t,[]⟩ H=k (.ret (E2.get t 2)) H:=by kernel_rfl
theorem h81_0 (dm:List Dm) (ro:Option Nat) (H:Hp) (k:AEx→En→Hp→Bool):∀(t:E2),cd P (G K) 196 37 (subC 81 [1,1,1,0]) ro ⟨t,dm⟩ H k=
 (ptrPlus (E2.get t 1) 0 fun v1=>
 loadK P (G K) H 3 v1 fun v2=>
 cl P (G K) 67 [v2,(.int .i64 0),(.int .i64 20000)] H fun v3 H3=>
 gJoin (boolIs true v3) (fun v5 H5=>
 gJoin (boolIs true v3) (fun v6 H6=>
 gJoin (boolIs true v3) (fun v7 H7=>
 pickV v3 v7 (.bool false) fun v8=>
 gJoin (boolIs true v8) (fun v10 H10=>
 pickV v8 v10 (.bool false) fun v11=>
 gJoin (boolIs true v11) (fun v13 H13=>
 pickV v11 v13 (.bool false) fun v14=>
 gJoin (boolIs true v14) (fun v16 H16=>
 gJoin (boolIs true v14) (fun v17 H17=>
 gJoin (boolIs true v14) (fun v18 H18=>
 gJoin (boolIs true v14) (fun v19 H19=>
 gJoin (boolIs true v14) (fun v20 H20=>
 pickV v14 v20 (.bool false) fun v21=>
 gJoin (boolIs true v21) (fun v23 H23=>
 gJoin (boolIs true v21) (fun v24 H24=>
 gJoin (boolIs true v21) (fun v25 H25=>
 pickV v21 v25 (.bool false) fun v26=>
 k .normal ⟨(es t [(11,v1),(12,v2),(13,v3),(14,v3),(15,v5),(16,v6),(17,v7),(18,v8),(19,v8),(20,v10),(21,v11),(22,v11),(23,v13),(24,v14),(25,v14),(26,v16),(27,v17),(28,v18),(29,v19),(30,v20),(31,v21),(32,v21),(33,v23),(34,v24),(35,v25),(36,v26),(2,v26)]),dm⟩ H25) (fun r25=>cl P (G K) 67 [v24,(.int .i64 1),(.int .i64 1099511627776)] H24 fun v28 H28=>
 r25 v28 H28) H24) (fun r24=>loadK P (G K) H23 3 v23 fun v29=>
 r24 v29 H23) H23) (fun r23=>ptrPlus (E2.get t 1) 4 fun v30=>
 r23 v30 H20) H20) (fun r20=>binK P .neq 3 false v17 v19 fun v31=>
 r20 v31 H19) H19) (fun r19=>loadK P (G K) H18 3 v18 fun v32=>
 r19 v32 H18) H18) (fun r18=>ptrPlus (E2.get t 1) 3 fun v33=>
 r18 v33 H17) H17) (fun r17=>loadK P (G K) H16 3 v16 fun v34=>
 r17 v34 H16) H16) (fun r16=>ptrPlus (E2.get t 1) 2 fun v35=>
 r16 v35 H13) H13) (fun r13=>r13 (E2.get t 4) H10) H10) (fun r10=>r10 (E2.get t 3) H7) H7) (fun r7=>cl P (G K) 67 [v6,(.int .i64 0),(.int .i64 12)] H6 fun v38 H38=>
 r7 v38 H38) H6) (fun r6=>loadK P (G K) H5 3 v5 fun v39=>
 r6 v39 H5) H5) (fun r5=>ptrPlus (E2.get t 1) 1 fun v40=>
 r5 v40 H3) H3):=of_fun fun f=>by kernel_rfl
theorem h81_1 (dm:List Dm) (ro:Option Nat) (H:Hp) (k:AEx→En→Hp→Bool):∀(t:E2),cd P (G K) 196 37 (subC 81 [1,1,1,1]) ro ⟨t,dm⟩ H k=
 (k .ret ⟨t,dm⟩ H):=of_fun fun f=>by kernel_rfl
theorem h82 (a0:AV) (H:Hp) (k:AEnd→Hp→Bool):callBody P (G K) ⟨cd P (G K) 200,callS P (G K)⟩ 82 [a0] H k=
 (Hp.new H (.cells (some 83) false (AV.cells a0)) fun b1 H1=>
 ptrPlus (.ptr b1 0) 0 fun v3=>
 loadK P (G K) H1 3 v3 fun v4=>
 ptrPlus (.ptr b1 0) 1 fun v5=>
 loadK P (G K) H1 3 v5 fun v6=>
 ptrPlus (.ptr b1 0) 2 fun v7=>
 loadK P (G K) H1 3 v7 fun v8=>
 ptrPlus (.ptr b1 0) 3 fun v9=>
 loadK P (G K) H1 3 v9 fun v10=>
 ptrPlus (.ptr b1 0) 4 fun v11=>
 loadK P (G K) H1 3 v11 fun v12=>
 layAnc 3 [] H1 fun Q14 H14=>cl P (G K) 111 [v4] H14 fun v13 H13=>
 Bool.casesOn (recheck 3 ((20,fun H'=>loadK P (G K) H' 3 v11 fun v'=>avSame 1000 v12 v')::((15,fun H'=>loadK P (G K) H' 3 v9 fun v'=>avSame 1000 v10 v')::((10,fun H'=>loadK P (G K) H' 3 v7 fun v'=>avSame 1000 v8 v')::((5,fun H'=>loadK P (G K) H' 3 v5 fun v'=>avSame 1000 v6 v')::((1,fun H'=>loadK P (G K) H' 3 v3 fun v'=>avSame 1000 v4 v')::[]))))) H13) false (binK P .add 9 true v13 (.str [32]) fun v15=>
 layAnc 55 Q14 H13 fun Q17 H17=>cl P (G K) 111 [v6] H17 fun v16 H16=>
 Bool.casesOn (recheck 55 ((20,fun H'=>loadK P (G K) H' 3 v11 fun v'=>avSame 1000 v12 v')::((15,fun H'=>loadK P (G K) H' 3 v9 fun v'=>avSame 1000 v10 v')::((10,fun H'=>loadK P (G K) H' 3 v7 fun v'=>avSame 1000 v8 v')::((5,fun H'=>loadK P (G K) H' 3 v5 fun v'=>avSame 1000 v6 v')::((1,fun H'=>loadK P (G K) H' 3 v3 fun v'=>avSame 1000 v4 v')::[]))))) H16) false (binK P .add 9 false v15 v16 fun v18=>
 binK P .add 9 true v18 (.str [32]) fun v19=>
 layAnc 1655 Q17 H16 fun Q21 H21=>cl P (G K) 111 [v8] H21 fun v20 H20=>
 Bool.casesOn (recheck 1655 ((20,fun H'=>loadK P (G K) H' 3 v11 fun v'=>avSame 1000 v12 v')::((15,fun H'=>loadK P (G K) H' 3 v9 fun v'=>avSame 1000 v10 v')::((10,fun H'=>loadK P (G K) H' 3 v7 fun v'=>avSame 1000 v8 v')::((5,fun H'=>loadK P (G K) H' 3 v5 fun v'=>avSame 1000 v6 v')::((1,fun H'=>loadK P (G K) H' 3 v3 fun v'=>avSame 1000 v4 v')::[]))))) H20) false (binK P .add 9 false v19 v20 fun v22=>
 binK P .add 9 true v22 (.str [32]) fun v23=>
 layAnc 52855 Q21 H20 fun Q25 H25=>cl P (G K) 111 [v10] H25 fun v24 H24=>
 Bool.casesOn (recheck 52855 ((20,fun H'=>loadK P (G K) H' 3 v11 fun v'=>avSame 1000 v12 v')::((15,fun H'=>loadK P (G K) H' 3 v9 fun v'=>avSame 1000 v10 v')::((10,fun H'=>loadK P (G K) H' 3 v7 fun v'=>avSame 1000 v8 v')::((5,fun H'=>loadK P (G K) H' 3 v5 fun v'=>avSame 1000 v6 v')::((1,fun H'=>loadK P (G K) H' 3 v3 fun v'=>avSame 1000 v4 v')::[]))))) H24) false (binK P .add 9 false v23 v24 fun v26=>
 binK P .add 9 true v26 (.str [32]) fun v27=>
 layAnc 1691255 Q25 H24 fun Q29 H29=>cl P (G K) 111 [v12] H29 fun v28 H28=>
 Bool.casesOn (recheck 1691255 ((20,fun H'=>loadK P (G K) H' 3 v11 fun v'=>avSame 1000 v12 v')::((15,fun H'=>loadK P (G K) H' 3 v9 fun v'=>avSame 1000 v10 v')::((10,fun H'=>loadK P (G K) H' 3 v7 fun v'=>avSame 1000 v8 v')::((5,fun H'=>loadK P (G K) H' 3 v5 fun v'=>avSame 1000 v6 v')::((1,fun H'=>loadK P (G K) H' 3 v3 fun v'=>avSame 1000 v4 v')::[]))))) H28) false (binK P .add 9 false v27 v28 fun v30=>
 binK P .add 9 true v30 (.str [10]) fun v31=>
 layAll Q29 H28 fun H33=>
 k (.ret v31) H33)))))):=by kernel_rfl
theorem h104 (a0:AV) (H:Hp) (k:AEnd→Hp→Bool):callBody P (G K) ⟨cd P (G K) 200,callS P (G K)⟩ 104 [a0] H k=
 (let n0:AEx→En→Hp→Bool:=fun x e H=>bodyEnd P (G K) Tryz.f104 ⟨cd P (G K) 200,callS P (G K)⟩ k x e H;
 Hp.new H (.cells (some 113) false (AV.cells a0)) fun b1 H1=>
 ptrPlus (.ptr b1 0) 0 fun v4=>
 loadK P (G K) H1 104 v4 fun v5=>
 lenK P 104 v5 H1 fun v6=>
 binK P .eql 3 true v6 (.int .i64 0) fun v7=>
 condV v7 (fun _=>
 n0 .ret ⟨(es E2.empty [(0,a0),(1,(.ptr b1 0)),(11,v4),(12,v5),(13,v6),(14,v7),(2,(.int .i64 1)),(3,(.int .i64 (-1)))]),[]⟩ H1) (fun _=>
 cd P (G K) 197 150 (subC 104 [1,1,0]) none ⟨(es E2.empty [(0,a0),(1,(.ptr b1 0)),(2,(.int .i64 0)),(3,(.int .i64 0)),(11,v4),(12,v5),(13,v6),(14,v7)]),[]⟩ H1 fun x e H=>isNormal x (fun _=>cd P (G K) 197 150 (subC 104 [1,1,1]) none e H fun x e H=>n0 x e H) (fun x=>n0 x e H))):=by kernel_rfl
theorem r104 (t:E2) (H:Hp) (k:AEnd→Hp→Bool) (i:Evs):bodyEnd P (G K) Tryz.f104 i k .ret ⟨t,[]⟩ H=k (.ret (.tup [(E2.get t 2),(E2.get t 3)])) H:=by kernel_rfl
theorem h104_0 (dm:List Dm) (ro:Option Nat) (H:Hp) (k:AEx→En→Hp→Bool):∀(t:E2),cd P (G K) 197 150 (subC 104 [1,1,0]) ro ⟨t,dm⟩ H k=
 (cd P (G K) 196 150 (subC 104 [1,1,0,0]) ro ⟨t,dm⟩ H fun x e H=>isNormal x (fun _=>cd P (G K) 196 150 (subC 104 [1,1,0,1]) ro e H fun x e H=>k x e H) (fun x=>k x e H)):=of_fun fun f=>by kernel_rfl
theorem h104_1 (dm:List Dm) (ro:Option Nat) (H:Hp) (k:AEx→En→Hp→Bool):∀(t:E2),cd P (G K) 197 150 (subC 104 [1,1,1]) ro ⟨t,dm⟩ H k=
 (Hp.new H (.map false [] 0) fun b1 H1=>
 let n3:AEx→En→Hp→Bool:=fun x e H=>isNormal x (fun _=>cd P (G K) 195 150 (subC 104 [1,1,1,1,1]) ro e H fun x e H=>k x e H) (fun x=>k x e H);
 ptrPlus (E2.get t 1) 0 fun v4=>
 loadK P (G K) H1 104 v4 fun v5=>
 lenK P 104 v5 H1 fun v6=>
 semC P (G K) 150 (.loop (subC 104 [1,1,1,1,0,1,0])) ro ⟨(es t [(31,(.map b1)),(4,(.map b1)),(32,v4),(33,v5),(34,v6),(35,(.int .i64 0))]),dm⟩ H1 fun x e8 H8=>isExit 0 x (fun _=>n3 .normal e8 H8) (fun x=>n3 x e8 H8)):=of_fun fun f=>by kernel_rfl
theorem h104_2 (dm:List Dm) (ro:Option Nat) (H:Hp) (k:AEx→En→Hp→Bool):∀(t:E2),cd P (G K) 200 150 (subC 104 [1,1,1,1,0,1,0]) ro ⟨t,dm⟩ H k=
 (binK P .lss 3 false (E2.get t 35) (E2.get t 34) fun v1=>
 condV v1 (fun _=>
 cd P (G K) 197 150 (subC 104 [1,1,1,1,0,1,0,0,1,1,0]) ro ⟨(es t [(36,v1)]),dm⟩ H fun x e H=>isNormal x (fun _=>cd P (G K) 197 150 (subC 104 [1,1,1,1,0,1,0,0,1,1,1]) ro e H fun x e H=>k x e H) (fun x=>k x e H)) (fun _=>
 k (.exit 0) ⟨(es t [(36,v1)]),dm⟩ H)):=of_fun fun f=>by kernel_rfl
theorem h104_3 (dm:List Dm) (ro:Option Nat) (H:Hp) (k:AEx→En→Hp→Bool):∀(t:E2),cd P (G K) 200 150 (subC 104 [1,1,1,1,1,0,1,0]) ro ⟨t,dm⟩ H k=
 (binK P .lss 3 false (E2.get t 67) (E2.get t 66) fun v1=>
 condV v1 (fun _=>
 cd P (G K) 197 150 (subC 104 [1,1,1,1,1,0,1,0,0,1,1,0]) ro ⟨(es t [(68,v1)]),dm⟩ H fun x e H=>isNormal x (fun _=>cd P (G K) 197 150 (subC 104 [1,1,1,1,1,0,1,0,0,1,1,1]) ro e H fun x e H=>k x e H) (fun x=>k x e H)) (fun _=>
 k (.exit 2) ⟨(es t [(68,v1)]),dm⟩ H)):=of_fun fun f=>by kernel_rfl
theorem h104_4 (dm:List Dm) (ro:Option Nat) (H:Hp) (k:AEx→En→Hp→Bool):∀(t:E2),cd P (G K) 200 150 (subC 104 [1,1,1,1,1,1,0,1,0]) ro ⟨t,dm⟩ H k=
 (binK P .lss 3 false (E2.get t 87) (E2.get t 86) fun v1=>
 condV v1 (fun _=>
 cd P (G K) 197 150 (subC 104 [1,1,1,1,1,1,0,1,0,0,1,1,0]) ro ⟨(es t [(88,v1)]),dm⟩ H fun x e H=>isNormal x (fun _=>cd P (G K) 197 150 (subC 104 [1,1,1,1,1,1,0,1,0,0,1,1,1]) ro e H fun x e H=>k x e H) (fun x=>k x e H)) (fun _=>
 k (.exit 4) ⟨(es t [(88,v1)]),dm⟩ H)):=of_fun fun f=>by kernel_rfl
theorem h104_5 (dm:List Dm) (ro:Option Nat) (H:Hp) (k:AEx→En→Hp→Bool):∀(t:E2),cd P (G K) 196 150 (subC 104 [1,1,0,0]) ro ⟨t,dm⟩ H k=
 (ptrPlus (E2.get t 1) 0 fun v1=>
 loadK P (G K) H 104 v1 fun v2=>
 lenK P 104 v2 H fun v3=>
 binK P .gtr 3 true v3 (.int .i64 24) fun v4=>
 gJoin (boolIs false v4) (fun v6 H6=>
 gJoin (boolIs false v4) (fun v7 H7=>
 gJoin (boolIs false v4) (fun v8 H8=>
 gJoin (boolIs false v4) (fun v9 H9=>
 pickV v4 (.bool true) v9 fun v10=>
 gJoin (boolIs false v10) (fun v12 H12=>
 gJoin (boolIs false v10) (fun v13 H13=>
 gJoin (boolIs false v10) (fun v14 H14=>
 gJoin (boolIs false v10) (fun v15 H15=>
 pickV v10 (.bool true) v15 fun v16=>
 k .normal ⟨(es t [(15,v1),(16,v2),(17,v3),(18,v4),(19,v4),(20,v6),(21,v7),(22,v8),(23,v9),(24,v10),(25,v10),(26,v12),(27,v13),(28,v14),(29,v15),(30,v16)]),dm⟩ H15) (fun r15=>binK P .gtr 3 true v14 (.int .i64 60) fun v17=>
 r15 v17 H14) H14) (fun r14=>lenK P 111 v13 H13 fun v18=>
 r14 v18 H13) H13) (fun r13=>loadK P (G K) H12 111 v12 fun v19=>
 r13 v19 H12) H12) (fun r12=>ptrPlus (E2.get t 1) 2 fun v20=>
 r12 v20 H9) H9) (fun r9=>binK P .gtr 3 true v8 (.int .i64 16) fun v21=>
 r9 v21 H8) H8) (fun r8=>lenK P 108 v7 H7 fun v22=>
 r8 v22 H7) H7) (fun r7=>loadK P (G K) H6 108 v6 fun v23=>
 r7 v23 H6) H6) (fun r6=>ptrPlus (E2.get t 1) 1 fun v24=>
 r6 v24 H) H):=of_fun fun f=>by kernel_rfl
theorem h104_6 (dm:List Dm) (ro:Option Nat) (H:Hp) (k:AEx→En→Hp→Bool):∀(t:E2),cd P (G K) 196 150 (subC 104 [1,1,0,1]) ro ⟨t,dm⟩ H k=
 (condV (E2.get t 30) (fun _=>
 k .ret ⟨(es t [(2,(.int .i64 2)),(3,(.int .i64 (-1)))]),dm⟩ H) (fun _=>
 k .normal ⟨t,dm⟩ H)):=of_fun fun f=>by kernel_rfl
theorem h104_7 (dm:List Dm) (ro:Option Nat) (H:Hp) (k:AEx→En→Hp→Bool):∀(t:E2),cd P (G K) 195 150 (subC 104 [1,1,1,1,1]) ro ⟨t,dm⟩ H k=
 (let n1:AEx→En→Hp→Bool:=fun x e H=>isNormal x (fun _=>cd P (G K) 194 150 (subC 104 [1,1,1,1,1,1]) ro e H fun x e H=>k x e H) (fun x=>k x e H);
 ptrPlus (E2.get t 1) 1 fun v2=>
 loadK P (G K) H 108 v2 fun v3=>
 lenK P 108 v3 H fun v4=>
 semC P (G K) 150 (.loop (subC 104 [1,1,1,1,1,0,1,0])) ro ⟨(es t [(64,v2),(65,v3),(66,v4),(67,(.int .i64 0))]),dm⟩ H fun x e6 H6=>isExit 2 x (fun _=>n1 .normal e6 H6) (fun x=>n1 x e6 H6)):=of_fun fun f=>by kernel_rfl
theorem h104_8 (dm:List Dm) (ro:Option Nat) (H:Hp) (k:AEx→En→Hp→Bool):∀(t:E2),cd P (G K) 197 150 (subC 104 [1,1,1,1,0,1,0,0,1,1,0]) ro ⟨t,dm⟩ H k=
 (indexAtK P 104 (E2.get t 33) (E2.get t 35) fun v2=>
 loadK P (G K) H 103 v2 fun v3=>
 Hp.new H (.cells (some 103) false [(.str []),(.int .i64 0)]) fun b4 H4=>
 storeK P H4 103 (.ptr b4 0) v3 fun H6=>
 cd P (G K) 194 150 (subC 104 [1,1,1,1,0,1,0,0,1,1,0,0,1,0]) ro ⟨(es t [(37,(E2.get t 35)),(38,v2),(39,v3),(6,(.ptr b4 0)),(5,(E2.get t 35))]),dm⟩ H6 fun x e H=>isNormal x (fun _=>cd P (G K) 194 150 (subC 104 [1,1,1,1,0,1,0,0,1,1,0,0,1,1]) ro e H fun x e H=>isExit 1 x (fun _=>k .normal e H) (fun x=>k x e H)) (fun x=>isExit 1 x (fun _=>k .normal e H) (fun x=>k x e H))):=of_fun fun f=>by kernel_rfl
theorem h104_9 (dm:List Dm) (ro:Option Nat) (H:Hp) (k:AEx→En→Hp→Bool):∀(t:E2),cd P (G K) 197 150 (subC 104 [1,1,1,1,0,1,0,0,1,1,1]) ro ⟨t,dm⟩ H k=
 (binK P .add 3 true (E2.get t 35) (.int .i64 1) fun v1=>
 k .normal ⟨(es t [(63,v1),(35,v1)]),dm⟩ H):=of_fun fun f=>by kernel_rfl
theorem h104_10 (dm:List Dm) (ro:Option Nat) (H:Hp) (k:AEx→En→Hp→Bool):∀(t:E2),cd P (G K) 197 150 (subC 104 [1,1,1,1,1,0,1,0,0,1,1,0]) ro ⟨t,dm⟩ H k=
 (indexAtK P 108 (E2.get t 65) (E2.get t 67) fun v2=>
 loadK P (G K) H 107 v2 fun v3=>
 Hp.new H (.cells (some 107) false [.nils, .nils]) fun b4 H4=>
 storeK P H4 107 (.ptr b4 0) v3 fun H6=>
 cd P (G K) 194 150 (subC 104 [1,1,1,1,1,0,1,0,0,1,1,0,0,1,0]) ro ⟨(es t [(69,(E2.get t 67)),(70,v2),(71,v3),(8,(.ptr b4 0)),(7,(E2.get t 67))]),dm⟩ H6 fun x e H=>isNormal x (fun _=>cd P (G K) 194 150 (subC 104 [1,1,1,1,1,0,1,0,0,1,1,0,0,1,1]) ro e H fun x e H=>isExit 3 x (fun _=>k .normal e H) (fun x=>k x e H)) (fun x=>isExit 3 x (fun _=>k .normal e H) (fun x=>k x e H))):=of_fun fun f=>by kernel_rfl
theorem h104_11 (dm:List Dm) (ro:Option Nat) (H:Hp) (k:AEx→En→Hp→Bool):∀(t:E2),cd P (G K) 197 150 (subC 104 [1,1,1,1,1,0,1,0,0,1,1,1]) ro ⟨t,dm⟩ H k=
 (binK P .add 3 true (E2.get t 67) (.int .i64 1) fun v1=>
 k .normal ⟨(es t [(83,v1),(67,v1)]),dm⟩ H):=of_fun fun f=>by kernel_rfl
theorem h104_12 (dm:List Dm) (ro:Option Nat) (H:Hp) (k:AEx→En→Hp→Bool):∀(t:E2),cd P (G K) 197 150 (subC 104 [1,1,1,1,1,1,0,1,0,0,1,1,0]) ro ⟨t,dm⟩ H k=
 (indexAtK P 111 (E2.get t 85) (E2.get t 87) fun v2=>
 loadK P (G K) H 110 v2 fun v3=>
 Hp.new H (.cells (some 110) false [(.int .i64 0),(.int .i64 0),(.int .i64 0),(.int .i64 0),(.int .i64 0)]) fun b4 H4=>
 storeK P H4 110 (.ptr b4 0) v3 fun H6=>
 cd P (G K) 194 150 (subC 104 [1,1,1,1,1,1,0,1,0,0,1,1,0,0,1,0]) ro ⟨(es t [(89,(E2.get t 87)),(90,v2),(91,v3),(10,(.ptr b4 0)),(9,(E2.get t 87))]),dm⟩ H6 fun x e H=>isNormal x (fun _=>cd P (G K) 194 150 (subC 104 [1,1,1,1,1,1,0,1,0,0,1,1,0,0,1,1]) ro e H fun x e H=>isExit 5 x (fun _=>k .normal e H) (fun x=>k x e H)) (fun x=>isExit 5 x (fun _=>k .normal e H) (fun x=>k x e H))):=of_fun fun f=>by kernel_rfl
theorem h104_13 (dm:List Dm) (ro:Option Nat) (H:Hp) (k:AEx→En→Hp→Bool):∀(t:E2),cd P (G K) 197 150 (subC 104 [1,1,1,1,1,1,0,1,0,0,1,1,1]) ro ⟨t,dm⟩ H k=
 (binK P .add 3 true (E2.get t 87) (.int .i64 1) fun v1=>
 k .normal ⟨(es t [(149,v1),(87,v1)]),dm⟩ H):=of_fun fun f=>by kernel_rfl
theorem h104_14 (dm:List Dm) (ro:Option Nat) (H:Hp) (k:AEx→En→Hp→Bool):∀(t:E2),cd P (G K) 194 150 (subC 104 [1,1,1,1,1,1]) ro ⟨t,dm⟩ H k=
 (let n1:AEx→En→Hp→Bool:=fun x e H=>isNormal x (fun _=>cd P (G K) 193 150 (subC 104 [1,1,1,1,1,1,1]) ro e H fun x e H=>k x e H) (fun x=>k x e H);
 ptrPlus (E2.get t 1) 2 fun v2=>
 loadK P (G K) H 111 v2 fun v3=>
 lenK P 111 v3 H fun v4=>
 semC P (G K) 150 (.loop (subC 104 [1,1,1,1,1,1,0,1,0])) ro ⟨(es t [(84,v2),(85,v3),(86,v4),(87,(.int .i64 0))]),dm⟩ H fun x e6 H6=>isExit 4 x (fun _=>n1 .normal e6 H6) (fun x=>n1 x e6 H6)):=of_fun fun f=>by kernel_rfl
theorem h104_15 (dm:List Dm) (ro:Option Nat) (H:Hp) (k:AEx→En→Hp→Bool):∀(t:E2),cd P (G K) 194 150 (subC 104 [1,1,1,1,0,1,0,0,1,1,0,0,1,0]) ro ⟨t,dm⟩ H k=
 (cd P (G K) 193 150 (subC 104 [1,1,1,1,0,1,0,0,1,1,0,0,1,0,0]) ro ⟨t,dm⟩ H fun x e H=>isNormal x (fun _=>cd P (G K) 193 150 (subC 104 [1,1,1,1,0,1,0,0,1,1,0,0,1,0,1]) ro e H fun x e H=>k x e H) (fun x=>k x e H)):=of_fun fun f=>by kernel_rfl
theorem h104_16 (dm:List Dm) (ro:Option Nat) (H:Hp) (k:AEx→En→Hp→Bool):∀(t:E2),cd P (G K) 194 150 (subC 104 [1,1,1,1,0,1,0,0,1,1,0,0,1,1]) ro ⟨t,dm⟩ H k=
 (ptrPlus (E2.get t 6) 0 fun v2=>
 loadK P (G K) H 9 v2 fun v3=>
 lookupK P H 266 (E2.get t 4) v3 false fun v4=>
 condV v4 (fun _=>
 k .ret ⟨(es t [(55,(E2.get t 4)),(56,v2),(57,v3),(58,v4),(59,(E2.get t 5)),(2,(.int .i64 6)),(3,(E2.get t 5))]),dm⟩ H) (fun _=>
 ptrPlus (E2.get t 6) 0 fun v9=>
 loadK P (G K) H 9 v9 fun v10=>
 mapUpdateK P H 266 (E2.get t 4) v10 (.bool true) fun H11=>
 k .normal ⟨(es t [(55,(E2.get t 4)),(56,v2),(57,v3),(58,v4),(60,(E2.get t 4)),(61,v9),(62,v10)]),dm⟩ H11)):=of_fun fun f=>by kernel_rfl
theorem h104_17 (dm:List Dm) (ro:Option Nat) (H:Hp) (k:AEx→En→Hp→Bool):∀(t:E2),cd P (G K) 194 150 (subC 104 [1,1,1,1,1,0,1,0,0,1,1,0,0,1,0]) ro ⟨t,dm⟩ H k=
 (ptrPlus (E2.get t 8) 0 fun v1=>
 loadK P (G K) H 105 v1 fun v2=>
 cl P (G K) 165 [v2,(.int .i64 86399)] H fun v3 H3=>
 unK .not v3 fun v4=>
 gJoin (boolIs false v4) (fun v6 H6=>
 gJoin (boolIs false v4) (fun v7 H7=>
 gJoin (boolIs false v4) (fun v8 H8=>
 gJoin (boolIs false v4) (fun v9 H9=>
 pickV v4 (.bool true) v9 fun v10=>
 k .normal ⟨(es t [(72,v1),(73,v2),(74,v3),(75,v4),(76,v4),(77,v6),(78,v7),(79,v8),(80,v9),(81,v10)]),dm⟩ H9) (fun r9=>unK .not v8 fun v11=>
 r9 v11 H8) H8) (fun r8=>cl P (G K) 165 [v7,(.int .i64 1073741823)] H7 fun v12 H12=>
 r8 v12 H12) H7) (fun r7=>loadK P (G K) H6 105 v6 fun v13=>
 r7 v13 H6) H6) (fun r6=>ptrPlus (E2.get t 8) 1 fun v14=>
 r6 v14 H3) H3):=of_fun fun f=>by kernel_rfl
theorem h104_18 (dm:List Dm) (ro:Option Nat) (H:Hp) (k:AEx→En→Hp→Bool):∀(t:E2),cd P (G K) 194 150 (subC 104 [1,1,1,1,1,0,1,0,0,1,1,0,0,1,1]) ro ⟨t,dm⟩ H k=
 (condV (E2.get t 81) (fun _=>
 k .ret ⟨(es t [(82,(E2.get t 7)),(2,(.int .i64 1)),(3,(E2.get t 7))]),dm⟩ H) (fun _=>
 k .normal ⟨t,dm⟩ H)):=of_fun fun f=>by kernel_rfl
theorem h104_19 (dm:List Dm) (ro:Option Nat) (H:Hp) (k:AEx→En→Hp→Bool):∀(t:E2),cd P (G K) 194 150 (subC 104 [1,1,1,1,1,1,0,1,0,0,1,1,0,0,1,0]) ro ⟨t,dm⟩ H k=
 (cd P (G K) 193 150 (subC 104 [1,1,1,1,1,1,0,1,0,0,1,1,0,0,1,0,0]) ro ⟨t,dm⟩ H fun x e H=>isNormal x (fun _=>cd P (G K) 193 150 (subC 104 [1,1,1,1,1,1,0,1,0,0,1,1,0,0,1,0,1]) ro e H fun x e H=>k x e H) (fun x=>k x e H)):=of_fun fun f=>by kernel_rfl
theorem h104_20 (dm:List Dm) (ro:Option Nat) (H:Hp) (k:AEx→En→Hp→Bool):∀(t:E2),cd P (G K) 194 150 (subC 104 [1,1,1,1,1,1,0,1,0,0,1,1,0,0,1,1]) ro ⟨t,dm⟩ H k=
 (cd P (G K) 193 150 (subC 104 [1,1,1,1,1,1,0,1,0,0,1,1,0,0,1,1,0]) ro ⟨t,dm⟩ H fun x e H=>isNormal x (fun _=>cd P (G K) 193 150 (subC 104 [1,1,1,1,1,1,0,1,0,0,1,1,0,0,1,1,1]) ro e H fun x e H=>k x e H) (fun x=>k x e H)):=of_fun fun f=>by kernel_rfl
theorem h104_21 (dm:List Dm) (ro:Option Nat) (H:Hp) (k:AEx→En→Hp→Bool):∀(t:E2),cd P (G K) 193 150 (subC 104 [1,1,1,1,1,1,1]) ro ⟨t,dm⟩ H k=
 (k .ret ⟨(es t [(2,(.int .i64 0)),(3,(.int .i64 (-1)))]),dm⟩ H):=of_fun fun f=>by kernel_rfl
theorem h104_22 (dm:List Dm) (ro:Option Nat) (H:Hp) (k:AEx→En→Hp→Bool):∀(t:E2),cd P (G K) 193 150 (subC 104 [1,1,1,1,0,1,0,0,1,1,0,0,1,0,0]) ro ⟨t,dm⟩ H k=
 (ptrPlus (E2.get t 6) 0 fun v1=>
 loadK P (G K) H 9 v1 fun v2=>
 cl P (G K) 164 [v2] H fun v3 H3=>
 unK .not v3 fun v4=>
 gJoin (boolIs false v4) (fun v6 H6=>
 gJoin (boolIs false v4) (fun v7 H7=>
 gJoin (boolIs false v4) (fun v8 H8=>
 pickV v4 (.bool true) v8 fun v9=>
 gJoin (boolIs false v9) (fun v11 H11=>
 gJoin (boolIs false v9) (fun v12 H12=>
 gJoin (boolIs false v9) (fun v13 H13=>
 pickV v9 (.bool true) v13 fun v14=>
 k .normal ⟨(es t [(40,v1),(41,v2),(42,v3),(43,v4),(44,v4),(45,v6),(46,v7),(47,v8),(48,v9),(49,v9),(50,v11),(51,v12),(52,v13),(53,v14)]),dm⟩ H13) (fun r13=>binK P .gtr 3 true v12 (.int .i64 60) fun v15=>
 r13 v15 H12) H12) (fun r12=>loadK P (G K) H11 3 v11 fun v16=>
 r12 v16 H11) H11) (fun r11=>ptrPlus (E2.get t 6) 1 fun v17=>
 r11 v17 H8) H8) (fun r8=>binK P .lss 3 true v7 (.int .i64 (-60)) fun v18=>
 r8 v18 H7) H7) (fun r7=>loadK P (G K) H6 3 v6 fun v19=>
 r7 v19 H6) H6) (fun r6=>ptrPlus (E2.get t 6) 1 fun v20=>
 r6 v20 H3) H3):=of_fun fun f=>by kernel_rfl
theorem h104_23 (dm:List Dm) (ro:Option Nat) (H:Hp) (k:AEx→En→Hp→Bool):∀(t:E2),cd P (G K) 193 150 (subC 104 [1,1,1,1,0,1,0,0,1,1,0,0,1,0,1]) ro ⟨t,dm⟩ H k=
 (condV (E2.get t 53) (fun _=>
 k .ret ⟨(es t [(54,(E2.get t 5)),(2,(.int .i64 1)),(3,(E2.get t 5))]),dm⟩ H) (fun _=>
 k .normal ⟨t,dm⟩ H)):=of_fun fun f=>by kernel_rfl
theorem h104_24 (dm:List Dm) (ro:Option Nat) (H:Hp) (k:AEx→En→Hp→Bool):∀(t:E2),cd P (G K) 193 150 (subC 104 [1,1,1,1,1,1,0,1,0,0,1,1,0,0,1,0,0]) ro ⟨t,dm⟩ H k=
 (ptrPlus (E2.get t 10) 0 fun v1=>
 loadK P (G K) H 3 v1 fun v2=>
 ptrPlus (E2.get t 1) 0 fun v3=>
 loadK P (G K) H 104 v3 fun v4=>
 lenK P 104 v4 H fun v5=>
 cl P (G K) 166 [v2,v5] H fun v6 H6=>
 unK .not v6 fun v7=>
 gJoin (boolIs false v7) (fun v9 H9=>
 gJoin (boolIs false v7) (fun v10 H10=>
 gJoin (boolIs false v7) (fun v11 H11=>
 gJoin (boolIs false v7) (fun v12 H12=>
 gJoin (boolIs false v7) (fun v13 H13=>
 gJoin (boolIs false v7) (fun v14 H14=>
 gJoin (boolIs false v7) (fun v15 H15=>
 pickV v7 (.bool true) v15 fun v16=>
 gJoin (boolIs false v16) (fun v18 H18=>
 gJoin (boolIs false v16) (fun v19 H19=>
 gJoin (boolIs false v16) (fun v20 H20=>
 gJoin (boolIs false v16) (fun v21 H21=>
 gJoin (boolIs false v16) (fun v22 H22=>
 pickV v16 (.bool true) v22 fun v23=>
 gJoin (boolIs false v23) (fun v25 H25=>
 gJoin (boolIs false v23) (fun v26 H26=>
 gJoin (boolIs false v23) (fun v27 H27=>
 pickV v23 (.bool true) v27 fun v28=>
 gJoin (boolIs false v28) (fun v30 H30=>
 gJoin (boolIs false v28) (fun v31 H31=>
 gJoin (boolIs false v28) (fun v32 H32=>
 pickV v28 (.bool true) v32 fun v33=>
 k .normal ⟨(es t [(92,v1),(93,v2),(94,v3),(95,v4),(96,v5),(97,v6),(98,v7),(99,v7),(100,v9),(101,v10),(102,v11),(103,v12),(104,v13),(105,v14),(106,v15),(107,v16),(108,v16),(109,v18),(110,v19),(111,v20),(112,v21),(113,v22),(114,v23),(115,v23),(116,v25),(117,v26),(118,v27),(119,v28),(120,v28),(121,v30),(122,v31),(123,v32),(124,v33)]),dm⟩ H32) (fun r32=>binK P .gtr 3 true v31 (.int .i64 3600) fun v34=>
 r32 v34 H31) H31) (fun r31=>loadK P (G K) H30 3 v30 fun v35=>
 r31 v35 H30) H30) (fun r30=>ptrPlus (E2.get t 10) 2 fun v36=>
 r30 v36 H27) H27) (fun r27=>binK P .lss 3 true v26 (.int .i64 1) fun v37=>
 r27 v37 H26) H26) (fun r26=>loadK P (G K) H25 3 v25 fun v38=>
 r26 v38 H25) H25) (fun r25=>ptrPlus (E2.get t 10) 2 fun v39=>
 r25 v39 H22) H22) (fun r22=>binK P .eql 3 false v19 v21 fun v40=>
 r22 v40 H21) H21) (fun r21=>loadK P (G K) H20 3 v20 fun v41=>
 r21 v41 H20) H20) (fun r20=>ptrPlus (E2.get t 10) 1 fun v42=>
 r20 v42 H19) H19) (fun r19=>loadK P (G K) H18 3 v18 fun v43=>
 r19 v43 H18) H18) (fun r18=>ptrPlus (E2.get t 10) 0 fun v44=>
 r18 v44 H15) H15) (fun r15=>unK .not v14 fun v45=>
 r15 v45 H14) H14) (fun r14=>cl P (G K) 166 [v10,v13] H13 fun v46 H46=>
 r14 v46 H46) H13) (fun r13=>lenK P 104 v12 H12 fun v47=>
 r13 v47 H12) H12) (fun r12=>loadK P (G K) H11 104 v11 fun v48=>
 r12 v48 H11) H11) (fun r11=>ptrPlus (E2.get t 1) 0 fun v49=>
 r11 v49 H10) H10) (fun r10=>loadK P (G K) H9 3 v9 fun v50=>
 r10 v50 H9) H9) (fun r9=>ptrPlus (E2.get t 10) 1 fun v51=>
 r9 v51 H6) H6):=of_fun fun f=>by kernel_rfl
theorem h104_25 (dm:List Dm) (ro:Option Nat) (H:Hp) (k:AEx→En→Hp→Bool):∀(t:E2),cd P (G K) 193 150 (subC 104 [1,1,1,1,1,1,0,1,0,0,1,1,0,0,1,0,1]) ro ⟨t,dm⟩ H k=
 (condV (E2.get t 124) (fun _=>
 k .ret ⟨(es t [(125,(E2.get t 9)),(2,(.int .i64 1)),(3,(E2.get t 9))]),dm⟩ H) (fun _=>
 k .normal ⟨t,dm⟩ H)):=of_fun fun f=>by kernel_rfl
theorem h104_26 (dm:List Dm) (ro:Option Nat) (H:Hp) (k:AEx→En→Hp→Bool):∀(t:E2),cd P (G K) 193 150 (subC 104 [1,1,1,1,1,1,0,1,0,0,1,1,0,0,1,1,0]) ro ⟨t,dm⟩ H k=
 (ptrPlus (E2.get t 10) 3 fun v1=>
 loadK P (G K) H 3 v1 fun v2=>
 binK P .lss 3 true v2 (.int .i64 0) fun v3=>
 gJoin (boolIs false v3) (fun v5 H5=>
 gJoin (boolIs false v3) (fun v6 H6=>
 gJoin (boolIs false v3) (fun v7 H7=>
 pickV v3 (.bool true) v7 fun v8=>
 gJoin (boolIs false v8) (fun v10 H10=>
 gJoin (boolIs false v8) (fun v11 H11=>
 gJoin (boolIs false v8) (fun v12 H12=>
 gJoin (boolIs false v8) (fun v13 H13=>
 gJoin (boolIs true v13) (fun v14 H14=>
 gJoin (boolIs true v13) (fun v15 H15=>
 gJoin (boolIs true v13) (fun v16 H16=>
 gJoin (boolIs true v13) (fun v17 H17=>
 gJoin (boolIs true v13) (fun v18 H18=>
 gJoin (boolIs true v13) (fun v19 H19=>
 gJoin (boolIs true v13) (fun v20 H20=>
 gJoin (boolIs false v8) (fun v21 H21=>
 pickV v8 (.bool true) v21 fun v22=>
 k .normal ⟨(es t [(126,v1),(127,v2),(128,v3),(129,v3),(130,v5),(131,v6),(132,v7),(133,v8),(134,v8),(135,v10),(136,v11),(137,v12),(138,v13),(139,v14),(140,v15),(141,v16),(142,v17),(143,v18),(144,v19),(145,v20),(146,v21),(147,v22)]),dm⟩ H21) (fun r21=>pickV v13 v20 (.bool false) fun v23=>
 r21 v23 H20) H20) (fun r20=>unK .not v19 fun v24=>
 r20 v24 H19) H19) (fun r19=>cl P (G K) 166 [v15,v18] H18 fun v25 H25=>
 r19 v25 H25) H18) (fun r18=>lenK P 108 v17 H17 fun v26=>
 r18 v26 H17) H17) (fun r17=>loadK P (G K) H16 108 v16 fun v27=>
 r17 v27 H16) H16) (fun r16=>ptrPlus (E2.get t 1) 1 fun v28=>
 r16 v28 H15) H15) (fun r15=>loadK P (G K) H14 3 v14 fun v29=>
 r15 v29 H14) H14) (fun r14=>ptrPlus (E2.get t 10) 4 fun v30=>
 r14 v30 H13) H13) (fun r13=>r13 v12 H12) H12) (fun r12=>binK P .neq 3 true v11 (.int .i64 (-1)) fun v32=>
 r12 v32 H11) H11) (fun r11=>loadK P (G K) H10 3 v10 fun v33=>
 r11 v33 H10) H10) (fun r10=>ptrPlus (E2.get t 10) 4 fun v34=>
 r10 v34 H7) H7) (fun r7=>binK P .gtr 3 true v6 (.int .i64 3600) fun v35=>
 r7 v35 H6) H6) (fun r6=>loadK P (G K) H5 3 v5 fun v36=>
 r6 v36 H5) H5) (fun r5=>ptrPlus (E2.get t 10) 3 fun v37=>
 r5 v37 H) H):=of_fun fun f=>by kernel_rfl
theorem h104_27 (dm:List Dm) (ro:Option Nat) (H:Hp) (k:AEx→En→Hp→Bool):∀(t:E2),cd P (G K) 193 150 (subC 104 [1,1,1,1,1,1,0,1,0,0,1,1,0,0,1,1,1]) ro ⟨t,dm⟩ H k=
 (condV (E2.get t 147) (fun _=>
 k .ret ⟨(es t [(148,(E2.get t 9)),(2,(.int .i64 1)),(3,(E2.get t 9))]),dm⟩ H) (fun _=>
 k .normal ⟨t,dm⟩ H)):=of_fun fun f=>by kernel_rfl
end
end Go.S9
