/- A part of the proof of TribunalReplies. -/
import Derived.Test.YtmmghibnfjfnbaaGreatDoorRAd
set_option linter.unusedVariables false
set_option linter.unusedSimpArgs false
namespace Go.S9
open Go.Ev Go.Proofs
set_option maxRecDepth 1000000
set_option linter.unusedVariables false
noncomputable section
variable {K : Int}
theorem h45 (a0:AV) (H:Hp) (k:AEnd→Hp→Bool):callBody P (G K) ⟨cd P (G K) 200,callS P (G K)⟩ 45 [a0] H k=
 (let n0:AEx→En→Hp→Bool:=fun x e H=>bodyEnd P (G K) Tryz.f45 ⟨cd P (G K) 200,callS P (G K)⟩ k x e H;
 cl P (G K) 78 [a0] H fun v4 H4=>
 extractV v4 0 fun v6=>
 extractV v4 1 fun v7=>
 binK P .neq 30 true v6 (.int .i64 0) fun v11=>
 condV v11 (fun _=>
 n0 .ret ⟨(es E2.empty [(0,a0),(10,a0),(11,v4),(9,v4),(12,v6),(13,v7),(4,v6),(5,v7),(14,v6),(15,v11),(16,v6),(2,(.str [])),(3,v6)]),[]⟩ H4) (fun _=>
 Hp.new H4 (.cells (some 171) false [.nilp, .nils]) fun b15 H15=>
 let n16:AEx→En→Hp→Bool:=fun x e H=>isNormal x (fun _=>cd P (G K) 196 38 (subC 45 [1,1,1,1]) none e H fun x e H=>n0 x e H) (fun x=>n0 x e H);
 lenK P 43 a0 H15 fun v18=>
 semC P (G K) 38 (.loop (subC 45 [1,1,1,0,1,0])) none ⟨(es E2.empty [(0,a0),(2,(.str [])),(3,(.int .i64 0)),(10,a0),(11,v4),(9,v4),(12,v6),(13,v7),(4,v6),(5,v7),(14,v6),(15,v11),(6,(.ptr b15 0)),(17,a0),(18,v18),(19,(.int .i64 0))]),[]⟩ H15 fun x e20 H20=>isExit 0 x (fun _=>n16 .normal e20 H20) (fun x=>n16 x e20 H20))):=by kernel_rfl
theorem r45 (t:E2) (H:Hp) (k:AEnd→Hp→Bool) (i:Evs):bodyEnd P (G K) Tryz.f45 i k .ret ⟨t,[]⟩ H=k (.ret (.tup [(E2.get t 2),(E2.get t 3)])) H:=by kernel_rfl
theorem h45_0 (dm:List Dm) (ro:Option Nat) (H:Hp) (k:AEx→En→Hp→Bool):∀(t:E2),cd P (G K) 196 38 (subC 45 [1,1,1,1]) ro ⟨t,dm⟩ H k=
 (ptrPlus (E2.get t 6) 0 fun v1=>
 cl P (G K) 43 [v1] H fun v2 H2=>
 k .ret ⟨(es t [(36,v1),(37,v2),(2,v2),(3,(.int .i64 0))]),dm⟩ H2):=of_fun fun f=>by kernel_rfl
theorem h45_1 (dm:List Dm) (ro:Option Nat) (H:Hp) (k:AEx→En→Hp→Bool):∀(t:E2),cd P (G K) 200 38 (subC 45 [1,1,1,0,1,0]) ro ⟨t,dm⟩ H k=
 (binK P .lss 3 false (E2.get t 19) (E2.get t 18) fun v1=>
 condV v1 (fun _=>
 indexAtK P 43 (E2.get t 17) (E2.get t 19) fun v2=>
 loadK P (G K) H 83 v2 fun v3=>
 Hp.new H (.cells (some 83) false [(.int .i64 0),(.int .i64 0),(.int .i64 0),(.int .i64 0),(.int .i64 0)]) fun b4 H4=>
 storeK P H4 83 (.ptr b4 0) v3 fun H5=>
 ptrPlus (.ptr b4 0) 0 fun v6=>
 loadK P (G K) H5 3 v6 fun v7=>
 ptrPlus (.ptr b4 0) 1 fun v8=>
 loadK P (G K) H5 3 v8 fun v9=>
 ptrPlus (.ptr b4 0) 2 fun v10=>
 loadK P (G K) H5 3 v10 fun v11=>
 ptrPlus (.ptr b4 0) 3 fun v12=>
 loadK P (G K) H5 3 v12 fun v13=>
 ptrPlus (.ptr b4 0) 4 fun v14=>
 loadK P (G K) H5 3 v14 fun v15=>
 buildSliceK P 42 5 [(0,v7),(1,v9),(2,v11),(3,v13),(4,v15)] fun k16 r16=>Hp.new H5 k16 fun b16 H16=>
 cl P (G K) 79 [(E2.get t 6),(r16 b16)] H16 fun v17 H17=>
 binK P .add 3 true (E2.get t 19) (.int .i64 1) fun v18=>
 k .normal ⟨(es t [(20,v1),(21,v2),(22,v3),(8,(.ptr b4 0)),(23,v6),(24,v7),(25,v8),(26,v9),(27,v10),(28,v11),(29,v12),(30,v13),(31,v14),(32,v15),(33,(r16 b16)),(34,v17),(35,v18),(19,v18)]),dm⟩ H17) (fun _=>
 k (.exit 0) ⟨(es t [(20,v1)]),dm⟩ H)):=of_fun fun f=>by kernel_rfl
theorem h46 (a0 a1:AV) (H:Hp) (k:AEnd→Hp→Bool):callBody P (G K) ⟨cd P (G K) 200,callS P (G K)⟩ 46 [a0,a1] H k=
 (cl P (G K) 80 [a0] H fun v4 H4=>
 nilCheckV a0 fun v7=>
 ptrPlus v7 1 fun v8=>
 loadK P (G K) H4 74 v8 fun v9=>
 appendK P H4 74 9 v9 a1 fun v11 H11=>
 nilCheckV a0 fun v12=>
 ptrPlus v12 1 fun v13=>
 storeK P H11 74 v13 v11 fun H14=>
 lenK P 9 a1 H14 fun v16=>
 k (.ret (.tup [v16, .nili])) H14):=by kernel_rfl
theorem h47 (a0:AV) (H:Hp) (k:AEnd→Hp→Bool):callBody P (G K) ⟨cd P (G K) 200,callS P (G K)⟩ 47 [a0] H k=
 (let n0:AEx→En→Hp→Bool:=fun x e H=>bodyEnd P (G K) Tryz.f47 ⟨cd P (G K) 200,callS P (G K)⟩ k x e H;
 Hp.new H (.cells (some 47) false (AV.cells a0)) fun b1 H1=>
 cd P (G K) 198 73 (subC 47 [1,0]) none ⟨(es E2.empty [(0,a0),(1,(.ptr b1 0)),(2,(.int .i64 0))]),[]⟩ H1 fun x e H=>isNormal x (fun _=>cd P (G K) 198 73 (subC 47 [1,1]) none e H fun x e H=>n0 x e H) (fun x=>n0 x e H)):=by kernel_rfl
theorem r47 (t:E2) (H:Hp) (k:AEnd→Hp→Bool) (i:Evs):bodyEnd P (G K) Tryz.f47 i k .ret ⟨t,[]⟩ H=k (.ret (E2.get t 2)) H:=by kernel_rfl
theorem h47_0 (dm:List Dm) (ro:Option Nat) (H:Hp) (k:AEx→En→Hp→Bool):∀(t:E2),cd P (G K) 198 73 (subC 47 [1,0]) ro ⟨t,dm⟩ H k=
 (cd P (G K) 197 73 (subC 47 [1,0,0]) ro ⟨t,dm⟩ H fun x e H=>isNormal x (fun _=>cd P (G K) 197 73 (subC 47 [1,0,1]) ro e H fun x e H=>k x e H) (fun x=>k x e H)):=of_fun fun f=>by kernel_rfl
theorem h47_1 (dm:List Dm) (ro:Option Nat) (H:Hp) (k:AEx→En→Hp→Bool):∀(t:E2),cd P (G K) 198 73 (subC 47 [1,1]) ro ⟨t,dm⟩ H k=
 (let n1:AEx→En→Hp→Bool:=fun x e H=>isNormal x (fun _=>cd P (G K) 197 73 (subC 47 [1,1,1]) ro e H fun x e H=>k x e H) (fun x=>k x e H);
 semC P (G K) 73 (.loop (subC 47 [1,1,0,1,0])) ro ⟨(es t [(3,(.int .i64 0))]),dm⟩ H fun x e3 H3=>isExit 0 x (fun _=>n1 .normal e3 H3) (fun x=>n1 x e3 H3)):=of_fun fun f=>by kernel_rfl
theorem h47_2 (dm:List Dm) (ro:Option Nat) (H:Hp) (k:AEx→En→Hp→Bool):∀(t:E2),cd P (G K) 200 73 (subC 47 [1,1,0,1,0]) ro ⟨t,dm⟩ H k=
 (ptrPlus (E2.get t 1) 13 fun v2=>
 loadK P (G K) H 44 v2 fun v3=>
 lenK P 44 v3 H fun v4=>
 binK P .lss 3 false (E2.get t 3) v4 fun v5=>
 condV v5 (fun _=>
 cd P (G K) 198 73 (subC 47 [1,1,0,1,0,0,1,0]) ro ⟨(es t [(27,(E2.get t 3)),(28,v2),(29,v3),(30,v4),(31,v5)]),dm⟩ H fun x e H=>isNormal x (fun _=>cd P (G K) 198 73 (subC 47 [1,1,0,1,0,0,1,1]) ro e H fun x e H=>k x e H) (fun x=>k x e H)) (fun _=>
 k (.exit 0) ⟨(es t [(27,(E2.get t 3)),(28,v2),(29,v3),(30,v4),(31,v5)]),dm⟩ H)):=of_fun fun f=>by kernel_rfl
theorem h47_3 (dm:List Dm) (ro:Option Nat) (H:Hp) (k:AEx→En→Hp→Bool):∀(t:E2),cd P (G K) 200 73 (subC 47 [1,1,1,0,1,0]) ro ⟨t,dm⟩ H k=
 (ptrPlus (E2.get t 1) 12 fun v2=>
 loadK P (G K) H 43 v2 fun v3=>
 lenK P 43 v3 H fun v4=>
 binK P .lss 3 false (E2.get t 4) v4 fun v5=>
 condV v5 (fun _=>
 ptrPlus (E2.get t 1) 12 fun v6=>
 loadK P (G K) H 43 v6 fun v7=>
 indexAtK P 43 v7 (E2.get t 4) fun v9=>
 loadK P (G K) H 83 v9 fun v10=>
 cl P (G K) 81 [v10] H fun v11 H11=>
 unK .not v11 fun v12=>
 condV v12 (fun _=>
 k .ret ⟨(es t [(59,(E2.get t 4)),(60,v2),(61,v3),(62,v4),(63,v5),(66,v6),(67,v7),(68,(E2.get t 4)),(69,v9),(70,v10),(71,v11),(72,v12),(2,(.int .i64 1))]),dm⟩ H11) (fun _=>
 binK P .add 3 true (E2.get t 4) (.int .i64 1) fun v15=>
 k .normal ⟨(es t [(59,(E2.get t 4)),(60,v2),(61,v3),(62,v4),(63,v5),(66,v6),(67,v7),(68,(E2.get t 4)),(69,v9),(70,v10),(71,v11),(72,v12),(64,(E2.get t 4)),(65,v15),(4,v15)]),dm⟩ H11)) (fun _=>
 k (.exit 2) ⟨(es t [(59,(E2.get t 4)),(60,v2),(61,v3),(62,v4),(63,v5)]),dm⟩ H)):=of_fun fun f=>by kernel_rfl
theorem h47_4 (dm:List Dm) (ro:Option Nat) (H:Hp) (k:AEx→En→Hp→Bool):∀(t:E2),cd P (G K) 197 73 (subC 47 [1,0,0]) ro ⟨t,dm⟩ H k=
 (ptrPlus (E2.get t 1) 11 fun v1=>
 loadK P (G K) H 42 v1 fun v2=>
 lenK P 42 v2 H fun v3=>
 binK P .gtr 3 true v3 (.int .i64 4000) fun v4=>
 gJoin (boolIs false v4) (fun v6 H6=>
 gJoin (boolIs false v4) (fun v7 H7=>
 gJoin (boolIs false v4) (fun v8 H8=>
 gJoin (boolIs false v4) (fun v9 H9=>
 pickV v4 (.bool true) v9 fun v10=>
 gJoin (boolIs false v10) (fun v12 H12=>
 gJoin (boolIs false v10) (fun v13 H13=>
 gJoin (boolIs false v10) (fun v14 H14=>
 gJoin (boolIs false v10) (fun v15 H15=>
 pickV v10 (.bool true) v15 fun v16=>
 gJoin (boolIs false v16) (fun v18 H18=>
 gJoin (boolIs false v16) (fun v19 H19=>
 gJoin (boolIs false v16) (fun v20 H20=>
 gJoin (boolIs false v16) (fun v21 H21=>
 pickV v16 (.bool true) v21 fun v22=>
 k .normal ⟨(es t [(5,v1),(6,v2),(7,v3),(8,v4),(9,v4),(10,v6),(11,v7),(12,v8),(13,v9),(14,v10),(15,v10),(16,v12),(17,v13),(18,v14),(19,v15),(20,v16),(21,v16),(22,v18),(23,v19),(24,v20),(25,v21),(26,v22)]),dm⟩ H21) (fun r21=>binK P .gtr 3 true v20 (.int .i64 4000) fun v23=>
 r21 v23 H20) H20) (fun r20=>lenK P 45 v19 H19 fun v24=>
 r20 v24 H19) H19) (fun r19=>loadK P (G K) H18 45 v18 fun v25=>
 r19 v25 H18) H18) (fun r18=>ptrPlus (E2.get t 1) 14 fun v26=>
 r18 v26 H15) H15) (fun r15=>binK P .gtr 3 true v14 (.int .i64 4000) fun v27=>
 r15 v27 H14) H14) (fun r14=>lenK P 44 v13 H13 fun v28=>
 r14 v28 H13) H13) (fun r13=>loadK P (G K) H12 44 v12 fun v29=>
 r13 v29 H12) H12) (fun r12=>ptrPlus (E2.get t 1) 13 fun v30=>
 r12 v30 H9) H9) (fun r9=>binK P .gtr 3 true v8 (.int .i64 4000) fun v31=>
 r9 v31 H8) H8) (fun r8=>lenK P 43 v7 H7 fun v32=>
 r8 v32 H7) H7) (fun r7=>loadK P (G K) H6 43 v6 fun v33=>
 r7 v33 H6) H6) (fun r6=>ptrPlus (E2.get t 1) 12 fun v34=>
 r6 v34 H) H):=of_fun fun f=>by kernel_rfl
theorem h47_5 (dm:List Dm) (ro:Option Nat) (H:Hp) (k:AEx→En→Hp→Bool):∀(t:E2),cd P (G K) 197 73 (subC 47 [1,0,1]) ro ⟨t,dm⟩ H k=
 (condV (E2.get t 26) (fun _=>
 k .ret ⟨(es t [(2,(.int .i64 2))]),dm⟩ H) (fun _=>
 k .normal ⟨t,dm⟩ H)):=of_fun fun f=>by kernel_rfl
theorem h47_6 (dm:List Dm) (ro:Option Nat) (H:Hp) (k:AEx→En→Hp→Bool):∀(t:E2),cd P (G K) 197 73 (subC 47 [1,1,1]) ro ⟨t,dm⟩ H k=
 (let n1:AEx→En→Hp→Bool:=fun x e H=>isNormal x (fun _=>cd P (G K) 196 73 (subC 47 [1,1,1,1]) ro e H fun x e H=>k x e H) (fun x=>k x e H);
 semC P (G K) 73 (.loop (subC 47 [1,1,1,0,1,0])) ro ⟨(es t [(4,(.int .i64 0))]),dm⟩ H fun x e3 H3=>isExit 2 x (fun _=>n1 .normal e3 H3) (fun x=>n1 x e3 H3)):=of_fun fun f=>by kernel_rfl
theorem h47_7 (dm:List Dm) (ro:Option Nat) (H:Hp) (k:AEx→En→Hp→Bool):∀(t:E2),cd P (G K) 198 73 (subC 47 [1,1,0,1,0,0,1,0]) ro ⟨t,dm⟩ H k=
 (cd P (G K) 196 73 (subC 47 [1,1,0,1,0,0,1,0,0,0]) ro ⟨t,dm⟩ H fun x e H=>isNormal x (fun _=>cd P (G K) 196 73 (subC 47 [1,1,0,1,0,0,1,0,0,1]) ro e H fun x e H=>isExit 1 x (fun _=>k .normal e H) (fun x=>k x e H)) (fun x=>isExit 1 x (fun _=>k .normal e H) (fun x=>k x e H))):=of_fun fun f=>by kernel_rfl
theorem h47_8 (dm:List Dm) (ro:Option Nat) (H:Hp) (k:AEx→En→Hp→Bool):∀(t:E2),cd P (G K) 198 73 (subC 47 [1,1,0,1,0,0,1,1]) ro ⟨t,dm⟩ H k=
 (binK P .add 3 true (E2.get t 3) (.int .i64 1) fun v2=>
 k .normal ⟨(es t [(32,(E2.get t 3)),(33,v2),(3,v2)]),dm⟩ H):=of_fun fun f=>by kernel_rfl
theorem h47_9 (dm:List Dm) (ro:Option Nat) (H:Hp) (k:AEx→En→Hp→Bool):∀(t:E2),cd P (G K) 196 73 (subC 47 [1,1,1,1]) ro ⟨t,dm⟩ H k=
 (k .ret ⟨(es t [(2,(.int .i64 0))]),dm⟩ H):=of_fun fun f=>by kernel_rfl
theorem h47_10 (dm:List Dm) (ro:Option Nat) (H:Hp) (k:AEx→En→Hp→Bool):∀(t:E2),cd P (G K) 196 73 (subC 47 [1,1,0,1,0,0,1,0,0,0]) ro ⟨t,dm⟩ H k=
 (ptrPlus (E2.get t 1) 13 fun v1=>
 loadK P (G K) H 44 v1 fun v2=>
 indexAtK P 44 v2 (E2.get t 3) fun v4=>
 ptrPlus v4 0 fun v5=>
 loadK P (G K) H 70 v5 fun v6=>
 lenK P 70 v6 H fun v7=>
 ptrPlus (E2.get t 1) 13 fun v8=>
 loadK P (G K) H 44 v8 fun v9=>
 indexAtK P 44 v9 (E2.get t 3) fun v11=>
 ptrPlus v11 1 fun v12=>
 loadK P (G K) H 42 v12 fun v13=>
 lenK P 42 v13 H fun v14=>
 binK P .neq 3 false v7 v14 fun v15=>
 gJoinD (boolIs false v15) (fun v17 H17 L17 Q17=>
 gJoinD (boolIs false v15) (fun v18 H18 L18 Q18=>
 gJoinD (boolIs false v15) (fun v19 H19 L19 Q19=>
 gJoinD (boolIs false v15) (fun v20 H20 L20 Q20=>
 gJoinD (boolIs false v15) (fun v21 H21 L21 Q21=>
 gJoinD (boolIs false v15) (fun v22 H22 L22 Q22=>
 gJoinD (boolIs false v15) (fun v23 H23 L23 Q23=>
 gJoinD (boolIs false v15) (fun v24 H24 L24 Q24=>
 pickV v15 (.bool true) v24 fun v25=>
 layAll Q24 H24 fun H26=>
 k .normal ⟨(es t [(34,v1),(35,v2),(36,(E2.get t 3)),(37,v4),(38,v5),(39,v6),(40,v7),(41,v8),(42,v9),(43,(E2.get t 3)),(44,v11),(45,v12),(46,v13),(47,v14),(48,v15),(49,v15),(50,v17),(51,v18),(52,v19),(53,v20),(54,v21),(55,v22),(56,v23),(57,v24),(58,v25)]),dm⟩ H26) (fun r24=>binK P .gtr 3 true v23 (.int .i64 4000) fun v27=>
 r24 v27 H23 L23 Q23) H23 L23 Q23) (fun r23=>lenK P 42 v22 H22 fun v28=>
 r23 v28 H22 ((22,fun H'=>lenK P 42 v22 H' fun v'=>avSame 1000 v28 v')::L22) Q22) H22 L22 Q22) (fun r22=>loadK P (G K) H21 42 v21 fun v29=>
 r22 v29 H21 ((21,fun H'=>loadK P (G K) H' 42 v21 fun v'=>avSame 1000 v29 v')::L21) Q21) H21 L21 Q21) (fun r21=>ptrPlus v20 1 fun v30=>
 r21 v30 H20 L20 Q20) H20 L20 Q20) (fun r20=>indexAtK P 44 v18 v19 fun v31=>
 r20 v31 H19 L19 Q19) H19 L19 Q19) (fun r19=>r19 (E2.get t 3) H18 L18 Q18) H18 L18 Q18) (fun r18=>loadK P (G K) H17 44 v17 fun v33=>
 r18 v33 H17 ((17,fun H'=>loadK P (G K) H' 44 v17 fun v'=>avSame 1000 v33 v')::L17) Q17) H17 L17 Q17) (fun r17=>ptrPlus (E2.get t 1) 13 fun v34=>
 r17 v34 H ((13,fun H'=>lenK P 42 v13 H' fun v'=>avSame 1000 v14 v')::((12,fun H'=>loadK P (G K) H' 42 v12 fun v'=>avSame 1000 v13 v')::((8,fun H'=>loadK P (G K) H' 44 v8 fun v'=>avSame 1000 v9 v')::((6,fun H'=>lenK P 70 v6 H' fun v'=>avSame 1000 v7 v')::((5,fun H'=>loadK P (G K) H' 70 v5 fun v'=>avSame 1000 v6 v')::((1,fun H'=>loadK P (G K) H' 44 v1 fun v'=>avSame 1000 v2 v')::[])))))) []) H ((13,fun H'=>lenK P 42 v13 H' fun v'=>avSame 1000 v14 v')::((12,fun H'=>loadK P (G K) H' 42 v12 fun v'=>avSame 1000 v13 v')::((8,fun H'=>loadK P (G K) H' 44 v8 fun v'=>avSame 1000 v9 v')::((6,fun H'=>lenK P 70 v6 H' fun v'=>avSame 1000 v7 v')::((5,fun H'=>loadK P (G K) H' 70 v5 fun v'=>avSame 1000 v6 v')::((1,fun H'=>loadK P (G K) H' 44 v1 fun v'=>avSame 1000 v2 v')::[])))))) []):=of_fun fun f=>by kernel_rfl
theorem h47_11 (dm:List Dm) (ro:Option Nat) (H:Hp) (k:AEx→En→Hp→Bool):∀(t:E2),cd P (G K) 196 73 (subC 47 [1,1,0,1,0,0,1,0,0,1]) ro ⟨t,dm⟩ H k=
 (condV (E2.get t 58) (fun _=>
 k .ret ⟨(es t [(2,(.int .i64 2))]),dm⟩ H) (fun _=>
 k .normal ⟨t,dm⟩ H)):=of_fun fun f=>by kernel_rfl
theorem h48 (a0:AV) (H:Hp) (k:AEnd→Hp→Bool):callBody P (G K) ⟨cd P (G K) 200,callS P (G K)⟩ 48 [a0] H k=
 (let n0:AEx→En→Hp→Bool:=fun x e H=>bodyEnd P (G K) Tryz.f48 ⟨cd P (G K) 200,callS P (G K)⟩ k x e H;
 let n3:AEx→En→Hp→Bool:=fun x e H=>isNormal x (fun _=>cd P (G K) 197 19 (subC 48 [1,1,1]) none e H fun x e H=>n0 x e H) (fun x=>n0 x e H);
 semC P (G K) 19 (.loop (subC 48 [1,1,0,1,0])) none ⟨(es E2.empty [(0,a0),(2,(.str [])),(3,(.str [])),(4,(.int .i64 0))]),[]⟩ H fun x e5 H5=>isExit 0 x (fun _=>n3 .normal e5 H5) (fun x=>n3 x e5 H5)):=by kernel_rfl
theorem r48 (t:E2) (H:Hp) (k:AEnd→Hp→Bool) (i:Evs):bodyEnd P (G K) Tryz.f48 i k .ret ⟨t,[]⟩ H=k (.ret (E2.get t 2)) H:=by kernel_rfl
theorem h48_0 (dm:List Dm) (ro:Option Nat) (H:Hp) (k:AEx→En→Hp→Bool):∀(t:E2),cd P (G K) 197 19 (subC 48 [1,1,1]) ro ⟨t,dm⟩ H k=
 (k .ret ⟨(es t [(18,(E2.get t 3)),(2,(E2.get t 3))]),dm⟩ H):=of_fun fun f=>by kernel_rfl
theorem h48_1 (dm:List Dm) (ro:Option Nat) (H:Hp) (k:AEx→En→Hp→Bool):∀(t:E2),cd P (G K) 200 19 (subC 48 [1,1,0,1,0]) ro ⟨t,dm⟩ H k=
 (lenK P 43 (E2.get t 0) H fun v3=>
 binK P .lss 3 false (E2.get t 4) v3 fun v4=>
 condV v4 (fun _=>
 indexAtK P 43 (E2.get t 0) (E2.get t 4) fun v8=>
 loadK P (G K) H 83 v8 fun v9=>
 cl P (G K) 82 [v9] H fun v10 H10=>
 binK P .add 9 false (E2.get t 3) v10 fun v11=>
 binK P .add 3 true (E2.get t 4) (.int .i64 1) fun v14=>
 k .normal ⟨(es t [(5,(E2.get t 4)),(6,(E2.get t 0)),(7,v3),(8,v4),(11,(E2.get t 3)),(12,(E2.get t 0)),(13,(E2.get t 4)),(14,v8),(15,v9),(16,v10),(17,v11),(3,v11),(9,(E2.get t 4)),(10,v14),(4,v14)]),dm⟩ H10) (fun _=>
 k (.exit 0) ⟨(es t [(5,(E2.get t 4)),(6,(E2.get t 0)),(7,v3),(8,v4)]),dm⟩ H)):=of_fun fun f=>by kernel_rfl
theorem h49 (a0 a1:AV) (H:Hp) (k:AEnd→Hp→Bool):callBody P (G K) ⟨cd P (G K) 200,callS P (G K)⟩ 49 [a0,a1] H k=
 (let n0:AEx→En→Hp→Bool:=fun x e H=>bodyEnd P (G K) Tryz.f49 ⟨cd P (G K) 200,callS P (G K)⟩ k x e H;
 Hp.new H (.cells (some 72) false (AV.cells a0)) fun b1 H1=>
 Hp.new H1 (.cells (some 72) false (AV.cells a1)) fun b2 H2=>
 cd P (G K) 198 17 (subC 49 [1,0]) none ⟨(es E2.empty [(0,a0),(1,a1),(2,(.ptr b1 0)),(3,(.ptr b2 0)),(4,(.bool false))]),[]⟩ H2 fun x e H=>isNormal x (fun _=>cd P (G K) 198 17 (subC 49 [1,1]) none e H fun x e H=>n0 x e H) (fun x=>n0 x e H)):=by kernel_rfl
theorem r49 (t:E2) (H:Hp) (k:AEnd→Hp→Bool) (i:Evs):bodyEnd P (G K) Tryz.f49 i k .ret ⟨t,[]⟩ H=k (.ret (E2.get t 4)) H:=by kernel_rfl
theorem h49_0 (dm:List Dm) (ro:Option Nat) (H:Hp) (k:AEx→En→Hp→Bool):∀(t:E2),cd P (G K) 198 17 (subC 49 [1,0]) ro ⟨t,dm⟩ H k=
 (ptrPlus (E2.get t 2) 0 fun v1=>
 loadK P (G K) H 70 v1 fun v2=>
 ptrPlus (E2.get t 3) 0 fun v3=>
 loadK P (G K) H 70 v3 fun v4=>
 cl P (G K) 50 [v2,v4] H fun v5 H5=>
 gJoin (boolIs true v5) (fun v7 H7=>
 gJoin (boolIs true v5) (fun v8 H8=>
 gJoin (boolIs true v5) (fun v9 H9=>
 gJoin (boolIs true v5) (fun v10 H10=>
 gJoin (boolIs true v5) (fun v11 H11=>
 pickV v5 v11 (.bool false) fun v12=>
 k .normal ⟨(es t [(5,v1),(6,v2),(7,v3),(8,v4),(9,v5),(10,v5),(11,v7),(12,v8),(13,v9),(14,v10),(15,v11),(16,v12),(4,v12)]),dm⟩ H11) (fun r11=>cl P (G K) 51 [v8,v10] H10 fun v14 H14=>
 r11 v14 H14) H10) (fun r10=>loadK P (G K) H9 42 v9 fun v15=>
 r10 v15 H9) H9) (fun r9=>ptrPlus (E2.get t 3) 1 fun v16=>
 r9 v16 H8) H8) (fun r8=>loadK P (G K) H7 42 v7 fun v17=>
 r8 v17 H7) H7) (fun r7=>ptrPlus (E2.get t 2) 1 fun v18=>
 r7 v18 H5) H5):=of_fun fun f=>by kernel_rfl
theorem h49_1 (dm:List Dm) (ro:Option Nat) (H:Hp) (k:AEx→En→Hp→Bool):∀(t:E2),cd P (G K) 198 17 (subC 49 [1,1]) ro ⟨t,dm⟩ H k=
 (k .ret ⟨t,dm⟩ H):=of_fun fun f=>by kernel_rfl
theorem h50 (a0 a1:AV) (H:Hp) (k:AEnd→Hp→Bool):callBody P (G K) ⟨cd P (G K) 200,callS P (G K)⟩ 50 [a0,a1] H k=
 (let n0:AEx→En→Hp→Bool:=fun x e H=>bodyEnd P (G K) Tryz.f50 ⟨cd P (G K) 200,callS P (G K)⟩ k x e H;
 lenK P 70 a0 H fun v3=>
 lenK P 70 a1 H fun v5=>
 binK P .neq 3 false v3 v5 fun v6=>
 condV v6 (fun _=>
 n0 .ret ⟨(es E2.empty [(0,a0),(1,a1),(6,a0),(7,v3),(8,a1),(9,v5),(10,v6),(4,(.bool false))]),[]⟩ H) (fun _=>
 let n8:AEx→En→Hp→Bool:=fun x e H=>isNormal x (fun _=>cd P (G K) 197 26 (subC 50 [1,1,1]) none e H fun x e H=>n0 x e H) (fun x=>n0 x e H);
 lenK P 70 a0 H fun v10=>
 semC P (G K) 26 (.loop (subC 50 [1,1,0,1,0])) none ⟨(es E2.empty [(0,a0),(1,a1),(4,(.bool false)),(6,a0),(7,v3),(8,a1),(9,v5),(10,v6),(11,a0),(12,v10),(13,(.int .i64 0))]),[]⟩ H fun x e12 H12=>isExit 0 x (fun _=>n8 .normal e12 H12) (fun x=>n8 x e12 H12))):=by kernel_rfl
theorem r50 (t:E2) (H:Hp) (k:AEnd→Hp→Bool) (i:Evs):bodyEnd P (G K) Tryz.f50 i k .ret ⟨t,[]⟩ H=k (.ret (E2.get t 4)) H:=by kernel_rfl
theorem h50_0 (dm:List Dm) (ro:Option Nat) (H:Hp) (k:AEx→En→Hp→Bool):∀(t:E2),cd P (G K) 197 26 (subC 50 [1,1,1]) ro ⟨t,dm⟩ H k=
 (k .ret ⟨(es t [(4,(.bool true))]),dm⟩ H):=of_fun fun f=>by kernel_rfl
theorem h50_1 (dm:List Dm) (ro:Option Nat) (H:Hp) (k:AEx→En→Hp→Bool):∀(t:E2),cd P (G K) 200 26 (subC 50 [1,1,0,1,0]) ro ⟨t,dm⟩ H k=
 (binK P .lss 3 false (E2.get t 13) (E2.get t 12) fun v1=>
 condV v1 (fun _=>
 indexAtK P 70 (E2.get t 0) (E2.get t 13) fun v6=>
 loadK P (G K) H 90 v6 fun v7=>
 indexAtK P 70 (E2.get t 1) (E2.get t 13) fun v10=>
 loadK P (G K) H 90 v10 fun v11=>
 binK P .neq 90 false v7 v11 fun v12=>
 condV v12 (fun _=>
 k .ret ⟨(es t [(14,v1),(15,(E2.get t 13)),(5,(E2.get t 13)),(16,(E2.get t 0)),(17,(E2.get t 13)),(18,v6),(19,v7),(20,(E2.get t 1)),(21,(E2.get t 13)),(22,v10),(23,v11),(24,v12),(4,(.bool false))]),dm⟩ H) (fun _=>
 binK P .add 3 true (E2.get t 13) (.int .i64 1) fun v14=>
 k .normal ⟨(es t [(14,v1),(15,(E2.get t 13)),(5,(E2.get t 13)),(16,(E2.get t 0)),(17,(E2.get t 13)),(18,v6),(19,v7),(20,(E2.get t 1)),(21,(E2.get t 13)),(22,v10),(23,v11),(24,v12),(25,v14),(13,v14)]),dm⟩ H)) (fun _=>
 k (.exit 0) ⟨(es t [(14,v1)]),dm⟩ H)):=of_fun fun f=>by kernel_rfl
theorem h51 (a0 a1:AV) (H:Hp) (k:AEnd→Hp→Bool):callBody P (G K) ⟨cd P (G K) 200,callS P (G K)⟩ 51 [a0,a1] H k=
 (let n0:AEx→En→Hp→Bool:=fun x e H=>bodyEnd P (G K) Tryz.f51 ⟨cd P (G K) 200,callS P (G K)⟩ k x e H;
 lenK P 42 a0 H fun v3=>
 lenK P 42 a1 H fun v5=>
 binK P .neq 3 false v3 v5 fun v6=>
 condV v6 (fun _=>
 n0 .ret ⟨(es E2.empty [(0,a0),(1,a1),(6,a0),(7,v3),(8,a1),(9,v5),(10,v6),(4,(.bool false))]),[]⟩ H) (fun _=>
 let n8:AEx→En→Hp→Bool:=fun x e H=>isNormal x (fun _=>cd P (G K) 197 26 (subC 51 [1,1,1]) none e H fun x e H=>n0 x e H) (fun x=>n0 x e H);
 lenK P 42 a0 H fun v10=>
 semC P (G K) 26 (.loop (subC 51 [1,1,0,1,0])) none ⟨(es E2.empty [(0,a0),(1,a1),(4,(.bool false)),(6,a0),(7,v3),(8,a1),(9,v5),(10,v6),(11,a0),(12,v10),(13,(.int .i64 0))]),[]⟩ H fun x e12 H12=>isExit 0 x (fun _=>n8 .normal e12 H12) (fun x=>n8 x e12 H12))):=by kernel_rfl
theorem r51 (t:E2) (H:Hp) (k:AEnd→Hp→Bool) (i:Evs):bodyEnd P (G K) Tryz.f51 i k .ret ⟨t,[]⟩ H=k (.ret (E2.get t 4)) H:=by kernel_rfl
theorem h51_0 (dm:List Dm) (ro:Option Nat) (H:Hp) (k:AEx→En→Hp→Bool):∀(t:E2),cd P (G K) 197 26 (subC 51 [1,1,1]) ro ⟨t,dm⟩ H k=
 (k .ret ⟨(es t [(4,(.bool true))]),dm⟩ H):=of_fun fun f=>by kernel_rfl
theorem h51_1 (dm:List Dm) (ro:Option Nat) (H:Hp) (k:AEx→En→Hp→Bool):∀(t:E2),cd P (G K) 200 26 (subC 51 [1,1,0,1,0]) ro ⟨t,dm⟩ H k=
 (binK P .lss 3 false (E2.get t 13) (E2.get t 12) fun v1=>
 condV v1 (fun _=>
 indexAtK P 42 (E2.get t 0) (E2.get t 13) fun v6=>
 loadK P (G K) H 3 v6 fun v7=>
 indexAtK P 42 (E2.get t 1) (E2.get t 13) fun v10=>
 loadK P (G K) H 3 v10 fun v11=>
 binK P .neq 3 false v7 v11 fun v12=>
 condV v12 (fun _=>
 k .ret ⟨(es t [(14,v1),(15,(E2.get t 13)),(5,(E2.get t 13)),(16,(E2.get t 0)),(17,(E2.get t 13)),(18,v6),(19,v7),(20,(E2.get t 1)),(21,(E2.get t 13)),(22,v10),(23,v11),(24,v12),(4,(.bool false))]),dm⟩ H) (fun _=>
 binK P .add 3 true (E2.get t 13) (.int .i64 1) fun v14=>
 k .normal ⟨(es t [(14,v1),(15,(E2.get t 13)),(5,(E2.get t 13)),(16,(E2.get t 0)),(17,(E2.get t 13)),(18,v6),(19,v7),(20,(E2.get t 1)),(21,(E2.get t 13)),(22,v10),(23,v11),(24,v12),(25,v14),(13,v14)]),dm⟩ H)) (fun _=>
 k (.exit 0) ⟨(es t [(14,v1)]),dm⟩ H)):=of_fun fun f=>by kernel_rfl
theorem h52 (a0 a1:AV) (H:Hp) (k:AEnd→Hp→Bool):callBody P (G K) ⟨cd P (G K) 200,callS P (G K)⟩ 52 [a0,a1] H k=
 (let n0:AEx→En→Hp→Bool:=fun x e H=>bodyEnd P (G K) Tryz.f52 ⟨cd P (G K) 200,callS P (G K)⟩ k x e H;
 Hp.new H (.cells (some 47) false (AV.cells a0)) fun b1 H1=>
 Hp.new H1 (.cells (some 47) false (AV.cells a1)) fun b2 H2=>
 cd P (G K) 198 52 (subC 52 [1,0]) none ⟨(es E2.empty [(0,a0),(1,a1),(2,(.ptr b1 0)),(3,(.ptr b2 0)),(4,(.bool false))]),[]⟩ H2 fun x e H=>isNormal x (fun _=>cd P (G K) 198 52 (subC 52 [1,1]) none e H fun x e H=>n0 x e H) (fun x=>n0 x e H)):=by kernel_rfl
theorem r52 (t:E2) (H:Hp) (k:AEnd→Hp→Bool) (i:Evs):bodyEnd P (G K) Tryz.f52 i k .ret ⟨t,[]⟩ H=k (.ret (E2.get t 4)) H:=by kernel_rfl
theorem h52_0 (dm:List Dm) (ro:Option Nat) (H:Hp) (k:AEx→En→Hp→Bool):∀(t:E2),cd P (G K) 198 52 (subC 52 [1,0]) ro ⟨t,dm⟩ H k=
 (ptrPlus (E2.get t 2) 0 fun v1=>
 loadK P (G K) H 30 v1 fun v2=>
 ptrPlus (E2.get t 3) 0 fun v3=>
 loadK P (G K) H 30 v3 fun v4=>
 binK P .eql 30 false v2 v4 fun v5=>
 gJoin (boolIs true v5) (fun v7 H7=>
 gJoin (boolIs true v5) (fun v8 H8=>
 gJoin (boolIs true v5) (fun v9 H9=>
 gJoin (boolIs true v5) (fun v10 H10=>
 gJoin (boolIs true v5) (fun v11 H11=>
 pickV v5 v11 (.bool false) fun v12=>
 gJoin (boolIs true v12) (fun v14 H14=>
 gJoin (boolIs true v12) (fun v15 H15=>
 gJoin (boolIs true v12) (fun v16 H16=>
 gJoin (boolIs true v12) (fun v17 H17=>
 gJoin (boolIs true v12) (fun v18 H18=>
 pickV v12 v18 (.bool false) fun v19=>
 gJoin (boolIs true v19) (fun v21 H21=>
 gJoin (boolIs true v19) (fun v22 H22=>
 gJoin (boolIs true v19) (fun v23 H23=>
 gJoin (boolIs true v19) (fun v24 H24=>
 gJoin (boolIs true v19) (fun v25 H25=>
 pickV v19 v25 (.bool false) fun v26=>
 gJoin (boolIs true v26) (fun v28 H28=>
 gJoin (boolIs true v26) (fun v29 H29=>
 gJoin (boolIs true v26) (fun v30 H30=>
 gJoin (boolIs true v26) (fun v31 H31=>
 gJoin (boolIs true v26) (fun v32 H32=>
 pickV v26 v32 (.bool false) fun v33=>
 gJoin (boolIs true v33) (fun v35 H35=>
 gJoin (boolIs true v33) (fun v36 H36=>
 gJoin (boolIs true v33) (fun v37 H37=>
 gJoin (boolIs true v33) (fun v38 H38=>
 gJoin (boolIs true v33) (fun v39 H39=>
 pickV v33 v39 (.bool false) fun v40=>
 gJoin (boolIs true v40) (fun v42 H42=>
 gJoin (boolIs true v40) (fun v43 H43=>
 gJoin (boolIs true v40) (fun v44 H44=>
 gJoin (boolIs true v40) (fun v45 H45=>
 gJoin (boolIs true v40) (fun v46 H46=>
 pickV v40 v46 (.bool false) fun v47=>
 k .normal ⟨(es t [(5,v1),(6,v2),(7,v3),(8,v4),(9,v5),(10,v5),(11,v7),(12,v8),(13,v9),(14,v10),(15,v11),(16,v12),(17,v12),(18,v14),(19,v15),(20,v16),(21,v17),(22,v18),(23,v19),(24,v19),(25,v21),(26,v22),(27,v23),(28,v24),(29,v25),(30,v26),(31,v26),(32,v28),(33,v29),(34,v30),(35,v31),(36,v32),(37,v33),(38,v33),(39,v35),(40,v36),(41,v37),(42,v38),(43,v39),(44,v40),(45,v40),(46,v42),(47,v43),(48,v44),(49,v45),(50,v46),(51,v47),(4,v47)]),dm⟩ H46) (fun r46=>cl P (G K) 83 [v43,v45] H45 fun v49 H49=>
 r46 v49 H49) H45) (fun r45=>loadK P (G K) H44 43 v44 fun v50=>
 r45 v50 H44) H44) (fun r44=>ptrPlus (E2.get t 3) 12 fun v51=>
 r44 v51 H43) H43) (fun r43=>loadK P (G K) H42 43 v42 fun v52=>
 r43 v52 H42) H42) (fun r42=>ptrPlus (E2.get t 2) 12 fun v53=>
 r42 v53 H39) H39) (fun r39=>cl P (G K) 51 [v36,v38] H38 fun v54 H54=>
 r39 v54 H54) H38) (fun r38=>loadK P (G K) H37 42 v37 fun v55=>
 r38 v55 H37) H37) (fun r37=>ptrPlus (E2.get t 3) 11 fun v56=>
 r37 v56 H36) H36) (fun r36=>loadK P (G K) H35 42 v35 fun v57=>
 r36 v57 H35) H35) (fun r35=>ptrPlus (E2.get t 2) 11 fun v58=>
 r35 v58 H32) H32) (fun r32=>binK P .eql 3 false v29 v31 fun v59=>
 r32 v59 H31) H31) (fun r31=>loadK P (G K) H30 3 v30 fun v60=>
 r31 v60 H30) H30) (fun r30=>ptrPlus (E2.get t 3) 10 fun v61=>
 r30 v61 H29) H29) (fun r29=>loadK P (G K) H28 3 v28 fun v62=>
 r29 v62 H28) H28) (fun r28=>ptrPlus (E2.get t 2) 10 fun v63=>
 r28 v63 H25) H25) (fun r25=>binK P .eql 23 false v22 v24 fun v64=>
 r25 v64 H24) H24) (fun r24=>loadK P (G K) H23 23 v23 fun v65=>
 r24 v65 H23) H23) (fun r23=>ptrPlus (E2.get t 3) 8 fun v66=>
 r23 v66 H22) H22) (fun r22=>loadK P (G K) H21 23 v21 fun v67=>
 r22 v67 H21) H21) (fun r21=>ptrPlus (E2.get t 2) 8 fun v68=>
 r21 v68 H18) H18) (fun r18=>binK P .eql 41 false v15 v17 fun v69=>
 r18 v69 H17) H17) (fun r17=>loadK P (G K) H16 41 v16 fun v70=>
 r17 v70 H16) H16) (fun r16=>ptrPlus (E2.get t 3) 2 fun v71=>
 r16 v71 H15) H15) (fun r15=>loadK P (G K) H14 41 v14 fun v72=>
 r15 v72 H14) H14) (fun r14=>ptrPlus (E2.get t 2) 2 fun v73=>
 r14 v73 H11) H11) (fun r11=>binK P .eql 4 false v8 v10 fun v74=>
 r11 v74 H10) H10) (fun r10=>loadK P (G K) H9 4 v9 fun v75=>
 r10 v75 H9) H9) (fun r9=>ptrPlus (E2.get t 3) 1 fun v76=>
 r9 v76 H8) H8) (fun r8=>loadK P (G K) H7 4 v7 fun v77=>
 r8 v77 H7) H7) (fun r7=>ptrPlus (E2.get t 2) 1 fun v78=>
 r7 v78 H) H):=of_fun fun f=>by kernel_rfl
theorem h52_1 (dm:List Dm) (ro:Option Nat) (H:Hp) (k:AEx→En→Hp→Bool):∀(t:E2),cd P (G K) 198 52 (subC 52 [1,1]) ro ⟨t,dm⟩ H k=
 (k .ret ⟨t,dm⟩ H):=of_fun fun f=>by kernel_rfl
theorem h53 (a0 a1 a2:AV) (H:Hp) (k:AEnd→Hp→Bool):callBody P (G K) ⟨cd P (G K) 200,callS P (G K)⟩ 53 [a0,a1,a2] H k=
 (let n0:AEx→En→Hp→Bool:=fun x e H=>bodyEnd P (G K) Tryz.f53 ⟨cd P (G K) 200,callS P (G K)⟩ k x e H;
 lenK P 44 a0 H fun v3=>
 lenK P 44 a1 H fun v5=>
 binK P .neq 3 false v3 v5 fun v6=>
 condV v6 (fun _=>
 n0 .ret ⟨(es E2.empty [(0,a0),(1,a1),(2,a2),(10,a0),(11,v3),(12,a1),(13,v5),(14,v6),(6,(.bool false))]),[]⟩ H) (fun _=>
 let n8:AEx→En→Hp→Bool:=fun x e H=>isNormal x (fun _=>cd P (G K) 197 32 (subC 53 [1,1,1]) none e H fun x e H=>n0 x e H) (fun x=>n0 x e H);
 lenK P 44 a0 H fun v10=>
 semC P (G K) 32 (.loop (subC 53 [1,1,0,1,0])) none ⟨(es E2.empty [(0,a0),(1,a1),(2,a2),(6,(.bool false)),(10,a0),(11,v3),(12,a1),(13,v5),(14,v6),(15,a0),(16,v10),(17,(.int .i64 0))]),[]⟩ H fun x e12 H12=>isExit 0 x (fun _=>n8 .normal e12 H12) (fun x=>n8 x e12 H12))):=by kernel_rfl
theorem r53 (t:E2) (H:Hp) (k:AEnd→Hp→Bool) (i:Evs):bodyEnd P (G K) Tryz.f53 i k .ret ⟨t,[]⟩ H=k (.ret (E2.get t 6)) H:=by kernel_rfl
theorem h53_0 (dm:List Dm) (ro:Option Nat) (H:Hp) (k:AEx→En→Hp→Bool):∀(t:E2),cd P (G K) 197 32 (subC 53 [1,1,1]) ro ⟨t,dm⟩ H k=
 (k .ret ⟨(es t [(6,(.bool true))]),dm⟩ H):=of_fun fun f=>by kernel_rfl
theorem h53_1 (dm:List Dm) (ro:Option Nat) (H:Hp) (k:AEx→En→Hp→Bool):∀(t:E2),cd P (G K) 200 32 (subC 53 [1,1,0,1,0]) ro ⟨t,dm⟩ H k=
 (binK P .lss 3 false (E2.get t 17) (E2.get t 16) fun v1=>
 condV v1 (fun _=>
 indexAtK P 44 (E2.get t 15) (E2.get t 17) fun v3=>
 loadK P (G K) H 72 v3 fun v4=>
 Hp.new H (.cells (some 72) false [.nils, .nils]) fun b5 H5=>
 storeK P H5 72 (.ptr b5 0) v4 fun H7=>
 indexAtK P 44 (E2.get t 1) (E2.get t 17) fun v10=>
 loadK P (G K) H7 72 v10 fun v11=>
 Hp.new H7 (.cells (some 72) false [.nils, .nils]) fun b12 H12=>
 storeK P H12 72 (.ptr b12 0) v11 fun H13=>
 loadK P (G K) H13 72 (.ptr b5 0) fun v15=>
 loadK P (G K) H13 72 (.ptr b12 0) fun v16=>
 clv P (G K) 192 (E2.get t 2) [v15,v16] H13 fun v17 H17=>
 unK .not v17 fun v18=>
 condV v18 (fun _=>
 k .ret ⟨(es t [(18,v1),(19,(E2.get t 17)),(20,v3),(21,v4),(8,(.ptr b5 0)),(7,(E2.get t 17)),(22,(E2.get t 1)),(23,(E2.get t 17)),(24,v10),(25,v11),(9,(.ptr b12 0)),(26,(E2.get t 2)),(27,v15),(28,v16),(29,v17),(30,v18),(6,(.bool false))]),dm⟩ H17) (fun _=>
 binK P .add 3 true (E2.get t 17) (.int .i64 1) fun v20=>
 k .normal ⟨(es t [(18,v1),(19,(E2.get t 17)),(20,v3),(21,v4),(8,(.ptr b5 0)),(7,(E2.get t 17)),(22,(E2.get t 1)),(23,(E2.get t 17)),(24,v10),(25,v11),(9,(.ptr b12 0)),(26,(E2.get t 2)),(27,v15),(28,v16),(29,v17),(30,v18),(31,v20),(17,v20)]),dm⟩ H17)) (fun _=>
 k (.exit 0) ⟨(es t [(18,v1)]),dm⟩ H)):=of_fun fun f=>by kernel_rfl
theorem h54 (a0 a1 a2:AV) (H:Hp) (k:AEnd→Hp→Bool):callBody P (G K) ⟨cd P (G K) 200,callS P (G K)⟩ 54 [a0,a1,a2] H k=
 (let n0:AEx→En→Hp→Bool:=fun x e H=>bodyEnd P (G K) Tryz.f54 ⟨cd P (G K) 200,callS P (G K)⟩ k x e H;
 lenK P 45 a0 H fun v3=>
 lenK P 45 a1 H fun v5=>
 binK P .neq 3 false v3 v5 fun v6=>
 condV v6 (fun _=>
 n0 .ret ⟨(es E2.empty [(0,a0),(1,a1),(2,a2),(10,a0),(11,v3),(12,a1),(13,v5),(14,v6),(6,(.bool false))]),[]⟩ H) (fun _=>
 let n8:AEx→En→Hp→Bool:=fun x e H=>isNormal x (fun _=>cd P (G K) 197 32 (subC 54 [1,1,1]) none e H fun x e H=>n0 x e H) (fun x=>n0 x e H);
 lenK P 45 a0 H fun v10=>
 semC P (G K) 32 (.loop (subC 54 [1,1,0,1,0])) none ⟨(es E2.empty [(0,a0),(1,a1),(2,a2),(6,(.bool false)),(10,a0),(11,v3),(12,a1),(13,v5),(14,v6),(15,a0),(16,v10),(17,(.int .i64 0))]),[]⟩ H fun x e12 H12=>isExit 0 x (fun _=>n8 .normal e12 H12) (fun x=>n8 x e12 H12))):=by kernel_rfl
theorem r54 (t:E2) (H:Hp) (k:AEnd→Hp→Bool) (i:Evs):bodyEnd P (G K) Tryz.f54 i k .ret ⟨t,[]⟩ H=k (.ret (E2.get t 6)) H:=by kernel_rfl
theorem h54_0 (dm:List Dm) (ro:Option Nat) (H:Hp) (k:AEx→En→Hp→Bool):∀(t:E2),cd P (G K) 197 32 (subC 54 [1,1,1]) ro ⟨t,dm⟩ H k=
 (k .ret ⟨(es t [(6,(.bool true))]),dm⟩ H):=of_fun fun f=>by kernel_rfl
theorem h54_1 (dm:List Dm) (ro:Option Nat) (H:Hp) (k:AEx→En→Hp→Bool):∀(t:E2),cd P (G K) 200 32 (subC 54 [1,1,0,1,0]) ro ⟨t,dm⟩ H k=
 (binK P .lss 3 false (E2.get t 17) (E2.get t 16) fun v1=>
 condV v1 (fun _=>
 indexAtK P 45 (E2.get t 15) (E2.get t 17) fun v3=>
 loadK P (G K) H 91 v3 fun v4=>
 indexAtK P 45 (E2.get t 1) (E2.get t 17) fun v9=>
 loadK P (G K) H 91 v9 fun v10=>
 clv P (G K) 192 (E2.get t 2) [v4,v10] H fun v15 H15=>
 unK .not v15 fun v16=>
 condV v16 (fun _=>
 k .ret ⟨(es t [(18,v1),(19,(E2.get t 17)),(20,v3),(21,v4),(7,(E2.get t 17)),(8,v4),(22,(E2.get t 1)),(23,(E2.get t 17)),(24,v9),(25,v10),(9,v10),(26,(E2.get t 2)),(27,v4),(28,v10),(29,v15),(30,v16),(6,(.bool false))]),dm⟩ H15) (fun _=>
 binK P .add 3 true (E2.get t 17) (.int .i64 1) fun v18=>
 k .normal ⟨(es t [(18,v1),(19,(E2.get t 17)),(20,v3),(21,v4),(7,(E2.get t 17)),(8,v4),(22,(E2.get t 1)),(23,(E2.get t 17)),(24,v9),(25,v10),(9,v10),(26,(E2.get t 2)),(27,v4),(28,v10),(29,v15),(30,v16),(31,v18),(17,v18)]),dm⟩ H15)) (fun _=>
 k (.exit 0) ⟨(es t [(18,v1)]),dm⟩ H)):=of_fun fun f=>by kernel_rfl
theorem h55 (a0 a1:AV) (H:Hp) (k:AEnd→Hp→Bool):callBody P (G K) ⟨cd P (G K) 200,callS P (G K)⟩ 55 [a0,a1] H k=
 (let n0:AEx→En→Hp→Bool:=fun x e H=>bodyEnd P (G K) Tryz.f55 ⟨cd P (G K) 200,callS P (G K)⟩ k x e H;
 lenK P 91 a0 H fun v3=>
 lenK P 91 a1 H fun v5=>
 binK P .neq 3 false v3 v5 fun v6=>
 condV v6 (fun _=>
 n0 .ret ⟨(es E2.empty [(0,a0),(1,a1),(6,a0),(7,v3),(8,a1),(9,v5),(10,v6),(4,(.bool false))]),[]⟩ H) (fun _=>
 let n8:AEx→En→Hp→Bool:=fun x e H=>isNormal x (fun _=>cd P (G K) 197 26 (subC 55 [1,1,1]) none e H fun x e H=>n0 x e H) (fun x=>n0 x e H);
 lenK P 91 a0 H fun v10=>
 semC P (G K) 26 (.loop (subC 55 [1,1,0,1,0])) none ⟨(es E2.empty [(0,a0),(1,a1),(4,(.bool false)),(6,a0),(7,v3),(8,a1),(9,v5),(10,v6),(11,a0),(12,v10),(13,(.int .i64 0))]),[]⟩ H fun x e12 H12=>isExit 0 x (fun _=>n8 .normal e12 H12) (fun x=>n8 x e12 H12))):=by kernel_rfl
theorem r55 (t:E2) (H:Hp) (k:AEnd→Hp→Bool) (i:Evs):bodyEnd P (G K) Tryz.f55 i k .ret ⟨t,[]⟩ H=k (.ret (E2.get t 4)) H:=by kernel_rfl
theorem h55_0 (dm:List Dm) (ro:Option Nat) (H:Hp) (k:AEx→En→Hp→Bool):∀(t:E2),cd P (G K) 197 26 (subC 55 [1,1,1]) ro ⟨t,dm⟩ H k=
 (k .ret ⟨(es t [(4,(.bool true))]),dm⟩ H):=of_fun fun f=>by kernel_rfl
theorem h55_1 (dm:List Dm) (ro:Option Nat) (H:Hp) (k:AEx→En→Hp→Bool):∀(t:E2),cd P (G K) 200 26 (subC 55 [1,1,0,1,0]) ro ⟨t,dm⟩ H k=
 (binK P .lss 3 false (E2.get t 13) (E2.get t 12) fun v1=>
 condV v1 (fun _=>
 indexAtK P 91 (E2.get t 0) (E2.get t 13) fun v6=>
 loadK P (G K) H 100 v6 fun v7=>
 indexAtK P 91 (E2.get t 1) (E2.get t 13) fun v10=>
 loadK P (G K) H 100 v10 fun v11=>
 binK P .neq 100 false v7 v11 fun v12=>
 condV v12 (fun _=>
 k .ret ⟨(es t [(14,v1),(15,(E2.get t 13)),(5,(E2.get t 13)),(16,(E2.get t 0)),(17,(E2.get t 13)),(18,v6),(19,v7),(20,(E2.get t 1)),(21,(E2.get t 13)),(22,v10),(23,v11),(24,v12),(4,(.bool false))]),dm⟩ H) (fun _=>
 binK P .add 3 true (E2.get t 13) (.int .i64 1) fun v14=>
 k .normal ⟨(es t [(14,v1),(15,(E2.get t 13)),(5,(E2.get t 13)),(16,(E2.get t 0)),(17,(E2.get t 13)),(18,v6),(19,v7),(20,(E2.get t 1)),(21,(E2.get t 13)),(22,v10),(23,v11),(24,v12),(25,v14),(13,v14)]),dm⟩ H)) (fun _=>
 k (.exit 0) ⟨(es t [(14,v1)]),dm⟩ H)):=of_fun fun f=>by kernel_rfl
theorem h56 (a0 a1:AV) (H:Hp) (k:AEnd→Hp→Bool):callBody P (G K) ⟨cd P (G K) 200,callS P (G K)⟩ 56 [a0,a1] H k=
 (let n0:AEx→En→Hp→Bool:=fun x e H=>bodyEnd P (G K) Tryz.f56 ⟨cd P (G K) 200,callS P (G K)⟩ k x e H;
 Hp.new H (.cells (some 72) false (AV.cells a0)) fun b1 H1=>
 Hp.new H1 (.cells (some 72) false (AV.cells a1)) fun b2 H2=>
 cd P (G K) 198 17 (subC 56 [1,0]) none ⟨(es E2.empty [(0,a0),(1,a1),(2,(.ptr b1 0)),(3,(.ptr b2 0)),(4,(.bool false))]),[]⟩ H2 fun x e H=>isNormal x (fun _=>cd P (G K) 198 17 (subC 56 [1,1]) none e H fun x e H=>n0 x e H) (fun x=>n0 x e H)):=by kernel_rfl
theorem r56 (t:E2) (H:Hp) (k:AEnd→Hp→Bool) (i:Evs):bodyEnd P (G K) Tryz.f56 i k .ret ⟨t,[]⟩ H=k (.ret (E2.get t 4)) H:=by kernel_rfl
theorem h56_0 (dm:List Dm) (ro:Option Nat) (H:Hp) (k:AEx→En→Hp→Bool):∀(t:E2),cd P (G K) 198 17 (subC 56 [1,0]) ro ⟨t,dm⟩ H k=
 (ptrPlus (E2.get t 2) 0 fun v1=>
 loadK P (G K) H 70 v1 fun v2=>
 ptrPlus (E2.get t 3) 0 fun v3=>
 loadK P (G K) H 70 v3 fun v4=>
 cl P (G K) 84 [v2,v4] H fun v5 H5=>
 gJoin (boolIs true v5) (fun v7 H7=>
 gJoin (boolIs true v5) (fun v8 H8=>
 gJoin (boolIs true v5) (fun v9 H9=>
 gJoin (boolIs true v5) (fun v10 H10=>
 gJoin (boolIs true v5) (fun v11 H11=>
 pickV v5 v11 (.bool false) fun v12=>
 k .normal ⟨(es t [(5,v1),(6,v2),(7,v3),(8,v4),(9,v5),(10,v5),(11,v7),(12,v8),(13,v9),(14,v10),(15,v11),(16,v12),(4,v12)]),dm⟩ H11) (fun r11=>cl P (G K) 58 [v8,v10] H10 fun v14 H14=>
 r11 v14 H14) H10) (fun r10=>loadK P (G K) H9 42 v9 fun v15=>
 r10 v15 H9) H9) (fun r9=>ptrPlus (E2.get t 3) 1 fun v16=>
 r9 v16 H8) H8) (fun r8=>loadK P (G K) H7 42 v7 fun v17=>
 r8 v17 H7) H7) (fun r7=>ptrPlus (E2.get t 2) 1 fun v18=>
 r7 v18 H5) H5):=of_fun fun f=>by kernel_rfl
theorem h56_1 (dm:List Dm) (ro:Option Nat) (H:Hp) (k:AEx→En→Hp→Bool):∀(t:E2),cd P (G K) 198 17 (subC 56 [1,1]) ro ⟨t,dm⟩ H k=
 (k .ret ⟨t,dm⟩ H):=of_fun fun f=>by kernel_rfl
theorem h57 (a0 a1:AV) (H:Hp) (k:AEnd→Hp→Bool):callBody P (G K) ⟨cd P (G K) 200,callS P (G K)⟩ 57 [a0,a1] H k=
 (let n0:AEx→En→Hp→Bool:=fun x e H=>bodyEnd P (G K) Tryz.f57 ⟨cd P (G K) 200,callS P (G K)⟩ k x e H;
 lenK P 91 a0 H fun v3=>
 lenK P 91 a1 H fun v5=>
 binK P .neq 3 false v3 v5 fun v6=>
 condV v6 (fun _=>
 n0 .ret ⟨(es E2.empty [(0,a0),(1,a1),(6,a0),(7,v3),(8,a1),(9,v5),(10,v6),(4,(.bool false))]),[]⟩ H) (fun _=>
 let n8:AEx→En→Hp→Bool:=fun x e H=>isNormal x (fun _=>cd P (G K) 197 26 (subC 57 [1,1,1]) none e H fun x e H=>n0 x e H) (fun x=>n0 x e H);
 semC P (G K) 26 (.loop (subC 57 [1,1,0,1,0])) none ⟨(es E2.empty [(0,a0),(1,a1),(4,(.bool false)),(6,a0),(7,v3),(8,a1),(9,v5),(10,v6),(5,(.int .i64 0))]),[]⟩ H fun x e10 H10=>isExit 0 x (fun _=>n8 .normal e10 H10) (fun x=>n8 x e10 H10))):=by kernel_rfl
theorem r57 (t:E2) (H:Hp) (k:AEnd→Hp→Bool) (i:Evs):bodyEnd P (G K) Tryz.f57 i k .ret ⟨t,[]⟩ H=k (.ret (E2.get t 4)) H:=by kernel_rfl
theorem h57_0 (dm:List Dm) (ro:Option Nat) (H:Hp) (k:AEx→En→Hp→Bool):∀(t:E2),cd P (G K) 197 26 (subC 57 [1,1,1]) ro ⟨t,dm⟩ H k=
 (k .ret ⟨(es t [(4,(.bool true))]),dm⟩ H):=of_fun fun f=>by kernel_rfl
theorem h57_1 (dm:List Dm) (ro:Option Nat) (H:Hp) (k:AEx→En→Hp→Bool):∀(t:E2),cd P (G K) 200 26 (subC 57 [1,1,0,1,0]) ro ⟨t,dm⟩ H k=
 (lenK P 91 (E2.get t 0) H fun v3=>
 binK P .lss 3 false (E2.get t 5) v3 fun v4=>
 condV v4 (fun _=>
 indexAtK P 91 (E2.get t 0) (E2.get t 5) fun v7=>
 loadK P (G K) H 100 v7 fun v8=>
 indexAtK P 91 (E2.get t 1) (E2.get t 5) fun v11=>
 loadK P (G K) H 100 v11 fun v12=>
 binK P .neq 100 false v8 v12 fun v13=>
 condV v13 (fun _=>
 k .ret ⟨(es t [(11,(E2.get t 5)),(12,(E2.get t 0)),(13,v3),(14,v4),(17,(E2.get t 0)),(18,(E2.get t 5)),(19,v7),(20,v8),(21,(E2.get t 1)),(22,(E2.get t 5)),(23,v11),(24,v12),(25,v13),(4,(.bool false))]),dm⟩ H) (fun _=>
 binK P .add 3 true (E2.get t 5) (.int .i64 1) fun v16=>
 k .normal ⟨(es t [(11,(E2.get t 5)),(12,(E2.get t 0)),(13,v3),(14,v4),(17,(E2.get t 0)),(18,(E2.get t 5)),(19,v7),(20,v8),(21,(E2.get t 1)),(22,(E2.get t 5)),(23,v11),(24,v12),(25,v13),(15,(E2.get t 5)),(16,v16),(5,v16)]),dm⟩ H)) (fun _=>
 k (.exit 0) ⟨(es t [(11,(E2.get t 5)),(12,(E2.get t 0)),(13,v3),(14,v4)]),dm⟩ H)):=of_fun fun f=>by kernel_rfl
end
end Go.S9
