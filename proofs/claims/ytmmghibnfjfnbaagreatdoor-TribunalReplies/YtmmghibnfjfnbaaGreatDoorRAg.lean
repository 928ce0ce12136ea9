/- A part of the proof of TribunalReplies. -/
import Derived.Test.YtmmghibnfjfnbaaGreatDoorRAd
set_option linter.unusedVariables false
set_option linter.unusedSimpArgs false
namespace Go.S9
open Go.Ev Go.Proofs
set_option maxRecDepth 1000000
set_option linter.unusedVariables false
noncomputable section
variable {K : Int}
theorem h16 (a0 a1:AV) (H:Hp) (k:AEnd→Hp→Bool):callBody P (G K) ⟨cd P (G K) 200,callS P (G K)⟩ 16 [a0,a1] H k=
 (let n0:AEx→En→Hp→Bool:=fun x e H=>bodyEnd P (G K) Tryz.f16 ⟨cd P (G K) 200,callS P (G K)⟩ k x e H;
 Hp.new H (.cells (some 47) false (AV.cells a0)) fun b1 H1=>
 Hp.new H1 (.cells (some 47) false (AV.cells a1)) fun b2 H2=>
 cd P (G K) 197 24 (subC 16 [1,1,0]) none ⟨(es E2.empty [(0,a0),(1,a1),(2,(.ptr b1 0)),(3,(.ptr b2 0)),(4,(.bool false)),(5,(.fn 49 [] []))]),[]⟩ H2 fun x e H=>isNormal x (fun _=>cd P (G K) 197 24 (subC 16 [1,1,1]) none e H fun x e H=>n0 x e H) (fun x=>n0 x e H)):=by kernel_rfl
theorem r16 (t:E2) (H:Hp) (k:AEnd→Hp→Bool) (i:Evs):bodyEnd P (G K) Tryz.f16 i k .ret ⟨t,[]⟩ H=k (.ret (E2.get t 4)) H:=by kernel_rfl
theorem h16_0 (dm:List Dm) (ro:Option Nat) (H:Hp) (k:AEx→En→Hp→Bool):∀(t:E2),cd P (G K) 197 24 (subC 16 [1,1,0]) ro ⟨t,dm⟩ H k=
 (loadK P (G K) H 47 (E2.get t 2) fun v1=>
 loadK P (G K) H 47 (E2.get t 3) fun v2=>
 cl P (G K) 52 [v1,v2] H fun v3 H3=>
 gJoin (boolIs true v3) (fun v5 H5=>
 gJoin (boolIs true v3) (fun v6 H6=>
 gJoin (boolIs true v3) (fun v7 H7=>
 gJoin (boolIs true v3) (fun v8 H8=>
 gJoin (boolIs true v3) (fun v9 H9=>
 gJoin (boolIs true v3) (fun v10 H10=>
 pickV v3 v10 (.bool false) fun v11=>
 gJoin (boolIs true v11) (fun v13 H13=>
 gJoin (boolIs true v11) (fun v14 H14=>
 gJoin (boolIs true v11) (fun v15 H15=>
 gJoin (boolIs true v11) (fun v16 H16=>
 gJoin (boolIs true v11) (fun v17 H17=>
 pickV v11 v17 (.bool false) fun v18=>
 k .normal ⟨(es t [(6,v1),(7,v2),(8,v3),(9,v3),(10,v5),(11,v6),(12,v7),(13,v8),(14,v9),(15,v10),(16,v11),(17,v11),(18,v13),(19,v14),(20,v15),(21,v16),(22,v17),(23,v18),(4,v18)]),dm⟩ H17) (fun r17=>cl P (G K) 54 [v14,v16,(.fn 55 [] [])] H16 fun v20 H20=>
 r17 v20 H20) H16) (fun r16=>loadK P (G K) H15 45 v15 fun v21=>
 r16 v21 H15) H15) (fun r15=>ptrPlus (E2.get t 3) 14 fun v22=>
 r15 v22 H14) H14) (fun r14=>loadK P (G K) H13 45 v13 fun v23=>
 r14 v23 H13) H13) (fun r13=>ptrPlus (E2.get t 2) 14 fun v24=>
 r13 v24 H10) H10) (fun r10=>cl P (G K) 53 [v6,v8,v9] H9 fun v25 H25=>
 r10 v25 H25) H9) (fun r9=>r9 (E2.get t 5) H8) H8) (fun r8=>loadK P (G K) H7 44 v7 fun v27=>
 r8 v27 H7) H7) (fun r7=>ptrPlus (E2.get t 3) 13 fun v28=>
 r7 v28 H6) H6) (fun r6=>loadK P (G K) H5 44 v5 fun v29=>
 r6 v29 H5) H5) (fun r5=>ptrPlus (E2.get t 2) 13 fun v30=>
 r5 v30 H3) H3):=of_fun fun f=>by kernel_rfl
theorem h16_1 (dm:List Dm) (ro:Option Nat) (H:Hp) (k:AEx→En→Hp→Bool):∀(t:E2),cd P (G K) 197 24 (subC 16 [1,1,1]) ro ⟨t,dm⟩ H k=
 (k .ret ⟨t,dm⟩ H):=of_fun fun f=>by kernel_rfl
theorem h17 (a0 a1:AV) (H:Hp) (k:AEnd→Hp→Bool):callBody P (G K) ⟨cd P (G K) 200,callS P (G K)⟩ 17 [a0,a1] H k=
 (let n0:AEx→En→Hp→Bool:=fun x e H=>bodyEnd P (G K) Tryz.f17 ⟨cd P (G K) 200,callS P (G K)⟩ k x e H;
 Hp.new H (.cells (some 47) false (AV.cells a0)) fun b1 H1=>
 Hp.new H1 (.cells (some 47) false (AV.cells a1)) fun b2 H2=>
 cd P (G K) 198 108 (subC 17 [1,0]) none ⟨(es E2.empty [(0,a0),(1,a1),(2,(.ptr b1 0)),(3,(.ptr b2 0)),(4,(.bool false))]),[]⟩ H2 fun x e H=>isNormal x (fun _=>cd P (G K) 198 108 (subC 17 [1,1]) none e H fun x e H=>n0 x e H) (fun x=>n0 x e H)):=by kernel_rfl
theorem r17 (t:E2) (H:Hp) (k:AEnd→Hp→Bool) (i:Evs):bodyEnd P (G K) Tryz.f17 i k .ret ⟨t,[]⟩ H=k (.ret (E2.get t 4)) H:=by kernel_rfl
theorem h17_0 (dm:List Dm) (ro:Option Nat) (H:Hp) (k:AEx→En→Hp→Bool):∀(t:E2),cd P (G K) 198 108 (subC 17 [1,0]) ro ⟨t,dm⟩ H k=
 (cd P (G K) 197 108 (subC 17 [1,0,0]) ro ⟨t,dm⟩ H fun x e H=>isNormal x (fun _=>cd P (G K) 197 108 (subC 17 [1,0,1]) ro e H fun x e H=>k x e H) (fun x=>k x e H)):=of_fun fun f=>by kernel_rfl
theorem h17_1 (dm:List Dm) (ro:Option Nat) (H:Hp) (k:AEx→En→Hp→Bool):∀(t:E2),cd P (G K) 198 108 (subC 17 [1,1]) ro ⟨t,dm⟩ H k=
 (let n1:AEx→En→Hp→Bool:=fun x e H=>isNormal x (fun _=>cd P (G K) 197 108 (subC 17 [1,1,1]) ro e H fun x e H=>k x e H) (fun x=>k x e H);
 semC P (G K) 108 (.loop (subC 17 [1,1,0,1,0])) ro ⟨(es t [(5,(.int .i64 0))]),dm⟩ H fun x e3 H3=>isExit 0 x (fun _=>n1 .normal e3 H3) (fun x=>n1 x e3 H3)):=of_fun fun f=>by kernel_rfl
theorem h17_2 (dm:List Dm) (ro:Option Nat) (H:Hp) (k:AEx→En→Hp→Bool):∀(t:E2),cd P (G K) 200 108 (subC 17 [1,1,0,1,0]) ro ⟨t,dm⟩ H k=
 (ptrPlus (E2.get t 2) 13 fun v2=>
 loadK P (G K) H 44 v2 fun v3=>
 lenK P 44 v3 H fun v4=>
 binK P .lss 3 false (E2.get t 5) v4 fun v5=>
 condV v5 (fun _=>
 ptrPlus (E2.get t 2) 13 fun v6=>
 loadK P (G K) H 44 v6 fun v7=>
 indexAtK P 44 v7 (E2.get t 5) fun v9=>
 loadK P (G K) H 72 v9 fun v10=>
 ptrPlus (E2.get t 3) 13 fun v11=>
 loadK P (G K) H 44 v11 fun v12=>
 indexAtK P 44 v12 (E2.get t 5) fun v14=>
 loadK P (G K) H 72 v14 fun v15=>
 layAnc 1023 [] H fun Q17 H17=>cl P (G K) 56 [v10,v15] H17 fun v16 H16=>
 Bool.casesOn (recheck 1023 ((9,fun H'=>loadK P (G K) H' 72 v14 fun v'=>avSame 1000 v15 v')::((6,fun H'=>loadK P (G K) H' 44 v11 fun v'=>avSame 1000 v12 v')::((4,fun H'=>loadK P (G K) H' 72 v9 fun v'=>avSame 1000 v10 v')::((1,fun H'=>loadK P (G K) H' 44 v6 fun v'=>avSame 1000 v7 v')::[])))) H16) false (unK .not v16 fun v18=>
 layAll Q17 H16 fun H19=>
 condV v18 (fun _=>
 k .ret ⟨(es t [(58,(E2.get t 5)),(59,v2),(60,v3),(61,v4),(62,v5),(65,v6),(66,v7),(67,(E2.get t 5)),(68,v9),(69,v10),(70,v11),(71,v12),(72,(E2.get t 5)),(73,v14),(74,v15),(75,v16),(76,v18),(4,(.bool false))]),dm⟩ H19) (fun _=>
 binK P .add 3 true (E2.get t 5) (.int .i64 1) fun v22=>
 k .normal ⟨(es t [(58,(E2.get t 5)),(59,v2),(60,v3),(61,v4),(62,v5),(65,v6),(66,v7),(67,(E2.get t 5)),(68,v9),(69,v10),(70,v11),(71,v12),(72,(E2.get t 5)),(73,v14),(74,v15),(75,v16),(76,v18),(63,(E2.get t 5)),(64,v22),(5,v22)]),dm⟩ H19))) (fun _=>
 k (.exit 0) ⟨(es t [(58,(E2.get t 5)),(59,v2),(60,v3),(61,v4),(62,v5)]),dm⟩ H)):=of_fun fun f=>by kernel_rfl
theorem h17_3 (dm:List Dm) (ro:Option Nat) (H:Hp) (k:AEx→En→Hp→Bool):∀(t:E2),cd P (G K) 200 108 (subC 17 [1,1,1,0,1,0]) ro ⟨t,dm⟩ H k=
 (ptrPlus (E2.get t 2) 14 fun v2=>
 loadK P (G K) H 45 v2 fun v3=>
 lenK P 45 v3 H fun v4=>
 binK P .lss 3 false (E2.get t 6) v4 fun v5=>
 condV v5 (fun _=>
 ptrPlus (E2.get t 2) 14 fun v6=>
 loadK P (G K) H 45 v6 fun v7=>
 indexAtK P 45 v7 (E2.get t 6) fun v9=>
 loadK P (G K) H 91 v9 fun v10=>
 ptrPlus (E2.get t 3) 14 fun v11=>
 loadK P (G K) H 45 v11 fun v12=>
 indexAtK P 45 v12 (E2.get t 6) fun v14=>
 loadK P (G K) H 91 v14 fun v15=>
 layAnc 1023 [] H fun Q17 H17=>cl P (G K) 57 [v10,v15] H17 fun v16 H16=>
 Bool.casesOn (recheck 1023 ((9,fun H'=>loadK P (G K) H' 91 v14 fun v'=>avSame 1000 v15 v')::((6,fun H'=>loadK P (G K) H' 45 v11 fun v'=>avSame 1000 v12 v')::((4,fun H'=>loadK P (G K) H' 91 v9 fun v'=>avSame 1000 v10 v')::((1,fun H'=>loadK P (G K) H' 45 v6 fun v'=>avSame 1000 v7 v')::[])))) H16) false (unK .not v16 fun v18=>
 layAll Q17 H16 fun H19=>
 condV v18 (fun _=>
 k .ret ⟨(es t [(77,(E2.get t 6)),(78,v2),(79,v3),(80,v4),(81,v5),(84,v6),(85,v7),(86,(E2.get t 6)),(87,v9),(88,v10),(89,v11),(90,v12),(91,(E2.get t 6)),(92,v14),(93,v15),(94,v16),(95,v18),(4,(.bool false))]),dm⟩ H19) (fun _=>
 binK P .add 3 true (E2.get t 6) (.int .i64 1) fun v22=>
 k .normal ⟨(es t [(77,(E2.get t 6)),(78,v2),(79,v3),(80,v4),(81,v5),(84,v6),(85,v7),(86,(E2.get t 6)),(87,v9),(88,v10),(89,v11),(90,v12),(91,(E2.get t 6)),(92,v14),(93,v15),(94,v16),(95,v18),(82,(E2.get t 6)),(83,v22),(6,v22)]),dm⟩ H19))) (fun _=>
 k (.exit 2) ⟨(es t [(77,(E2.get t 6)),(78,v2),(79,v3),(80,v4),(81,v5)]),dm⟩ H)):=of_fun fun f=>by kernel_rfl
theorem h17_4 (dm:List Dm) (ro:Option Nat) (H:Hp) (k:AEx→En→Hp→Bool):∀(t:E2),cd P (G K) 197 108 (subC 17 [1,0,0]) ro ⟨t,dm⟩ H k=
 (ptrPlus (E2.get t 2) 0 fun v1=>
 loadK P (G K) H 30 v1 fun v2=>
 ptrPlus (E2.get t 3) 0 fun v3=>
 loadK P (G K) H 30 v3 fun v4=>
 binK P .neq 30 false v2 v4 fun v5=>
 gJoin (boolIs false v5) (fun v7 H7=>
 gJoin (boolIs false v5) (fun v8 H8=>
 gJoin (boolIs false v5) (fun v9 H9=>
 gJoin (boolIs false v5) (fun v10 H10=>
 gJoin (boolIs false v5) (fun v11 H11=>
 pickV v5 (.bool true) v11 fun v12=>
 gJoin (boolIs false v12) (fun v14 H14=>
 gJoin (boolIs false v12) (fun v15 H15=>
 gJoin (boolIs false v12) (fun v16 H16=>
 gJoin (boolIs false v12) (fun v17 H17=>
 gJoin (boolIs false v12) (fun v18 H18=>
 pickV v12 (.bool true) v18 fun v19=>
 gJoin (boolIs false v19) (fun v21 H21=>
 gJoin (boolIs false v19) (fun v22 H22=>
 gJoin (boolIs false v19) (fun v23 H23=>
 gJoin (boolIs false v19) (fun v24 H24=>
 gJoin (boolIs false v19) (fun v25 H25=>
 pickV v19 (.bool true) v25 fun v26=>
 gJoin (boolIs false v26) (fun v28 H28=>
 gJoin (boolIs false v26) (fun v29 H29=>
 gJoin (boolIs false v26) (fun v30 H30=>
 gJoin (boolIs false v26) (fun v31 H31=>
 gJoin (boolIs false v26) (fun v32 H32=>
 pickV v26 (.bool true) v32 fun v33=>
 gJoin (boolIs false v33) (fun v35 H35=>
 gJoin (boolIs false v33) (fun v36 H36=>
 gJoin (boolIs false v33) (fun v37 H37=>
 gJoin (boolIs false v33) (fun v38 H38=>
 gJoin (boolIs false v33) (fun v39 H39=>
 gJoin (boolIs false v33) (fun v40 H40=>
 gJoin (boolIs false v33) (fun v41 H41=>
 pickV v33 (.bool true) v41 fun v42=>
 gJoin (boolIs false v42) (fun v44 H44=>
 gJoin (boolIs false v42) (fun v45 H45=>
 gJoin (boolIs false v42) (fun v46 H46=>
 gJoin (boolIs false v42) (fun v47 H47=>
 gJoin (boolIs false v42) (fun v48 H48=>
 gJoin (boolIs false v42) (fun v49 H49=>
 gJoin (boolIs false v42) (fun v50 H50=>
 pickV v42 (.bool true) v50 fun v51=>
 k .normal ⟨(es t [(7,v1),(8,v2),(9,v3),(10,v4),(11,v5),(12,v5),(13,v7),(14,v8),(15,v9),(16,v10),(17,v11),(18,v12),(19,v12),(20,v14),(21,v15),(22,v16),(23,v17),(24,v18),(25,v19),(26,v19),(27,v21),(28,v22),(29,v23),(30,v24),(31,v25),(32,v26),(33,v26),(34,v28),(35,v29),(36,v30),(37,v31),(38,v32),(39,v33),(40,v33),(41,v35),(42,v36),(43,v37),(44,v38),(45,v39),(46,v40),(47,v41),(48,v42),(49,v42),(50,v44),(51,v45),(52,v46),(53,v47),(54,v48),(55,v49),(56,v50),(57,v51)]),dm⟩ H50) (fun r50=>binK P .neq 3 false v46 v49 fun v52=>
 r50 v52 H49) H49) (fun r49=>lenK P 45 v48 H48 fun v53=>
 r49 v53 H48) H48) (fun r48=>loadK P (G K) H47 45 v47 fun v54=>
 r48 v54 H47) H47) (fun r47=>ptrPlus (E2.get t 3) 14 fun v55=>
 r47 v55 H46) H46) (fun r46=>lenK P 45 v45 H45 fun v56=>
 r46 v56 H45) H45) (fun r45=>loadK P (G K) H44 45 v44 fun v57=>
 r45 v57 H44) H44) (fun r44=>ptrPlus (E2.get t 2) 14 fun v58=>
 r44 v58 H41) H41) (fun r41=>binK P .neq 3 false v37 v40 fun v59=>
 r41 v59 H40) H40) (fun r40=>lenK P 44 v39 H39 fun v60=>
 r40 v60 H39) H39) (fun r39=>loadK P (G K) H38 44 v38 fun v61=>
 r39 v61 H38) H38) (fun r38=>ptrPlus (E2.get t 3) 13 fun v62=>
 r38 v62 H37) H37) (fun r37=>lenK P 44 v36 H36 fun v63=>
 r37 v63 H36) H36) (fun r36=>loadK P (G K) H35 44 v35 fun v64=>
 r36 v64 H35) H35) (fun r35=>ptrPlus (E2.get t 2) 13 fun v65=>
 r35 v65 H32) H32) (fun r32=>binK P .neq 3 false v29 v31 fun v66=>
 r32 v66 H31) H31) (fun r31=>loadK P (G K) H30 3 v30 fun v67=>
 r31 v67 H30) H30) (fun r30=>ptrPlus (E2.get t 3) 10 fun v68=>
 r30 v68 H29) H29) (fun r29=>loadK P (G K) H28 3 v28 fun v69=>
 r29 v69 H28) H28) (fun r28=>ptrPlus (E2.get t 2) 10 fun v70=>
 r28 v70 H25) H25) (fun r25=>binK P .neq 23 false v22 v24 fun v71=>
 r25 v71 H24) H24) (fun r24=>loadK P (G K) H23 23 v23 fun v72=>
 r24 v72 H23) H23) (fun r23=>ptrPlus (E2.get t 3) 8 fun v73=>
 r23 v73 H22) H22) (fun r22=>loadK P (G K) H21 23 v21 fun v74=>
 r22 v74 H21) H21) (fun r21=>ptrPlus (E2.get t 2) 8 fun v75=>
 r21 v75 H18) H18) (fun r18=>binK P .neq 41 false v15 v17 fun v76=>
 r18 v76 H17) H17) (fun r17=>loadK P (G K) H16 41 v16 fun v77=>
 r17 v77 H16) H16) (fun r16=>ptrPlus (E2.get t 3) 2 fun v78=>
 r16 v78 H15) H15) (fun r15=>loadK P (G K) H14 41 v14 fun v79=>
 r15 v79 H14) H14) (fun r14=>ptrPlus (E2.get t 2) 2 fun v80=>
 r14 v80 H11) H11) (fun r11=>binK P .neq 4 false v8 v10 fun v81=>
 r11 v81 H10) H10) (fun r10=>loadK P (G K) H9 4 v9 fun v82=>
 r10 v82 H9) H9) (fun r9=>ptrPlus (E2.get t 3) 1 fun v83=>
 r9 v83 H8) H8) (fun r8=>loadK P (G K) H7 4 v7 fun v84=>
 r8 v84 H7) H7) (fun r7=>ptrPlus (E2.get t 2) 1 fun v85=>
 r7 v85 H) H):=of_fun fun f=>by kernel_rfl
theorem h17_5 (dm:List Dm) (ro:Option Nat) (H:Hp) (k:AEx→En→Hp→Bool):∀(t:E2),cd P (G K) 197 108 (subC 17 [1,0,1]) ro ⟨t,dm⟩ H k=
 (condV (E2.get t 57) (fun _=>
 k .ret ⟨(es t [(4,(.bool false))]),dm⟩ H) (fun _=>
 k .normal ⟨t,dm⟩ H)):=of_fun fun f=>by kernel_rfl
theorem h17_6 (dm:List Dm) (ro:Option Nat) (H:Hp) (k:AEx→En→Hp→Bool):∀(t:E2),cd P (G K) 197 108 (subC 17 [1,1,1]) ro ⟨t,dm⟩ H k=
 (let n1:AEx→En→Hp→Bool:=fun x e H=>isNormal x (fun _=>cd P (G K) 196 108 (subC 17 [1,1,1,1]) ro e H fun x e H=>k x e H) (fun x=>k x e H);
 semC P (G K) 108 (.loop (subC 17 [1,1,1,0,1,0])) ro ⟨(es t [(6,(.int .i64 0))]),dm⟩ H fun x e3 H3=>isExit 2 x (fun _=>n1 .normal e3 H3) (fun x=>n1 x e3 H3)):=of_fun fun f=>by kernel_rfl
theorem h17_7 (dm:List Dm) (ro:Option Nat) (H:Hp) (k:AEx→En→Hp→Bool):∀(t:E2),cd P (G K) 196 108 (subC 17 [1,1,1,1]) ro ⟨t,dm⟩ H k=
 (cd P (G K) 195 108 (subC 17 [1,1,1,1,0]) ro ⟨t,dm⟩ H fun x e H=>isNormal x (fun _=>cd P (G K) 195 108 (subC 17 [1,1,1,1,1]) ro e H fun x e H=>k x e H) (fun x=>k x e H)):=of_fun fun f=>by kernel_rfl
theorem h17_8 (dm:List Dm) (ro:Option Nat) (H:Hp) (k:AEx→En→Hp→Bool):∀(t:E2),cd P (G K) 195 108 (subC 17 [1,1,1,1,0]) ro ⟨t,dm⟩ H k=
 (ptrPlus (E2.get t 2) 11 fun v1=>
 loadK P (G K) H 42 v1 fun v2=>
 ptrPlus (E2.get t 3) 11 fun v3=>
 loadK P (G K) H 42 v3 fun v4=>
 cl P (G K) 58 [v2,v4] H fun v5 H5=>
 gJoin (boolIs true v5) (fun v7 H7=>
 gJoin (boolIs true v5) (fun v8 H8=>
 gJoin (boolIs true v5) (fun v9 H9=>
 gJoin (boolIs true v5) (fun v10 H10=>
 gJoin (boolIs true v5) (fun v11 H11=>
 pickV v5 v11 (.bool false) fun v12=>
 k .normal ⟨(es t [(96,v1),(97,v2),(98,v3),(99,v4),(100,v5),(101,v5),(102,v7),(103,v8),(104,v9),(105,v10),(106,v11),(107,v12),(4,v12)]),dm⟩ H11) (fun r11=>cl P (G K) 59 [v8,v10] H10 fun v14 H14=>
 r11 v14 H14) H10) (fun r10=>loadK P (G K) H9 43 v9 fun v15=>
 r10 v15 H9) H9) (fun r9=>ptrPlus (E2.get t 3) 12 fun v16=>
 r9 v16 H8) H8) (fun r8=>loadK P (G K) H7 43 v7 fun v17=>
 r8 v17 H7) H7) (fun r7=>ptrPlus (E2.get t 2) 12 fun v18=>
 r7 v18 H5) H5):=of_fun fun f=>by kernel_rfl
theorem h17_9 (dm:List Dm) (ro:Option Nat) (H:Hp) (k:AEx→En→Hp→Bool):∀(t:E2),cd P (G K) 195 108 (subC 17 [1,1,1,1,1]) ro ⟨t,dm⟩ H k=
 (k .ret ⟨t,dm⟩ H):=of_fun fun f=>by kernel_rfl
theorem h28 (a0:AV) (H:Hp) (k:AEnd→Hp→Bool):callBody P (G K) ⟨cd P (G K) 200,callS P (G K)⟩ 28 [a0] H k=
 (Hp.new H (.cells (some 23) false (AV.cells a0)) fun b1 H1=>
 ptrPlus (.ptr b1 0) 0 fun v3=>
 loadK P (G K) H1 3 v3 fun v4=>
 ptrPlus (.ptr b1 0) 1 fun v5=>
 loadK P (G K) H1 3 v5 fun v6=>
 layAnc 3 [] H1 fun Q8 H8=>cl P (G K) 27 [v4] H8 fun v7 H7=>
 Bool.casesOn (recheck 3 ((5,fun H'=>loadK P (G K) H' 3 v5 fun v'=>avSame 1000 v6 v')::((1,fun H'=>loadK P (G K) H' 3 v3 fun v'=>avSame 1000 v4 v')::[])) H7) false (binK P .add 9 true v7 (.str [45]) fun v9=>
 layAnc 55 Q8 H7 fun Q11 H11=>cl P (G K) 27 [v6] H11 fun v10 H10=>
 Bool.casesOn (recheck 55 ((5,fun H'=>loadK P (G K) H' 3 v5 fun v'=>avSame 1000 v6 v')::((1,fun H'=>loadK P (G K) H' 3 v3 fun v'=>avSame 1000 v4 v')::[])) H10) false (binK P .add 9 false v9 v10 fun v12=>
 layAll Q11 H10 fun H14=>
 k (.ret v12) H14))):=by kernel_rfl
theorem h40 (a0:AV) (H:Hp) (k:AEnd→Hp→Bool):callBody P (G K) ⟨cd P (G K) 200,callS P (G K)⟩ 40 [a0] H k=
 (binK P .geq 3 true a0 (.int .i64 0) fun v3=>
 condV v3 (fun _=>
 cl P (G K) 77 [a0] H fun v5 H5=>
 k (.ret v5) H5) (fun _=>
 binK P .rem 3 true a0 (.int .i64 10) fun v8=>
 binK P .sub 3 true (.int .i64 48) v8 fun v9=>
 convK P 3 5 v9 fun v10=>
 buildSliceK P 74 1 [(0,v10)] fun k11 r11=>Hp.new H k11 fun b11 H11=>
 ptrConvK P 74 9 (r11 b11) H11 fun v12=>
 binK P .gtr 3 true a0 (.int .i64 (-10)) fun v15=>
 condV v15 (fun _=>
 binK P .add 9 true (.str [45]) v12 fun v17=>
 k (.ret v17) H11) (fun _=>
 binK P .quo 3 true a0 (.int .i64 10) fun v20=>
 unK .neg v20 fun v21=>
 cl P (G K) 77 [v21] H11 fun v22 H22=>
 binK P .add 9 true (.str [45]) v22 fun v23=>
 binK P .add 9 false v23 v12 fun v25=>
 k (.ret v25) H22))):=by kernel_rfl
theorem h41 (a0:AV) (H:Hp) (k:AEnd→Hp→Bool):callBody P (G K) ⟨cd P (G K) 200,callS P (G K)⟩ 41 [a0] H k=
 (Hp.new H (.cells (some 23) false (AV.cells a0)) fun b1 H1=>
 ptrPlus (.ptr b1 0) 0 fun v3=>
 loadK P (G K) H1 3 v3 fun v4=>
 ptrPlus (.ptr b1 0) 1 fun v5=>
 loadK P (G K) H1 3 v5 fun v6=>
 layAnc 3 [] H1 fun Q8 H8=>cl P (G K) 40 [v4] H8 fun v7 H7=>
 Bool.casesOn (recheck 3 ((5,fun H'=>loadK P (G K) H' 3 v5 fun v'=>avSame 1000 v6 v')::((1,fun H'=>loadK P (G K) H' 3 v3 fun v'=>avSame 1000 v4 v')::[])) H7) false (binK P .add 9 true v7 (.str [45]) fun v9=>
 layAnc 55 Q8 H7 fun Q11 H11=>cl P (G K) 40 [v6] H11 fun v10 H10=>
 Bool.casesOn (recheck 55 ((5,fun H'=>loadK P (G K) H' 3 v5 fun v'=>avSame 1000 v6 v')::((1,fun H'=>loadK P (G K) H' 3 v3 fun v'=>avSame 1000 v4 v')::[])) H10) false (binK P .add 9 false v9 v10 fun v12=>
 layAll Q11 H10 fun H14=>
 k (.ret v12) H14))):=by kernel_rfl
theorem h42 (a0 a1 a2:AV) (H:Hp) (k:AEnd→Hp→Bool):callBody P (G K) ⟨cd P (G K) 200,callS P (G K)⟩ 42 [a0,a1,a2] H k=
 (let n0:AEx→En→Hp→Bool:=fun x e H=>bodyEnd P (G K) Tryz.f42 ⟨cd P (G K) 200,callS P (G K)⟩ k x e H;
 nilCheckV a0 fun v2=>
 ptrPlus v2 0 fun v3=>
 cl P (G K) 46 [v3,a1] H fun v5 H5=>
 let n6:AEx→En→Hp→Bool:=fun x e H=>isNormal x (fun _=>cd P (G K) 198 31 (subC 42 [1,1]) none e H fun x e H=>n0 x e H) (fun x=>n0 x e H);
 lenK P 42 a2 H5 fun v8=>
 semC P (G K) 31 (.loop (subC 42 [1,0,1,0])) none ⟨(es E2.empty [(0,a0),(1,a1),(2,a2),(8,a0),(9,v2),(10,v3),(11,a1),(12,v5),(13,a2),(14,v8),(15,(.int .i64 0))]),[]⟩ H5 fun x e10 H10=>isExit 0 x (fun _=>n6 .normal e10 H10) (fun x=>n6 x e10 H10)):=by kernel_rfl
theorem r42 (t:E2) (H:Hp) (k:AEnd→Hp→Bool) (i:Evs):bodyEnd P (G K) Tryz.f42 i k .ret ⟨t,[]⟩ H=k (.ret (.tup [])) H:=by kernel_rfl
theorem h42_0 (dm:List Dm) (ro:Option Nat) (H:Hp) (k:AEx→En→Hp→Bool):∀(t:E2),cd P (G K) 198 31 (subC 42 [1,1]) ro ⟨t,dm⟩ H k=
 (nilCheckV (E2.get t 0) fun v2=>
 ptrPlus v2 0 fun v3=>
 cl P (G K) 46 [v3,(.str [10])] H fun v4 H4=>
 k .normal ⟨(es t [(27,(E2.get t 0)),(28,v2),(29,v3),(30,v4)]),dm⟩ H4):=of_fun fun f=>by kernel_rfl
theorem h42_1 (dm:List Dm) (ro:Option Nat) (H:Hp) (k:AEx→En→Hp→Bool):∀(t:E2),cd P (G K) 200 31 (subC 42 [1,0,1,0]) ro ⟨t,dm⟩ H k=
 (binK P .lss 3 false (E2.get t 15) (E2.get t 14) fun v1=>
 condV v1 (fun _=>
 indexAtK P 42 (E2.get t 13) (E2.get t 15) fun v2=>
 loadK P (G K) H 3 v2 fun v3=>
 nilCheckV (E2.get t 0) fun v6=>
 ptrPlus v6 0 fun v7=>
 layAnc 8 [] H fun Q10 H10=>cl P (G K) 27 [v3] H10 fun v9 H9=>
 Bool.casesOn (recheck 8 [] H9) false (binK P .add 9 true (.str [32]) v9 fun v11=>
 layAnc 63 Q10 H9 fun Q13 H13=>cl P (G K) 46 [v7,v11] H13 fun v12 H12=>
 Bool.casesOn (recheck 63 [] H12) false (layAll Q13 H12 fun H14=>
 binK P .add 3 true (E2.get t 15) (.int .i64 1) fun v15=>
 k .normal ⟨(es t [(16,v1),(17,v2),(18,v3),(7,v3),(19,(E2.get t 0)),(20,v6),(21,v7),(22,v3),(23,v9),(24,v11),(25,v12),(26,v15),(15,v15)]),dm⟩ H14))) (fun _=>
 k (.exit 0) ⟨(es t [(16,v1)]),dm⟩ H)):=of_fun fun f=>by kernel_rfl
theorem h43 (a0:AV) (H:Hp) (k:AEnd→Hp→Bool):callBody P (G K) ⟨cd P (G K) 200,callS P (G K)⟩ 43 [a0] H k=
 (nilCheckV a0 fun v3=>
 ptrPlus v3 1 fun v4=>
 loadK P (G K) H 74 v4 fun v5=>
 usdV v5 fun v6=>
 nilCheckV a0 fun v8=>
 ptrPlus v8 1 fun v9=>
 loadK P (G K) H 74 v9 fun v10=>
 lenK P 74 v10 H fun v11=>
 layAnc 1023 [] H fun Q13 H13=>ustrK P H13 168 v6 v11 fun v12 H12=>
 Bool.casesOn (recheck 1023 ((9,fun H'=>lenK P 74 v10 H' fun v'=>avSame 1000 v11 v')::((8,fun H'=>loadK P (G K) H' 74 v9 fun v'=>avSame 1000 v10 v')::((3,fun H'=>loadK P (G K) H' 74 v4 fun v'=>avSame 1000 v5 v')::[]))) H12) false (layAll Q13 H12 fun H15=>
 k (.ret v12) H15)):=by kernel_rfl
theorem h44 (a0:AV) (H:Hp) (k:AEnd→Hp→Bool):callBody P (G K) ⟨cd P (G K) 200,callS P (G K)⟩ 44 [a0] H k=
 (let n0:AEx→En→Hp→Bool:=fun x e H=>bodyEnd P (G K) Tryz.f44 ⟨cd P (G K) 200,callS P (G K)⟩ k x e H;
 Hp.new H (.cells (some 47) false (AV.cells a0)) fun b1 H1=>
 ptrPlus (.ptr b1 0) 11 fun v3=>
 loadK P (G K) H1 42 v3 fun v4=>
 lenK P 42 v4 H1 fun v5=>
 ptrPlus (.ptr b1 0) 12 fun v6=>
 loadK P (G K) H1 43 v6 fun v7=>
 lenK P 43 v7 H1 fun v8=>
 ptrPlus (.ptr b1 0) 13 fun v9=>
 loadK P (G K) H1 44 v9 fun v10=>
 lenK P 44 v10 H1 fun v11=>
 ptrPlus (.ptr b1 0) 14 fun v12=>
 loadK P (G K) H1 45 v12 fun v13=>
 lenK P 45 v13 H1 fun v14=>
 minV true [v5,v8,v11,v14] fun v15=>
 binK P .gtr 3 true v15 (.int .i64 4000) fun v16=>
 condV v16 (fun _=>
 n0 .ret ⟨(es E2.empty [(0,a0),(1,(.ptr b1 0)),(7,v3),(8,v4),(9,v5),(10,v6),(11,v7),(12,v8),(13,v9),(14,v10),(15,v11),(16,v12),(17,v13),(18,v14),(19,v15),(20,v16),(2,(.int .i64 2))]),[]⟩ H1) (fun _=>
 let n18:AEx→En→Hp→Bool:=fun x e H=>isNormal x (fun _=>cd P (G K) 197 49 (subC 44 [1,1,1]) none e H fun x e H=>n0 x e H) (fun x=>n0 x e H);
 ptrPlus (.ptr b1 0) 13 fun v19=>
 loadK P (G K) H1 44 v19 fun v20=>
 lenK P 44 v20 H1 fun v21=>
 semC P (G K) 49 (.loop (subC 44 [1,1,0,1,0])) none ⟨(es E2.empty [(0,a0),(1,(.ptr b1 0)),(2,(.int .i64 0)),(7,v3),(8,v4),(9,v5),(10,v6),(11,v7),(12,v8),(13,v9),(14,v10),(15,v11),(16,v12),(17,v13),(18,v14),(19,v15),(20,v16),(21,v19),(22,v20),(23,v21),(24,(.int .i64 0))]),[]⟩ H1 fun x e23 H23=>isExit 0 x (fun _=>n18 .normal e23 H23) (fun x=>n18 x e23 H23))):=by kernel_rfl
theorem r44 (t:E2) (H:Hp) (k:AEnd→Hp→Bool) (i:Evs):bodyEnd P (G K) Tryz.f44 i k .ret ⟨t,[]⟩ H=k (.ret (E2.get t 2)) H:=by kernel_rfl
theorem h44_0 (dm:List Dm) (ro:Option Nat) (H:Hp) (k:AEx→En→Hp→Bool):∀(t:E2),cd P (G K) 197 49 (subC 44 [1,1,1]) ro ⟨t,dm⟩ H k=
 (ptrPlus (E2.get t 1) 12 fun v1=>
 loadK P (G K) H 43 v1 fun v2=>
 cl P (G K) 78 [v2] H fun v3 H3=>
 extractV v3 0 fun v5=>
 extractV v3 1 fun v6=>
 k .ret ⟨(es t [(43,v1),(44,v2),(45,v3),(42,v3),(46,v5),(47,v6),(5,v5),(6,v6),(48,v5),(2,v5)]),dm⟩ H3):=of_fun fun f=>by kernel_rfl
theorem h44_1 (dm:List Dm) (ro:Option Nat) (H:Hp) (k:AEx→En→Hp→Bool):∀(t:E2),cd P (G K) 200 49 (subC 44 [1,1,0,1,0]) ro ⟨t,dm⟩ H k=
 (binK P .lss 3 false (E2.get t 24) (E2.get t 23) fun v1=>
 condV v1 (fun _=>
 cd P (G K) 197 49 (subC 44 [1,1,0,1,0,0,1,1,0]) ro ⟨(es t [(25,v1)]),dm⟩ H fun x e H=>isNormal x (fun _=>cd P (G K) 197 49 (subC 44 [1,1,0,1,0,0,1,1,1]) ro e H fun x e H=>k x e H) (fun x=>k x e H)) (fun _=>
 k (.exit 0) ⟨(es t [(25,v1)]),dm⟩ H)):=of_fun fun f=>by kernel_rfl
theorem h44_2 (dm:List Dm) (ro:Option Nat) (H:Hp) (k:AEx→En→Hp→Bool):∀(t:E2),cd P (G K) 197 49 (subC 44 [1,1,0,1,0,0,1,1,0]) ro ⟨t,dm⟩ H k=
 (indexAtK P 44 (E2.get t 22) (E2.get t 24) fun v1=>
 loadK P (G K) H 72 v1 fun v2=>
 Hp.new H (.cells (some 72) false [.nils, .nils]) fun b3 H3=>
 storeK P H3 72 (.ptr b3 0) v2 fun H4=>
 cd P (G K) 194 49 (subC 44 [1,1,0,1,0,0,1,1,0,0,1,0]) ro ⟨(es t [(26,v1),(27,v2),(4,(.ptr b3 0))]),dm⟩ H4 fun x e H=>isNormal x (fun _=>cd P (G K) 194 49 (subC 44 [1,1,0,1,0,0,1,1,0,0,1,1]) ro e H fun x e H=>isExit 1 x (fun _=>k .normal e H) (fun x=>k x e H)) (fun x=>isExit 1 x (fun _=>k .normal e H) (fun x=>k x e H))):=of_fun fun f=>by kernel_rfl
theorem h44_3 (dm:List Dm) (ro:Option Nat) (H:Hp) (k:AEx→En→Hp→Bool):∀(t:E2),cd P (G K) 197 49 (subC 44 [1,1,0,1,0,0,1,1,1]) ro ⟨t,dm⟩ H k=
 (binK P .add 3 true (E2.get t 24) (.int .i64 1) fun v1=>
 k .normal ⟨(es t [(41,v1),(24,v1)]),dm⟩ H):=of_fun fun f=>by kernel_rfl
theorem h44_4 (dm:List Dm) (ro:Option Nat) (H:Hp) (k:AEx→En→Hp→Bool):∀(t:E2),cd P (G K) 194 49 (subC 44 [1,1,0,1,0,0,1,1,0,0,1,0]) ro ⟨t,dm⟩ H k=
 (ptrPlus (E2.get t 4) 1 fun v1=>
 loadK P (G K) H 42 v1 fun v2=>
 lenK P 42 v2 H fun v3=>
 ptrPlus (E2.get t 4) 0 fun v4=>
 loadK P (G K) H 70 v4 fun v5=>
 lenK P 70 v5 H fun v6=>
 binK P .neq 3 false v3 v6 fun v7=>
 gJoin (boolIs false v7) (fun v9 H9=>
 gJoin (boolIs false v7) (fun v10 H10=>
 gJoin (boolIs false v7) (fun v11 H11=>
 gJoin (boolIs false v7) (fun v12 H12=>
 pickV v7 (.bool true) v12 fun v13=>
 k .normal ⟨(es t [(28,v1),(29,v2),(30,v3),(31,v4),(32,v5),(33,v6),(34,v7),(35,v7),(36,v9),(37,v10),(38,v11),(39,v12),(40,v13)]),dm⟩ H12) (fun r12=>binK P .gtr 3 true v11 (.int .i64 4000) fun v14=>
 r12 v14 H11) H11) (fun r11=>lenK P 42 v10 H10 fun v15=>
 r11 v15 H10) H10) (fun r10=>loadK P (G K) H9 42 v9 fun v16=>
 r10 v16 H9) H9) (fun r9=>ptrPlus (E2.get t 4) 1 fun v17=>
 r9 v17 H) H):=of_fun fun f=>by kernel_rfl
theorem h44_5 (dm:List Dm) (ro:Option Nat) (H:Hp) (k:AEx→En→Hp→Bool):∀(t:E2),cd P (G K) 194 49 (subC 44 [1,1,0,1,0,0,1,1,0,0,1,1]) ro ⟨t,dm⟩ H k=
 (condV (E2.get t 40) (fun _=>
 k .ret ⟨(es t [(2,(.int .i64 2))]),dm⟩ H) (fun _=>
 k .normal ⟨t,dm⟩ H)):=of_fun fun f=>by kernel_rfl
end
end Go.S9
