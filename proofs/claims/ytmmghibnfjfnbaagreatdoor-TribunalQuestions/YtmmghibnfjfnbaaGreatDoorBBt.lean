/- A part of the proof of TribunalQuestions. -/
import Derived.Test.YtmmghibnfjfnbaaGreatDoorBBs
import Derived.Test.YtmmghibnfjfnbaaGreatDoorRows
set_option linter.unusedVariables false
set_option linter.unusedSimpArgs false
namespace Go.Proofs.YtmmghibnfjfnbaaGreatDoor
open Go
set_option maxRecDepth 1000000
noncomputable def plc (g:Nat):Option String:=(Tryz.prog.funcs[g]?).bind fun fn=>if fn.ours||fn.body.isNone||fn.name== "runtime.NumGoroutine" then some fn.name else none
noncomputable def gls (g:Nat):List Nat:=((Tryz.prog.funcs[g]?).bind (·.body)).elim [] Code.globalsNamed
noncomputable def rds (g:Nat):Option String:=(Tryz.prog.funcs[g]?).bind fun fn=>if fn.body.isNone then entryReads.lookup fn.name else none
end Go.Proofs.YtmmghibnfjfnbaaGreatDoor
namespace Go.Proofs.YtmmghibnfjfnbaaGreatDoor
open Go
set_option maxRecDepth 1000000
theorem p0:k0.filterMap plc=["internal/bytealg.CountString", "internal/bytealg.IndexByteString", "internal/bytealg.IndexString"]:=by kernel_rfl
theorem g0:k0.flatMap gls=[4,5,1,1,1,2,3,0,6,7]:=by kernel_rfl
theorem r0:k0.filterMap rds=["internal/bytealg.MaxLen"]:=by kernel_rfl
theorem p1:k1.filterMap plc=["internal/abi.NoEscape", "internal/bytealg.MakeNoZero"]:=by kernel_rfl
theorem g1:k1.flatMap gls=[]:=by kernel_rfl
theorem r1:k1.filterMap rds=[]:=by kernel_rfl
theorem p2:k2.filterMap plc=[]:=by kernel_rfl
theorem g2:k2.flatMap gls=[]:=by kernel_rfl
theorem r2:k2.filterMap rds=[]:=by kernel_rfl
theorem p3:k3.filterMap plc=[]:=by kernel_rfl
theorem g3:k3.flatMap gls=[]:=by kernel_rfl
theorem r3:k3.filterMap rds=[]:=by kernel_rfl
end Go.Proofs.YtmmghibnfjfnbaaGreatDoor
namespace Go.Proofs.YtmmghibnfjfnbaaGreatDoor
open Go
set_option maxRecDepth 1000000
theorem p4:k4.filterMap plc=[]:=by kernel_rfl
theorem g4:k4.flatMap gls=[]:=by kernel_rfl
theorem r4:k4.filterMap rds=[]:=by kernel_rfl
theorem p5:k5.filterMap plc=[]:=by kernel_rfl
theorem g5:k5.flatMap gls=[]:=by kernel_rfl
theorem r5:k5.filterMap rds=[]:=by kernel_rfl
theorem p6:k6.filterMap plc=[]:=by kernel_rfl
theorem g6:k6.flatMap gls=[]:=by kernel_rfl
theorem r6:k6.filterMap rds=[]:=by kernel_rfl
theorem p7:k7.filterMap plc=[]:=by kernel_rfl
theorem g7:k7.flatMap gls=[]:=by kernel_rfl
theorem r7:k7.filterMap rds=[]:=by kernel_rfl
end Go.Proofs.YtmmghibnfjfnbaaGreatDoor
namespace Go.Proofs.YtmmghibnfjfnbaaGreatDoor
open Go
set_option maxRecDepth 1000000
theorem p8:k8.filterMap plc=["slices.overlaps[patrol/api.Round]"]:=by kernel_rfl
theorem g8:k8.flatMap gls=[]:=by kernel_rfl
theorem r8:k8.filterMap rds=[]:=by kernel_rfl
theorem p9:k9.filterMap plc=[]:=by kernel_rfl
theorem g9:k9.flatMap gls=[]:=by kernel_rfl
theorem r9:k9.filterMap rds=[]:=by kernel_rfl
theorem p10:k10.filterMap plc=[]:=by kernel_rfl
theorem g10:k10.flatMap gls=[]:=by kernel_rfl
theorem r10:k10.filterMap rds=[]:=by kernel_rfl
theorem p11:k11.filterMap plc=[]:=by kernel_rfl
theorem g11:k11.flatMap gls=[]:=by kernel_rfl
theorem r11:k11.filterMap rds=[]:=by kernel_rfl
end Go.Proofs.YtmmghibnfjfnbaaGreatDoor
namespace Go.Proofs.YtmmghibnfjfnbaaGreatDoor
open Go
set_option maxRecDepth 1000000
theorem beq9:(Rows.tribunalQuestionsRow.inPlace==["internal/bytealg.CountString", "internal/bytealg.IndexByteString", "internal/bytealg.IndexString", "internal/abi.NoEscape", "internal/bytealg.MakeNoZero", "slices.overlaps[patrol/api.Round]"])=true:=by kernel_rfl
theorem fact_9:(Rows.tribunalQuestionsRow.inPlace==Tryz.prog.inPlace 3)=true:=by
 have h:Tryz.prog.inPlace 3=c5.filterMap plc:=by unfold Program.inPlace;rw [closure5];rfl
 have e:c5.filterMap plc=["internal/bytealg.CountString", "internal/bytealg.IndexByteString", "internal/bytealg.IndexString", "internal/abi.NoEscape", "internal/bytealg.MakeNoZero", "slices.overlaps[patrol/api.Round]"]:=by
  unfold c5
  simp only [List.filterMap_append,p0,p1,p2,p3,p4,p5,p6,p7,p8,p9,p10,p11]
  kernel_rfl
 rw [h,e]
 exact beq9
theorem mem5:c5.contains 390=true:=by kernel_rfl
theorem unf390:(Tryz.prog.funcs[390]?).any (fun fn=>match fn.body with | some c=>c.unfollowed | none=>entryCalls fn)=true:=by kernel_rfl
theorem unfollowed5:Tryz.prog.unfollowed 3=true:=by
 unfold Program.unfollowed
 rw [closure5]
 exact List.any_eq_true.2 ⟨390,by simpa using mem5,unf390⟩
theorem fact_10:(Rows.tribunalQuestionsRow.unfollowed==Tryz.prog.unfollowed 3)=true:=by rw [unfollowed5];rfl
theorem recurses5:Tryz.prog.recurses 3=true:=by
 unfold Program.recurses
 rw [unfollowed5,Bool.true_or]
theorem fact_11:(Rows.tribunalQuestionsRow.recurses==Tryz.prog.recurses 3)=true:=by rw [recurses5];rfl
theorem beq12:(Rows.tribunalQuestionsRow.named==((([4,5,1,1,1,2,3,0,6,7]:List Nat).eraseDups).filterMap (fun g=>(Tryz.prog.globals[g]?).map (·.name))++["internal/bytealg.MaxLen"]).eraseDups)=true:=by kernel_rfl
theorem fact_12:(Rows.tribunalQuestionsRow.named==Tryz.prog.varsNamed 3)=true:=by
 have h:Tryz.prog.varsNamed 3=(((c5.flatMap gls).eraseDups).filterMap (fun g=>(Tryz.prog.globals[g]?).map (·.name))++c5.filterMap rds).eraseDups:=by unfold Program.varsNamed;rw [closure5];rfl
 have e:c5.flatMap gls=[4,5,1,1,1,2,3,0,6,7]:=by
  unfold c5
  simp only [List.flatMap_append,g0,g1,g2,g3,g4,g5,g6,g7,g8,g9,g10,g11]
  kernel_rfl
 have e2:c5.filterMap rds=["internal/bytealg.MaxLen"]:=by
  unfold c5
  simp only [List.filterMap_append,r0,r1,r2,r3,r4,r5,r6,r7,r8,r9,r10,r11]
  kernel_rfl
 rw [h,e,e2]
 exact beq12
end Go.Proofs.YtmmghibnfjfnbaaGreatDoor
