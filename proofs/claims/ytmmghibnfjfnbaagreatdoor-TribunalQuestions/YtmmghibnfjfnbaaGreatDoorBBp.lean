/- A part of the proof of TribunalQuestions. -/
import Derived.Test.YtmmghibnfjfnbaaGreatDoorBBo
set_option linter.unusedVariables false
set_option linter.unusedSimpArgs false
namespace Go.Proofs.YtmmghibnfjfnbaaGreatDoor
open Go Go.ChangeShapes Go.WideShapes Go.ChangeAt Go.WideMaps Go.WideElems Go.RowKit
set_option maxRecDepth 1000000
set_option linter.unusedVariables false
def zRep:Value:= .agg #[.int .i64 0, .int .i64 0, .int .i64 0, .string ⟨#[]⟩, .int .i64 0, .int .i64 0, .int .i64 0, .int .i64 0, .int .i64 0, .int .i64 0]
def zArgs:Array Value:=#[zRep, .string ⟨#[]⟩]
noncomputable abbrev w0 (os:Os):World:=(World.laidAll Tryz.prog os lay1).forCall (fun _ _=>0) ⟨#[],zArgs,[]⟩
theorem wit_zip (os:Os):(w0 os).variablesZipB Tryz.prog=true:=by kernel_rfl
theorem wit_heap (os:Os):((w0 os).heap.toList.drop Tryz.prog.globals.size).take ((begin Tryz.prog (fun _ _=>0) default).world.heap.size - Tryz.prog.globals.size)=(begin Tryz.prog (fun _ _=>0) default).world.heap.toList.drop Tryz.prog.globals.size:=by kernel_rfl
theorem wit_ok (os:Os):Input.okWideB Tryz.prog (w0 os) 3 ⟨#[],zArgs,[]⟩=true:=by kernel_rfl
theorem wit_pre (os:Os) (H:Type) (enc:TypeId×Value→H):Rows.tribunalQuestionsSpec.preB enc Tryz.prog Tryz.f3 [] false (w0 os).memory zArgs 8=true:=by kernel_rfl
theorem wit_siz (os:Os) (H:Type) (enc:TypeId×Value→H):Rows.tribunalQuestionsSpec.sizedB enc Tryz.prog Tryz.f3 false (w0 os).memory zArgs 8=true:=by kernel_rfl
theorem wit_fits (os:Os):(World.holding Tryz.prog os ⟨#[],#[],[]⟩).layFits Tryz.prog lay1 []=true:=by kernel_rfl
theorem wit_ifs (os:Os):(World.holding Tryz.prog os ⟨#[],#[],[]⟩).layIfaces Tryz.prog lay1 (World.laidAll Tryz.prog os lay1)=true:=by kernel_rfl
theorem wit_laid (os:Os):laidMetH Tryz.prog lay1 (w0 os).memory:=by
 rw [MakeChecks.laidMetH_plain _ _ _ (by kernel_rfl)]
 exact laidMet_laidAll _ (wit_fits os) (wit_ifs os)
end Go.Proofs.YtmmghibnfjfnbaaGreatDoor
