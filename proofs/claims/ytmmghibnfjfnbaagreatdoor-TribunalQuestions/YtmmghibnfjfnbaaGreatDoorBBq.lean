/- A part of the proof of TribunalBack. -/
import Derived.Test.YtmmghibnfjfnbaaGreatDoorRows
import Derived.SevenTiedAt
import Derived.KernelRfl
set_option linter.unusedVariables false
set_option linter.unusedSimpArgs false
namespace Go.Proofs.YtmmghibnfjfnbaaGreatDoor
open Go
set_option maxRecDepth 1000000
noncomputable def goP (f:Nat):Bool:= !((Tryz.prog.funcs[f]?).any fun fn=>fn.goes)&&(Tryz.prog.funcs[f]?).all fun fn=>((Stop.rowOf fn).isNone|| !fn.norace)&&fn.params.all fun t=>decide (t<946)
end Go.Proofs.YtmmghibnfjfnbaaGreatDoor
namespace Go.Proofs.YtmmghibnfjfnbaaGreatDoor
open Go
set_option maxRecDepth 1000000
theorem go0:(List.range 55).all (fun j=>goP (55 * 0+j))=true:=by kernel_rfl
theorem go1:(List.range 55).all (fun j=>goP (55 * 1+j))=true:=by kernel_rfl
theorem go2:(List.range 55).all (fun j=>goP (55 * 2+j))=true:=by kernel_rfl
theorem go3:(List.range 55).all (fun j=>goP (55 * 3+j))=true:=by kernel_rfl
theorem go4:(List.range 55).all (fun j=>goP (55 * 4+j))=true:=by kernel_rfl
end Go.Proofs.YtmmghibnfjfnbaaGreatDoor
namespace Go.Proofs.YtmmghibnfjfnbaaGreatDoor
open Go
set_option maxRecDepth 1000000
theorem go5:(List.range 55).all (fun j=>goP (55 * 5+j))=true:=by kernel_rfl
theorem go6:(List.range 55).all (fun j=>goP (55 * 6+j))=true:=by kernel_rfl
theorem go7:(List.range 55).all (fun j=>goP (55 * 7+j))=true:=by kernel_rfl
theorem go8:(List.range 55).all (fun j=>goP (55 * 8+j))=true:=by kernel_rfl
theorem go9:(List.range 55).all (fun j=>goP (55 * 9+j))=true:=by kernel_rfl
end Go.Proofs.YtmmghibnfjfnbaaGreatDoor
namespace Go.Proofs.YtmmghibnfjfnbaaGreatDoor
open Go
set_option maxRecDepth 1000000
theorem go10:(List.range 55).all (fun j=>goP (55 * 10+j))=true:=by kernel_rfl
theorem go11:(List.range 55).all (fun j=>goP (55 * 11+j))=true:=by kernel_rfl
theorem go12:(List.range 55).all (fun j=>goP (55 * 12+j))=true:=by kernel_rfl
theorem go13:(List.range 55).all (fun j=>goP (55 * 13+j))=true:=by kernel_rfl
theorem go14:(List.range 55).all (fun j=>goP (55 * 14+j))=true:=by kernel_rfl
end Go.Proofs.YtmmghibnfjfnbaaGreatDoor
namespace Go.Proofs.YtmmghibnfjfnbaaGreatDoor
open Go
set_option maxRecDepth 1000000
theorem goAll:∀i,i<15→(List.range 55).all (fun j=>goP (55 * i+j))=true:=by
 intro i hi
 match i,hi with
 | 0,_=>exact go0
 | 1,_=>exact go1
 | 2,_=>exact go2
 | 3,_=>exact go3
 | 4,_=>exact go4
 | 5,_=>exact go5
 | 6,_=>exact go6
 | 7,_=>exact go7
 | 8,_=>exact go8
 | 9,_=>exact go9
 | 10,_=>exact go10
 | 11,_=>exact go11
 | 12,_=>exact go12
 | 13,_=>exact go13
 | 14,_=>exact go14
 | n+15,h=>exact absurd h (by omega)
theorem goT (f:Nat) (hf:f<825):goP f=true:=by
 have h1:=List.all_eq_true.1 (goAll (f/55) (by omega)) (f%55) (by rw [List.mem_range];omega)
 rwa [show 55 * (f/55)+f%55=f by omega] at h1
end Go.Proofs.YtmmghibnfjfnbaaGreatDoor
