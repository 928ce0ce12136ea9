/- A part of the proof of TribunalBack. -/
import Derived.Test.YtmmghibnfjfnbaaGreatDoorRows
import Derived.SevenTiedAt
import Derived.KernelRfl
set_option linter.unusedVariables false
set_option linter.unusedSimpArgs false
namespace Go.Proofs.YtmmghibnfjfnbaaGreatDoor
open Go
set_option maxRecDepth 1000000
noncomputable def tyP (t:Nat):Bool:=rowFine Tryz.prog t&&(match Tryz.prog.underlying t with | some (.map _ e)=>decide (e<946)| _=>true)
end Go.Proofs.YtmmghibnfjfnbaaGreatDoor
namespace Go.Proofs.YtmmghibnfjfnbaaGreatDoor
open Go
set_option maxRecDepth 1000000
theorem ty0:(List.range 43).all (fun j=>tyP (43 * 0+j))=true:=by kernel_rfl
theorem ty1:(List.range 43).all (fun j=>tyP (43 * 1+j))=true:=by kernel_rfl
theorem ty2:(List.range 43).all (fun j=>tyP (43 * 2+j))=true:=by kernel_rfl
theorem ty3:(List.range 43).all (fun j=>tyP (43 * 3+j))=true:=by kernel_rfl
theorem ty4:(List.range 43).all (fun j=>tyP (43 * 4+j))=true:=by kernel_rfl
theorem ty5:(List.range 43).all (fun j=>tyP (43 * 5+j))=true:=by kernel_rfl
end Go.Proofs.YtmmghibnfjfnbaaGreatDoor
namespace Go.Proofs.YtmmghibnfjfnbaaGreatDoor
open Go
set_option maxRecDepth 1000000
theorem ty6:(List.range 43).all (fun j=>tyP (43 * 6+j))=true:=by kernel_rfl
theorem ty7:(List.range 43).all (fun j=>tyP (43 * 7+j))=true:=by kernel_rfl
theorem ty8:(List.range 43).all (fun j=>tyP (43 * 8+j))=true:=by kernel_rfl
theorem ty9:(List.range 43).all (fun j=>tyP (43 * 9+j))=true:=by kernel_rfl
theorem ty10:(List.range 43).all (fun j=>tyP (43 * 10+j))=true:=by kernel_rfl
theorem ty11:(List.range 43).all (fun j=>tyP (43 * 11+j))=true:=by kernel_rfl
end Go.Proofs.YtmmghibnfjfnbaaGreatDoor
namespace Go.Proofs.YtmmghibnfjfnbaaGreatDoor
open Go
set_option maxRecDepth 1000000
theorem ty12:(List.range 43).all (fun j=>tyP (43 * 12+j))=true:=by kernel_rfl
theorem ty13:(List.range 43).all (fun j=>tyP (43 * 13+j))=true:=by kernel_rfl
theorem ty14:(List.range 43).all (fun j=>tyP (43 * 14+j))=true:=by kernel_rfl
theorem ty15:(List.range 43).all (fun j=>tyP (43 * 15+j))=true:=by kernel_rfl
theorem ty16:(List.range 43).all (fun j=>tyP (43 * 16+j))=true:=by kernel_rfl
theorem ty17:(List.range 43).all (fun j=>tyP (43 * 17+j))=true:=by kernel_rfl
end Go.Proofs.YtmmghibnfjfnbaaGreatDoor
namespace Go.Proofs.YtmmghibnfjfnbaaGreatDoor
open Go
set_option maxRecDepth 1000000
theorem ty18:(List.range 43).all (fun j=>tyP (43 * 18+j))=true:=by kernel_rfl
theorem ty19:(List.range 43).all (fun j=>tyP (43 * 19+j))=true:=by kernel_rfl
theorem ty20:(List.range 43).all (fun j=>tyP (43 * 20+j))=true:=by kernel_rfl
theorem ty21:(List.range 43).all (fun j=>tyP (43 * 21+j))=true:=by kernel_rfl
end Go.Proofs.YtmmghibnfjfnbaaGreatDoor
namespace Go.Proofs.YtmmghibnfjfnbaaGreatDoor
open Go
set_option maxRecDepth 1000000
theorem tyAll:∀i,i<22→(List.range 43).all (fun j=>tyP (43 * i+j))=true:=by
 intro i hi
 match i,hi with
 | 0,_=>exact ty0
 | 1,_=>exact ty1
 | 2,_=>exact ty2
 | 3,_=>exact ty3
 | 4,_=>exact ty4
 | 5,_=>exact ty5
 | 6,_=>exact ty6
 | 7,_=>exact ty7
 | 8,_=>exact ty8
 | 9,_=>exact ty9
 | 10,_=>exact ty10
 | 11,_=>exact ty11
 | 12,_=>exact ty12
 | 13,_=>exact ty13
 | 14,_=>exact ty14
 | 15,_=>exact ty15
 | 16,_=>exact ty16
 | 17,_=>exact ty17
 | 18,_=>exact ty18
 | 19,_=>exact ty19
 | 20,_=>exact ty20
 | 21,_=>exact ty21
 | n+22,h=>exact absurd h (by omega)
theorem tyT (f:Nat) (hf:f<946):tyP f=true:=by
 have h1:=List.all_eq_true.1 (tyAll (f/43) (by omega)) (f%43) (by rw [List.mem_range];omega)
 rwa [show 43 * (f/43)+f%43=f by omega] at h1
end Go.Proofs.YtmmghibnfjfnbaaGreatDoor
