/- A part of the proof of RoundAlone. -/
import Derived.Test.YtnljpmbidnnlkaaGreatDoorRBn
set_option maxRecDepth 1000000
set_option linter.unusedVariables false
set_option linter.unusedSimpArgs false
namespace Go.Proofs.YtnljpmbidnnlkaaGreatDoor
open Go Go.ChangeShapes Go.WideShapes Go.ChangeAt Go.WideMaps Go.WideElems Go.RowKit
theorem D' {H:Type} {enc:TypeId×Value->H} {W:World} {v0:Value} {d0:DataW H} {p0:List MemPlace} (hg:Go.Ev.qL Go.S5.G W)
  (k0:∃cs,v0= .agg cs) (h0:DataW.Trod enc Tryz.prog W 0 (fun _=>true) true 42 v0 d0 p0):
  Calls Tryz.prog 5 #[v0] W fun e W'=>e= .returned (.bool true)/\Below W.heap.size W W':=by
 obtain⟨cs0,rfl⟩:=k0
 obtain⟨f0,h0⟩:=h0
 have hb:Go.S5.B3 W:=by
  obtain⟨arr,el,fz,h, -⟩:=hg 0 Go.S5.deB rfl
  exact⟨0,arr,el,fz,h⟩
 obtain⟨c,ho,L0,hc⟩:=Go.S5.aCJ hb h0
 have hall:Go.Ev.DVs (Go.Ev.hpz W) true [.agg (Go.S5.aM c)] (#[Value.agg cs0]:Array Value).toList (L0++[]):=
  .cons _ _ _ _ _ _ (.agg _ _ _ hc) .nil
 have:=Go.S5.RB ho W _ _ hg hall
 refine (callsIn_wide.1 this).mono fun e W' ⟨v,d,M,he,hq,hv,_,hbel⟩=> ?_
 subst he hq
 cases hv
 exact⟨rfl,hbel⟩
theorem Df:laidOutB Tryz.prog=true:=by kernel_rfl
theorem Rs:Tryz.prog.readableRec 42=true:=by kernel_rfl
theorem OT:42<Tryz.prog.types.size:=of_decide_eq_true (by kernel_rfl)
theorem G8 (os:Os) (args:Array Value):laidMetH Tryz.prog G5 ((World.doorLaid Tryz.prog 400 os).forCall (fun _ _=>0) ⟨#[],args,[]⟩).memory:=
 laidMetH_of_parts3 (fuel:=8) (laidMet_of_run' 8 (by kernel_rfl) (by kernel_rfl)) (by kernel_rfl) (by kernel_rfl)
end Go.Proofs.YtnljpmbidnnlkaaGreatDoor
