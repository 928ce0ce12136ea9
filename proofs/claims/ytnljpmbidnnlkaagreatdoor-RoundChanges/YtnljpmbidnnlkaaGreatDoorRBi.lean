/- A part of the proof of RoundChanges. -/
import Derived.Test.YtnljpmbidnnlkaaGreatDoorRBh
set_option maxRecDepth 1000000
set_option linter.unusedVariables false
set_option linter.unusedSimpArgs false
namespace Go.Proofs.YtnljpmbidnnlkaaGreatDoor
open Go Go.ChangeShapes Go.WideShapes Go.ChangeAt Go.WideMaps Go.WideElems Go.RowKit
theorem aTH {H:Type} {enc:TypeId×Value->H} {W:World} {v0 v1 v2 v3:Value} {d0 d2 d3:DataW H} {p0 p2 p3:List MemPlace} (hg:Go.Ev.tD Go.S5.G W)
  (k0:∃cs,v0= .agg cs) (k1:∃n,v1= .int .i64 n) (k2:∃cs,v2= .agg cs) (k3:v3.cells=#[v3])
  (h0:DataW.Trod enc Tryz.prog W 0 (fun _=>true) true 42 v0 d0 p0) (h2:DataW.Trod enc Tryz.prog W 0 (fun _=>true) true 50 v2 d2 p2) (h3:DataW.Trod enc Tryz.prog W 0 (fun _=>true) true 51 v3 d3 p3):
  Calls Tryz.prog 4 #[v0,v1,v2,v3] W fun e W'=>e= .returned (.bool true)/\Below W.heap.size W W':=by
 obtain⟨cs0,rfl⟩:=k0
 obtain⟨n,rfl⟩:=k1
 obtain⟨cs2,rfl⟩:=k2
 obtain⟨f0,h0⟩:=h0
 obtain⟨f2,h2⟩:=h2
 obtain⟨f3,h3⟩:=h3
 have hb:Go.S5.aIA W:=by
  obtain⟨arr,el,fz,h, -⟩:=hg 0 Go.S5.deB rfl
  exact⟨0,arr,el,fz,h⟩
 obtain⟨c,ho,L0,hc⟩:=Go.S5.a4E hb h0
 obtain⟨m,L2,hm⟩:=Go.S5.awQ h2
 obtain⟨is,di,hi,L3,hd⟩:=Go.S5.a4M hb h3
 rw [k3] at hd
 have hall:Go.Ev.DVs (Go.Ev.hpz W) true [.agg (Go.S5.bI c),.int .i64 n,.agg (Go.S5.bS m),di] (#[Value.agg cs0,.int .i64 n,.agg cs2,v3]:Array Value).toList (L0++([]++(L2++L3))):=
  .cons _ _ _ _ _ _ (.agg _ _ _ hc) (.cons _ _ _ _ _ _ (.int _ _) (.cons _ _ _ _ _ _ (.agg _ _ _ hm) hd))
 have:=Go.S5.amJ ho n m hi W _ _ hg hall
 refine (callsIn_wide.1 this).mono fun e W' ⟨v,d,M,he,hq,hv,_,hbel⟩=> ?_
 subst he hq
 cases hv
 exact⟨rfl,hbel⟩
theorem yS:laidOutB Tryz.prog=true:=by kernel_rfl
theorem alA:Tryz.prog.readableRec 42=true:=by kernel_rfl
theorem atE:Tryz.prog.readableRec 3=true:=by kernel_rfl
theorem ahJ:Tryz.prog.readableRec 50=true:=by kernel_rfl
theorem ahP:Tryz.prog.readableRec 51=true:=by kernel_rfl
theorem aGH:51<Tryz.prog.types.size:=of_decide_eq_true (by kernel_rfl)
theorem aXK (os:Os) (args:Array Value):laidMetH Tryz.prog aXF ((World.doorLaid Tryz.prog 400 os).forCall (fun _ _=>0) ⟨#[],args,[]⟩).memory:=
 laidMetH_of_parts3 (fuel:=8) (laidMet_of_run' 8 (by kernel_rfl) (by kernel_rfl)) (by kernel_rfl) (by kernel_rfl)
end Go.Proofs.YtnljpmbidnnlkaaGreatDoor
