/- A part of the proof of RoundAlone. -/
import Derived.Test.YtnljpmbidnnlkaaGreatDoorRBl
set_option maxRecDepth 1000000
set_option linter.unusedVariables false
set_option linter.unusedSimpArgs false
namespace Go.S5
open Go.Ev Go.Proofs
theorem ZW:shp P 28=[(3,0),(3,1)]:=by kernel_rfl
theorem aAJ:shp P 48=[(3,0),(3,1)]:=by kernel_rfl
theorem Vz:shp P 136=[(9,0),(3,1)]:=by kernel_rfl
theorem Yc:shp P 138=[(3,0),(3,1),(3,2),(3,3),(3,4)]:=by kernel_rfl
theorem aAP:shp P 96=[(3,0),(3,1),(3,2)]:=by kernel_rfl
theorem aAZ:shp P 33=[(3,0),(3,1),(3,2)]:=by kernel_rfl
theorem aEH:shp P 94=[(9,0),(3,1),(3,2)]:=by kernel_rfl
theorem WE:shp P 201=[(3,0),(28,1)]:=by kernel_rfl
theorem Z':shp P 50=[(48,0),(3,2),(3,3),(3,4)]:=by kernel_rfl
theorem Zl:shp P 78=[(76,0),(76,1)]:=by kernel_rfl
theorem aAB:shp P 26=[(22,0),(23,1),(24,2)]:=by kernel_rfl
theorem ZZ:shp P 31=[(3,0),(28,1),(28,3),(28,5),(28,7),(28,9),(29,11)]:=by kernel_rfl
theorem aDC:shp P 40=[(3,0),(37,1),(28,2),(3,4),(3,5),(3,6),(38,7)]:=by kernel_rfl
theorem Vy:shp P 42=[(26,0),(31,3),(33,15),(34,18),(35,19),(36,20),(3,21),(3,22),(40,23)]:=by kernel_rfl
section
variable {H : Type} {enc : TypeId × Value -> H} {w : World} {hd : Bool} {fuel : Nat} {cs : List Value} {x : DataW H × List MemPlace}
theorem Ad {sp:Nat->Bool} (h:DataW.trod enc P w 0 sp hd fuel 28 cs=some x):∃s:gB,jh w (eA s) cs:=by
 obtain⟨n, -,hl,hf⟩:=mW ZW (by simp) h
 rw [um] at hl
 obtain⟨_,h0⟩:=hf 0 _ rfl
 obtain⟨_,h1⟩:=hf 1 _ rfl
 rw [ce3] at h0 h1
 obtain⟨a,h0⟩:=eX h0
 obtain⟨b,h1⟩:=eX h1
 exact⟨⟨a,b⟩,by rw [←List.drop_zero (l:=cs)];exact .seg 1 h0 (.seg 1 h1 (.fin hl))⟩
theorem aBP {sp:Nat->Bool} (h:DataW.trod enc P w 0 sp hd fuel 48 cs=some x):∃s:Arc,jh w (aGI s) cs:=by
 obtain⟨n, -,hl,hf⟩:=mW aAJ (by simp) h
 rw [aGD] at hl
 obtain⟨_,h0⟩:=hf 0 _ rfl
 obtain⟨_,h1⟩:=hf 1 _ rfl
 rw [ce3] at h0 h1
 obtain⟨a,h0⟩:=eX h0
 obtain⟨b,h1⟩:=eX h1
 exact⟨⟨a,b⟩,by rw [←List.drop_zero (l:=cs)];exact .seg 1 h0 (.seg 1 h1 (.fin hl))⟩
theorem UX {sp:Nat->Bool} (h:DataW.trod enc P w 0 sp hd fuel 136 cs=some x):∃s:ov,s.name.length<=9223372036854775807/\jh w (qc s) cs:=by
 obtain⟨n, -,hl,hf⟩:=mW Vz (by simp) h
 rw [xp] at hl
 obtain⟨_,h0⟩:=hf 0 _ rfl
 obtain⟨_,h1⟩:=hf 1 _ rfl
 rw [ce9] at h0
 rw [ce3] at h1
 obtain⟨a,ha,h0⟩:=Cz h0
 obtain⟨b,h1⟩:=eX h1
 exact⟨⟨a,b⟩,ha,by rw [←List.drop_zero (l:=cs)];exact .seg 1 h0 (.seg 1 h1 (.fin hl))⟩
theorem Ve {sp:Nat->Bool} (h:DataW.trod enc P w 0 sp hd fuel 138 cs=some x):∃s:Way,jh w (AI s) cs:=by
 obtain⟨n, -,hl,hf⟩:=mW Yc (by simp) h
 rw [DP] at hl
 obtain⟨_,h0⟩:=hf 0 _ rfl
 obtain⟨_,h1⟩:=hf 1 _ rfl
 obtain⟨_,h2⟩:=hf 2 _ rfl
 obtain⟨_,h3⟩:=hf 3 _ rfl
 obtain⟨_,h4⟩:=hf 4 _ rfl
 rw [ce3] at h0 h1 h2 h3 h4
 obtain⟨a,h0⟩:=eX h0
 obtain⟨b,h1⟩:=eX h1
 obtain⟨c,h2⟩:=eX h2
 obtain⟨d,h3⟩:=eX h3
 obtain⟨e,h4⟩:=eX h4
 exact⟨⟨a,b,c,d,e⟩,by rw [←List.drop_zero (l:=cs)];exact .seg 1 h0 (.seg 1 h1 (.seg 1 h2 (.seg 1 h3 (.seg 1 h4 (.fin hl)))))⟩
theorem Zg {sp:Nat->Bool} (h:DataW.trod enc P w 0 sp hd fuel 96 cs=some x):∃s:Key,jh w (fe s) cs:=by
 obtain⟨n, -,hl,hf⟩:=mW aAP (by simp) h
 rw [rE] at hl
 obtain⟨_,h0⟩:=hf 0 _ rfl
 obtain⟨_,h1⟩:=hf 1 _ rfl
 obtain⟨_,h2⟩:=hf 2 _ rfl
 rw [ce3] at h0 h1 h2
 obtain⟨a,h0⟩:=eX h0
 obtain⟨b,h1⟩:=eX h1
 obtain⟨c,h2⟩:=eX h2
 exact⟨⟨a,b,c⟩,by rw [←List.drop_zero (l:=cs)];exact .seg 1 h0 (.seg 1 h1 (.seg 1 h2 (.fin hl)))⟩
theorem aBM {sp:Nat->Bool} (h:DataW.trod enc P w 0 sp hd fuel 33 cs=some x):∃s:Ink,jh w (lY s) cs:=by
 obtain⟨n, -,hl,hf⟩:=mW aAZ (by simp) h
 rw [aGC] at hl
 obtain⟨_,h0⟩:=hf 0 _ rfl
 obtain⟨_,h1⟩:=hf 1 _ rfl
 obtain⟨_,h2⟩:=hf 2 _ rfl
 rw [ce3] at h0 h1 h2
 obtain⟨a,h0⟩:=eX h0
 obtain⟨b,h1⟩:=eX h1
 obtain⟨c,h2⟩:=eX h2
 exact⟨⟨a,b,c⟩,by rw [←List.drop_zero (l:=cs)];exact .seg 1 h0 (.seg 1 h1 (.seg 1 h2 (.fin hl)))⟩
theorem Y0 {sp:Nat->Bool} (h:DataW.trod enc P w 0 sp hd fuel 94 cs=some x):∃s:gk,s.name.length<=9223372036854775807/\jh w (dT s) cs:=by
 obtain⟨n, -,hl,hf⟩:=mW aEH (by simp) h
 rw [qR] at hl
 obtain⟨_,h0⟩:=hf 0 _ rfl
 obtain⟨_,h1⟩:=hf 1 _ rfl
 obtain⟨_,h2⟩:=hf 2 _ rfl
 rw [ce9] at h0
 rw [ce3] at h1 h2
 obtain⟨a,ha,h0⟩:=Cz h0
 obtain⟨b,h1⟩:=eX h1
 obtain⟨c,h2⟩:=eX h2
 exact⟨⟨a,b,c⟩,ha,by rw [←List.drop_zero (l:=cs)];exact .seg 1 h0 (.seg 1 h1 (.seg 1 h2 (.fin hl)))⟩
theorem XJ {sp:Nat->Bool} (h:DataW.trod enc P w 0 sp hd fuel 201 cs=some x):∃s:Stop,jh w (dx s) cs:=by
 obtain⟨n, -,hl,hf⟩:=mW WE (by simp) h
 rw [kZ] at hl
 obtain⟨_,h0⟩:=hf 0 _ rfl
 obtain⟨_,h1⟩:=hf 1 _ rfl
 rw [ce3] at h0
 rw [um] at h1
 obtain⟨a,h0⟩:=eX h0
 obtain⟨b,h1⟩:=Ad h1
 exact⟨⟨a,b⟩,by rw [←List.drop_zero (l:=cs)];exact .seg 1 h0 (.seg 2 h1 (.fin hl))⟩
theorem aDB {sp:Nat->Bool} (h:DataW.trod enc P w 0 sp hd fuel 50 cs=some x):∃s:Ko,jh w (wo s) cs:=by
 obtain⟨n, -,hl,hf⟩:=mW Z' (by simp) h
 rw [aGA] at hl
 obtain⟨_,h0⟩:=hf 0 _ rfl
 obtain⟨_,h1⟩:=hf 1 _ rfl
 obtain⟨_,h2⟩:=hf 2 _ rfl
 obtain⟨_,h3⟩:=hf 3 _ rfl
 rw [aGD] at h0
 rw [ce3] at h1 h2 h3
 obtain⟨a,h0⟩:=aBP h0
 obtain⟨b,h1⟩:=eX h1
 obtain⟨c,h2⟩:=eX h2
 obtain⟨d,h3⟩:=eX h3
 exact⟨⟨a,b,c,d⟩,by rw [←List.drop_zero (l:=cs)];exact .seg 2 h0 (.seg 1 h1 (.seg 1 h2 (.seg 1 h3 (.fin hl))))⟩
abbrev B3 (w:World):Prop:=∃(b:Nat) (arr:Array Value) (el:TypeId) (fz:Nat×Nat),w.heap[b]? =some (Obj.cells arr el fz)
abbrev EG:Nat->Bool:=fun _=>true
theorem Vu (hb:B3 w) (h:DataW.trod enc P w 0 EG hd fuel 76 cs=some x):∃(xs:List gB) (d:D),Sl 2 eA xs d/\xs.length<=9223372036854775807/\jh w [d] cs:=by
 obtain⟨xs,d,h1,h2, -,h3⟩:=qp (Good:=fun _=>True) (enc':=eA) oF um (by decide) jU hb (fun m hm cs x h=>by obtain⟨s,hs⟩:=Ad h;exact⟨s,trivial,hs⟩) h
 exact⟨xs,d,h1,h2,h3⟩
def M6 (d:Ed):Prop:=(Sl 2 eA d.hours d.dh/\d.hours.length<=9223372036854775807)/\(Sl 2 eA d.shut d.ds/\d.shut.length<=9223372036854775807)
theorem aDY (hb:B3 w) (h:DataW.trod enc P w 0 EG hd fuel 78 cs=some x):∃d:Ed,M6 d/\jh w (rm d) cs:=by
 obtain⟨n, -,hl,hf⟩:=mW Zl (by simp) h
 rw [DT] at hl
 obtain⟨_,h0⟩:=hf 0 _ rfl
 obtain⟨_,h1⟩:=hf 1 _ rfl
 rw [aGJ] at h0 h1
 obtain⟨a,da,a1,a2,h0⟩:=Vu hb h0
 obtain⟨b,db,b1,b2,h1⟩:=Vu hb h1
 exact⟨⟨a,da,b,db⟩,⟨⟨a1,a2⟩,b1,b2⟩,by rw [←List.drop_zero (l:=cs)];exact .seg 1 h0 (.seg 1 h1 (.fin hl))⟩
theorem aES (hb:B3 w) (h:DataW.trod enc P w 0 EG hd fuel 26 cs=some x):∃s:li,rq s/\jh w (dC s) cs:=by
 obtain⟨n, -,hl,hf⟩:=mW aAB (by simp) h
 rw [aGB] at hl
 obtain⟨_,h0⟩:=hf 0 _ rfl
 obtain⟨_,h1⟩:=hf 1 _ rfl
 obtain⟨_,h2⟩:=hf 2 _ rfl
 rw [aGL] at h0
 rw [aGH] at h1
 rw [aGE] at h2
 obtain⟨r,dr,r1,r2,r3,h0⟩:=qp (Good:=fun s:ov=>s.name.length<=9223372036854775807) (enc':=qc) lC xp (by decide) lL hb (fun m hm cs x h=>UX h) h0
 obtain⟨d,dd,d1,d2,d3,h1⟩:=qp (Good:=M6) (enc':=rm) mH DT (by decide) jx hb (fun m hm cs x h=>aDY hb h) h1
 obtain⟨y,dy,y1,y2, -,h2⟩:=qp (Good:=fun _=>True) (enc':=AI) ru DP (by decide) vu hb (fun m hm cs x h=>by obtain⟨s,hs⟩:=Ve h;exact⟨s,trivial,hs⟩) h2
 exact⟨⟨r,dr,d,dd,y,dy⟩,⟨r1,r2,r3,d1,d2,fun q hq=>(d3 q hq).1.1,fun q hq=>(d3 q hq).1.2,fun q hq=>(d3 q hq).2.1,fun q hq=>(d3 q hq).2.2,y1,y2⟩,by rw [←List.drop_zero (l:=cs)];exact .seg 1 h0 (.seg 1 h1 (.seg 1 h2 (.fin hl)))⟩
theorem aDT (hb:B3 w) (h:DataW.trod enc P w 0 EG hd fuel 31 cs=some x):∃s:bo,Sl 3 dx s.stops s.ds/\s.stops.length<=9223372036854775807/\jh w (cD s) cs:=by
 obtain⟨n, -,hl,hf⟩:=mW ZZ (by simp) h
 rw [Gv] at hl
 obtain⟨_,h0⟩:=hf 0 _ rfl
 obtain⟨_,h1⟩:=hf 1 _ rfl
 obtain⟨_,h2⟩:=hf 2 _ rfl
 obtain⟨_,h3⟩:=hf 3 _ rfl
 obtain⟨_,h4⟩:=hf 4 _ rfl
 obtain⟨_,h5⟩:=hf 5 _ rfl
 obtain⟨_,h6⟩:=hf 6 _ rfl
 rw [ce3] at h0
 rw [um] at h1 h2 h3 h4 h5
 rw [Vb] at h6
 obtain⟨a0,h0⟩:=eX h0
 obtain⟨a1,h1⟩:=Ad h1
 obtain⟨a2,h2⟩:=Ad h2
 obtain⟨a3,h3⟩:=Ad h3
 obtain⟨a4,h4⟩:=Ad h4
 obtain⟨a5,h5⟩:=Ad h5
 obtain⟨s,ds,s1,s2, -,h6⟩:=qp (Good:=fun _=>True) (enc':=dx) jX kZ (by decide) eY hb (fun m hm cs x h=>by obtain⟨s,hs⟩:=XJ h;exact⟨s,trivial,hs⟩) h6
 exact⟨⟨a0,a1,a2,a3,a4,a5,s,ds⟩,s1,s2,by rw [←List.drop_zero (l:=cs)];exact .seg 1 h0 (.seg 2 h1 (.seg 2 h2 (.seg 2 h3 (.seg 2 h4 (.seg 2 h5 (.seg 1 h6 (.fin hl)))))))⟩
theorem ZH (hb:B3 w):∀(fuel:Nat) (cs:List Value) (x:DataW H×List MemPlace),DataW.trod enc P w 0 EG hd fuel 40 cs=some x->∃o:ai,cZ o/\jh w (aC o) cs:=by
 intro fuel
 induction fuel using Nat.strongRecOn with
 | ind fuel ih=>
  intro cs x h
  obtain⟨n,hn,hl,hf⟩:=mW aDC (by simp) h
  rw [jS] at hl
  obtain⟨_,h0⟩:=hf 0 _ rfl
  obtain⟨_,h1⟩:=hf 1 _ rfl
  obtain⟨_,h2⟩:=hf 2 _ rfl
  obtain⟨_,h3⟩:=hf 3 _ rfl
  obtain⟨_,h4⟩:=hf 4 _ rfl
  obtain⟨_,h5⟩:=hf 5 _ rfl
  obtain⟨_,h6⟩:=hf 6 _ rfl
  rw [ce3] at h0 h3 h4 h5
  rw [aGK] at h1
  rw [um] at h2
  rw [aGG] at h6
  obtain⟨a0,h0⟩:=eX h0
  obtain⟨s,ds,s1,s2,s3,h1⟩:=qp (Good:=fun s:Str=>s.length<=9223372036854775807) (enc':=fE) dA ce9 (by decide) ci hb (fun m hm cs x h=>Cz h) h1
  obtain⟨a2,h2⟩:=Ad h2
  obtain⟨a3,h3⟩:=eX h3
  obtain⟨a4,h4⟩:=eX h4
  obtain⟨a5,h5⟩:=eX h5
  obtain⟨k,dk,k1,k2,k3,h6⟩:=qp (Good:=cZ) (enc':=aC) ez jS (by decide) cP hb (fun m hm cs x h=>ih m (by omega) cs x h) h6
  exact⟨.mk a0 s ds a2 a3 a4 a5 k dk,.mk _ _ _ _ _ _ _ _ _ s1 s2 s3 k1 k2 k3,by rw [←List.drop_zero (l:=cs)];exact .seg 1 h0 (.seg 1 h1 (.seg 2 h2 (.seg 1 h3 (.seg 1 h4 (.seg 1 h5 (.seg 1 h6 (.fin hl)))))))⟩
theorem aCJ (hb:B3 w) (h:DataW.trod enc P w 0 EG hd fuel 42 cs=some x):∃c:eu,jk c/\jh w (aM c) cs:=by
 obtain⟨n, -,hl,hf⟩:=mW Vy (by simp) h
 rw [XP] at hl
 obtain⟨_,h0⟩:=hf 0 _ rfl
 obtain⟨_,h1⟩:=hf 1 _ rfl
 obtain⟨_,h2⟩:=hf 2 _ rfl
 obtain⟨_,h3⟩:=hf 3 _ rfl
 obtain⟨_,h4⟩:=hf 4 _ rfl
 obtain⟨_,h5⟩:=hf 5 _ rfl
 obtain⟨_,h6⟩:=hf 6 _ rfl
 obtain⟨_,h7⟩:=hf 7 _ rfl
 obtain⟨_,h8⟩:=hf 8 _ rfl
 rw [aGB] at h0
 rw [Gv] at h1
 rw [aGC] at h2
 rw [aGM] at h3
 rw [aGF] at h4
 rw [aFZ] at h5
 rw [ce3] at h6 h7
 rw [jS] at h8
 obtain⟨ho,o1,h0⟩:=aES hb h0
 obtain⟨s,s1,s2,h1⟩:=aDT hb h1
 obtain⟨ik,h2⟩:=aBM h2
 obtain⟨k,dk,k1,k2, -,h3⟩:=qp (Good:=fun _=>True) (enc':=fe) jE rE (by decide) fA hb (fun m hm cs x h=>by obtain⟨s,hs⟩:=Zg h;exact⟨s,trivial,hs⟩) h3
 obtain⟨t,dt,t1,t2,t3,h4⟩:=qp (Good:=fun s:gk=>s.name.length<=9223372036854775807) (enc':=dT) jR qR (by decide) cH hb (fun m hm cs x h=>Y0 h) h4
 obtain⟨m,dm,m1,m2, -,h5⟩:=qp (Good:=fun _=>True) (enc':=wo) EP aGA (by decide) aFY hb (fun m hm cs x h=>by obtain⟨s,hs⟩:=aDB h;exact⟨s,trivial,hs⟩) h5
 obtain⟨a,h6⟩:=eX h6
 obtain⟨b,h7⟩:=eX h7
 obtain⟨o,oo,h8⟩:=ZH hb _ _ _ h8
 refine⟨⟨ho,s,ik,k,dk,t,dt,m,dm,a,b,o⟩,⟨o1,s1,s2,⟨k1,k2,o1.rooms,o1.roomsL,t1,t2,t3⟩,m1,m2,oo⟩, ?_⟩
 have h9:=jh.seg 8 h8 (.fin hl)
 have:=jh.seg 3 h0 (.seg 12 h1 (.seg 3 h2 (.seg 1 h3 (.seg 1 h4 (.seg 1 h5 (.seg 1 h6 (.seg 1 h7 h9)))))))
 rw [List.append_nil] at this
 exact this
end
end Go.S5
