/- A part of the proof of RoundAlone. -/
import Derived.Test.YtnljpmbidnnlkaaGreatDoorRBm
import Derived.Test.YtnljpmbidnnlkaaGreatDoorTie
import Derived.Test.YtnljpmbidnnlkaaGreatDoorCards
import Derived.ProofKit
import Derived.LaidMore
import Derived.OpenShut
import Derived.Carry
import Derived.Stop.Joined
import Derived.SevenTiedAt
set_option maxRecDepth 1000000
set_option linter.unusedVariables false
set_option linter.unusedSimpArgs false
namespace Go.Proofs.YtnljpmbidnnlkaaGreatDoor
open Go Go.ChangeShapes Go.WideShapes Go.ChangeAt Go.WideMaps Go.WideElems Go.RowKit
abbrev G5:List (String×DataW Unit):=[("math/bits.deBruijn64tab",Rows.laid_math_bits_deBruijn64tab)]
theorem own:ownKnob Tryz.prog.godebug=none:=by kernel_rfl
theorem Ya:Tryz.prog.globalNamed "math/bits.deBruijn64tab" =some 0:=by kernel_rfl
theorem aAS:(Tryz.prog.globals[0]?).map (·.type)=some 466:=by kernel_rfl
theorem aEZ:Tryz.prog.underlying 466=some (.array 64 5):=by kernel_rfl
theorem aFB:Tryz.prog.cellsOf 466=64:=by kernel_rfl
theorem c5:Tryz.prog.cellsOf 5=1:=by kernel_rfl
theorem u5:Tryz.prog.underlying 5=some (.int .u8):=by kernel_rfl
def Py:List Nat:=[0,1,56,2,57,49,28,3,61,58,42,50,38,29,17,4,62,47,59,36,45,43,51,22,53,39,33,30,24,18,12,5,63,55,48,27,60,41,37,16,46,35,44,21,52,32,23,11,54,26,40,15,34,20,31,10,25,14,19,9,13,8,7,6]
theorem Kh:Go.S5.deB=Py.map fun n=>Go.Ev.AV.int .u8 (.ofNat n):=by kernel_rfl
theorem F7:Rows.laid_math_bits_deBruijn64tab (H:=Unit)= .agg (Py.map fun n=>.lit (.int .u8 (.ofNat n))):=by kernel_rfl
theorem GT (i:Nat) (c:Go.Ev.AV) (h:Go.S5.deB[i]? =some c):∃n:Int,c= .int .u8 n/\(Py.map fun n=>(DataW.lit (.int .u8 (.ofNat n)):DataW Unit))[i]? =some (.lit (.int .u8 n)):=by
 rw [Kh,List.getElem?_map] at h
 obtain⟨n,h1,rfl⟩:=Option.map_eq_some_iff.1 h
 exact⟨.ofNat n,rfl,by rw [List.getElem?_map,h1];rfl⟩
theorem KV {W:World} (h:laidMetH Tryz.prog G5 W):Go.Ev.qL Go.S5.G W:=by
 rw [MakeChecks.laidMetH_plain _ _ _ (by kernel_rfl)] at h
 obtain⟨ps,⟨g0,t0,cs0,f0,p0,q0,hg0,ht0,hv0,hd0, -⟩, -, -⟩:=h
 obtain rfl:=Option.some.inj (Ya.symm.trans hg0)
 obtain rfl:=Option.some.inj (aAS.symm.trans ht0)
 obtain⟨xs,m1, -,hx1,hlen,hn3,hel⟩:=DataW.trod_array aEZ hd0
 simp only [Prod.mk.injEq] at hx1
 intro g cs hg
 unfold Go.S5.G at hg
 split at hg
 rotate_left
 ·cases hg
 simp only [Option.some.injEq] at hg
 subst hg
 have hheap:∃t f,W.heap[0]? =some (.cells cs0 t f):=by
  simp only [World.var?,Ya,Option.bind_some] at hv0
  split at hv0
  ·rename_i c t f hh
   simp only [Option.some.injEq] at hv0
   subst hv0
   exact⟨t,f,hh⟩
  ·cases hv0
 obtain⟨t,f,hh⟩:=hheap
 have hsz:cs0.size=64:=by rw [←Array.length_toList,hlen,aFB]
 refine⟨cs0,t,f,hh,by rw [hsz];kernel_rfl,fun i c hc=> ?_⟩
 obtain⟨n,rfl,hn⟩:=GT i c hc
 have hi:i<64:=by
  have:=(List.getElem?_eq_some_iff.1 hc).1
  have e:Go.S5.deB.length=64:=by kernel_rfl
  omega
 have h0:=hel i hi
 rw [c5,Nat.mul_one] at h0
 rw [List.getElem?_eq_getElem (by omega:i<xs.length)] at h0
 obtain⟨k,e1,e2, -⟩:=DataW.trod_int u5 h0
 have hk:k=n:=by
  have e3:(xs.map (·.1))[i]? =some (.lit (.int .u8 k)):=by rw [List.getElem?_map,List.getElem?_eq_getElem (by omega:i<xs.length),e2];rfl
  have e5:=hx1.1
  rw [F7] at e5
  simp only [DataW.agg.injEq] at e5
  rw [e5,e3] at hn
  simpa using hn
 subst hk
 refine⟨.int .u8 k, ?_,.int _ _⟩
 have e4:((cs0.toList.drop i).take 1)[0]? =some (.int .u8 k):=by rw [e1];rfl
 rw [List.getElem?_take_of_lt (by decide),List.getElem?_drop,Array.getElem?_toList,Nat.add_zero] at e4
 exact e4
end Go.Proofs.YtnljpmbidnnlkaaGreatDoor
