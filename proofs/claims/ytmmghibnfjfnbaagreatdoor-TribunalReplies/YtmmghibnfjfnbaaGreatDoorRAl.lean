/- A part of the proof of TribunalReplies. -/
import Derived.Test.YtmmghibnfjfnbaaGreatDoorRAk
import Derived.Test.YtmmghibnfjfnbaaGreatDoorRows
import Derived.ProofKit
import Derived.LaidMore
import Derived.OpenShut
import Derived.Carry
import Derived.Stop.Joined
import Derived.SevenTiedAt
import Derived.HandedShaped
import Derived.Shelf.Vars
import Derived.Lay
set_option linter.unusedVariables false
set_option linter.unusedSimpArgs false
namespace Go.Proofs.YtmmghibnfjfnbaaGreatDoor
open Go Go.ChangeShapes Go.WideShapes Go.ChangeAt Go.WideMaps Go.WideElems Go.RowKit
set_option maxRecDepth 1000000
set_option linter.unusedVariables false
abbrev lay1:List (String×DataW Unit):=Rows.tribunalRepliesRow.laid
theorem own:ownKnob Tryz.prog.godebug=none:=by kernel_rfl
theorem gPow:Tryz.prog.globalNamed "internal/strconv.uint64pow10" =some 0:=by kernel_rfl
theorem gTab:Tryz.prog.globalNamed "math/bits.deBruijn64tab" =some 7:=by kernel_rfl
theorem tPow:(Tryz.prog.globals[0]?).map (·.type)=some 365:=by kernel_rfl
theorem tTab:(Tryz.prog.globals[7]?).map (·.type)=some 678:=by kernel_rfl
theorem u678:Tryz.prog.underlying 678=some (.array 64 5):=by kernel_rfl
theorem u365:Tryz.prog.underlying 365=some (.array 20 251):=by kernel_rfl
theorem c678:Tryz.prog.cellsOf 678=64:=by kernel_rfl
theorem c365:Tryz.prog.cellsOf 365=20:=by kernel_rfl
theorem cu5:Tryz.prog.cellsOf 5=1:=by kernel_rfl
theorem c251:Tryz.prog.cellsOf 251=1:=by kernel_rfl
theorem u5:Tryz.prog.underlying 5=some (.int .u8):=by kernel_rfl
theorem u251:Tryz.prog.underlying 251=some (.int .u64):=by kernel_rfl
def tabN:List Int:=[0,1,56,2,57,49,28,3,61,58,42,50,38,29,17,4,62,47,59,36,45,43,51,22,53,39,33,30,24,18,12,5,63,55,48,27,60,41,37,16,46,35,44,21,52,32,23,11,54,26,40,15,34,20,31,10,25,14,19,9,13,8,7,6]
theorem tab_deB:Go.S9.deB=tabN.map (Go.Ev.AV.int .u8):=by kernel_rfl
theorem tab_laid:Rows.laid_math_bits_deBruijn64tab (H:=Unit)= .agg (tabN.map fun n=> .lit (.int .u8 n)):=by kernel_rfl
theorem pow_laid:Rows.laid_internal_strconv_uint64pow10 (H:=Unit)= .agg (Lib.pow10Tab.map fun n=> .lit (.int .u64 n)):=by kernel_rfl
theorem tab_cells {W:World} {name:String} {g t e:Nat} {n:Nat} {k:IntKind} {N:List Int} {cs:Array Value} {fuel:Nat} {p:List MemPlace}
  (hg:Tryz.prog.globalNamed name=some g) (ut:Tryz.prog.underlying t=some (.array n e)) (ct:Tryz.prog.cellsOf t=n) (ce:Tryz.prog.cellsOf e=1) (ue:Tryz.prog.underlying e=some (.int k)) (hN:N.length=n)
  (hv:W.var? Tryz.prog name=some cs) (hd:DataW.trod (fun _=>()) Tryz.prog W 0 (fun _=>true) false fuel t cs.toList=some (.agg (N.map fun n=> .lit (.int k n)),p)):
  ∃arr el fz,W.heap[g]? =some (.cells arr el fz)∧arr.size=(N.map (Go.Ev.AV.int k)).length∧∀(i:Nat) (c:Go.Ev.AV),(N.map (Go.Ev.AV.int k))[i]? =some c→∃v,arr[i]? =some v∧Go.Ev.VR Go.Ev.Mu.none c v:=by
 obtain⟨xs,m1, -,hx1,hlen,hn3,hel⟩:=DataW.trod_array ut hd
 simp only [Prod.mk.injEq] at hx1
 have hheap:∃t f,W.heap[g]? =some (.cells cs t f):=by
  simp only [World.var?,hg,Option.bind_some] at hv
  split at hv
  ·rename_i c t f hh
   simp only [Option.some.injEq] at hv
   subst hv
   exact⟨t,f,hh⟩
  ·cases hv
 obtain⟨t',f,hh⟩:=hheap
 have hsz:cs.size=n:=by rw [←Array.length_toList,hlen,ct]
 refine⟨cs,t',f,hh,by rw [hsz,List.length_map,hN],fun i c hc=> ?_⟩
 rw [List.getElem?_map] at hc
 obtain⟨z,hz,rfl⟩:=Option.map_eq_some_iff.1 hc
 have hi:i<n:=by
  have:=(List.getElem?_eq_some_iff.1 hz).1
  omega
 have h0:=hel i hi
 rw [ce,Nat.mul_one] at h0
 rw [List.getElem?_eq_getElem (by omega:i<xs.length)] at h0
 obtain⟨q,e1,e2, -⟩:=DataW.trod_int ue h0
 have hk:q=z:=by
  have e3:(xs.map (·.1))[i]? =some (.lit (.int k q)):=by rw [List.getElem?_map,List.getElem?_eq_getElem (by omega:i<xs.length),e2];rfl
  have e5:=hx1.1
  simp only [DataW.agg.injEq] at e5
  rw [←e5,List.getElem?_map,hz] at e3
  simp at e3
  exact e3.symm
 subst hk
 refine⟨.int k q, ?_, .int _ _⟩
 have e4:((cs.toList.drop i).take 1)[0]? =some (.int k q):=by rw [e1];rfl
 rw [List.getElem?_take_of_lt (by decide),List.getElem?_drop,Array.getElem?_toList,Nat.add_zero] at e4
 exact e4
theorem begin1:((begin Tryz.prog (fun _ _=>0) default).world.heap[1]?).bind Obj.row? =some (#[.int .i64 0],3):=by kernel_rfl
theorem globals_size:Tryz.prog.globals.size=8:=by kernel_rfl
theorem max_cell {W:World} (h:W.ShapedOpen Tryz.prog):∃K:Int,W.heap[1]? =some (.cells #[.int .i64 K] 3):=by
 obtain⟨cs,hh,hs, -⟩:=h.1 1 _ 3 (by rw [globals_size];decide) begin1
 obtain⟨m,hm⟩:=cell_of_shapedOpen_int h (g:=1) (t:=3) (by rw [globals_size];decide) begin1 rfl (by kernel_rfl) (by kernel_rfl) Go.S9.un3
 refine⟨m, ?_⟩
 have h1:cs.size=1:=hs
 have e:cs[0]? =some (.int .i64 m):=by
  simpa [World.cell?,hh] using hm
 have:cs=#[.int .i64 m]:=by
  apply Array.ext
  ·rw [h1];rfl
  ·intro i hi _
   obtain rfl:i=0:=by omega
   rw [Array.getElem?_eq_getElem (by omega)] at e
   simpa using e
 rw [hh,this]
theorem glob_ok {W:World} (h:laidMetH Tryz.prog lay1 W) (hs:W.ShapedOpen Tryz.prog):∃K,Go.Ev.GlobOK (Go.S9.G K) W:=by
 rw [MakeChecks.laidMetH_plain _ _ _ (by kernel_rfl)] at h
 obtain⟨ps,⟨_,_,_,_,_,_, -, -, -, -,⟨_,_,_,_,_,_, -, -, -, -,⟨_,_,_,_,_,_, -, -, -, -,⟨_,_,_,_,_,_, -, -, -, -,⟨g4,t4,cs4,f4,p4,q4,hg4,ht4,hv4,hd4,⟨_,_,_,_,_,_, -, -, -, -,⟨g6,t6,cs6,f6,p6,q6,hg6,ht6,hv6,hd6, -⟩, -⟩, -⟩, -⟩, -⟩, -⟩, -⟩, -, -⟩:=h
 obtain rfl:=Option.some.inj (gPow.symm.trans hg4)
 obtain rfl:=Option.some.inj (tPow.symm.trans ht4)
 obtain rfl:=Option.some.inj (gTab.symm.trans hg6)
 obtain rfl:=Option.some.inj (tTab.symm.trans ht6)
 obtain⟨K,hK⟩:=max_cell hs
 refine⟨K,fun g cs hg=> ?_⟩
 unfold Go.S9.G at hg
 split at hg
 ·simp only [Option.some.injEq] at hg
  subst hg
  rw [pow_laid] at hd4
  exact tab_cells gPow u365 c365 c251 u251 Lib.pow10Tab_length hv4 hd4
 ·simp only [Option.some.injEq] at hg
  subst hg
  refine⟨_,_,_,hK,rfl,fun i c hc=> ?_⟩
  match i with
  | 0=>cases hc;exact⟨_,rfl, .int _ _⟩
  | i+1=>simp at hc
 ·simp only [Option.some.injEq] at hg
  subst hg
  rw [tab_laid] at hd6
  rw [tab_deB]
  exact tab_cells gTab u678 c678 cu5 u5 rfl hv6 hd6
 ·cases hg
end Go.Proofs.YtmmghibnfjfnbaaGreatDoor
