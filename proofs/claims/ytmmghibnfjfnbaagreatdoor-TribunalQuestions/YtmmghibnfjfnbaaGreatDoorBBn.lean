/- A part of the proof of TribunalQuestions. -/
import Derived.Test.YtmmghibnfjfnbaaGreatDoorBAp
import Derived.ChangeArms
import Derived.DataReads
import Derived.ProofKit
import Derived.Test.YtmmghibnfjfnbaaGreatDoorRows
import Derived.KernelRfl
import Derived.LaidLaws
import Derived.LaidMore
import Derived.OpenShut
import Derived.Carry
import Derived.Stop.Joined
import Derived.SevenTiedAt
import Derived.HandedShaped
import Derived.Shelf.Vars
import Derived.Lay
import Derived.Stop.LaidErr
set_option linter.unusedVariables false
set_option linter.unusedSimpArgs false
namespace Go.S9
open Go.Ev Go.Proofs
set_option maxRecDepth 100000
set_option linter.unusedVariables false
set_option linter.unusedSimpArgs false
def HasD (w:World) (ds:List D) (cs:List Value):Prop:=∃L,DVs (hpz w) true ds cs L
theorem DVs.app {z:Nat→Option Obj} {b:List D} {y:List Value} {M:List Nat} (hb:DVs z true b y M):∀{a:List D} {x:List Value} {L:List Nat},DVs z true a x L→DVs z true (a++b) (x++y) (L++M)
 | _,_,_, .nil=>hb
 | _,_,_, .cons d v L ds vs L' h hs=>by rw [List.append_assoc];exact .cons d v L _ _ _ h (DVs.app hb hs)
theorem HasD.seg {w:World} {a b:List D} {cs:List Value} {o:Nat} (k:Nat) (h1:HasD w a ((cs.drop o).take k)) (h2:HasD w b (cs.drop (o+k))):HasD w (a++b) (cs.drop o):=by
 obtain⟨L,h1⟩:=h1
 obtain⟨M,h2⟩:=h2
 refine⟨L++M, ?_⟩
 have e:cs.drop o=(cs.drop o).take k++cs.drop (o+k):=by rw [←List.drop_drop,List.take_append_drop]
 rw [e]
 exact DVs.app h2 h1
theorem HasD.fin {w:World} {cs:List Value} {o:Nat} (h:cs.length=o):HasD w [] (cs.drop o):=by
 rw [List.drop_of_length_le (by omega)]
 exact⟨[], .nil⟩
theorem HasD.one {w:World} {d:D} {v:Value} {L:List Nat} (h:DV (hpz w) true d v L):HasD w [d] [v]:=⟨L++[], .cons _ _ _ _ _ _ h .nil⟩
section
variable {H : Type} {enc : TypeId × Value → H} {w : World} {sp : Nat → Bool} {hd : Bool} {fuel : Nat} {cs : List Value} {x : DataW H × List MemPlace}
theorem of_wf {n:Int} (h:(Lit.int .i64 n).wf=true):inR n:=by
 simp only [Lit.wf,Bool.and_eq_true,decide_eq_true_eq] at h
 exact⟨h.1,h.2⟩
def shp (P:Program) (t:TypeId):List (TypeId×Nat):=match P.underlying t with
 | some (.struct fs)=>fs.toList.map fun f=>(f.type,f.offset)
 | _=>[]
theorem st_rd {t:TypeId} {l:List (TypeId×Nat)} (hs:shp P t=l) (hne:l≠[]) (h:DataW.trod enc P w 0 sp hd fuel t cs=some x):
  ∃n,fuel=n+1∧cs.length=P.cellsOf t∧∀(i:Nat) (p:TypeId×Nat),l[i]? =some p→∃y,DataW.trod enc P w 0 sp hd n p.1 ((cs.drop p.2).take (P.cellsOf p.1))=some y:=by
 unfold shp at hs
 split at hs
 ·rename_i fs hu
  obtain⟨xs,n,h1, -,h3,h4,h5⟩:=DataW.trod_struct hu h
  refine⟨n,h1,h3,fun i p hp=> ?_⟩
  rw [←hs,List.getElem?_map] at hp
  obtain⟨f,hf,rfl⟩:=Option.map_eq_some_iff.1 hp
  have h6:=h5 i f (by simpa using hf)
  have hi:i<xs.length:=by
   rw [h4]
   have:=(List.getElem?_eq_some_iff.1 hf).1
   simpa using this
  exact⟨xs[i],by rw [h6,List.getElem?_eq_getElem hi]⟩
 ·exact absurd hs.symm hne
theorem rd_intk {t:TypeId} (ht:P.underlying t=some (.int .i64)) (h:DataW.trod enc P w 0 sp hd fuel t cs=some x):∃n:Int,inR n∧HasD w [.int .i64 n] cs:=by
 obtain⟨n,rfl, -,hw⟩:=DataW.trod_int ht h
 exact⟨n,of_wf hw, .one (.int _ _)⟩
theorem rd_int (h:DataW.trod enc P w 0 sp hd fuel 3 cs=some x):∃n:Int,inR n∧HasD w [.int .i64 n] cs:=rd_intk un3 h
theorem rd_bool (h:DataW.trod enc P w 0 sp hd fuel 4 cs=some x):∃b:Bool,HasD w [.bool b] cs:=by
 obtain⟨b,rfl, -⟩:=DataW.trod_bool un4 h
 exact⟨b, .one (.bool _)⟩
theorem rd_str (h:DataW.trod enc P w 0 sp hd fuel 9 cs=some x):∃s:Str,s.length≤9223372036854775807∧HasD w [.str s] cs:=by
 obtain⟨s,rfl, -,hs⟩:=DataW.trod_string un9 h
 exact⟨nt s.data.toList,by rw [←nt_size rfl];exact Nat.le_trans hs (by decide), .one (.str _ _ rfl)⟩
end
theorem sh23:shp P 23=[(3,0),(3,1)]:=by kernel_rfl
theorem sh25:shp P 25=[(3,0),(3,1)]:=by kernel_rfl
theorem sh27:shp P 27=[(3,0),(3,1),(3,2),(9,3),(23,4),(3,6),(3,7),(25,8)]:=by kernel_rfl
theorem ce25':P.cellsOf 25=2:=by kernel_rfl
theorem ce23':P.cellsOf 23=2:=by kernel_rfl
theorem ce27':P.cellsOf 27=10:=by kernel_rfl
section
variable {H : Type} {enc : TypeId × Value → H} {w : World} {hd : Bool} {fuel : Nat} {cs : List Value} {x : DataW H × List MemPlace} {sp : Nat → Bool}
theorem rd23 (h:DataW.trod enc P w 0 sp hd fuel 23 cs=some x):∃a b:Int,HasD w [.int .i64 a, .int .i64 b] cs:=by
 obtain⟨n, -,hl,hf⟩:=st_rd sh23 (by simp) h
 rw [ce23'] at hl
 obtain⟨_,h0⟩:=hf 0 _ rfl
 obtain⟨_,h1⟩:=hf 1 _ rfl
 rw [ce3] at h0 h1
 obtain⟨a, -,h0⟩:=rd_int h0
 obtain⟨b, -,h1⟩:=rd_int h1
 exact⟨a,b,by rw [←List.drop_zero (l:=cs)];exact .seg 1 h0 (.seg 1 h1 (.fin hl))⟩
theorem rd25 (h:DataW.trod enc P w 0 sp hd fuel 25 cs=some x):∃a b:Int,HasD w [.int .i64 a, .int .i64 b] cs:=by
 obtain⟨n, -,hl,hf⟩:=st_rd sh25 (by simp) h
 rw [ce25'] at hl
 obtain⟨_,h0⟩:=hf 0 _ rfl
 obtain⟨_,h1⟩:=hf 1 _ rfl
 rw [ce3] at h0 h1
 obtain⟨a, -,h0⟩:=rd_int h0
 obtain⟨b, -,h1⟩:=rd_int h1
 exact⟨a,b,by rw [←List.drop_zero (l:=cs)];exact .seg 1 h0 (.seg 1 h1 (.fin hl))⟩
theorem rd27 (h:DataW.trod enc P w 0 sp hd fuel 27 cs=some x):∃q:Quest,q.place.length≤9223372036854775807∧HasD w (eQ q) cs:=by
 obtain⟨n, -,hl,hf⟩:=st_rd sh27 (by simp) h
 rw [ce27'] at hl
 obtain⟨_,h0⟩:=hf 0 _ rfl
 obtain⟨_,h1⟩:=hf 1 _ rfl
 obtain⟨_,h2⟩:=hf 2 _ rfl
 obtain⟨_,h3⟩:=hf 3 _ rfl
 obtain⟨_,h4⟩:=hf 4 _ rfl
 obtain⟨_,h5⟩:=hf 5 _ rfl
 obtain⟨_,h6⟩:=hf 6 _ rfl
 obtain⟨_,h7⟩:=hf 7 _ rfl
 rw [ce3] at h0 h1 h2 h5 h6
 rw [ce9] at h3
 rw [ce23'] at h4
 rw [ce25'] at h7
 obtain⟨a0, -,h0⟩:=rd_int h0
 obtain⟨a1, -,h1⟩:=rd_int h1
 obtain⟨a2, -,h2⟩:=rd_int h2
 obtain⟨s,hs,h3⟩:=rd_str h3
 obtain⟨lo,hi,h4⟩:=rd23 h4
 obtain⟨a5, -,h5⟩:=rd_int h5
 obtain⟨a6, -,h6⟩:=rd_int h6
 obtain⟨o,no,h7⟩:=rd25 h7
 refine⟨⟨a0,a1,a2,s,lo,hi,a5,a6,o,no⟩,hs, ?_⟩
 have h9:=HasD.seg 1 h0 (.seg 1 h1 (.seg 1 h2 (.seg 1 h3 (.seg 2 h4 (.seg 1 h5 (.seg 1 h6 (.seg 2 h7 (.fin hl))))))))
 exact h9
end
end Go.S9
namespace Go.Proofs.YtmmghibnfjfnbaaGreatDoor
open Go
set_option maxRecDepth 1000000
noncomputable def tnP (u:Nat):Bool:=(Tryz.prog.typeName? 3 u !=some "*errors.errorString" ||u==537)&&(Tryz.prog.typeName? 2 u !=some "errors.errorString" ||(match (Tryz.prog.info? u).map (·.desc) with | some (TypeDesc.named _ _)=>true | _=>false))
end Go.Proofs.YtmmghibnfjfnbaaGreatDoor
namespace Go.Proofs.YtmmghibnfjfnbaaGreatDoor
open Go
set_option maxRecDepth 1000000
theorem tn0:(List.range 43).all (fun j=>tnP (43 * 0+j))=true:=by kernel_rfl
theorem tn1:(List.range 43).all (fun j=>tnP (43 * 1+j))=true:=by kernel_rfl
theorem tn2:(List.range 43).all (fun j=>tnP (43 * 2+j))=true:=by kernel_rfl
theorem tn3:(List.range 43).all (fun j=>tnP (43 * 3+j))=true:=by kernel_rfl
theorem tn4:(List.range 43).all (fun j=>tnP (43 * 4+j))=true:=by kernel_rfl
theorem tn5:(List.range 43).all (fun j=>tnP (43 * 5+j))=true:=by kernel_rfl
end Go.Proofs.YtmmghibnfjfnbaaGreatDoor
namespace Go.Proofs.YtmmghibnfjfnbaaGreatDoor
open Go
set_option maxRecDepth 1000000
theorem tn6:(List.range 43).all (fun j=>tnP (43 * 6+j))=true:=by kernel_rfl
theorem tn7:(List.range 43).all (fun j=>tnP (43 * 7+j))=true:=by kernel_rfl
theorem tn8:(List.range 43).all (fun j=>tnP (43 * 8+j))=true:=by kernel_rfl
theorem tn9:(List.range 43).all (fun j=>tnP (43 * 9+j))=true:=by kernel_rfl
theorem tn10:(List.range 43).all (fun j=>tnP (43 * 10+j))=true:=by kernel_rfl
theorem tn11:(List.range 43).all (fun j=>tnP (43 * 11+j))=true:=by kernel_rfl
end Go.Proofs.YtmmghibnfjfnbaaGreatDoor
namespace Go.Proofs.YtmmghibnfjfnbaaGreatDoor
open Go
set_option maxRecDepth 1000000
theorem tn12:(List.range 43).all (fun j=>tnP (43 * 12+j))=true:=by kernel_rfl
theorem tn13:(List.range 43).all (fun j=>tnP (43 * 13+j))=true:=by kernel_rfl
theorem tn14:(List.range 43).all (fun j=>tnP (43 * 14+j))=true:=by kernel_rfl
theorem tn15:(List.range 43).all (fun j=>tnP (43 * 15+j))=true:=by kernel_rfl
theorem tn16:(List.range 43).all (fun j=>tnP (43 * 16+j))=true:=by kernel_rfl
theorem tn17:(List.range 43).all (fun j=>tnP (43 * 17+j))=true:=by kernel_rfl
end Go.Proofs.YtmmghibnfjfnbaaGreatDoor
namespace Go.Proofs.YtmmghibnfjfnbaaGreatDoor
open Go
set_option maxRecDepth 1000000
theorem tn18:(List.range 43).all (fun j=>tnP (43 * 18+j))=true:=by kernel_rfl
theorem tn19:(List.range 43).all (fun j=>tnP (43 * 19+j))=true:=by kernel_rfl
theorem tn20:(List.range 43).all (fun j=>tnP (43 * 20+j))=true:=by kernel_rfl
theorem tn21:(List.range 43).all (fun j=>tnP (43 * 21+j))=true:=by kernel_rfl
end Go.Proofs.YtmmghibnfjfnbaaGreatDoor
namespace Go.Proofs.YtmmghibnfjfnbaaGreatDoor
open Go
set_option maxRecDepth 1000000
theorem tnAll:∀i,i<22→(List.range 43).all (fun j=>tnP (43 * i+j))=true:=by
 intro i hi
 match i,hi with
 | 0,_=>exact tn0
 | 1,_=>exact tn1
 | 2,_=>exact tn2
 | 3,_=>exact tn3
 | 4,_=>exact tn4
 | 5,_=>exact tn5
 | 6,_=>exact tn6
 | 7,_=>exact tn7
 | 8,_=>exact tn8
 | 9,_=>exact tn9
 | 10,_=>exact tn10
 | 11,_=>exact tn11
 | 12,_=>exact tn12
 | 13,_=>exact tn13
 | 14,_=>exact tn14
 | 15,_=>exact tn15
 | 16,_=>exact tn16
 | 17,_=>exact tn17
 | 18,_=>exact tn18
 | 19,_=>exact tn19
 | 20,_=>exact tn20
 | 21,_=>exact tn21
 | n+22,h=>exact absurd h (by omega)
theorem tnT (f:Nat) (hf:f<946):tnP f=true:=by
 have h1:=List.all_eq_true.1 (tnAll (f/43) (by omega)) (f%43) (by rw [List.mem_range];omega)
 rwa [show 43 * (f/43)+f%43=f by omega] at h1
theorem tn_size:Tryz.prog.types.size=946:=by kernel_rfl
theorem star: "*" ++ "errors.errorString" = "*errors.errorString" :=by decide
theorem row537 (u:TypeId) (h:Tryz.prog.typeName? 3 u=some "*errors.errorString"):u=537:=
 typeName_ptr_named (nm:= "errors.errorString") (List.all_eq_true.2 fun u hu=>by
   have:=tnT u (by rw [List.mem_range,tn_size] at hu;exact hu)
   rw [star];exact (Bool.and_eq_true _ _▸this).1)
  (List.all_eq_true.2 fun u hu=>by
   have:=tnT u (by rw [List.mem_range,tn_size] at hu;exact hu)
   exact (Bool.and_eq_true _ _▸this).2) (by decide) u (by rw [star];exact h)
end Go.Proofs.YtmmghibnfjfnbaaGreatDoor
namespace Go.Proofs.YtmmghibnfjfnbaaGreatDoor
open Go Go.ChangeShapes Go.WideShapes Go.ChangeAt Go.WideMaps Go.WideElems Go.RowKit
set_option maxRecDepth 1000000
set_option linter.unusedVariables false
abbrev lay1:List (String×DataW Unit):=Rows.tribunalQuestionsRow.laid
theorem own:ownKnob Tryz.prog.godebug=none:=by kernel_rfl
theorem gPow:Tryz.prog.globalNamed "internal/strconv.uint64pow10" =some 0:=by kernel_rfl
theorem gTab:Tryz.prog.globalNamed "math/bits.deBruijn64tab" =some 7:=by kernel_rfl
theorem tPow:(Tryz.prog.globals[0]?).map (·.type)=some 365:=by kernel_rfl
theorem tTab:(Tryz.prog.globals[7]?).map (·.type)=some 678:=by kernel_rfl
theorem u678:Tryz.prog.underlying 678=some (.array 64 5):=by kernel_rfl
theorem u365:Tryz.prog.underlying 365=some (.array 20 251):=by kernel_rfl
theorem c678:Tryz.prog.cellsOf 678=64:=by kernel_rfl
theorem c365:Tryz.prog.cellsOf 365=20:=by kernel_rfl
theorem cu5:Tryz.prog.cellsOf 5=1:=by kernel_rfl
theorem c251:Tryz.prog.cellsOf 251=1:=by kernel_rfl
theorem u5:Tryz.prog.underlying 5=some (.int .u8):=by kernel_rfl
theorem u251:Tryz.prog.underlying 251=some (.int .u64):=by kernel_rfl
def tabN:List Int:=[0,1,56,2,57,49,28,3,61,58,42,50,38,29,17,4,62,47,59,36,45,43,51,22,53,39,33,30,24,18,12,5,63,55,48,27,60,41,37,16,46,35,44,21,52,32,23,11,54,26,40,15,34,20,31,10,25,14,19,9,13,8,7,6]
theorem tab_deB:Go.S9.deB=tabN.map (Go.Ev.AV.int .u8):=by kernel_rfl
theorem tab_laid:Rows.laid_math_bits_deBruijn64tab (H:=Unit)= .agg (tabN.map fun n=> .lit (.int .u8 n)):=by kernel_rfl
theorem pow_laid:Rows.laid_internal_strconv_uint64pow10 (H:=Unit)= .agg (Lib.pow10Tab.map fun n=> .lit (.int .u64 n)):=by kernel_rfl
theorem tab_cells {W:World} {name:String} {g t e:Nat} {n:Nat} {k:IntKind} {N:List Int} {cs:Array Value} {fuel:Nat} {p:List MemPlace}
  (hg:Tryz.prog.globalNamed name=some g) (ut:Tryz.prog.underlying t=some (.array n e)) (ct:Tryz.prog.cellsOf t=n) (ce:Tryz.prog.cellsOf e=1) (ue:Tryz.prog.underlying e=some (.int k)) (hN:N.length=n)
  (hv:W.var? Tryz.prog name=some cs) (hd:DataW.trod (fun _=>()) Tryz.prog W 0 (fun _=>true) false fuel t cs.toList=some (.agg (N.map fun n=> .lit (.int k n)),p)):
  ∃arr el fz,W.heap[g]? =some (.cells arr el fz)∧arr.size=(N.map (Go.Ev.AV.int k)).length∧∀(i:Nat) (c:Go.Ev.AV),(N.map (Go.Ev.AV.int k))[i]? =some c→∃v,arr[i]? =some v∧Go.Ev.VR Go.Ev.Mu.none c v:=by
 obtain⟨xs,m1, -,hx1,hlen,hn3,hel⟩:=DataW.trod_array ut hd
 simp only [Prod.mk.injEq] at hx1
 have hheap:∃t f,W.heap[g]? =some (.cells cs t f):=by
  simp only [World.var?,hg,Option.bind_some] at hv
  split at hv
  ·rename_i c t f hh
   simp only [Option.some.injEq] at hv
   subst hv
   exact⟨t,f,hh⟩
  ·cases hv
 obtain⟨t',f,hh⟩:=hheap
 have hsz:cs.size=n:=by rw [←Array.length_toList,hlen,ct]
 refine⟨cs,t',f,hh,by rw [hsz,List.length_map,hN],fun i c hc=> ?_⟩
 rw [List.getElem?_map] at hc
 obtain⟨z,hz,rfl⟩:=Option.map_eq_some_iff.1 hc
 have hi:i<n:=by
  have:=(List.getElem?_eq_some_iff.1 hz).1
  omega
 have h0:=hel i hi
 rw [ce,Nat.mul_one] at h0
 rw [List.getElem?_eq_getElem (by omega:i<xs.length)] at h0
 obtain⟨q,e1,e2, -⟩:=DataW.trod_int ue h0
 have hk:q=z:=by
  have e3:(xs.map (·.1))[i]? =some (.lit (.int k q)):=by rw [List.getElem?_map,List.getElem?_eq_getElem (by omega:i<xs.length),e2];rfl
  have e5:=hx1.1
  simp only [DataW.agg.injEq] at e5
  rw [←e5,List.getElem?_map,hz] at e3
  simp at e3
  exact e3.symm
 subst hk
 refine⟨.int k q, ?_, .int _ _⟩
 have e4:((cs.toList.drop i).take 1)[0]? =some (.int k q):=by rw [e1];rfl
 rw [List.getElem?_take_of_lt (by decide),List.getElem?_drop,Array.getElem?_toList,Nat.add_zero] at e4
 exact e4
theorem begin1:((begin Tryz.prog (fun _ _=>0) default).world.heap[1]?).bind Obj.row? =some (#[.int .i64 0],3):=by kernel_rfl
theorem globals_size:Tryz.prog.globals.size=8:=by kernel_rfl
theorem max_cell {W:World} (h:W.ShapedOpen Tryz.prog):∃K:Int,W.heap[1]? =some (.cells #[.int .i64 K] 3):=by
 obtain⟨cs,hh,hs, -⟩:=h.1 1 _ 3 (by rw [globals_size];decide) begin1
 obtain⟨m,hm⟩:=cell_of_shapedOpen_int h (g:=1) (t:=3) (by rw [globals_size];decide) begin1 rfl (by kernel_rfl) (by kernel_rfl) Go.S9.un3
 refine⟨m, ?_⟩
 have h1:cs.size=1:=hs
 have e:cs[0]? =some (.int .i64 m):=by
  simpa [World.cell?,hh] using hm
 have:cs=#[.int .i64 m]:=by
  apply Array.ext
  ·rw [h1];rfl
  ·intro i hi _
   obtain rfl:i=0:=by omega
   rw [Array.getElem?_eq_getElem (by omega)] at e
   simpa using e
 rw [hh,this]
theorem gSyn:Tryz.prog.globalNamed "strconv.ErrSyntax" =some 2:=by kernel_rfl
theorem gRan:Tryz.prog.globalNamed "strconv.ErrRange" =some 3:=by kernel_rfl
theorem tSyn:(Tryz.prog.globals[2]?).map (·.type)=some 86:=by kernel_rfl
theorem tRan:(Tryz.prog.globals[3]?).map (·.type)=some 86:=by kernel_rfl
theorem un537:Tryz.prog.underlying 537=some (.pointer 539):=by kernel_rfl
theorem ce539:Tryz.prog.cellsOf 539=1:=by kernel_rfl
theorem iface86:(match Tryz.prog.underlying 86 with | some (.interface _)=>true | _=>false)=true:=by kernel_rfl
theorem struct539:(match Tryz.prog.underlying 539 with | some (.struct fs)=>fs.size==1&&(match fs[0]? with | some f=>f.type==9&&f.offset==0 | none=>false)| _=>false)=true:=by kernel_rfl
theorem un86i:∃ms,Tryz.prog.underlying 86=some (.interface ms):=by
 have h:=iface86
 split at h
 ·exact⟨_,by assumption⟩
 ·cases h
theorem un539s:∃f:Field,Tryz.prog.underlying 539=some (.struct #[f])∧f.type=9∧f.offset=0:=by
 have h:=struct539
 split at h
 ·rename_i fs hu
  rw [Bool.and_eq_true,beq_iff_eq] at h
  obtain⟨h1,h2⟩:=h
  split at h2
  ·rename_i f hf
   rw [Bool.and_eq_true,beq_iff_eq,beq_iff_eq] at h2
   refine⟨f, ?_,h2.1,h2.2⟩
   rw [hu]
   congr 2
   apply Array.ext
   ·simpa using h1
   ·intro i h3 h4
    obtain rfl:i=0:=by omega
    rw [Array.getElem?_eq_getElem h3] at hf
    simpa using hf
  ·cases h2
 ·cases h
theorem err_of {n:String} {text:List UInt8} {r:List (String×DataW Unit)} {W:World} {g:Nat} (h:laidMet Tryz.prog ((n, .iface "*errors.errorString" (.ptr (.agg [.lit (.string text)])))::r) W)
  (hg:Tryz.prog.globalNamed n=some g) (ht:(Tryz.prog.globals[g]?).map (·.type)=some 86):∃(t b o:Nat) (arr:Array Value) (el:TypeId) (fz:Nat×Nat),W.heap[g]? =some (.cells arr el fz)∧arr=#[.iface t (.pointer (some ⟨b,o,none⟩))]:=by
 obtain⟨ms,h86⟩:=un86i
 obtain⟨f,h539,hft,hfo⟩:=un539s
 obtain⟨a,s,hv,hc, -, -⟩:=laid_sentinel h hg ht h86 row537 un537 h539 hft hfo Go.S9.un9 ce539 Go.S9.ce9
 simp only [World.var?,hg,Option.bind_some] at hv
 split at hv
 ·rename_i cs el fz hh
  simp only [Option.some.injEq] at hv
  obtain⟨b,o,sp⟩:=a
  have hsp:sp=none:=by
   unfold World.cell? at hc
   split at hc
   ·split at hc
    ·cases hc
    ·rename_i hs
     cases sp with
     | none=>rfl
     | some q=>simp at hs
   ·cases hc
  subst hsp
  exact⟨537,b,o,cs,el,fz,hh,hv⟩
 ·cases hv
theorem glob_ok {W:World} (h:laidMetH Tryz.prog lay1 W) (hs:W.ShapedOpen Tryz.prog):∃K,Go.Ev.GlobOK (Go.S9.G K) W:=by
 rw [MakeChecks.laidMetH_plain _ _ _ (by kernel_rfl)] at h
 obtain⟨t2,b2,o2,arr2,el2,fz2,hh2,rfl⟩:=err_of (n:= "strconv.ErrSyntax") h.tail.tail gSyn tSyn
 obtain⟨t3,b3,o3,arr3,el3,fz3,hh3,rfl⟩:=err_of (n:= "strconv.ErrRange") h.tail.tail.tail gRan tRan
 obtain⟨ps,⟨_,_,_,_,_,_, -, -, -, -,⟨_,_,_,_,_,_, -, -, -, -,⟨_,_,_,_,_,_, -, -, -, -,⟨_,_,_,_,_,_, -, -, -, -,⟨g4,t4,cs4,f4,p4,q4,hg4,ht4,hv4,hd4,⟨_,_,_,_,_,_, -, -, -, -,⟨g6,t6,cs6,f6,p6,q6,hg6,ht6,hv6,hd6, -⟩, -⟩, -⟩, -⟩, -⟩, -⟩, -⟩, -, -⟩:=h
 obtain rfl:=Option.some.inj (gPow.symm.trans hg4)
 obtain rfl:=Option.some.inj (tPow.symm.trans ht4)
 obtain rfl:=Option.some.inj (gTab.symm.trans hg6)
 obtain rfl:=Option.some.inj (tTab.symm.trans ht6)
 obtain⟨K,hK⟩:=max_cell hs
 refine⟨⟨K,t2,b2,o2,t3,b3,o3⟩,fun g cs hg=> ?_⟩
 unfold Go.S9.G at hg
 split at hg
 ·simp only [Option.some.injEq] at hg
  subst hg
  rw [pow_laid] at hd4
  exact tab_cells gPow u365 c365 c251 u251 Lib.pow10Tab_length hv4 hd4
 ·simp only [Option.some.injEq] at hg
  subst hg
  refine⟨_,_,_,hK,rfl,fun i c hc=> ?_⟩
  match i with
  | 0=>cases hc;exact⟨_,rfl, .int _ _⟩
  | i+1=>simp at hc
 ·simp only [Option.some.injEq] at hg
  subst hg
  refine⟨_,_,_,hh2,rfl,fun i c hc=> ?_⟩
  match i with
  | 0=>cases hc;exact⟨_,rfl, .ifc _ _ _ (.gptr _ _)⟩
  | i+1=>simp at hc
 ·simp only [Option.some.injEq] at hg
  subst hg
  refine⟨_,_,_,hh3,rfl,fun i c hc=> ?_⟩
  match i with
  | 0=>cases hc;exact⟨_,rfl, .ifc _ _ _ (.gptr _ _)⟩
  | i+1=>simp at hc
 ·simp only [Option.some.injEq] at hg
  subst hg
  rw [tab_laid] at hd6
  rw [tab_deB]
  exact tab_cells gTab u678 c678 cu5 u5 rfl hv6 hd6
 ·cases hg
end Go.Proofs.YtmmghibnfjfnbaaGreatDoor
