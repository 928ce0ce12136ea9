/- A part of the proof of TribunalQuestions. -/
import Derived.Test.YtmmghibnfjfnbaaGreatDoorBBn
import Derived.Test.YtmmghibnfjfnbaaGreatDoorBBm
import Derived.Test.YtmmghibnfjfnbaaGreatDoorBCb
import Derived.Test.YtmmghibnfjfnbaaGreatDoorCards
set_option linter.unusedVariables false
set_option linter.unusedSimpArgs false
namespace Go.Proofs.YtmmghibnfjfnbaaGreatDoor
open Go Go.ChangeShapes Go.WideShapes Go.ChangeAt Go.WideMaps Go.WideElems Go.RowKit
set_option maxRecDepth 1000000
set_option linter.unusedVariables false
theorem law_calls {H:Type} {enc:TypeId×Value→H} {W:World} {v0 v1:Value} {d0 d1:DataW H} {p0 p1:List MemPlace} {K:Go.S9.GP} (hg:Go.Ev.GlobOK (Go.S9.G K) W)
  (k0:∃cs,v0= .agg cs) (k1:∃s,v1= .string s)
  (h0:DataW.Trod enc Tryz.prog W 0 (fun _=>true) true 27 v0 d0 p0) (h1:DataW.Trod enc Tryz.prog W 0 (fun _=>true) true 9 v1 d1 p1):
  Calls Tryz.prog 3 #[v0,v1] W fun e W'=>e= .returned (.bool true)∧Below W.heap.size W W':=by
 obtain⟨cs0,rfl⟩:=k0
 obtain⟨s,rfl⟩:=k1
 obtain⟨f0,h0⟩:=h0
 obtain⟨f1,h1⟩:=h1
 obtain⟨q,hq,L0,hc⟩:=Go.S9.rd27 h0
 have hsz:s.size≤9223372036854775807:=by
  obtain⟨s',e, -,hs⟩:=DataW.trod_string Go.S9.un9 h1
  have e:[Value.string s]=[Value.string s']:=e
  cases e
  exact Nat.le_trans hs (by decide)
 have hall:Go.Ev.DVs (Go.Ev.hpz W) true [.agg (Go.S9.eQ q), .str (Go.S9.nt s.data.toList)] (#[Value.agg cs0, .string s]:Array Value).toList (L0++([]++[])):=
  .cons _ _ _ _ _ _ (.agg _ _ _ hc) (.cons _ _ _ _ _ _ (.str _ _ rfl) .nil)
 have:=Go.S9.law3_c (K:=K) (q:=q) (text:=Go.S9.nt s.data.toList) Go.S9.sanity6_c hq (by rw [←Go.S9.nt_size rfl];exact hsz) W _ _ hg hall
 refine (callsIn_wide.1 this).mono fun e W' ⟨v,d,M,he,hq,hv,_,hbel⟩=> ?_
 subst he hq
 cases hv
 exact⟨rfl,hbel⟩
theorem wrap_shaped {H:Type} {enc:TypeId×Value→H} {a:Assume} {C:Checked} {os:Os} {f:FuncId} {fn:Func} {s:ChangeSpec} {conds:List PathCond} {apart fresh handsOn again:Bool} {X:World→Array Value→Prop}
  (hX:∀(w w':World) (args:Array Value),w.heap=w'.heap→X w args→X w' args)
  (own:ownKnob C.prog.godebug=none) (started:os.Started) (noInit:C.prog.inits.idxOf? f=none) (hfn:C.prog.funcs[f]? =some fn)
  (witness:∃(w:World) (tape:Tape) (i:Input),w.os=os∧(w.forCall tape i).Shaped C.prog∧i.vars=[]∧Input.okWide C.prog (w.forCall tape i) .any w.heap.size f i∧
   ((s.pre enc C.prog fn conds apart (w.forCall tape i).memory i.args∧X (w.forCall tape i).memory i.args)∧sizedMet enc C.prog fn (OpenSpec.ofChange s) apart (w.forCall tape i).memory i.args)∧a.holds C.prog (lone (Frame.enter C.prog f i.args .normal) [] (w.forCall tape i)))
  (contract:∀(W:World) (base:Nat) (args:Array Value) (ds gs:List (DataW H)) (before:List MemPlace),
   (∀(j:Nat) t v,fn.params[j]? =some t→args[j]? =some v→Value.okWide C.prog W .any base t v)→
   DataW.Whole enc C.prog fn.params.toList s.vars apart W args.toList ds gs before→X W args→W.ShapedOpen C.prog→
   Calls C.prog f args W fun e W'=>∃v,e= .returned v∧s.post enc C.prog fn apart fresh handsOn again W args v W'):
  ReturnsInHanded a C os f .any (fun w args=>(s.pre enc C.prog fn conds apart w args∧X w args)∧sizedMet enc C.prog fn (OpenSpec.ofChange s) apart w args) (s.post enc C.prog fn apart fresh handsOn again):=by
 refine returnsInHanded_of_calls own started noInit witness ?_
 intro w tape i _ hsh _ hok hpre hholds
 obtain⟨_,_,_,fn',hfn',_,_,_,_,hval⟩:=hok
 have e:fn'=fn:=Option.some.inj (hfn'.symm.trans hfn)
 subst e
 obtain⟨⟨⟨ds,gs,before,hw,hc⟩,hx⟩,hz⟩:=hpre
 have hw':=DataW.Whole.of_heap (w':=w.forCall tape i) (by rfl) hw
 refine (contract (w.forCall tape i) w.heap.size i.args ds gs before hval hw' (hX _ _ _ (by rfl) hx) hsh).mono fun e W' ⟨v,he,hp⟩=> ?_
 subst he
 exact ChangeSpec.post_blind hp
end Go.Proofs.YtmmghibnfjfnbaaGreatDoor
