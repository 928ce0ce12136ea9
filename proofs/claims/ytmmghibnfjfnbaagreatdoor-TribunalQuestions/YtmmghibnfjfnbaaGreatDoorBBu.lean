/- A part of the proof of TribunalQuestions. -/
import Derived.Test.YtmmghibnfjfnbaaGreatDoorBBq
import Derived.Test.YtmmghibnfjfnbaaGreatDoorBBr
import Derived.Test.YtmmghibnfjfnbaaGreatDoorBBt
import Derived.JoinedOf
import Derived.Test.YtmmghibnfjfnbaaGreatDoorBBp
set_option linter.unusedVariables false
set_option linter.unusedSimpArgs false
namespace Go.Proofs.YtmmghibnfjfnbaaGreatDoor
open Go
set_option maxRecDepth 1000000
theorem types_size:Tryz.prog.types.size=946:=by kernel_rfl
theorem glob_in:Tryz.prog.globals.all (fun g=>decide (g.type<946))=true:=by kernel_rfl
theorem goAt {i:Nat} (h:i<Tryz.prog.funcs.size):(Tryz.prog.funcs[i].goes=false)∧((Stop.rowOf Tryz.prog.funcs[i]).isNone|| !Tryz.prog.funcs[i].norace)=true∧(Tryz.prog.funcs[i].params.all fun t=>decide (t<946))=true:=by
 have h1:=goT i (by rw [funcs_size] at h;omega)
 unfold goP at h1
 rw [Array.getElem?_eq_getElem h] at h1
 simpa [and_assoc] using h1
theorem laidOut:laidOutB Tryz.prog=true:=by
 unfold laidOutB
 rw [types_size,glob_in]
 have h1:(List.range 946).all (rowFine Tryz.prog)=true:=List.all_eq_true.2 fun t ht=>by
  have:=tyT t (by rw [List.mem_range] at ht;omega)
  unfold tyP at this
  exact (Bool.and_eq_true _ _▸this).1
 have h2:Tryz.prog.funcs.all (fun f=>f.params.all fun t=>decide (t<946))=true:=Array.all_eq_true.2 fun i hi=>(goAt hi).2.2
 rw [h1,h2];rfl
theorem fact_2:mapsRowed Tryz.prog=true:=by
 unfold mapsRowed
 rw [types_size]
 exact List.all_eq_true.2 fun t ht=>by
  have:=tyT t (by rw [List.mem_range] at ht;omega)
  unfold tyP at this
  exact (Bool.and_eq_true _ _▸this).2
theorem fact_24:Tryz.prog.stopsHeard=true:=by
 unfold Program.stopsHeard
 exact Array.all_eq_true.2 fun i hi=>(goAt hi).2.1
theorem goes_any:Tryz.prog.funcs.any Func.goes=false:=by
 rw [Array.any_eq_false]
 intro i hi
 rw [(goAt hi).1]
 exact Bool.false_ne_true
theorem goes5:Tryz.prog.goes 3=false:=by
 unfold Program.goes
 rw [goes_any,Bool.and_false,Bool.or_false]
 rw [List.any_eq_false]
 intro g _
 by_cases h:g<Tryz.prog.funcs.size
 ·rw [Array.getElem?_eq_getElem h,Option.any_some,(goAt h).1];exact Bool.false_ne_true
 ·rw [Array.getElem?_eq_none (Nat.le_of_not_lt h)];exact Bool.false_ne_true
end Go.Proofs.YtmmghibnfjfnbaaGreatDoor
namespace Go.Proofs.YtmmghibnfjfnbaaGreatDoor
open Go Go.ChangeShapes Go.WideShapes Go.ChangeAt Go.WideMaps Go.WideElems Go.RowKit
set_option maxRecDepth 1000000
set_option linter.unusedVariables false
theorem un_struct {t:TypeId} (h:Go.S9.shp Tryz.prog t≠[]):∃fs,Tryz.prog.underlying t=some (.struct fs):=by
 unfold Go.S9.shp at h
 split at h
 ·exact⟨_,by assumption⟩
 ·exact absurd rfl h
theorem agg_of {W:World} {b:Nat} {t:TypeId} {v:Value} (h:Go.S9.shp Tryz.prog t≠[]) (hv:Value.okWide Tryz.prog W .any b t v):∃cs,v= .agg cs:=by
 obtain⟨fs,hu⟩:=un_struct h
 unfold Value.okWide at hv
 rw [hu] at hv
 obtain⟨cs,h,_⟩:=hv
 exact⟨cs,h⟩
theorem u4:Tryz.prog.underlying 4=some .bool:=by kernel_rfl
theorem read47:Tryz.prog.readableRec 27=true:=by kernel_rfl
theorem par5:Tryz.f3.params=#[27,9]:=by kernel_rfl
theorem res5:Tryz.f3.resultTypes=#[4]:=by kernel_rfl
theorem no_init:Tryz.checked.prog.inits.idxOf? 3=none:=by kernel_rfl
theorem read9:Tryz.prog.readableRec 9=true:=by kernel_rfl
theorem size9:9<Tryz.prog.types.size:=by rw [types_size];decide
theorem str_of {W:World} {b:Nat} {v:Value} (hv:Value.okWide Tryz.prog W .any b 9 v):∃s,v= .string s:=by
 unfold Value.okWide at hv
 rw [Go.S9.un9] at hv
 unfold Cell.okWide at hv
 cases v<;>simp [Cell.ok] at hv
 exact⟨_,rfl⟩
theorem size47:27<Tryz.prog.types.size:=by rw [types_size];decide
theorem lifted (os:Os) (started:os.Started) (H:Type) (enc:TypeId×Value→H):
  ReturnsInHanded {} Tryz.checked os 3 .any (fun w args=>(Rows.tribunalQuestionsSpec.pre enc Tryz.prog Tryz.f3 [] false w args∧laidMetH Tryz.prog lay1 w)∧sizedMet enc Tryz.prog Tryz.f3 (OpenSpec.ofChange Rows.tribunalQuestionsSpec) false w args)
   (Rows.tribunalQuestionsSpec.post enc Tryz.prog Tryz.f3 false true false false):=by
 refine wrap_shaped (C:=Tryz.checked) (X:=fun w _=>laidMetH Tryz.prog lay1 w) (fun _ _ _ hh h=>h.of_heap hh) own started no_init Tryz.func3
  (ChangeSpec.witness_shaped (enc:=enc) (C:=Tryz.checked) (os:=os) (X:=fun w _=>laidMetH Tryz.prog lay1 w) false (World.laidAll Tryz.prog os lay1) zArgs 8 (World.laidAll_os _ _ _)
   (World.shaped_of_ZipB (wit_zip os) (wit_heap os)) (wit_ok os) (wit_pre os H enc) (wit_siz os H enc) (wit_laid os)) ?_
 intro W base args ds gs before hval0 hW hL hsh
 have hval:∀(j:Nat) t v,Tryz.f3.params[j]? =some t→args[j]? =some v→Value.okWide Tryz.prog W .any base t v:=hval0
 have hW':=hW
 obtain⟨p,q,hA0,hV,rfl,hfz,hnd⟩:=hW
 have hA:DataW.TrodAll enc Tryz.prog W 0 (fun _=>true) true Tryz.f3.params.toList args.toList ds p:=hA0
 rw [par5] at hA hval
 obtain⟨v0,v1,d0,d1,q0,q1,rfl,rfl,rfl,h0,h1⟩:=trodAll_two hA
 obtain⟨rfl,rfl⟩:=trodVars_none hV
 have hlt:∀x∈q0++q1,x.block<W.heap.size:=fun x hx=>by
  refine hW'.lt x ?_
  rw [List.append_nil];exact hx
 obtain⟨K,hg⟩:=glob_ok hL hsh
 have hcall:=law_calls hg (agg_of (by rw [Go.S9.sh27];simp) (hval 0 27 v0 rfl rfl)) (str_of (hval 1 9 v1 rfl rfl)) h0 h1
 refine hcall.mono fun e W' ⟨he,hb⟩=> ?_
 subst he
 refine⟨_,rfl,_,_,_,[],q0++q1,[],hW', ?_, ?_,rfl,hb.frame _,fun h=>by cases h⟩
 ·rw [res5]
  exact trodAll_mk1 (shut_bool u4 true)
 ·show DataW.TrodAll enc Tryz.prog W' 0 (fun b=>decide (b<W.heap.size)) true Tryz.f3.params.toList _ [d0,d1] _
  rw [par5]
  exact trodAll_mk2 (Below.trod laidOut read47 size47 h0 hb fun x hx=>hlt x (by simp [hx]))
   (Below.trod laidOut read9 size9 h1 hb fun x hx=>hlt x (by simp [hx]))
end Go.Proofs.YtmmghibnfjfnbaaGreatDoor
