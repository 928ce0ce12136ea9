/- A part of the proof of RoundAlone. -/
import Derived.Test.YtnljpmbidnnlkaaGreatDoorRBo
set_option maxRecDepth 1000000
set_option linter.unusedVariables false
set_option linter.unusedSimpArgs false
namespace Go.Proofs.YtnljpmbidnnlkaaGreatDoor
open Go Go.ChangeShapes Go.WideShapes Go.ChangeAt Go.WideMaps Go.WideElems Go.RowKit
theorem Fs {t:TypeId} (h:Go.S5.shp Tryz.prog t≠[]):∃fs,Tryz.prog.underlying t=some (.struct fs):=by
 unfold Go.S5.shp at h
 split at h
 ·exact⟨_,by assumption⟩
 ·exact absurd rfl h
theorem QI {W:World} {b:Nat} {t:TypeId} {v:Value} (h:Go.S5.shp Tryz.prog t≠[]) (hv:Value.okWide Tryz.prog W .any b t v):∃cs,v= .agg cs:=by
 obtain⟨fs,hu⟩:=Fs h
 unfold Value.okWide at hv
 rw [hu] at hv
 obtain⟨cs,h,_⟩:=hv
 exact⟨cs,h⟩
theorem u4:Tryz.prog.underlying 4=some .bool:=by kernel_rfl
theorem p5:Tryz.f5.params=#[42]:=by kernel_rfl
theorem r5:Tryz.f5.resultTypes=#[4]:=by kernel_rfl
def Yo:Value:= .agg #[.slice none 0 0,.slice none 0 0,.slice none 0 0,.int .i64 0,.int .i64 0,.int .i64 0,.int .i64 0,.int .i64 0,.int .i64 0,.int .i64 0,.int .i64 0,.int .i64 0,.int .i64 0,.int .i64 0,.slice none 0 0,.int .i64 0,.int .i64 0,.int .i64 0,.slice none 0 0,.slice none 0 0,.slice none 0 0,.int .i64 0,.int .i64 0,.int .i64 0,.slice none 0 0,.int .i64 0,.int .i64 0,.int .i64 0,.int .i64 0,.int .i64 0,.slice none 0 0]
def Ws:Array Value:=#[Yo]
theorem lifted (os:Os) (started:os.Started) (H:Type) (enc:TypeId×Value->H):
  ReturnsInHanded {} Tryz.checked os 5 .any (fun w args=>(Rows.roundAloneSpec.pre enc Tryz.prog Tryz.f5 [] false w args/\laidMetH Tryz.prog G5 w)/\sizedMet enc Tryz.prog Tryz.f5 (OpenSpec.ofChange Rows.roundAloneSpec) false w args)
   (Rows.roundAloneSpec.post enc Tryz.prog Tryz.f5 false true false false):=by
 refine returnsInHanded_of_change_and (C:=Tryz.checked) (X:=fun w _=>laidMetH Tryz.prog G5 w) (fun _ _ _ hh h=>h.of_heap hh) own started (by kernel_rfl) Tryz.func5
  (ChangeSpec.witness_shaped (enc:=enc) (C:=Tryz.checked) (os:=os) (X:=fun w _=>laidMetH Tryz.prog G5 w) false (World.doorLaid Tryz.prog 400 os) Ws 8 rfl (World.shaped_of_RefB (by kernel_rfl) (by kernel_rfl)) (by kernel_rfl) (by kernel_rfl) (by kernel_rfl) (G8 os _)) ?_
 intro W base args ds gs before hval0 hW _ _ hL _
 have hval:∀(j:Nat) t v,Tryz.f5.params[j]? =some t->args[j]? =some v->Value.okWide Tryz.prog W .any base t v:=hval0
 have hW':=hW
 obtain⟨p,q,hA0,hV,rfl,hfz,hnd⟩:=hW
 have hA:DataW.TrodAll enc Tryz.prog W 0 (fun _=>true) true Tryz.f5.params.toList args.toList ds p:=hA0
 rw [p5] at hA hval
 obtain⟨v0,d0,rfl,rfl,h0⟩:=trodAll_one hA
 obtain⟨rfl,rfl⟩:=trodVars_none hV
 have hlt:∀x∈p,x.block<W.heap.size:=fun x hx=>by
  refine hW'.lt x ?_
  rw [List.append_nil];exact hx
 have hcall:=D' (KV hL) (QI (by rw [Go.S5.Vy];simp) (hval 0 42 v0 rfl rfl)) h0
 refine hcall.mono fun e W' ⟨he,hb⟩=> ?_
 subst he
 refine⟨_,rfl,_,_,_,[],p,[],hW', ?_, ?_,rfl,hb.frame _,fun h=>by cases h⟩
 ·rw [r5]
  exact trodAll_mk1 (shut_bool u4 true)
 ·show DataW.TrodAll enc Tryz.prog W' 0 (fun b=>decide (b<W.heap.size)) true Tryz.f5.params.toList _ [d0] _
  rw [p5]
  exact trodAll_mk1 (Below.trod Df Rs OT h0 hb fun x hx=>hlt x hx)
end Go.Proofs.YtnljpmbidnnlkaaGreatDoor
