/- A part of the proof of RoundChanges. -/
import Derived.Test.YtnljpmbidnnlkaaGreatDoorRBi
set_option maxRecDepth 1000000
set_option linter.unusedVariables false
set_option linter.unusedSimpArgs false
namespace Go.Proofs.YtnljpmbidnnlkaaGreatDoor
open Go Go.ChangeShapes Go.WideShapes Go.ChangeAt Go.WideMaps Go.WideElems Go.RowKit
theorem aRA {t:TypeId} (h:Go.S5.shp Tryz.prog t≠[]):∃fs,Tryz.prog.underlying t=some (.struct fs):=by
 unfold Go.S5.shp at h
 split at h
 ·exact⟨_,by assumption⟩
 ·exact absurd rfl h
theorem aZQ {W:World} {b:Nat} {t:TypeId} {v:Value} (h:Go.S5.shp Tryz.prog t≠[]) (hv:Value.okWide Tryz.prog W .any b t v):∃cs,v= .agg cs:=by
 obtain⟨fs,hu⟩:=aRA h
 unfold Value.okWide at hv
 rw [hu] at hv
 obtain⟨cs,h,_⟩:=hv
 exact⟨cs,h⟩
theorem u3:Tryz.prog.underlying 3=some (.int .i64):=by kernel_rfl
theorem u4:Tryz.prog.underlying 4=some .bool:=by kernel_rfl
theorem u51:Tryz.prog.underlying 51=some (.slice 3):=by kernel_rfl
theorem p4:Tryz.f4.params=#[42,3,50,51]:=by kernel_rfl
theorem r4:Tryz.f4.resultTypes=#[4]:=by kernel_rfl
def atA:Value:= .agg #[.slice none 0 0,.slice none 0 0,.slice none 0 0,.int .i64 0,.int .i64 0,.int .i64 0,.int .i64 0,.int .i64 0,.int .i64 0,.int .i64 0,.int .i64 0,.int .i64 0,.int .i64 0,.int .i64 0,.slice none 0 0,.int .i64 0,.int .i64 0,.int .i64 0,.slice none 0 0,.slice none 0 0,.slice none 0 0,.int .i64 0,.int .i64 0,.int .i64 0,.slice none 0 0,.int .i64 0,.int .i64 0,.int .i64 0,.int .i64 0,.int .i64 0,.slice none 0 0]
def apN:Array Value:=#[atA,.int .i64 0,.agg #[.int .i64 0,.int .i64 0,.int .i64 0,.int .i64 0,.int .i64 0],.slice none 0 0]
theorem lifted (os:Os) (started:os.Started) (H:Type) (enc:TypeId×Value->H):
  ReturnsInHanded {} Tryz.checked os 4 .any (fun w args=>(Rows.roundChangesSpec.pre enc Tryz.prog Tryz.f4 [] false w args/\laidMetH Tryz.prog aXF w)/\sizedMet enc Tryz.prog Tryz.f4 (OpenSpec.ofChange Rows.roundChangesSpec) false w args)
   (Rows.roundChangesSpec.post enc Tryz.prog Tryz.f4 false true false false):=by
 refine returnsInHanded_of_change_and (C:=Tryz.checked) (X:=fun w _=>laidMetH Tryz.prog aXF w) (fun _ _ _ hh h=>h.of_heap hh) own started (by kernel_rfl) Tryz.func4
  (ChangeSpec.witness_shaped (enc:=enc) (C:=Tryz.checked) (os:=os) (X:=fun w _=>laidMetH Tryz.prog aXF w) false (World.doorLaid Tryz.prog 400 os) apN 8 rfl (World.shaped_of_RefB (by kernel_rfl) (by kernel_rfl)) (by kernel_rfl) (by kernel_rfl) (by kernel_rfl) (aXK os _)) ?_
 intro W base args ds gs before hval0 hW _ _ hL _
 have hval:∀(j:Nat) t v,Tryz.f4.params[j]? =some t->args[j]? =some v->Value.okWide Tryz.prog W .any base t v:=hval0
 have hW':=hW
 obtain⟨p,q,hA0,hV,rfl,hfz,hnd⟩:=hW
 have hA:DataW.TrodAll enc Tryz.prog W 0 (fun _=>true) true Tryz.f4.params.toList args.toList ds p:=hA0
 rw [p4] at hA hval
 obtain⟨v0,v1,v2,v3,d0,d1,d2,d3,q0,q1,q2,q3,rfl,rfl,rfl,h0,h1,h2,h3⟩:=trodAll_four hA
 obtain⟨rfl,rfl⟩:=trodVars_none hV
 have hlt:∀x∈q0++q1++q2++q3,x.block<W.heap.size:=fun x hx=>by
  refine hW'.lt x ?_
  rw [List.append_nil];exact hx
 obtain⟨n,rfl,rfl,rfl, -⟩:=open_int u3 (hval 1 3 v1 rfl rfl) h1
 obtain⟨a0,len,cap,rfl⟩:=okWide_slice u51 (hval 3 51 v3 rfl rfl)
 have hcall:=aTH (aaO hL) (aZQ (by rw [Go.S5.atI];simp) (hval 0 42 v0 rfl rfl)) ⟨n,rfl⟩ (aZQ (by rw [Go.S5.avK];simp) (hval 2 50 v2 rfl rfl)) rfl h0 h2 h3
 refine hcall.mono fun e W' ⟨he,hb⟩=> ?_
 subst he
 refine⟨_,rfl,_,_,_,[],q0++([]++(q2++q3)),[],hW', ?_, ?_,rfl,hb.frame _,fun h=>by cases h⟩
 ·rw [r4]
  exact trodAll_mk1 (shut_bool u4 true)
 ·show DataW.TrodAll enc Tryz.prog W' 0 (fun b=>decide (b<W.heap.size)) true Tryz.f4.params.toList _ [d0,.lit (.int .i64 n),d2,d3] _
  rw [p4]
  exact trodAll_mk4 (Below.trod yS alA (Nat.lt_trans (by decide) aGH) h0 hb fun x hx=>hlt x (by simp [hx]))
   (Below.trod yS atE (Nat.lt_trans (by decide) aGH) h1 hb fun x hx=>by cases hx)
   (Below.trod yS ahJ (Nat.lt_trans (by decide) aGH) h2 hb fun x hx=>hlt x (by simp [hx]))
   (Below.trod yS ahP aGH h3 hb fun x hx=>hlt x (by simp [hx]))
end Go.Proofs.YtnljpmbidnnlkaaGreatDoor
