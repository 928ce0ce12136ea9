/- A part of the proof of TribunalBack. -/
import Derived.Test.YtmmghibnfjfnbaaGreatDoorBAa
import Derived.Laws.BytesArg
import Derived.Laws.MakeOwn
import Derived.TacticsIn
import Derived.Laws.Externs
set_option linter.unusedVariables false
set_option linter.unusedSimpArgs false
namespace Go.Ev
set_option linter.unusedVariables false
set_option linter.unusedSimpArgs false
theorem r_getObj {P:Program} {w:World} {r:Nat} {o:Obj} (h:w.heap[r]? =some o) (hn:∀a b c,o≠ .cells a b c):(getObj r).run P w= .ok o w:=by
 unfold getObj
 simp only [Sem.run,h]
def LSpec (P:Program) (G:Globals) (o:Oper) (e:En) (H:Hp) (v:AV):Prop:=
 ∀(μ:Mu) (a:Act) (w:World),OpdR μ e a o→HRg G μ H w→∃x,(execOp a.eval o).run P w= .ok (.value x) w∧VR μ v x
section
variable {P : Program} {G : Globals} {o : Oper} {e : En} {H : Hp}
theorem VR.ptr_inv {μ:Mu} {b off:Nat} {x:Value} (h:VR μ (.ptr b off) x):∃p,μ b=some p∧x= .pointer (some ⟨p.blk,p.base+off,none⟩):=by
 cases h with | ptr _ _ p h=>exact⟨p,h,rfl⟩
theorem l_load {t:TypeId} {x:Operand} (ho:o.op= .load t x) {k:AV→Bool} (hk:loadK P G H t (opd e x) k=true):∃v,LSpec P G o e H v∧k v=true:=by
 have hmx:x∈o.op.operands:=by simp [ho,Op.operands]
 unfold loadK at hk
 split at hk
 ·rename_i b off hx
  split at hk
  ·rename_i _ ro cs hb
   obtain⟨v,hp,hk⟩:=partK_elim hk
   refine⟨v,fun μ a w h hr=> ?_,hk⟩
   obtain⟨p,hp1,hxa⟩:=(h.at hmx hx).ptr_inv
   obtain⟨arr,el,fz,h1,h2,h3,h4,h5⟩:=hr.at hb hp1
   obtain⟨y,hy,hyv⟩:=r_loadVar (P:=P) (t:=t) h1 h5 hp
   exact⟨y,by simp [execOp,ho,hxa,Instr.loadAt,Instr.sureAddr,hy,Result.andThen],hyv⟩
  ·cases hk
 ·rename_i g off hx
  split at hk
  ·rename_i cs hG
   obtain⟨v,hp,hk⟩:=partK_elim hk
   refine⟨v,fun μ a w h hr=> ?_,hk⟩
   have h1:=h.at hmx hx
   generalize hxa:a.eval x=xv at h1
   cases h1
   obtain⟨arr,el,fz,h1,hsz,h5⟩:=hr.glob g cs hG
   obtain⟨y,hy,hyv⟩:=r_loadVar (P:=P) (t:=t) (base:=0) h1 (by simpa using h5) hp
   rw [Nat.zero_add] at hy
   exact⟨y,by simp [execOp,ho,hxa,Instr.loadAt,Instr.sureAddr,hy,Result.andThen],hyv⟩
  ·cases hk
 ·rename_i cs off hx
  obtain⟨v,hp,hk⟩:=partK_elim hk
  refine⟨v,fun μ a w h hr=> ?_,hk⟩
  have h1:=h.at hmx hx
  generalize hxa:a.eval x=xv at h1
  cases h1 with
  | dat _ _ L hm hd=>
  cases hd with
  | ptr _ _ p arr el fz xs L g ht hl hf hx' hs=>
  have hvs:=ofDs_vr hs
  obtain⟨y,hy,hyv⟩:=r_loadVar (P:=P) (t:=t) (base:=p.base) (hr.froz _ _ g) (fun i c hc=>by
   obtain⟨z,hz,hzv⟩:=hvs.get i hc
   exact⟨z,hx' i z hz,hzv⟩) hp
  exact⟨y,by simp [execOp,ho,hxa,Instr.loadAt,Instr.sureAddr,hy,Result.andThen],hyv⟩
 ·cases hk
open Classical in
noncomputable def seek (u:Value):List MapEntry→Nat→Option (Nat×Value)
 | [],_=>none
 | e::es,i=>if u=e.key then some (i,e.val) else seek u es (i+1)
inductive EntR (μ:Mu):List (AV×AV×Nat)→List MapEntry→Prop where
 | nil:EntR μ [] []
 | cons (y v s x es xs) (hk:VR μ y x.key) (hv:VR μ v x.val) (hb:x.born=s) (h:EntR μ es xs):EntR μ ((y,v,s)::es) (x::xs)
theorem EntR.of_get {μ:Mu} {es:List (AV×AV×Nat)} {xs:List MapEntry} (hl:xs.length=es.length)
  (h:∀(i:Nat) (y:AV) (v:AV) (s:Nat),es[i]? =some (y,v,s)→∃x:MapEntry,xs[i]? =some x∧VR μ y x.key∧VR μ v x.val∧x.born=s):EntR μ es xs:=by
 induction es generalizing xs with
 | nil=>cases xs with
  | nil=>exact .nil
  | cons=>simp at hl
 | cons e es ih=>cases xs with
  | nil=>simp at hl
  | cons x xs=>
   obtain⟨y,v,s⟩:=e
   obtain⟨z,hz,h1,h2,h3⟩:=h 0 y v s (by simp)
   simp at hz
   subst hz
   exact .cons _ _ _ _ _ _ h1 h2 h3 (ih (by simpa using hl) fun i y v s hs=>by simpa using h (i+1) y v s (by simpa using hs))
theorem EntR.len {μ:Mu} {es:List (AV×AV×Nat)} {xs:List MapEntry} (h:EntR μ es xs):xs.length=es.length:=by
 induction h with
 | nil=>rfl
 | cons _ _ _ _ _ _ _ _ _ _ ih=>simp [ih]
theorem EntR.get {μ:Mu} {es:List (AV×AV×Nat)} {xs:List MapEntry} (h:EntR μ es xs) (i:Nat) (y v:AV) (s:Nat) (hs:es[i]? =some (y,v,s)):
  ∃x:MapEntry,xs[i]? =some x∧VR μ y x.key∧VR μ v x.val∧x.born=s:=by
 induction h generalizing i with
 | nil=>simp at hs
 | cons y' v' s' x es xs hk hv hb h ih=>
  cases i with
  | zero=>simp at hs;obtain⟨rfl,rfl,rfl⟩:=hs;exact⟨x,by simp,hk,hv,hb⟩
  | succ i=>simp at hs;simpa using ih i hs
theorem sameNow_eq {d:TypeDesc} {u v:Value} {b:Bool} (h:Instr.sameNow d u v=some b):(b=true↔u=v):=by
 unfold Instr.sameNow at h
 split at h
 ·split at h
  ·rename_i hk;subst hk;simp at h;subst h;simp
  ·cases h
 ·simp at h;subst h
  rename_i a b
  constructor
  ·intro h
   have:a=b:=by
    rw [beq_toListBytes] at h
    simp [toList_data] at h
    exact ByteArray.ext h
   rw [this]
  ·intro h
   injection h with h
   rw [h,beq_toListBytes]
   simp
 ·simp at h;subst h;simp
 ·cases h
theorem findNow_seek {d:TypeDesc} {u:Value} {L:List MapEntry} {i:Nat} {q:Option (Nat×Value)} (h:Instr.findNow d u L i=some q):q=seek u L i:=by
 induction L generalizing i with
 | nil=>simp [Instr.findNow] at h;simp [seek,h]
 | cons e L ih=>
  simp only [Instr.findNow] at h
  split at h
  ·rename_i hs
   have:=(sameNow_eq hs).1 rfl
   simp at h
   simp [seek,this,h]
  ·rename_i hs
   have:¬u=e.key:=fun hu=>by have:=(sameNow_eq hs).2 hu;cases this
   simp only [seek,this,if_false]
   exact ih h
  ·cases h
theorem findAsking_seek {kt:TypeId} {fl:Fl} (hf:flat P 8 kt=some fl) {μ:Mu} {i:AV} {u:Value} (hu:VR μ i u) (w:World):
  ∀{es:List (AV×AV×Nat)} {L:List MapEntry} (n:Nat) {r:Option (Nat×AV)},EntR μ es L→findKey fl i es n=some r→(Instr.findAsking kt u L n).run P w= .ok (seek u L n) w:=by
 intro es L n r h
 induction h generalizing n with
 | nil=>intro _;simp [Instr.findAsking,seek]
 | cons y v s x es xs hk hv hb h ih=>
  intro hq
  simp only [findKey] at hq
  have step:∀b,flEq fl i y=some b→(Op.equal kt u x.key).run P w= .ok b w∧(b=true↔u=x.key):=fun b hb=>by
   obtain⟨h2,hr⟩:=flEq_sound hb hu hk
   obtain⟨r',h1,h3⟩:=equalIn_flat (D:=9992) 8 kt fl hf u x.key w h2
   have:r'=b:=by rw [Bool.eq_iff_iff,h3,hr]
   exact⟨by rw [←this];exact h1,hr⟩
  split at hq
  ·rename_i hb
   obtain⟨h1,h2⟩:=step _ hb
   have hux:=h2.1 rfl
   simp only [Instr.findAsking,Sem.run_bind,h1,Result.andThen_ok,if_true,Sem.run_pure,seek,if_pos hux]
  ·rename_i hb
   obtain⟨h1,h2⟩:=step _ hb
   have hne:¬u=x.key:=fun hu=>by have:=h2.2 hu;cases this
   simp only [Instr.findAsking,Sem.run_bind,h1,Result.andThen_ok,Bool.false_eq_true,if_false,seek,hne]
   exact ih (n+1) hq
  ·cases hq
theorem findKey_seek {fl:Fl} {μ:Mu} {i:AV} {u:Value} (hu:VR μ i u):
  ∀{es:List (AV×AV×Nat)} {L:List MapEntry} (n:Nat) {r:Option (Nat×AV)},EntR μ es L→findKey fl i es n=some r→
   (r=none∧seek u L n=none)∨(∃j v x,r=some (n+j,v)∧seek u L n=some (n+j,x)∧VR μ v x∧∃z:MapEntry,L[j]? =some z∧z.key=u∧z.val=x∧∃y s,es[j]? =some (y,v,s)):=by
 intro es L n r h
 induction h generalizing n with
 | nil=>intro hq;simp [findKey] at hq;exact .inl ⟨hq.symm,rfl⟩
 | cons y v s x es xs hk hv hb h ih=>
  intro hq
  simp only [findKey] at hq
  split at hq
  ·rename_i hb
   obtain⟨h2,hr⟩:=flEq_sound hb hu hk
   have:=hr.1 rfl
   simp at hq
   subst hq
   refine .inr ⟨0,v,x.val,rfl,by simp [seek,this],hv,x,by simp,this.symm,rfl,y,s,by simp⟩
  ·rename_i hb
   obtain⟨h2,hr⟩:=flEq_sound hb hu hk
   have hne:¬u=x.key:=fun hu=>by have:=hr.2 hu;cases this
   rcases ih (n+1) hq with⟨h3,h4⟩| ⟨j,v',x',h3,h4,h5,z,h6,h7,h8,y',s',h9⟩
   ·exact .inl ⟨h3,by simp [seek,hne,h4]⟩
   ·refine .inr ⟨j+1,v',x',by rw [h3];congr 2;omega, ?_,h5,z,by simpa using h6,h7,h8,y',s',by simpa using h9⟩
    simp only [seek,hne,if_false,h4]
    congr 2;omega
  ·cases hq
theorem r_findKey {kt:TypeId} {fl:Fl} (hf:flat P 8 kt=some fl) {μ:Mu} {i:AV} {u:Value} (hu:VR μ i u) (w:World)
  {es:List (AV×AV×Nat)} {L:List MapEntry} {r:Option (Nat×AV)} (h:EntR μ es L) (hq:findKey fl i es 0=some r):(Instr.findKey kt u L).run P w= .ok (seek u L 0) w:=by
 have hund:∃d,P.underlying kt=some d:=isAg_under (flat_ag hf).1
 obtain⟨d,hd⟩:=hund
 unfold Instr.findKey
 simp only [Sem.run_bind,r_under hd,Result.andThen_ok]
 split
 ·rename_i q hq'
  rw [Sem.run_pure,findNow_seek hq']
 ·exact findAsking_seek hf hu w 0 h hq
theorem mapElem_inv {t:TypeId} {mt:MT} (h:mapElem P t=some mt):∃kt,P.underlying t=some (.map kt mt.elem)∧flat P 8 kt=some mt.fl:=by
 unfold mapElem at h
 split at h
 ·rename_i kt el hu
  split at h
  ·rename_i fl hf;cases h;exact⟨kt,hu,hf⟩
  ·cases h
 ·cases h
theorem keyAt_inv {mt:MT} {es:List (AV×AV×Nat)} {i:AV} {r:Option (Nat×AV)} (h:keyAt mt es i=some r):flFit mt.fl i=true∧findKey mt.fl i es 0=some r:=by
 unfold keyAt at h
 split at h
 ·rename_i hf;exact⟨hf,h⟩
 ·cases h
theorem r_checkKey {kt:TypeId} {fl:Fl} (hf:flat P 8 kt=some fl) {μ:Mu} {i:AV} {u:Value} (hi:flFit fl i=true) (hu:VR μ i u) (emp:Bool) (w:World):
  (Instr.checkKey emp 10000 kt u).run P w= .ok () w:=checkKey_flat (emp:=emp) (D:=9992) 8 kt fl hf u w (flFit_sound hi hu)
theorem lookupFin_sound {t kt:TypeId} {mt:MT} {i:AV} {ok:Bool} {es:List (AV×AV×Nat)} {k:AV→Bool} (hu:P.underlying t=some (.map kt mt.elem)) (hf:flat P 8 kt=some mt.fl)
  (hk:lookupFin P es mt i ok k=true):
  ∃v,k v=true∧∀(μ:Mu) (L:Array MapEntry) (w:World) (m u:Value),EntR μ es L.toList→VR μ i u→
   ((m= .map none∧L=#[])∨∃r cl,m= .map (some r)∧w.heap[r]? =some (.map L cl))→∃x,(Instr.lookup t m u ok).run P w= .ok x w∧VR μ v x:=by
 unfold lookupFin at hk
 have run:∀(μ:Mu) (L:Array MapEntry) (w:World) (m u:Value) (r:Option (Nat×AV)),keyAt mt es i=some r→EntR μ es L.toList→VR μ i u→
   ((m= .map none∧L=#[])∨∃r cl,m= .map (some r)∧w.heap[r]? =some (.map L cl))→
   (Instr.lookup t m u ok).run P w=((match seek u L.toList 0 with
    | some (_,v)=>pure (v,true)
    | none=>(do pure (←zeroValue mt.elem,false)):Sem (Value×Bool)).run P w).andThen fun p w'=> .ok (if ok then .tuple #[p.1, .bool p.2] else p.1) w':=by
  intro μ L w m u r hkey hes hu' hm
  obtain⟨h1,h2⟩:=keyAt_inv hkey
  have hck:=r_checkKey hf h1 hu'
  have hfk:=r_findKey hf hu' w hes h2
  rcases hm with⟨rfl,rfl⟩| ⟨r,cl,rfl,hr⟩
  ·simp only [Instr.lookup,Sem.run_bind,r_under hu,Result.andThen_ok,Sem.run_pure,hck,hfk]
   cases seek u (#[]:Array MapEntry).toList 0 with
   | some=>simp
   | none=>simp;cases (zeroValue mt.elem).run P w<;>rfl
  ·simp only [Instr.lookup,Sem.run_bind,r_under hu,Result.andThen_ok,Sem.run_pure,hck,hfk,r_getObj hr (by simp)]
   cases seek u L.toList 0 with
   | some=>simp
   | none=>simp;cases (zeroValue mt.elem).run P w<;>rfl
 split at hk
 ·rename_i j v hkey
  have hres:∀(μ:Mu) (L:Array MapEntry) (u:Value),EntR μ es L.toList→VR μ i u→∃x n,seek u L.toList 0=some (n,x)∧VR μ v x:=by
   intro μ L u hes hu'
   rcases findKey_seek hu' 0 hes (keyAt_inv hkey).2 with⟨h,_⟩| ⟨j',v',x,h1,h2,h3,_⟩
   ·cases h
   ·injection h1 with h1
    injection h1 with _ h1
    exact⟨x,_,h2,h1▸h3⟩
  split at hk
  ·refine⟨_,hk,fun μ L w m u hes hu' hm=> ?_⟩
   obtain⟨x,n,hs,hx⟩:=hres μ L u hes hu'
   refine⟨.tuple #[x, .bool true], ?_, .tup _ _ (.cons _ _ _ _ hx (.cons _ _ _ _ (.bool _) .nil))⟩
   rw [run μ L w m u _ hkey hes hu' hm,hs]
   simp
  ·refine⟨_,hk,fun μ L w m u hes hu' hm=> ?_⟩
   obtain⟨x,n,hs,hx⟩:=hres μ L u hes hu'
   refine⟨x, ?_,hx⟩
   rw [run μ L w m u _ hkey hes hu' hm,hs]
   simp
 ·rename_i hkey
  have hres:∀(μ:Mu) (L:Array MapEntry) (u:Value),EntR μ es L.toList→VR μ i u→seek u L.toList 0=none:=by
   intro μ L u hes hu'
   rcases findKey_seek hu' 0 hes (keyAt_inv hkey).2 with⟨_,h⟩| ⟨j',v',x,h1,_⟩
   ·exact h
   ·cases h1
  split at hk
  ·rename_i z hz
   split at hk
   ·refine⟨_,hk,fun μ L w m u hes hu' hm=> ?_⟩
    obtain⟨zv,hzr,hzv⟩:=r_zero (w:=w) hz μ
    refine⟨.tuple #[zv, .bool false], ?_, .tup _ _ (.cons _ _ _ _ hzv (.cons _ _ _ _ (.bool _) .nil))⟩
    rw [run μ L w m u _ hkey hes hu' hm,hres μ L u hes hu']
    simp [hzr,Result.andThen]
   ·refine⟨_,hk,fun μ L w m u hes hu' hm=> ?_⟩
    obtain⟨zv,hzr,hzv⟩:=r_zero (w:=w) hz μ
    refine⟨zv, ?_,hzv⟩
    rw [run μ L w m u _ hkey hes hu' hm,hres μ L u hes hu']
    simp [hzr,Result.andThen]
  ·cases hk
 ·cases hk
theorem br_map_inv {μ:Mu} {p:Pl} {ro:Bool} {es:List (AV×AV×Nat)} {cl:Nat} {ob:Option Obj} (h:BR μ p (.map ro es cl) ob):
  ∃ents:Array MapEntry,ob=some (.map ents cl)∧EntR μ es ents.toList:=by
 obtain⟨ents,h1,h2,h3⟩:=h
 exact⟨ents,h1,EntR.of_get (by simpa using h2) (by simpa using h3)⟩
theorem l_lookup {t:TypeId} {m i:Operand} {ok:Bool} (ho:o.op= .lookup t m i ok) {k:AV→Bool} (hk:lookupK P H t (opd e m) (opd e i) ok k=true):∃v,LSpec P G o e H v∧k v=true:=by
 have hmm:m∈o.op.operands:=by simp [ho,Op.operands]
 have hmi:i∈o.op.operands:=by simp [ho,Op.operands]
 unfold lookupK at hk
 split at hk
 ·rename_i mt hmt hm
  obtain⟨kt,hu,hf⟩:=mapElem_inv hmt
  obtain⟨v,hv,hr⟩:=lookupFin_sound hu hf hk
  refine⟨v,fun μ a w h hh=> ?_,hv⟩
  have h1:=h.at hmm hm
  generalize hma:a.eval m=mv at h1
  cases h1
  obtain⟨x,hx,hxv⟩:=hr μ #[] w (.map none) (a.eval i) .nil (h.mem hmi) (.inl ⟨rfl,rfl⟩)
  exact⟨x,by simp [execOp,ho,hma,hx,Result.andThen],hxv⟩
 ·rename_i mt b hmt hm
  obtain⟨kt,hu,hf⟩:=mapElem_inv hmt
  split at hk
  ·rename_i ro es cl hb
   obtain⟨v,hv,hr⟩:=lookupFin_sound hu hf hk
   refine⟨v,fun μ a w h hh=> ?_,hv⟩
   have h1:=h.at hmm hm
   generalize hma:a.eval m=mv at h1
   cases h1 with
   | map _ p hp=>
    obtain⟨ents,h2,h3⟩:=br_map_inv (hh.at hb hp)
    obtain⟨x,hx,hxv⟩:=hr μ ents w _ (a.eval i) h3 (h.mem hmi) (.inr ⟨p.blk,cl,rfl,h2⟩)
    exact⟨x,by simp [execOp,ho,hma,hx,Result.andThen],hxv⟩
  ·cases hk
 ·cases hk
theorem goInt_eq (n:Nat):goInt n= .int .i64 (.ofNat n):=rfl
theorem str_size {s:ByteArray} {l:List Nat} (h:s.data.toList.map UInt8.toNat=l):s.size=l.length:=by
 subst h;simp
theorem VRs.one {μ:Mu} {x:AV} {us:List Value} (h:VRs μ [x] us):∃u,us=[u]∧VR μ x u:=by
 cases h with | cons _ u _ us hu hs=>cases hs;exact⟨u,rfl,hu⟩
theorem VRs.two {μ:Mu} {x y:AV} {us:List Value} (h:VRs μ [x,y] us):∃u v,us=[u,v]∧VR μ x u∧VR μ y v:=by
 cases h with | cons _ u _ us hu hs=>obtain⟨v,rfl,hv⟩:=hs.one;exact⟨u,v,rfl,hu,hv⟩
theorem l_len {c:Call} {t:TypeId} {x:AV} (ho:o.op= .call c) (hc:c.callee= .builtin .len) (ht:c.argTypes.toList=[t]) (hx:c.args.toList.map (opd e)=[x]) {k:AV→Bool}
  (hk:lenK P t x H k=true):∃v,LSpec P G o e H v∧k v=true:=by
 have hargs:∀(μ:Mu) (a:Act),OpdR μ e a o→∃u,c.args.map a.eval=#[u]∧VR μ x u:=by
  intro μ a h
  have hvs:VRs μ (c.args.toList.map (opd e)) (c.args.toList.map a.eval):=vrs_opds fun y hy=>h.mem (by
   simp only [ho,Op.operands,Call.operands]
   simp
   exact .inr (by simpa using hy))
  rw [hx] at hvs
  generalize has:c.args.toList.map a.eval=as at hvs
  obtain⟨u,rfl,hu⟩:=hvs.one
  refine⟨u, ?_,hu⟩
  rw [←Array.toList_inj]
  simpa using has
 have hts:c.argTypes=#[t]:=by rw [←Array.toList_inj];simpa using ht
 have run:∀(a:Act) (w:World) (u v:Value),c.args.map a.eval=#[u]→(Builtin.len_ #[t] o.type #[u]).run P w= .ok v w→(execOp a.eval o).run P w= .ok (.value v) w:=by
  intro a w u v h1 h2
  simp [execOp,ho,resolve,hc,invoke,builtin,h1,hts,h2,Result.andThen]
 unfold lenK at hk
 split at hk
 ·rename_i s hu
  rw [forceN_eq] at hk
  refine⟨_,fun μ a w h hh=> ?_,hk⟩
  obtain⟨u,hu1,hu2⟩:=hargs μ a h
  obtain⟨bs,rfl,hl⟩:=hu2.str_inv
  refine⟨_,run a w _ _ hu1 (by simp [Builtin.len_,r_under hu,Result.andThen];rfl), ?_⟩
  rw [goInt_eq,str_size hl]
  exact .int _ _
 ·rename_i n el hu
  refine⟨_,fun μ a w h hh=> ?_,hk⟩
  obtain⟨u,hu1,hu2⟩:=hargs μ a h
  exact⟨_,run a w _ _ hu1 (by simp [Builtin.len_,r_under hu,Result.andThen];rfl), .int _ _⟩
 ·rename_i el b off n sz c' hu
  refine⟨_,fun μ a w h hh=> ?_,hk⟩
  obtain⟨u,hu1,hu2⟩:=hargs μ a h
  cases hu2
  exact⟨_,run a w _ _ hu1 (by simp [Builtin.len_,r_under hu,Result.andThen];rfl), .int _ _⟩
 ·rename_i el hu
  refine⟨_,fun μ a w h hh=> ?_,hk⟩
  obtain⟨u,hu1,hu2⟩:=hargs μ a h
  cases hu2
  exact⟨_,run a w _ _ hu1 (by simp [Builtin.len_,r_under hu,Result.andThen];rfl), .int _ _⟩
 ·rename_i el _ _ n hu
  refine⟨_,fun μ a w h hh=> ?_,hk⟩
  obtain⟨u,hu1,hu2⟩:=hargs μ a h
  cases hu2 with
  | dat _ _ L hm hd=>
  cases hd
  exact⟨_,run a w _ _ hu1 (by simp [Builtin.len_,r_under hu,Result.andThen];rfl), .int _ _⟩
 ·rename_i kt el hu
  refine⟨_,fun μ a w h hh=> ?_,hk⟩
  obtain⟨u,hu1,hu2⟩:=hargs μ a h
  cases hu2
  exact⟨_,run a w _ _ hu1 (by simp [Builtin.len_,r_under hu,Result.andThen];rfl), .int _ _⟩
 ·rename_i kt el b hu
  split at hk
  ·rename_i ro es cl hb
   rw [forceN_eq] at hk
   refine⟨_,fun μ a w h hh=> ?_,hk⟩
   obtain⟨u,hu1,hu2⟩:=hargs μ a h
   cases hu2 with
   | map _ p hp=>
    obtain⟨ents,h2,h3⟩:=br_map_inv (hh.at hb hp)
    refine⟨_,run a w _ _ hu1 (by simp [Builtin.len_,r_under hu,Result.andThen,r_getObj h2 (by simp)];rfl), ?_⟩
    rw [goInt_eq,←h3.len]
    exact .int _ _
  ·cases hk
 ·cases hk
theorem findStamp_sound {μ:Mu} {s:Nat} {es:List (AV×AV×Nat)} {L:List MapEntry} (h:EntR μ es L) {n j:Nat} (hj:findStamp s es n=some j):
  ∃i,j=n+i∧L.findIdx? (fun e=>e.born==s)=some i∧∃x:MapEntry,L[i]? =some x∧L.find? (fun e=>e.born==s)=some x:=by
 induction h generalizing n with
 | nil=>simp [findStamp] at hj
 | cons y v z x es xs hk hv hb h ih=>
  simp only [findStamp] at hj
  split at hj
  ·rename_i hz
   have hz:=Nat.eq_of_beq_eq_true hz
   simp at hj
   refine⟨0,by omega, ?_,x,by simp, ?_⟩
   ·simp [List.findIdx?_cons,hb,hz]
   ·simp [hb,hz]
  ·rename_i hz
   have hz:¬z=s:=fun e=>by subst e;simp [Nat.beq_refl] at hz
   obtain⟨i,h1,h2,x',h3,h4⟩:=ih hj
   refine⟨i+1,by omega, ?_,x',by simpa using h3, ?_⟩
   ·simp [List.findIdx?_cons,hb,hz,h2]
   ·simp [hb,hz,h4]
theorem l_entry {x:Operand} (ho:o.op= .entry x) {k:AV→Bool} (hk:entryK H (opd e x) k=true):∃v,LSpec P G o e H v∧k v=true:=by
 have hmx:x∈o.op.operands:=by simp [ho,Op.operands]
 unfold entryK at hk
 split at hk
 ·rename_i b hx
  split at hk
  ·rename_i m since s rest stepped hb
   split at hk
   ·rename_i ro es cl hm
    split at hk
    ·rename_i j hcl hfs
     split at hk
     ·rename_i y v z hj
      refine⟨_,fun μ a w h hh=> ?_,hk⟩
      obtain⟨p,hp1,hxa⟩:=(h.at hmx hx).ptr_inv
      obtain⟨h0,arr,q,hq,h2,h3⟩:=hh.at hb hp1
      obtain⟨ents,h4,h5⟩:=br_map_inv (hh.at hm hq)
      have hcl:=Nat.eq_of_beq_eq_true hcl
      obtain⟨i,hi1,hi2,x',hi3,hi4⟩:=findStamp_sound h5 hfs
      have hji:j=i:=by omega
      subst hji
      obtain⟨x'',h6,h7,h8,h9⟩:=h5.get j y v z hj
      rw [hi3] at h6
      cases h6
      have hback:arr.back? =some s:=by
       have:arr.toList.getLast? =some s:=by
        rw [←List.head?_reverse,h3]
        rfl
       simpa [Array.getLast?_toList] using this
      refine⟨.tuple #[x'.key,x'.val], ?_, .tup _ _ (.cons _ _ _ _ h7 (.cons _ _ _ _ h8 .nil))⟩
      have h10:ents.find? (fun e=>e.born==s)=some x':=by
       rw [←Array.find?_toList];exact hi4
      simp only [execOp,ho,hxa,h0,Nat.zero_add,Instr.entry,Sem.run_bind,r_getObj h2 (by simp),r_getObj h4 (by simp),Result.andThen_ok,hback,hcl,h10]
      simp [Result.andThen]
     ·cases hk
    ·cases hk
   ·cases hk
  ·cases hk
 ·cases hk
end
end Go.Ev
namespace Go.Ev
set_option linter.unusedVariables false
set_option linter.unusedSimpArgs false
section
variable {P : Program} {G : Globals} {o : Oper} {e : En} {H : Hp}
theorem natOf_inv {μ:Mu} {v:AV} {n:Nat} {x:Value} (h:natOf v=some n) (hx:VR μ v x):∃k,x= .int k (.ofNat n):=by
 unfold natOf at h
 split at h
 ·cases h;cases hx;exact⟨_,rfl⟩
 ·cases h
theorem r_bound {k:IntKind} {n y:Nat} {code:BoundsCode} {w:World} (h:n≤y):(Instr.sliceBound (.int k (.ofNat n)) y code).run P w= .ok n w:=by
 unfold Instr.sliceBound
 have h':(0:Int)≤Int.ofNat n∧Int.ofNat n≤(y:Int):=by simp;exact h
 simp only [asIntOf,Sem.run_bind,Sem.run_pure,Result.andThen_ok,if_pos h']
 rfl
def OptV (lo:Option Value) (d n:Nat):Prop:=(lo=none∧n=d)∨∃k,lo=some (.int k (.ofNat n))
theorem optNat_inv {μ:Mu} {x:Option Operand} {a:Act} {d n:Nat} (h:optNat d (x.map (opd e))=some n) (hx:∀y,x=some y→VR μ (opd e y) (a.eval y)):OptV (x.map a.eval) d n:=by
 cases x with
 | none=>simp [optNat] at h;exact .inl ⟨rfl,h.symm⟩
 | some x=>
  obtain⟨k,hk⟩:=natOf_inv h (hx x rfl)
  exact .inr ⟨k,by simp [hk]⟩
theorem r_bounds {isS:Bool} {len cap l h:Nat} {lo hi:Option Value} {w:World} (hl:OptV lo 0 l) (hh:OptV hi len h) (h1:l≤h) (h2:h≤cap):
  (Instr.sliceBounds isS len cap lo hi none).run P w= .ok (l,h,cap) w:=by
 unfold Instr.sliceBounds
 rcases hl with⟨rfl,rfl⟩| ⟨kl,rfl⟩<;>rcases hh with⟨rfl,rfl⟩| ⟨kh,rfl⟩<;>
  simp only [Sem.run_bind,Sem.run_pure,Result.andThen_ok,r_bound h1,r_bound h2]
theorem r_bounds3 {isS:Bool} {len cap l h m:Nat} {lo:Option Value} {kh km:IntKind} {w:World} (hl:OptV lo 0 l) (h1:l≤h) (h2:h≤m) (h3:m≤cap):
  (Instr.sliceBounds isS len cap lo (some (.int kh (.ofNat h))) (some (.int km (.ofNat m)))).run P w= .ok (l,h,m) w:=by
 unfold Instr.sliceBounds
 rcases hl with⟨rfl,rfl⟩| ⟨kl,rfl⟩<;>
  simp only [Sem.run_bind,Sem.run_pure,Result.andThen_ok,r_bound h1,r_bound h2,r_bound h3]
theorem elemSlice_inv {t el:TypeId} (h:elemSlice P t=some el):P.underlying t=some (.slice el)∧(P.info? el).isSome=true:=by
 unfold elemSlice at h
 split at h
 ·rename_i e' hu
  split at h
  ·rename_i i hi;cases h;exact⟨hu,by simp [hi]⟩
  ·cases h
 ·cases h
theorem extract_data (s:ByteArray) (l h:Nat):(s.extract l h).data.toList=(s.data.toList.drop l).take (h - l):=by
 have:(s.extract l h).data=s.data.extract l h:=by simp
 rw [this,Array.toList_extract,List.extract_eq_take_drop]
theorem reach_le {μ:Mu} {sz b off len:Nat} {c:Option Nat} {h cap:Nat} {p:Pl} {w:World} (hh:HRg G μ H w) (hp:μ b=some p) (hl:len≤cap) (hc:∀n,c=some n→cap=n)
  (hn:c=none→off+cap * sz=p.tot) (h1:reach H sz b off len c h=true):h≤cap:=by
 unfold reach at h1
 split at h1
 ·rename_i hle
  have:=Nat.le_of_ble_eq_true hle
  omega
 ·split at h1
  ·rename_i c'
   have:=hc c' rfl
   have:=Nat.le_of_ble_eq_true h1
   omega
  ·split at h1
   ·rename_i sz' _ ro cs hb
    obtain⟨arr,el,fz,h2,h3,h4,_,_⟩:=hh.at hb hp
    have h5:=Nat.le_of_ble_eq_true h1
    have h6:off+cap * (sz'+1)=p.tot:=hn rfl
    have h7:h * (sz'+1)≤cap * (sz'+1):=by omega
    exact Nat.le_of_mul_le_mul_right h7 (Nat.succ_pos _)
   ·cases h1
theorem mul_split {l m sz:Nat} (h:l≤m):l * sz+(m - l) * sz=m * sz:=by
 rw [←Nat.add_mul];congr 1;omega
theorem l_slice {t:TypeId} {x:Operand} {lo hi mx:Option Operand} (ho:o.op= .slice t x lo hi mx) {k:AV→Bool}
  (hk:sliceAtK P H t (opd e x) (lo.map (opd e)) (hi.map (opd e)) (mx.map (opd e)) k=true):∃v,LSpec P G o e H v∧k v=true:=by
 have hmx:x∈o.op.operands:=by simp [ho,Op.operands]
 have hml:∀y,lo=some y→y∈o.op.operands:=fun y hy=>by simp [ho,Op.operands,hy]
 have hmh:∀y,hi=some y→y∈o.op.operands:=fun y hy=>by simp [ho,Op.operands,hy]
 have hmm:∀y,mx=some y→y∈o.op.operands:=fun y hy=>by simp [ho,Op.operands,hy]
 have run:∀(a:Act) (w:World) (v:Value),(Instr.sliceAt t (a.eval x) (lo.map a.eval) (hi.map a.eval) (mx.map a.eval)).run P w= .ok v w→(execOp a.eval o).run P w= .ok (.value v) w:=by
  intro a w v h
  simp [execOp,ho,h,Result.andThen]
 unfold sliceAtK at hk
 split at hk
 ·
  rename_i s hx
  split at hk
  ·rename_i l h hst hl hh hm
   split at hk
   ·rename_i hle1 hle2
    rw [forceL_eq] at hk
    have hle1:=Nat.le_of_ble_eq_true hle1
    have hle2:=Nat.le_of_ble_eq_true hle2
    refine⟨_,fun μ a w hr hH=> ?_,hk⟩
    obtain⟨bs,hb,hbl⟩:=(hr.at hmx hx).str_inv
    have h1:=optNat_inv hl (fun y hy=>hr.mem (hml y hy))
    have h2:=optNat_inv hh (fun y hy=>hr.mem (hmh y hy))
    have h3:mx.map a.eval=none:=by cases mx with
     | none=>rfl
     | some=>simp at hm
    refine⟨.string (bs.extract l h),run a w _ ?_, .str _ _ ?_⟩
    ·rw [h3,hb]
     rw [←str_size hbl] at h2 hle2
     simp only [Instr.sliceAt,Instr.slice,Sem.run_bind,r_under (isString_under hst),Result.andThen_ok,Option.isSome_none,Bool.false_eq_true,if_false,r_bounds h1 h2 hle1 hle2,Sem.run_pure]
    ·rw [extract_data,List.map_take,List.map_drop,hbl]
   ·cases hk
  ·cases hk
 ·
  rename_i b off len sz c hx
  split at hk
  ·rename_i el l h hel hl hh
   obtain⟨hu,hinfo⟩:=elemSlice_inv hel
   split at hk
   ·cases hk
   ·rename_i hsz
    have hsz:=Nat.eq_of_beq_eq_true hsz
    have common:∀(μ:Mu) (a:Act) (w:World),OpdR μ e a o→HRg G μ H w→∃(p:Pl) (cap:Nat) (ad:Addr),μ b=some p∧a.eval x= .slice (some ad) len cap∧len≤cap∧off+cap * sz≤p.tot∧
      (∀n,c=some n→cap=n)∧(c=none→off+cap * sz=p.tot)∧(0<cap→ad=⟨p.blk,p.base+off,none⟩):=by
     intro μ a w hr hH
     have h1:=hr.at hmx hx
     generalize hxa:a.eval x=xv at h1
     cases h1 with
     | sl _ _ _ _ _ p cap ad hp hl ht hc hn ha=>exact⟨p,cap,ad,hp,rfl,hl,ht,hc,hn,ha⟩
    have res:∀(a:Act) (w:World) (ad:Addr) (cap m:Nat),a.eval x= .slice (some ad) len cap→(Instr.sliceBounds true len cap (lo.map a.eval) (hi.map a.eval) (mx.map a.eval)).run P w= .ok (l,h,m) w→
      (Instr.sliceAt t (a.eval x) (lo.map a.eval) (hi.map a.eval) (mx.map a.eval)).run P w= .ok (.slice (some (if m=l then ad else ad.add (l * sz))) (h - l) (m - l)) w:=by
     intro a w ad cap m hxa hb
     simp only [Instr.sliceAt,Instr.slice,hxa,Sem.run_bind,r_under hu,Result.andThen_ok,hb,r_size hinfo,Sem.run_pure,hsz]
     split<;>rfl
    split at hk
    ·
     rename_i hm
     have h3:∀a:Act,mx.map a.eval=none:=fun a=>by cases mx with
      | none=>rfl
      | some=>simp at hm
     split at hk
     ·rename_i hle1 hre
      rw [forceN_eq,forceN_eq] at hk
      have hle1:=Nat.le_of_ble_eq_true hle1
      refine⟨_,fun μ a w hr hH=> ?_,hk⟩
      obtain⟨p,cap,ad,hp,hxa,hlc,htot,hcc,hn,ha⟩:=common μ a w hr hH
      have h1:=optNat_inv hl (fun y hy=>hr.mem (hml y hy))
      have h2:=optNat_inv hh (fun y hy=>hr.mem (hmh y hy))
      have hcap:=reach_le hH hp hlc hcc hn hre
      have hms:=mul_split (sz:=sz) (Nat.le_trans hle1 hcap)
      have htn:=hn rfl
      refine⟨_,run a w _ (res a w ad cap cap hxa (by rw [h3];exact r_bounds h1 h2 hle1 hcap)), .sl _ _ _ _ _ p _ _ hp (by omega) (by omega) (fun n hn=>by cases hn) (fun _=>by omega) (fun hpos=> ?_)⟩
      have:¬cap=l:=by omega
      rw [if_neg this,ha (by omega),addr_add,Nat.add_assoc]
     ·rename_i cc hle1 hre
      have hle1:=Nat.le_of_ble_eq_true hle1
      split at hk
      ·rename_i hcl
       have hcl:=Nat.eq_of_beq_eq_true hcl
       refine⟨_,fun μ a w hr hH=> ?_,hk⟩
       obtain⟨p,cap,ad,hp,hxa,hlc,htot,hcc,hn,ha⟩:=common μ a w hr hH
       have h1:=optNat_inv hl (fun y hy=>hr.mem (hml y hy))
       have h2:=optNat_inv hh (fun y hy=>hr.mem (hmh y hy))
       have hcap:=reach_le hH hp hlc hcc hn hre
       have hceq:=hcc _ rfl
       have e1:h - l=0:=by omega
       have e2:cap - l=0:=by omega
       refine⟨_,run a w _ (res a w ad cap cap hxa (by rw [h3];exact r_bounds h1 h2 hle1 hcap)), ?_⟩
       rw [e1,e2]
       exact .sl _ _ _ _ _ p _ _ hp (by omega) (by omega) (fun n hn=>by cases hn;rfl) (fun h=>by cases h) (fun hpos=>by omega)
      ·rename_i hcl
       have hcl:¬cc=l:=fun e=>by subst e;simp [Nat.beq_refl] at hcl
       rw [forceN_eq,forceN_eq,forceN_eq] at hk
       refine⟨_,fun μ a w hr hH=> ?_,hk⟩
       obtain⟨p,cap,ad,hp,hxa,hlc,htot,hcc,hn,ha⟩:=common μ a w hr hH
       have h1:=optNat_inv hl (fun y hy=>hr.mem (hml y hy))
       have h2:=optNat_inv hh (fun y hy=>hr.mem (hmh y hy))
       have hcap:=reach_le hH hp hlc hcc hn hre
       have hceq:=hcc _ rfl
       have hms:=mul_split (sz:=sz) (Nat.le_trans hle1 hcap)
       refine⟨_,run a w _ (res a w ad cap cap hxa (by rw [h3];exact r_bounds h1 h2 hle1 hcap)), .sl _ _ _ _ _ p _ _ hp (by omega) (by omega) (fun n hn=>by cases hn;omega) (fun h=>by cases h) (fun hpos=> ?_)⟩
       have:¬cap=l:=by omega
       rw [if_neg this,ha (by omega),addr_add,Nat.add_assoc]
     ·cases hk
    ·
     rename_i mv hm
     split at hk
     ·rename_i m hv hmn hhi
      split at hk
      ·rename_i hle1 hle2 hre
       have hle1:=Nat.le_of_ble_eq_true hle1
       have hle2:=Nat.le_of_ble_eq_true hle2
       have bnd:∀(μ:Mu) (a:Act) (w:World) (cap:Nat),OpdR μ e a o→m≤cap→(Instr.sliceBounds true len cap (lo.map a.eval) (hi.map a.eval) (mx.map a.eval)).run P w= .ok (l,h,m) w:=by
        intro μ a w cap hr hcap
        have h1:=optNat_inv hl (fun y hy=>hr.mem (hml y hy))
        have h2:=optNat_inv hh (fun y hy=>hr.mem (hmh y hy))
        cases hi with
        | none=>simp at hhi
        | some hi=>
         cases mx with
         | none=>simp at hm
         | some mx=>
          simp at hm
          obtain⟨km,hkm⟩:=natOf_inv (hm▸hmn) (hr.mem (hmm mx rfl))
          rcases h2 with⟨h2,_⟩| ⟨kh,h2⟩
          ·simp at h2
          ·rw [h2]
           simp only [Option.map_some,hkm]
           exact r_bounds3 h1 hle1 hle2 hcap
       split at hk
       ·rename_i hml'
        have hml':=Nat.eq_of_beq_eq_true hml'
        refine⟨_,fun μ a w hr hH=> ?_,hk⟩
        obtain⟨p,cap,ad,hp,hxa,hlc,htot,hcc,hn,ha⟩:=common μ a w hr hH
        have hcap:=reach_le hH hp hlc hcc hn hre
        have e1:h - l=0:=by omega
        have e2:m - l=0:=by omega
        refine⟨_,run a w _ (res a w ad cap m hxa (bnd μ a w cap hr hcap)), ?_⟩
        rw [e1,e2]
        exact .sl _ _ _ _ _ p _ _ hp (by omega) (by omega) (fun n hn=>by cases hn;rfl) (fun h=>by cases h) (fun hpos=>by omega)
       ·rename_i hml'
        have hml':¬m=l:=fun e=>by subst e;simp [Nat.beq_refl] at hml'
        rw [forceN_eq,forceN_eq,forceN_eq] at hk
        refine⟨_,fun μ a w hr hH=> ?_,hk⟩
        obtain⟨p,cap,ad,hp,hxa,hlc,htot,hcc,hn,ha⟩:=common μ a w hr hH
        have hcap:=reach_le hH hp hlc hcc hn hre
        have hms:=mul_split (sz:=sz) (Nat.le_trans hle1 hle2)
        have hms':=mul_split (sz:=sz) hcap
        refine⟨_,run a w _ (res a w ad cap m hxa (bnd μ a w cap hr hcap)), .sl _ _ _ _ _ p _ _ hp (by omega) (by omega) (fun n hn=>by cases hn;omega) (fun h=>by cases h) (fun hpos=> ?_)⟩
        rw [if_neg hml',ha (by omega),addr_add,Nat.add_assoc]
      ·cases hk
     ·cases hk
  ·cases hk
 ·
  rename_i sz cs len hx
  split at hk
  ·rename_i el l h hel hl hh hm
   obtain⟨hu,hinfo⟩:=elemSlice_inv hel
   split at hk
   ·rename_i hsz hle1 hle2
    rw [forceN_eq] at hk
    have hsz:=Nat.eq_of_beq_eq_true hsz
    have hle1:=Nat.le_of_ble_eq_true hle1
    have hle2:=Nat.le_of_ble_eq_true hle2
    refine⟨_,fun μ a w hr hH=> ?_,hk⟩
    have h1:=hr.at hmx hx
    generalize hxa:a.eval x=xv at h1
    cases h1 with
    | dat _ _ L hmem hd=>
    cases hd with
    | sl _ _ _ ad cap p arr el' fz xs L g hlc hc ht hl' hf hx' ha hs=>
     have h1:=optNat_inv hl (fun y hy=>hr.mem (hml y hy))
     have h2:=optNat_inv hh (fun y hy=>hr.mem (hmh y hy))
     have h3:mx.map a.eval=none:=by cases mx with
      | none=>rfl
      | some=>simp at hm
     have hb:(Instr.sliceBounds true len cap (lo.map a.eval) (hi.map a.eval) (mx.map a.eval)).run P w= .ok (l,h,cap) w:=by rw [h3];exact r_bounds h1 h2 hle1 (by omega)
     have hrun:(Instr.sliceAt t (a.eval x) (lo.map a.eval) (hi.map a.eval) (mx.map a.eval)).run P w= .ok (.slice (some (if cap=l then ad else ad.add (l * sz))) (h - l) (cap - l)) w:=by
      simp only [Instr.sliceAt,Instr.slice,hxa,Sem.run_bind,r_under hu,Result.andThen_ok,hb,r_size hinfo,Sem.run_pure,hsz]
      split<;>rfl
     have hms:=mul_split (sz:=sz) (Nat.le_trans hle1 (Nat.le_trans hle2 hlc))
     obtain⟨M,hd1⟩:=hs.drop (l * sz)
     obtain⟨N,hd2⟩:=hd1.take ((h - l) * sz)
     refine⟨_,run a w _ hrun, .dat _ _ _ rfl (.sl _ _ _ _ _ ⟨p.blk,p.base+l * sz,(cap - l) * sz⟩ arr el' fz _ N g (by omega) rfl (by simp only;omega) (by simp;omega) hf (fun i y hy=> ?_) (fun hpos=> ?_) hd2)⟩
     ·rw [List.getElem?_take] at hy
      split at hy
      ·rw [List.getElem?_drop] at hy
       have:=hx' _ _ hy
       show arr[p.base+l * sz+i]? =_
       rwa [Nat.add_assoc]
      ·cases hy
     ·have:¬cap=l:=by omega
      rw [if_neg this,ha (by omega),addr_add]
   ·cases hk
  ·cases hk
 ·
  rename_i hx
  split at hk
  ·rename_i el hel hl hh hm hmi
   obtain⟨hu,hinfo⟩:=elemSlice_inv hel
   refine⟨_,fun μ a w hr hH=> ?_,hk⟩
   have h1:=hr.at hmx hx
   generalize hxa:a.eval x=xv at h1
   cases h1
   have h1:=optNat_inv hl (fun y hy=>hr.mem (hml y hy))
   have h2:=optNat_inv hh (fun y hy=>hr.mem (hmh y hy))
   have h3:=optNat_inv hm (fun y hy=>hr.mem (hmm y hy))
   refine⟨.slice none 0 0,run a w _ ?_, .nils⟩
   rw [hxa]
   rcases h3 with⟨h3,_⟩| ⟨km,h3⟩
   ·rw [h3]
    simp only [Instr.sliceAt,Instr.slice,Sem.run_bind,r_under hu,Result.andThen_ok,r_bounds (isS:=true) (cap:=0) h1 h2 (Nat.le_refl _) (Nat.le_refl _),r_size hinfo,Sem.run_pure]
    rfl
   ·rw [h3]
    rcases h2 with⟨h2,_⟩| ⟨kh,h2⟩
    ·cases hi with
     | none=>cases mx with
      | none=>simp at h3
      | some=>simp at hmi
     | some=>simp at h2
    ·rw [h2]
     simp only [Instr.sliceAt,Instr.slice,Sem.run_bind,r_under hu,Result.andThen_ok,r_bounds3 (isS:=true) (cap:=0) h1 (Nat.le_refl _) (Nat.le_refl _) (Nat.le_refl _),r_size hinfo,Sem.run_pure]
     rfl
  ·cases hk
 ·
  rename_i b off hx
  split at hk
  ·rename_i n el _ ro cs hu hb
   split at hk
   ·rename_i l h hinfo hl hh hm
    split at hk
    ·rename_i hle1 hle2 hnl hle3
     rw [forceN_eq,forceN_eq,forceN_eq] at hk
     have hle1:=Nat.le_of_ble_eq_true hle1
     have hle2:=Nat.le_of_ble_eq_true hle2
     have hle3:=Nat.le_of_ble_eq_true hle3
     have hnl:¬n=l:=fun e=>by subst e;simp [Nat.beq_refl] at hnl
     refine⟨_,fun μ a w hr hH=> ?_,hk⟩
     obtain⟨p,hp,hxa⟩:=(hr.at hmx hx).ptr_inv
     obtain⟨arr,el',fz,g2,g3,g4,_,_⟩:=hH.at hb hp
     have h1:=optNat_inv hl (fun y hy=>hr.mem (hml y hy))
     have h2:=optNat_inv hh (fun y hy=>hr.mem (hmh y hy))
     have h3:mx.map a.eval=none:=by cases mx with
      | none=>rfl
      | some=>simp at hm
     have hms:=mul_split (sz:=P.cellsOf el) (Nat.le_trans hle1 hle2)
     refine⟨.slice (some ⟨p.blk,p.base+(off+l * P.cellsOf el),none⟩) (h - l) (n - l),run a w _ ?_, .sl _ _ _ _ _ p _ _ hp (by omega) (by omega) (fun n hn=>by cases hn;rfl) (fun h=>by cases h) (fun _=>rfl)⟩
     rw [h3,hxa]
     simp only [Instr.sliceAt,Instr.sureAddr,Sem.run_bind,r_under hu,Result.andThen_ok,Sem.run_pure,r_bounds h1 h2 hle1 hle2,r_size hinfo,if_neg hnl,addr_add,Nat.add_assoc]
    ·cases hk
   ·cases hk
  ·cases hk
 ·cases hk
theorem rowAt_mono {fits:TypeId→Bool} {n:Nat}:∀(d:Nat) (e:TypeId) (c c' off:Nat),c≤c'→rowAt P fits d e c off n=true→rowAt P fits d e c' off n=true:=by
 intro d
 induction d with
 | zero=>intro e c c' off _ h;simp [rowAt] at h
 | succ d ih=>
  intro e c c' off hc h
  simp only [rowAt] at h⊢
  split at h
  ·cases h
  ·rename_i hs
   rw [if_neg hs]
   simp only [Bool.or_eq_true,Bool.and_eq_true,decide_eq_true_eq] at h⊢
   rcases h with⟨⟨h1,h2⟩,h3⟩| ⟨h1,h2⟩
   ·exact .inl ⟨⟨h1,by omega⟩,h3⟩
   ·exact .inr ⟨by omega,h2⟩
theorem liesAt_mono {u:TypeId}:∀(d:Nat) (e:TypeId) (c c' off n:Nat),c≤c'→∀u,liesAt P d e c off u n=true→liesAt P d e c' off u n=true:=by
 intro d
 induction d with
 | zero=>intro e c c' off n _ u h;simp [liesAt] at h
 | succ d ih=>
  intro e c c' off n hc u h
  simp only [liesAt,Bool.or_eq_true] at h⊢
  rcases h with h | h
  ·exact .inl (rowAt_mono _ _ _ _ _ hc h)
  ·right
   split at h
   ·exact ih _ _ _ _ _ hc _ h
   ·cases h
theorem shape_cells {w:World} {b:Nat} {arr:Array Value} {el:TypeId} {fz:Nat×Nat} (h:w.heap[b]? =some (.cells arr el fz)):w.shape? b=some (el,arr.size):=by
 simp [World.shape?,h]
theorem bytesOfCells_cons {n:Nat} {cs:List AV} {l:List Nat} (h:bytesOfCells (n+1) cs=some l):∃m cs' l',cs= .int .u8 (.ofNat m)::cs'∧m<256∧bytesOfCells n cs'=some l'∧l=m::l':=by
 unfold bytesOfCells at h
 split at h
 ·rename_i hn;cases hn
 ·rename_i n' m cs' hn
  cases hn
  split at h
  ·rename_i l' hm hb
   cases h
   rw [Nat.blt_eq] at hm
   exact⟨_,_,_,rfl,hm,hb,rfl⟩
  ·cases h
 ·cases h
theorem bytesOfCells_len:∀{n:Nat} {cs:List AV} {l:List Nat},bytesOfCells n cs=some l→n≤cs.length
 | 0,_,_,_=>Nat.zero_le _
 | n+1,_,_,h=>by
  obtain⟨m,cs',l',rfl,_,hb,_⟩:=bytesOfCells_cons h
  have:=bytesOfCells_len hb
  simp;omega
theorem bytesOfCells_inv {μ:Mu}:∀{n:Nat} {cs:List AV} {l:List Nat} {xs:List Value},bytesOfCells n cs=some l→VRs μ (cs.take n) xs→l.length=n∧∃bs:List UInt8,bs.map UInt8.toNat=l∧∀(j:Nat) (b:UInt8),bs[j]? =some b→xs[j]? =some (.int .u8 b.toNat)
 | 0,cs,l,xs,h,_=>by simp [bytesOfCells] at h;subst h;exact⟨rfl,[],rfl,fun j b h=>by simp at h⟩
 | n+1,cs,l,xs,h,hv=>by
  obtain⟨m,cs',l',rfl,hm,hb,rfl⟩:=bytesOfCells_cons h
  rw [List.take_succ_cons] at hv
  cases hv with | cons _ x _ xs hx hxs=>
  cases hx
  obtain⟨h1,bs,h2,h3⟩:=bytesOfCells_inv hb hxs
  refine⟨by simp [h1],UInt8.ofNat m::bs,by simp [h2,Nat.mod_eq_of_lt hm],fun j b hj=> ?_⟩
  cases j with
  | zero=>
   simp at hj
   subst hj
   simp [Nat.mod_eq_of_lt hm]
  | succ j=>simpa using h3 j b (by simpa using hj)
theorem l_ptrConv {s d:TypeId} {x:Operand} (ho:o.op= .convert s d x) {k:AV→Bool} (hk:ptrConvK P s d (opd e x) H k=true):∃v,LSpec P G o e H v∧k v=true:=by
 have hmx:x∈o.op.operands:=by simp [ho,Op.operands]
 have run:∀(a:Act) (w:World) (v:Value),(convert s d (a.eval x)).run P w= .ok v w→(execOp a.eval o).run P w= .ok (.value v) w:=by
  intro a w v h
  simp [execOp,ho,h,Result.andThen]
 unfold ptrConvK at hk
 split at hk
 ·rename_i t hs hd
  split at hk
  ·rename_i b off hx
   split at hk
   ·rename_i el ro cs hb
    split at hk
    ·rename_i hlt hinfo hz
     refine⟨_,fun μ a w hr hH=> ?_,hk⟩
     obtain⟨p,hp,hxa⟩:=(hr.at hmx hx).ptr_inv
     obtain⟨arr,e',fz,g1,g2,g3,_,_⟩:=hH.at hb hp
     obtain⟨j,hj⟩:=Option.isSome_iff_exists.1 hinfo
     rw [Nat.blt_eq] at hlt
     have hsz:j.size≠0:=fun h0=>by
      have:P.cellsOf t=0:=by simp [Program.cellsOf,hj,h0]
      rw [this] at hz;cases hz
     refine⟨_,run a w _ ?_, .ptr _ _ p hp⟩
     rw [hxa]
     exact Lib.run_to_unsafe w ⟨p.blk,p.base+off,none⟩ hs hd hj hsz (shape_cells g1) (by simp only;omega)
    ·cases hk
   ·cases hk
  ·cases hk
 ·rename_i u hs hd
  split at hk
  ·rename_i b off hx
   split at hk
   ·rename_i el cs hb
    split at hk
    ·rename_i hinfo hlies
     refine⟨_,fun μ a w hr hH=> ?_,hk⟩
     obtain⟨p,hp,hxa⟩:=(hr.at hmx hx).ptr_inv
     obtain⟨arr,e',fz,g1,g2,g3,g4,_⟩:=hH.at hb hp
     obtain⟨_,g5⟩:=g4 rfl
     obtain⟨q1,q2,q3⟩:=g5 el rfl
     subst q1
     obtain⟨j,hj⟩:=Option.isSome_iff_exists.1 hinfo
     refine⟨_,run a w _ ?_, .ptr _ _ p hp⟩
     rw [hxa]
     refine Lib.run_from_unsafe w ⟨p.blk,p.base+off,none⟩ hs hd hj (shape_cells g1) ?_
     rw [q2,Nat.zero_add]
     exact liesAt_mono (u:=u) _ _ _ _ _ _ (Nat.div_le_div_right (by omega)) _ hlies
    ·cases hk
   ·cases hk
  ·cases hk
 ·rename_i e1 hs hd
  split at hk
  ·rename_i he
   split at hk
   ·rename_i b off n sz c hx
    split at hk
    ·rename_i el ro cs hsz hb
     split at hk
     ·rename_i l hby
      have hsz:=Nat.eq_of_beq_eq_true hsz
      subst hsz
      refine⟨_,fun μ a w hr hH=> ?_,hk⟩
      have h1:=hr.at hmx hx
      generalize hxa:a.eval x=xv at h1
      cases h1 with | sl _ _ _ _ _ p cap a' hp hl ht hc hn ha=>
      obtain⟨arr,e',fz,g1,g2,g3,g4,g5⟩:=hH.at hb hp
      have hnl:n+1≤(cs.drop off).length:=bytesOfCells_len hby
      obtain⟨xs,k1,k2,k3⟩:=vrs_window (cs:=cs.drop off) (n:=n+1) (arr:=arr) (base:=p.base+off) (μ:=μ) (fun i c' hc'=>by
       rw [List.getElem?_drop] at hc'
       rw [Nat.add_assoc]
       exact g5 _ _ hc') hnl
      obtain⟨l1,bs,l2,l3⟩:=bytesOfCells_inv hby k2
      have hbl:bs.length=n+1:=by rw [←l1,←l2];simp
      refine⟨.string (strOfNums (bs.map fun b=>(b.toNat:Int))),run a w _ ?_, .str _ _ ?_⟩
      ·rw [hxa,ha (by omega)]
       refine run_convert_bytes_arg w s e1 hs he p.blk (p.base+off) (n+1) cap (bs.map fun b=>(b.toNat:Int)) (by simp [hbl]) (fun i hi=> ?_) d hd
       have hbi:bs[i]? =some bs[i]:=List.getElem?_eq_getElem (by omega)
       rw [cell_at g1,k3 i _ (l3 i _ hbi)]
       simp [List.getD,List.getElem?_map,hbi]
      ·rw [strOfNums_data,List.map_map,List.map_map,←l2]
       refine List.map_congr_left fun x _=> ?_
       simp
     ·cases hk
    ·cases hk
   ·cases hk
  ·cases hk
 ·cases hk
theorem opC_l {f:LF} (h:opC P G o= .l f) {k:AV→Bool} (hk:f e H k=true):∃v,LSpec P G o e H v∧k v=true:=by
 unfold opC at h
 split at h<;>rename_i ho
 ·simp only [opdB_mk] at h;cases h
 ·simp only [opdB_mk] at h;cases h
 ·simp only [opdB_mk] at h;cases h
 ·split at h
  ·cases h
  ·exact (no_l h).elim
 ·simp only [opdB_mk] at h;cases h
 ·simp only [partsB_mk] at h;cases h
 ·simp only [partsB_mk] at h;cases h
 ·simp only [opdB_mk] at h;cases h;exact l_load ho hk
 ·simp only [opdB_mk] at h;cases h
 ·simp only [opdB_mk] at h;cases h
 ·simp only [opdB_mk] at h;cases h
 ·simp only [opdB_mk] at h;cases h
 ·simp only [opdB_mk] at h
  split at h
  ·cases h;exact l_ptrConv ho hk
  ·cases h
 ·simp only [opdB_mk] at h
  split at h
  ·exact (no_l h).elim
  ·cases h
 ·simp only [opdsB_mk] at h;cases h
 ·cases h
 ·split at h
  ·split at h
   ·simp only [opdB_mk] at h;cases h
   ·exact (no_l h).elim
  ·exact (no_l h).elim
 ·simp only [opdB_mk,optB_mk] at h;cases h;exact l_slice ho hk
 ·split at h
  ·split at h
   ·split at h
    ·exact (no_l h).elim
    ·simp only [opdB_mk] at h;cases h
   ·exact (no_l h).elim
  ·exact (no_l h).elim
 ·split at h
  ·split at h
   ·simp only [opdB_mk] at h;cases h
   ·exact (no_l h).elim
  ·exact (no_l h).elim
 ·simp only [opdB_mk] at h;cases h
 ·simp only [opdB_mk] at h;cases h
 ·simp only [opdB_mk] at h;cases h;exact l_lookup ho hk
 ·simp only [opdB_mk] at h;cases h
 ·simp only [opdB_mk] at h;cases h
 ·simp only [opdB_mk] at h;cases h
 ·simp only [opdB_mk] at h;cases h
 ·simp only [opdB_mk] at h;cases h
 ·simp only [opdB_mk] at h;cases h
 ·simp only [opdB_mk] at h;cases h
 ·simp only [opdB_mk] at h;cases h;exact l_entry ho hk
 ·simp only [opdB_mk] at h;cases h
 ·simp only [opdB_mk] at h;cases h
 ·rename_i c
  unfold callC at h
  simp only [opdsB_mk,opdB_mk] at h
  split at h
  ·rename_i b hc
   unfold builtinC at h
   split at h
   ·split at h
    ·cases h
    ·exact (no_l h).elim
   ·split at h
    ·rename_i t ht
     cases h
     simp only at hk
     unfold one1 at hk
     split at hk
     ·rename_i x hx
      exact l_len ho hc ht hx hk
     ·cases hk
    ·exact (no_l h).elim
   ·split at h
    ·cases h
    ·exact (no_l h).elim
   ·split at h
    ·cases h
    ·exact (no_l h).elim
   ·cases h
   ·split at h
    ·cases h
    ·exact (no_l h).elim
   ·cases h
   ·cases h
   ·exact (no_l h).elim
  ·cases h
  ·cases h
 ·simp only [opdB_mk] at h;cases h
 ·exact (no_l h).elim
end
end Go.Ev
namespace Go.Ev
set_option linter.unusedVariables false
set_option linter.unusedSimpArgs false
def ASpec (P:Program) (o:Oper) (e:En) (blk:Blk) (r:Nat→AV):Prop:=
 ∀(μ:Mu) (a:Act) (w:World),OpdR μ e a o→∃(obj:Obj) (x:Value) (tot:Nat),(execOp a.eval o).run P w= .ok (.value x) (w.alloc obj)∧
  ∀b,μ b=none→BR (μ.upd b ⟨w.heap.size,0,tot⟩) ⟨w.heap.size,0,tot⟩ blk (some obj)∧VR (μ.upd b ⟨w.heap.size,0,tot⟩) (r b) x
section
variable {P : Program} {G : Globals} {o : Oper} {e : En} {H : Hp}
theorem br_cells {μ:Mu} {n:Nat} {cs:List AV} {arr:Array Value} {el:TypeId} (h:VRs μ cs arr.toList):BR μ ⟨n,0,arr.size⟩ (.cells (some el) false cs) (some (.cells arr el)):=
 ⟨arr,el,(0,0),rfl,by simp,by have:=h.length;simp at this;simp [this],fun _=>⟨rfl,fun e he=>by cases he;exact⟨rfl,rfl,rfl⟩⟩,fun i c hc=>by
  obtain⟨x,hx,hv⟩:=h.get i hc
  exact⟨x,by simpa using hx,hv⟩⟩
theorem a_alloc {t:TypeId} {z:AV} (ho:o.op= .alloc t) (hz:zro P t=some z):ASpec P o e (.cells (some t) false z.cells) retPtr:=fun μ a w h=>by
 obtain⟨i,v,hi,hv,hzv⟩:=zro_info hz
 refine⟨.cells v.cells t, .pointer (some ⟨w.heap.size,0,none⟩),v.cells.size, ?_,fun b hb=>⟨br_cells (hzv _).cells, ?_⟩⟩
 ·simp [execOp,ho,Instr.alloc,zeroValue,r_info hi,hv,Result.andThen,newVar,newRow]
 ·exact .ptr b 0 ⟨w.heap.size,0,v.cells.size⟩ (Mu.upd_same _ _ _)
theorem a_box {t:TypeId} {x:Operand} (ho:o.op= .box t x):ASpec P o e (.cells (some t) false (opd e x).cells) retPtr:=fun μ a w h=>by
 have hx:=h.mem (x:=x) (by simp [ho,Op.operands])
 refine⟨.cells (a.eval x).cells t, .pointer (some ⟨w.heap.size,0,none⟩),(a.eval x).cells.size, ?_,fun b hb=>⟨br_cells (hx.mono (Mu.le_upd _ hb)).cells, ?_⟩⟩
 ·simp [execOp,ho,Instr.box,Result.andThen,newVar,newRow]
 ·exact .ptr b 0 ⟨w.heap.size,0,(a.eval x).cells.size⟩ (Mu.upd_same _ _ _)
theorem a_makeMap {t:TypeId} (ho:o.op= .makeMap t none):ASpec P o e (.map false [] 0) retMap:=fun μ a w h=>by
 refine⟨.map #[] 0, .map (some w.heap.size),0, ?_,fun b hb=>⟨⟨#[],rfl,rfl,fun i y v s hs=>by simp at hs⟩, ?_⟩⟩
 ·simp [execOp,ho,Instr.makeMap,Result.andThen]
 ·exact .map b ⟨w.heap.size,0,0⟩ (Mu.upd_same _ _ _)
theorem zerosOf_get (z:List AV) (n i:Nat):(zerosOf z n)[i]? =if i<n * z.length then z[i%z.length]? else none:=by
 induction n generalizing i with
 | zero=>simp [zerosOf]
 | succ n ih=>
  simp only [zerosOf]
  by_cases h:i<z.length
  ·rw [List.getElem?_append_left h,Nat.mod_eq_of_lt h,if_pos]
   rw [Nat.succ_mul];omega
  ·rw [List.getElem?_append_right (by omega),ih]
   have h1:(i - z.length<n * z.length)↔(i<(n+1) * z.length):=by rw [Nat.succ_mul];omega
   have h2:(i - z.length)%z.length=i%z.length:=by
    by_cases h0:z.length=0
    ·simp [h0]
    ·rw [←Nat.mod_eq_sub_mod (by omega)]
   simp only [h1,h2]
theorem zerosOf_len (z:List AV) (n:Nat):(zerosOf z n).length=n * z.length:=by
 induction n with
 | zero=>simp [zerosOf]
 | succ n ih=>simp [zerosOf,ih,Nat.succ_mul];omega
theorem zeros_vr {μ:Mu} {z:List AV} {zs:Array Value} (h:VRs μ z zs.toList) (n:Nat):VRs μ (zerosOf z n) ((Array.range (n * zs.size)).map (zs[·%zs.size]!)).toList:=by
 have hl:zs.size=z.length:=by have:=h.length;simpa using this
 refine VRs.of_get (by simp [zerosOf_len,hl]) fun i v hv=> ?_
 rw [zerosOf_get] at hv
 split at hv
 ·rename_i hi
  obtain⟨x,hx,hxv⟩:=h.get _ hv
  refine⟨x, ?_,hxv⟩
  rw [←hl] at hi
  have hx':zs[i%zs.size]? =some x:=by rw [hl];simpa using hx
  have:zs[i%zs.size]! =x:=by
   rw [getElem!_def,hx']
  simp [hi,this]
 ·cases hv
theorem zeroCs_vr {t:TypeId} {z:AV} (hz:zro P t=some z):∃i v,P.info? t=some i∧i.zero=some v∧∀μ,VRs μ (zeroCs P t) v.cells.toList:=by
 obtain⟨i,v,hi,hv,hzv⟩:=zro_info hz
 refine⟨i,v,hi,hv,fun μ=> ?_⟩
 unfold zeroCs
 rw [hz]
 exact (hzv μ).cells
theorem row_vr {μ:Mu} {t:TypeId} {i:TypeInfo} {v:Value} (hi:P.info? t=some i) (hv:i.zero=some v) (hz:VRs μ (zeroCs P t) v.cells.toList) (hl:(zeroCs P t).length=P.cellsOf t) (n:Nat) {w:World}:
  ∃arr:Array Value,(do
   let zero←if n * P.cellsOf t=0 then pure #[] else do pure (←zeroValue t).cells
   pure ((Array.range (n * P.cellsOf t)).map (zero[·%zero.size]!)):Sem (Array Value)).run P w= .ok arr w∧VRs μ (zerosOf (zeroCs P t) n) arr.toList:=by
 have hs:v.cells.size=P.cellsOf t:=by have:=hz.length;rw [hl] at this;simpa using this
 by_cases h0:n * P.cellsOf t=0
 ·refine⟨#[], ?_, ?_⟩
  ·simp [h0]
  ·have:zerosOf (zeroCs P t) n=[]:=by
    have:=zerosOf_len (zeroCs P t) n
    rw [hl,h0] at this
    exact List.eq_nil_of_length_eq_zero this
   rw [this];exact .nil
 ·refine⟨(Array.range (n * P.cellsOf t)).map (v.cells[·%v.cells.size]!), ?_, ?_⟩
  ·simp [h0,zeroValue,r_info hi,hv,Result.andThen]
  ·have:=zeros_vr hz n
   rwa [hs] at this⊢
theorem a_makeSlice {t el:TypeId} {z:AV} {l c:Operand} (ho:o.op= .makeSlice t l c) (hel:elemSlice P t=some el) (hz:zro P el=some z) {k:Blk→(Nat→AV)→Bool}
  (hk:makeSliceV el (P.cellsOf el) (P.bytesOf el) (zeroCs P el) (opd e l) (opd e c) k=true):∃blk r,ASpec P o e blk r∧k blk r=true:=by
 have hml:l∈o.op.operands:=by simp [ho,Op.operands]
 have hmc:c∈o.op.operands:=by simp [ho,Op.operands]
 obtain⟨hu,hinfo⟩:=elemSlice_inv hel
 obtain⟨i,v,hi,hv,hzv⟩:=zeroCs_vr hz
 unfold makeSliceV at hk
 split at hk
 ·rename_i ln cn hln hcn
  split at hk
  ·rename_i h1 h2 h3 h4
   have h1:=Nat.eq_of_beq_eq_true h1
   subst h1
   have h2:=Nat.le_of_ble_eq_true h2
   have h3:=Nat.le_of_ble_eq_true h3
   have h4:=Nat.eq_of_beq_eq_true h4
   rw [forceL_eq] at hk
   refine⟨_,_,fun μ a w h=> ?_,hk⟩
   obtain⟨kl,hkl⟩:=natOf_inv hln (h.mem hml)
   obtain⟨kc,hkc⟩:=natOf_inv hcn (h.mem hmc)
   have hb:i.bytes=P.bytesOf el:=by simp [Program.bytesOf,hi]
   have hs:i.size=P.cellsOf el:=by simp [Program.cellsOf,hi]
   have e2:(i.bytes:Int) * (ln:Int)≤281474976710656:=by
    have:((P.bytesOf el * ln:Nat):Int)≤1048576:=Int.ofNat_le.2 h2
    rw [Int.natCast_mul] at this
    rw [hb]
    omega
   have hrun:=run_make (P:=P) w t el i v hu hi hv kl kc (ln:Int) (ln:Int) (by omega) (Int.le_refl _) e2 (by omega)
   have hz2:∀μ',VRs μ' (zerosOf (zeroCs P el) ln) (madeCells v.cells (ln * i.size)).toList:=fun μ'=>by
    have h5:=zeros_vr (hzv μ') ln
    have h6:v.cells.size=i.size:=by
     have:=(hzv μ').length
     rw [h4] at this
     rw [hs]
     simpa using this
    have h7:madeCells v.cells (ln * i.size)=(Array.range (ln * v.cells.size)).map (v.cells[·%v.cells.size]!):=by unfold madeCells;rw [h6]
    rw [h7]
    exact h5
   refine⟨.cells (madeCells v.cells (ln * i.size)) el, .slice (some ⟨w.heap.size,0,none⟩) ln ln,(madeCells v.cells (ln * i.size)).size, ?_,fun b hb=>⟨br_cells (hz2 _), ?_⟩⟩
   ·simp only [Int.toNat_natCast] at hrun
    simp only [execOp,ho,hkl,hkc,Sem.run_bind,Sem.run_pure]
    rw [show (Int.ofNat ln)=(ln:Int) from rfl,hrun]
    rfl
   ·refine .sl b 0 ln _ (some ln) ⟨w.heap.size,0,_⟩ ln _ (Mu.upd_same _ _ _) (Nat.le_refl _) ?_ (fun n hn=>by cases hn;rfl) (fun h=>by cases h) (fun _=>rfl)
    have:=(hz2 μ).length
    rw [zerosOf_len,h4] at this
    simp at this
    simp [this]
  ·cases hk
 ·cases hk
theorem a_buildSlice {t:TypeId} {n:Nat} {parts:Array (Nat×Operand)} (ho:o.op= .buildSlice t n parts) {k:Blk→(Nat→AV)→Bool}
  (hk:buildSliceK P t n (parts.toList.map fun p=>(p.1,opd e p.2)) k=true):∃blk r,ASpec P o e blk r∧k blk r=true:=by
 have hpv:∀(μ:Mu) (a:Act),OpdR μ e a o→PVs μ (parts.toList.map fun p=>(p.1,opd e p.2)) (parts.toList.map fun p=>(p.1,a.eval p.2)):=fun μ a h=>parts_vr fun p hp=>h.mem (by
  simp only [ho,Op.operands]
  simp
  exact⟨p.1,by simpa using hp⟩)
 unfold buildSliceK at hk
 split at hk
 ·rename_i el hel
  obtain⟨hu,hinfo⟩:=elemSlice_inv hel
  split at hk
  ·rename_i z hz hl hsm
   have hl:=Nat.eq_of_beq_eq_true hl
   have hsm:=Nat.le_of_ble_eq_true hsm
   obtain⟨i,v,hi,hv,hzv⟩:=zeroCs_vr hz
   split at hk
   ·rename_i cs hcs
    rw [forceL_eq] at hk
    refine⟨_,_,fun μ a w h=> ?_,hk⟩
    obtain⟨arr,har,hav⟩:=row_vr (μ:=μ) hi hv (hzv μ) hl n (w:=w)
    obtain⟨ys,hy,hyv⟩:=fillS_sound hcs (hpv μ a h) hav
    refine⟨.cells ys el, .slice (some ⟨w.heap.size,0,none⟩) n n,ys.size, ?_,fun b hb=>⟨br_cells ?_, ?_⟩⟩
    ·have har2:=har
     simp only [Sem.run_bind,Sem.run_pure] at har2
     have hno:¬n * P.cellsOf el>2 ^24:=by omega
     have hy':Instr.fill (fun i=>some (i * P.cellsOf el,P.cellsOf el)) arr ((parts.map fun (i,x)=>(i,a.eval x)).toList)=some ys:=by simpa using hy
     by_cases h0:n * P.cellsOf el=0
     ·simp only [h0,if_true,Sem.run_pure,Result.andThen_ok] at har2
      injection har2 with har2 _
      rw [←har2] at hy'
      simp only [execOp,ho,Instr.buildSlice,Sem.run_bind,r_under hu,r_size hinfo,Result.andThen_ok,Sem.run_ite,if_neg hno,h0,if_true,Sem.run_pure,hy',newRow,run_newObj_alloc,if_neg (show ¬0>2 ^24 by omega)]
     ·simp only [h0,if_false,Sem.run_bind,zeroValue,r_info hi,hv,Result.andThen_ok,Sem.run_pure] at har2
      injection har2 with har2 _
      rw [←har2] at hy'
      simp only [execOp,ho,Instr.buildSlice,Sem.run_bind,r_under hu,r_size hinfo,Result.andThen_ok,Sem.run_ite,if_neg hno,h0,if_false,Sem.run_pure,zeroValue,r_info hi,hv,hy',newRow,run_newObj_alloc]
    ·exact hyv.mono (Mu.le_upd _ hb)
    ·refine .sl b 0 n _ (some n) ⟨w.heap.size,0,ys.size⟩ n _ (Mu.upd_same _ _ _) (Nat.le_refl _) ?_ (fun n hn=>by cases hn;rfl) (fun h=>by cases h) (fun _=>rfl)
     have h1:=hyv.length
     have h2:cs.length=n * P.cellsOf el:=by
      have:∀(ps:List (Nat×AV)) (c r:List AV),fillS (P.cellsOf el) ps c=some r→r.length=c.length:=by
       intro ps
       induction ps with
       | nil=>intro c r h;simp [fillS] at h;rw [h]
       | cons p ps ih=>
        intro c r h
        simp only [fillS] at h
        split at h
        ·split at h
         ·rename_i c' hc'
          obtain⟨g1,g2⟩:=setAt_eq hc'
          rw [ih _ _ h,g2]
          simp;omega
         ·cases h
        ·cases h
      rw [this _ _ _ hcs,zerosOf_len,hl]
     rw [h2] at h1
     simp at h1
     simp [h1]
   ·cases hk
  ·cases hk
 ·cases hk
theorem opC_a {f:AF} (h:opC P G o= .a f) {k:Blk→(Nat→AV)→Bool} (hk:f e k=true):∃blk r,ASpec P o e blk r∧k blk r=true:=by
 unfold opC at h
 split at h<;>rename_i ho
 ·simp only [opdB_mk] at h;cases h
 ·simp only [opdB_mk] at h;cases h
 ·simp only [opdB_mk] at h;cases h
 ·split at h
  ·rename_i z hz
   cases h
   exact⟨_,_,a_alloc ho hz,hk⟩
  ·exact (no_a h).elim
 ·simp only [opdB_mk] at h;cases h;exact⟨_,_,a_box ho,hk⟩
 ·simp only [partsB_mk] at h;cases h
 ·simp only [partsB_mk] at h;cases h;exact a_buildSlice ho hk
 ·simp only [opdB_mk] at h;cases h
 ·simp only [opdB_mk] at h;cases h
 ·simp only [opdB_mk] at h;cases h
 ·simp only [opdB_mk] at h;cases h
 ·simp only [opdB_mk] at h;cases h
 ·simp only [opdB_mk] at h
  split at h<;>cases h
 ·simp only [opdB_mk] at h
  split at h
  ·exact (no_a h).elim
  ·cases h
 ·simp only [opdsB_mk] at h;cases h
 ·cases h;exact⟨_,_,a_makeMap ho,hk⟩
 ·split at h
  ·rename_i el hel
   split at h
   ·rename_i z hz
    simp only [opdB_mk] at h;cases h
    exact a_makeSlice ho hel hz hk
   ·exact (no_a h).elim
  ·exact (no_a h).elim
 ·simp only [opdB_mk,optB_mk] at h;cases h
 ·split at h
  ·split at h
   ·split at h
    ·exact (no_a h).elim
    ·simp only [opdB_mk] at h;cases h
   ·exact (no_a h).elim
  ·exact (no_a h).elim
 ·split at h
  ·split at h
   ·simp only [opdB_mk] at h;cases h
   ·exact (no_a h).elim
  ·exact (no_a h).elim
 ·simp only [opdB_mk] at h;cases h
 ·simp only [opdB_mk] at h;cases h
 ·simp only [opdB_mk] at h;cases h
 ·simp only [opdB_mk] at h;cases h
 ·simp only [opdB_mk] at h;cases h
 ·simp only [opdB_mk] at h;cases h
 ·simp only [opdB_mk] at h;cases h
 ·simp only [opdB_mk] at h;cases h
 ·simp only [opdB_mk] at h;cases h
 ·simp only [opdB_mk] at h;cases h
 ·simp only [opdB_mk] at h;cases h
 ·simp only [opdB_mk] at h;cases h
 ·simp only [opdB_mk] at h;cases h
 ·rename_i c
  unfold callC at h
  simp only [opdsB_mk,opdB_mk] at h
  split at h
  ·unfold builtinC at h
   split at h
   ·split at h
    ·cases h
    ·exact (no_a h).elim
   ·split at h
    ·cases h
    ·exact (no_a h).elim
   ·split at h
    ·cases h
    ·exact (no_a h).elim
   ·split at h
    ·cases h
    ·exact (no_a h).elim
   ·cases h
   ·split at h
    ·cases h
    ·exact (no_a h).elim
   ·cases h
   ·cases h
   ·exact (no_a h).elim
  ·cases h
  ·cases h
 ·simp only [opdB_mk] at h;cases h
 ·exact (no_a h).elim
end
end Go.Ev
namespace Go.Ev
set_option linter.unusedVariables false
set_option linter.unusedSimpArgs false
inductive NextR (μ:Mu):AV→Next→Prop where
 | val (v x) (h:VR μ v x):NextR μ v (.value x)
 | skip:NextR μ (.tup []) .skip
def MSpec (P:Program) (G:Globals) (o:Oper) (e:En) (H:Hp) (k:AV→Hp→Bool):Prop:=
 ∀(μ:Mu) (a:Act) (w:World),OpdR μ e a o→HR G μ H w→
  ∃v nx μ' H' w',(execOp a.eval o).run P w= .ok nx w'∧NextR μ' v nx∧HR G μ' H' w'∧Ext μ H w μ' H' w'∧k v H'=true
theorem setRow_putObj {w:World} {g:Nat} {cur arr:Array Value} {t:TypeId} {fz:Nat×Nat} (h:w.heap[g]? =some (.cells cur t fz)):
  w.setRow g arr=w.putObj g (.cells arr t fz):=by
 have hlt:g<w.heap.size:=(Array.getElem?_eq_some_iff.1 h).1
 have hv:w.heap[g]= .cells cur t fz:=(Array.getElem?_eq_some_iff.1 h).2
 unfold World.setRow World.putObj
 cases w with
 | mk heap tape drawn os output=>
  congr 1
  apply Array.ext
  ·simp
  ·intro k h1 h2
   have h1':k<heap.size:=by simpa using h1
   rw [Array.getElem_modify]
   by_cases hk:g=k
   ·subst hk;simp at hv;simp [hv]
   ·rw [if_neg hk,Array.getElem_setIfInBounds_ne h1' hk]
theorem over_get {α:Type} (l vs:List α) (n i:Nat) (h:n+vs.length≤l.length):
  (l.take n++vs++l.drop (n+vs.length))[i]? =if i<n then l[i]? else if i<n+vs.length then vs[i - n]? else l[i]? :=by
 have hn:(l.take n).length=n:=by simp;omega
 by_cases h1:i<n
 ·rw [if_pos h1,List.append_assoc,List.getElem?_append_left (by omega),List.getElem?_take,if_pos h1]
 ·rw [if_neg h1]
  by_cases h2:i<n+vs.length
  ·rw [if_pos h2,List.getElem?_append_left (by simp;omega),List.getElem?_append_right (by omega),hn]
  ·rw [if_neg h2,List.getElem?_append_right (by simp;omega),List.getElem?_drop]
   congr 1
   simp;omega
def CellsAt (μ:Mu) (arr:Array Value) (base:Nat) (cs:List AV):Prop:=∀(i:Nat) (c:AV),cs[i]? =some c→∃v,arr[base+i]? =some v∧VR μ c v
theorem CellsAt.over {μ:Mu} {arr:Array Value} {base off:Nat} {cs vs cs':List AV} {xs:List Value} (h:CellsAt μ arr base cs) (hset:setAt cs off vs=some cs') (hv:VRs μ vs xs)
  (hsz:base+cs.length≤arr.size):CellsAt μ (arr.toList.take (base+off)++xs++arr.toList.drop (base+off+xs.length)).toArray base cs':=by
 obtain⟨h1,h2⟩:=setAt_eq hset
 subst h2
 have hl:=hv.length
 intro i c hc
 rw [over_get _ _ _ _ h1] at hc
 have hle:base+off+xs.length≤arr.toList.length:=by simp;omega
 simp only [List.getElem?_toArray]
 rw [over_get _ _ _ _ hle]
 by_cases c1:i<off
 ·rw [if_pos c1] at hc
  rw [if_pos (by omega)]
  obtain⟨v,hv1,hv2⟩:=h i c hc
  exact⟨v,by simpa using hv1,hv2⟩
 ·rw [if_neg c1] at hc
  rw [if_neg (by omega)]
  by_cases c2:i<off+vs.length
  ·rw [if_pos c2] at hc
   rw [if_pos (by omega)]
   obtain⟨x,hx,hxv⟩:=hv.get _ hc
   refine⟨x, ?_,hxv⟩
   rw [←hx]
   congr 1
   omega
  ·rw [if_neg c2] at hc
   rw [if_neg (by omega)]
   obtain⟨v,hv1,hv2⟩:=h i c hc
   exact⟨v,by simpa using hv1,hv2⟩
section
variable {P : Program} {G : Globals} {o : Oper} {e : En} {H : Hp}
theorem own_store {μ:Mu} {w:World} (hh:HR G μ H w) {b:Nat} {t:Option TypeId} {cs cs' vs:List AV} {p:Pl} (hb:H.get b=some (.cells t false cs)) (hp:μ b=some p) (hb':True) {off:Nat} {xs:List Value}
  (hset:setAt cs off vs=some cs') (hv:VRs μ vs xs) (h1:vs.all one=true):
  ∃w',(storeCells ⟨p.blk,p.base+off,none⟩ xs).run P w= .ok () w'∧HR G μ ⟨H.t.set b (some (.cells t false cs')),H.nx⟩ w'∧
   Ext μ H w μ ⟨H.t.set b (some (.cells t false cs')),H.nx⟩ w':=by
 obtain⟨arr,el,fz,g1,g2,g3,g4,g5⟩:=hh.at hb hp
 obtain⟨g4,g6⟩:=g4 rfl
 subst g4
 obtain⟨s1,s2⟩:=setAt_eq hset
 have hl:=hv.length
 have hrun:=run_storeCells_at P p.blk (p.base+off) el xs 0 arr w g1 (by omega) (ones_cell h1 hv)
 rw [setRow_putObj g1] at hrun
 refine⟨_,hrun,hh.put hb rfl hp hb' ?_,Ext.put hh hb rfl hp hb' _⟩
 refine⟨_,el,(0,0),rfl, ?_, ?_,fun _=>⟨rfl,fun e he=> ?_⟩, ?_⟩
 ·simp;omega
 ·subst s2;simp;omega
 ·obtain⟨q1,q2,q3⟩:=g6 e he
  exact⟨q1,q2,by simp;omega⟩
 ·exact CellsAt.over g5 hset hv (by omega)
theorem m_store {t:TypeId} {x y:Operand} (ho:o.op= .store t x y) {k:AV→Hp→Bool} (hk:storeK P H t (opd e x) (opd e y) (fun H=>k (.tup []) H)=true):MSpec P G o e H k:=by
 have hmx:x∈o.op.operands:=by simp [ho,Op.operands]
 have hmy:y∈o.op.operands:=by simp [ho,Op.operands]
 unfold storeK at hk
 split at hk
 ·rename_i b off hx
  split at hk
  ·rename_i el0 cs hb
   split at hk
   ·rename_i ag cs' hsz hag h1 hset
    rw [forceL_eq] at hk
    obtain⟨hb',hk⟩:=Hp.put_elim hk
    intro μ a w hr hh
    obtain⟨p,hp,hxa⟩:=(hr.at hmx hx).ptr_inv
    have hyv:=hr.mem hmy
    obtain⟨w',g1,g2,g3⟩:=own_store (P:=P) hh hb hp hb' hset hyv.cells h1
    refine⟨.tup [], .skip,μ,_,w', ?_, .skip,g2,g3,hk⟩
    have hsz:=Nat.eq_of_beq_eq_true hsz
    have hsize:(a.eval y).cells.size=P.cellsOf t:=by rw [←hsz,←hyv.cells.length];simp
    simp only [execOp,ho,hxa,Instr.storeAt,Instr.sureAddr,storeVar,Sem.run_bind,Sem.run_pure,Result.andThen_ok,r_size (isAg_info hag),hsize,ne_eq,not_true,if_false,g1]
   ·cases hk
  ·cases hk
 ·cases hk
def CellsOf (P:Program) (sz:Nat) (μ:Mu) (w:World) (X:Value) (n:Nat) (ys:List AV):Prop:=
 (Builtin.lenOf X).run P w= .ok n w∧∃xs:List Value,VRs μ ys xs∧xs.length=n * sz∧∀m,m≤n→(Builtin.firstCells sz m X).run P w= .ok (xs.take (m * sz)).toArray w
theorem sl_cells {μ:Mu} {w:World} (hh:HR G μ H w) {b off n z:Nat} {c:Option Nat} {X:Value} (hX:VR μ (.sl b off n z c) X) {t:Option TypeId} {ro:Bool} {cs ys:List AV} (hb:H.get b=some (.cells t ro cs))
  (ht:takeN (n * z) (cs.drop off)=some ys):CellsOf P z μ w X n ys:=by
 obtain⟨rfl,hlen⟩:=takeN_eq ht
 cases hX with
 | sl _ _ _ _ _ p cap ad hp hl htot hc hn ha=>
  obtain⟨arr,el,fz,g1,g2,g3,g4,g5⟩:=hh.at hb hp
  have g6:CellsAt μ arr (p.base+off) (cs.drop off):=fun i c hc=>by
   rw [List.getElem?_drop] at hc
   obtain⟨v,h1,h2⟩:=g5 _ _ hc
   exact⟨v,by rw [←h1];congr 1;omega,h2⟩
  obtain⟨xs,hl1,hr,hx⟩:=vrs_window g6 hlen
  refine⟨by simp [Builtin.lenOf],xs,hr,hl1,fun m hm=> ?_⟩
  simp only [Builtin.firstCells]
  by_cases hm0:m=0
  ·subst hm0;simp [loadCells,loadCellsFrom]
  ·rw [ha (by omega)]
   have hle:m * z≤n * z:=Nat.mul_le_mul_right _ hm
   refine r_loadCells g1 (by simp [hl1,Nat.min_eq_left hle]) fun j v hv=>hx j v ?_
   rw [List.getElem?_take] at hv
   split at hv
   ·exact hv
   ·cases hv
theorem cellsOfK_sound {sz:Nat} {x:AV} {k:Nat→List AV→Bool} (hk:cellsOfK H sz x k=true):
  ∃n ys,k n ys=true∧∀(μ:Mu) (w:World) (X:Value),HR G μ H w→VR μ x X→CellsOf P sz μ w X n ys:=by
 unfold cellsOfK at hk
 split at hk
 ·refine⟨_,_,hk,fun μ w X hh hX=> ?_⟩
  cases hX
  refine⟨by simp [Builtin.lenOf],[], .nil,by simp,fun m hm=> ?_⟩
  simp [Builtin.firstCells]
 ·rename_i b off n z c
  split at hk
  ·rename_i _ ro cs hz hb
   have hz:=Nat.eq_of_beq_eq_true hz
   subst hz
   split at hk
   ·rename_i ys ht
    rw [forceL_eq] at hk
    exact⟨_,_,hk,fun μ w X hh hX=>sl_cells hh hX hb ht⟩
   ·cases hk
  ·cases hk
 ·rename_i z cs n
  split at hk
  ·rename_i _ ys hz ht
   have hz:=Nat.eq_of_beq_eq_true hz
   subst hz
   rw [forceL_eq] at hk
   refine⟨_,_,hk,fun μ w X hh hX=> ?_⟩
   obtain⟨rfl,hlen⟩:=takeN_eq ht
   cases hX with
   | dat _ _ L hm hd=>
   cases hd with
   | sl _ _ _ ad cap p arr el fz xs L g hlc hc htt hl hf hx ha hs=>
    have g6:CellsAt μ arr p.base (ofDs cs):=fun i c hc'=>by
     obtain⟨v,h1,h2⟩:=(ofDs_vr hs).get i hc'
     exact⟨v,hx _ _ h1,h2⟩
    obtain⟨ys,hl1,hr,hx⟩:=vrs_window g6 hlen
    refine⟨by simp [Builtin.lenOf],ys,hr,hl1,fun m hm=> ?_⟩
    simp only [Builtin.firstCells]
    by_cases hm0:m=0
    ·subst hm0;simp [loadCells,loadCellsFrom]
    ·rw [ha (by omega)]
     have hle:m * z≤n * z:=Nat.mul_le_mul_right _ hm
     refine r_loadCells (hh.froz _ _ g) (by simp [hl1,Nat.min_eq_left hle]) fun j v hv=>hx j v ?_
     rw [List.getElem?_take] at hv
     split at hv
     ·exact hv
     ·cases hv
  ·cases hk
 ·rename_i s
  split at hk
  ·rename_i h1
   have h1:=Nat.eq_of_beq_eq_true h1
   subst h1
   rw [forceL_eq,forceN_eq] at hk
   refine⟨_,_,hk,fun μ w X hh hX=> ?_⟩
   obtain⟨bs,rfl,hl⟩:=hX.str_inv
   refine⟨by simp [Builtin.lenOf,str_size hl],(bs.data.toList.map fun b=>Value.int .u8 b.toNat), ?_, ?_,fun m hm=> ?_⟩
   ·rw [←hl,List.map_map]
    generalize bs.data.toList=l
    induction l with
    | nil=>exact .nil
    | cons a l ih=>exact .cons _ _ _ _ (.int _ _) ih
   ·have:=str_size hl;simp [←this]
   ·simp only [Builtin.firstCells,Sem.run_pure]
    congr 1
    rw [←Array.toList_inj]
    have:=extract_data bs 0 m
    simp only [Array.toList_map,this,Nat.mul_one,List.drop_zero,Nat.sub_zero,List.map_take]
  ·cases hk
 ·cases hk
theorem args_two {c:Call} {x y:AV} (ho:o.op= .call c) (hx:c.args.toList.map (opd e)=[x,y]):∀(μ:Mu) (a:Act),OpdR μ e a o→∃u v,c.args.map a.eval=#[u,v]∧VR μ x u∧VR μ y v:=by
 intro μ a h
 have hvs:VRs μ (c.args.toList.map (opd e)) (c.args.toList.map a.eval):=vrs_opds fun y hy=>h.mem (by
  simp only [ho,Op.operands,Call.operands]
  simp
  exact .inr (by simpa using hy))
 rw [hx] at hvs
 generalize has:c.args.toList.map a.eval=as at hvs
 obtain⟨u,v,rfl,hu,hv⟩:=hvs.two
 refine⟨u,v, ?_,hu,hv⟩
 rw [←Array.toList_inj]
 simpa using has
theorem two2_inv {l:List AV} {k:AV→AV→Bool} (h:two2 l k=true):∃x y,l=[x,y]∧k x y=true:=by
 unfold two2 at h
 split at h
 ·exact⟨_,_,rfl,h⟩
 ·cases h
theorem minN_eq (m n:Nat):minN m n=Nat.min m n:=by
 unfold minN
 split
 ·rename_i h;have:=Nat.le_of_ble_eq_true h;exact (Nat.min_eq_left this).symm
 ·rename_i h
  have:¬m≤n:=fun h'=>by rw [Nat.ble_eq_true_of_le h'] at h;cases h
  exact (Nat.min_eq_right (by omega)).symm
theorem m_copy {c:Call} {t:TypeId} {rest:List TypeId} {d s:AV} (ho:o.op= .call c) (hc:c.callee= .builtin .copy) (ht:c.argTypes.toList=t::rest) (hx:c.args.toList.map (opd e)=[d,s])
  {k:AV→Hp→Bool} (hk:copyK P H t d s k=true):MSpec P G o e H k:=by
 have hts:c.argTypes[0]? =some t:=by rw [←Array.getElem?_toList,ht];rfl
 have run:∀(a:Act) (w w':World) (u1 u2 v:Value),c.args.map a.eval=#[u1,u2]→(Builtin.copy_ c.argTypes o.type #[u1,u2]).run P w= .ok v w'→(execOp a.eval o).run P w= .ok (.value v) w':=by
  intro a w w' u1 u2 v h1 h2
  simp [execOp,ho,resolve,hc,invoke,builtin,h1,h2,Result.andThen]
 unfold copyK at hk
 split at hk
 ·cases hk
 ·rename_i el hel
  obtain⟨hu,hinfo⟩:=elemSlice_inv hel
  obtain⟨m,ys,hk,hcs⟩:=cellsOfK_sound (P:=P) (G:=G) hk
  split at hk
  ·cases hk
  ·rename_i h1
   split at hk
   ·intro μ a w hr hh
    obtain⟨u1,u2,hargs,hd,hs⟩:=args_two ho hx μ a hr
    obtain⟨c1,xs,c2,c3,c4⟩:=hcs μ w u2 hh hs
    cases hd
    refine⟨_,_,μ,H,w,run a w w _ _ _ hargs ?_, .val _ _ (.int .i64 (.ofNat 0)),hh, .refl,hk⟩
    have c4:=c4 0 (Nat.zero_le _)
    simp only [Nat.zero_mul,List.take_zero] at c4
    simp [Builtin.copy_,hts,r_under hu,r_size hinfo,Result.andThen,c1,c4]
    rfl
   ·rename_i b off n z cp hk0
    split at hk
    ·rename_i cs hz hb
     have hz:=Nat.eq_of_beq_eq_true hz
     subst hz
     rw [forceN_eq] at hk
     split at hk
     ·rename_i cs' hset
      rw [forceL_eq] at hk
      obtain⟨hb',hk⟩:=Hp.put_elim hk
      intro μ a w hr hh
      obtain⟨u1,u2,hargs,hd,hs⟩:=args_two ho hx μ a hr
      obtain⟨c1,xs,c2,c3,c4⟩:=hcs μ w u2 hh hs
      cases hd with
      | sl _ _ n _ _ p cap ad hp hl htot hc hn ha=>
       have c4:=c4 (minN m n) (by rw [minN_eq];exact Nat.min_le_left _ _)
       have h1':(ys.take (minN m n * P.cellsOf el)).all one=true:=by
        rw [List.all_eq_true] at h1⊢
        exact fun x hx=>h1 x (List.mem_of_mem_take hx)
       obtain⟨w',g1,g2,g3⟩:=own_store (P:=P) hh hb hp hb' hset (c2.take _) h1'
       refine⟨_,_,μ,_,w',run a w w' _ _ _ hargs ?_, .val _ _ (.int .i64 (.ofNat (minN m n))),g2,g3,hk⟩
       rw [minN_eq] at g1 c4
       have hst:(storeCells ad (xs.take (Nat.min m n * P.cellsOf el))).run P w= .ok () w':=by
        by_cases h0:cap=0
        ·have hn0:n=0:=by omega
         subst hn0
         simp [storeCells] at g1⊢
         exact g1
        ·rw [ha (by omega)];exact g1
       simp only [Builtin.copy_,hts,List.getElem?_toArray,List.getElem?_cons_zero,List.getElem?_cons_succ,Sem.run_bind,r_under hu,r_size hinfo,Result.andThen_ok,c1,c4,hst,Sem.run_pure,minN_eq]
       rfl
     ·cases hk
    ·cases hk
   ·cases hk
end
end Go.Ev
namespace Go.Ev
set_option linter.unusedVariables false
set_option linter.unusedSimpArgs false
section
variable {P : Program} {G : Globals} {o : Oper} {e : En} {H : Hp}
theorem isIntT_inv {t:TypeId} (h:isIntT P t=false):∃d,P.underlying t=some d∧∀k,d≠ .int k:=by
 unfold isIntT at h
 split at h
 ·cases h
 ·rename_i d hne hd
  exact⟨d,hd,fun k hk=>hne k hk⟩
 ·cases h
theorem zeroOk_inv {t:TypeId} (h:zeroOk P t=true):∃i v,P.info? t=some i∧i.zero=some v∧v.cells.size=P.cellsOf t:=by
 unfold zeroOk at h
 split at h
 ·rename_i z hz
  obtain⟨i,v,hi,hv,hzv⟩:=zro_info hz
  refine⟨i,v,hi,hv, ?_⟩
  have h:=Nat.eq_of_beq_eq_true h
  have:=(hzv ⟨fun _=>none,fun _=>none⟩).cells.length
  rw [←h,←this]
  simp
 ·cases h
theorem growBy_le (newLen:Nat):∀(r c:Nat),Builtin.growBy newLen r c≤max c (newLen+(newLen+768)/4):=by
 intro r
 induction r with
 | zero=>intro c;simp only [Builtin.growBy];omega
 | succ r ih=>
  intro c
  simp only [Builtin.growBy]
  split
  ·omega
  ·have:=ih (c+(c+768)/4)
   omega
theorem nextslicecap_le {need cap:Nat} (h:cap<need):Builtin.nextslicecap need cap≤2 * need+1000:=by
 unfold Builtin.nextslicecap
 split
 ·omega
 ·split
  ·omega
  ·have:=growBy_le need 4 cap
   omega
section
variable {t tx el ty : TypeId} {w : World} {base : Option Addr} {n cap m : Nat} {X : Value} {xs : List Value}
theorem r_append_in (hu:P.underlying t=some (.slice el)) (hinfo:(P.info? el).isSome=true) (htx:isIntT P tx=false) {w':World}
  (c1:(Builtin.lenOf X).run P w= .ok m w) (c4:(Builtin.firstCells (P.cellsOf el) m X).run P w= .ok xs.toArray w) (hle:n+m≤cap)
  (hst:match base with
   | some a=>(storeCells (a.add (n * P.cellsOf el)) xs).run P w= .ok () w'
   | none=>w'=w):
  (Builtin.append_ #[t,tx] ty #[.slice base n cap,X]).run P w= .ok (.slice base (n+m) cap) w':=by
 obtain⟨d,hd,hdi⟩:=isIntT_inv htx
 have go:(Builtin.append_ #[t,tx] ty #[.slice base n cap,X]).run P w=((match base with
   | some a=>storeCells (a.add (n * P.cellsOf el)) xs
   | none=>pure ()).run P w).andThen fun _ w'=> .ok (.slice base (n+m) cap) w':=by
  cases d with
  | int k=>exact absurd rfl (hdi k)
  | _=>
   simp only [Builtin.append_,List.getElem?_toArray,List.getElem?_cons_zero,List.getElem?_cons_succ,Sem.run_bind,r_under hu,r_under hd,r_size hinfo,Result.andThen_ok,Sem.run_pure,Bool.false_eq_true,if_false,c1,hle,if_true,Bool.not_false,c4]
   cases base with
   | none=>rfl
   | some a=>simp only [Sem.run_bind];rfl
 rw [go]
 cases base with
 | none=>simp only at hst;subst hst;rfl
 | some a=>simp only at hst;simp only [hst];rfl
theorem r_append_grow (hu:P.underlying t=some (.slice el)) (hinfo:(P.info? el).isSome=true) (htx:isIntT P tx=false) (hzo:zeroOk P el=true) (hby:P.bytesOf el≤65536)
  {old:List Value}
  (c1:(Builtin.lenOf X).run P w= .ok m w) (c4':(Builtin.firstCells (P.cellsOf el) m X).run P {w with drawn:=w.drawn+1}= .ok xs.toArray {w with drawn:=w.drawn+1})
  (c5':(Builtin.firstCells (P.cellsOf el) n (.slice base n cap)).run P {w with drawn:=w.drawn+1}= .ok old.toArray {w with drawn:=w.drawn+1}) (hlt:cap<n+m) (hsm:n+m≤1048576):
  ∃(newCap:Nat) (rest:List Value),n+m≤newCap∧rest.length=(newCap - (n+m)) * P.cellsOf el∧
   (Builtin.append_ #[t,tx] ty #[.slice base n cap,X]).run P w=
    .ok (.slice (some ⟨w.heap.size,0,none⟩) (n+m) newCap) (World.alloc {w with drawn:=w.drawn+1} (.cells (old++xs++rest).toArray el)):=by
 obtain⟨d,hd,hdi⟩:=isIntT_inv htx
 obtain⟨i,v,hi,hv,hvs⟩:=zeroOk_inv hzo
 have hib:i.bytes=P.bytesOf el:=by simp [Program.bytesOf,hi]
 have hn1:¬n+m≤cap:=by omega
 have hmax:IntKind.i64.max=9223372036854775807:=rfl
 have hn2:¬(((n+m:Nat):Int)>IntKind.i64.max∧(False∨i.bytes=0)):=by rw [hmax];omega
 have hn3:¬Builtin.nextslicecap (n+m) cap * i.bytes>2 ^48:=by
  have h1:=nextslicecap_le hlt
  have h2:Builtin.nextslicecap (n+m) cap * i.bytes≤(2 * 1048576+1000) * 65536:=Nat.mul_le_mul (by omega) (by omega)
  omega
 refine⟨(Question.appendCap (n+m) cap el).cut (w.tape w.drawn (.appendCap (n+m) cap el)),(Builtin.zeroCells v.cells ((Question.appendCap (n+m) cap el).cut (w.tape w.drawn (.appendCap (n+m) cap el)) - (n+m))).toList, ?_, ?_, ?_⟩
 ·simp [Question.cut]
 ·simp [Builtin.zeroCells,hvs]
 ·generalize hc:(Question.appendCap (n+m) cap el).cut (w.tape w.drawn (.appendCap (n+m) cap el))=newCap
  have hch:(choose (.appendCap (n+m) cap el)).run P w= .ok newCap {w with drawn:=w.drawn+1}:=by
   simp [choose,Sem.run,Question.forced,hc]
  have hask:∀b w,(askRoom b).run P w= .ok () w:=fun b w=>by
   unfold askRoom
   split<;>simp [mark,Sem.run]
  have hn2':¬(((n+m:Nat):Int)>IntKind.i64.max∧(false=true∨i.bytes=0)):=by simpa using hn2
  have hn1':¬(n+m≤cap):=hn1
  cases d with
  | int k=>exact absurd rfl (hdi k)
  | _=>
   simp only [Builtin.append_,List.getElem?_toArray,List.getElem?_cons_zero,List.getElem?_cons_succ,Sem.run_bind,r_under hu,r_under hd,r_size hinfo,Result.andThen_ok,Sem.run_pure,Bool.false_eq_true,if_false,c1,hn1',Bool.not_false,if_true,
    r_info hi,hn2,hn2',if_false,hn3,hch,hask,c4',c5',zeroValue,hv,newRow,run_newObj_alloc]
   rw [show (old++xs++(Builtin.zeroCells v.cells (newCap - (n+m))).toList).toArray=old.toArray++xs.toArray++Builtin.zeroCells v.cells (newCap - (n+m)) from by simp]
end
theorem HR.heap {μ:Mu} {w w':World} (h:HR G μ H w) (hw:w'.heap=w.heap):HR G μ H w':=h.world (fun _ _ _ _ _=>by rw [hw]) (fun _ _ _=>by rw [hw]) (fun _ _ _=>by rw [hw])
theorem Ext.heap {μ:Mu} {w w':World} (hw:w'.heap=w.heap) (ho:w'.os=w.os) (hp:Outs w'=Outs w):Ext μ H w μ H w':=
 ⟨Mu.le_refl _,fun _ _=>rfl,fun _ _ h=>h,Nat.le_refl _,by rw [hw];exact Nat.le_refl _,fun _ _ _=>by rw [hw],fun b x p hb hp=> .inr ⟨b,x,p,hb,hp,rfl,id⟩,ho,hp,fun _ _ h=> .inl h⟩
theorem Ext.del {μ:Mu} {w:World} {b:Nat} (hb':True):Ext μ H w μ ⟨H.t.set b none,H.nx⟩ w:=
 ⟨Mu.le_refl _,fun _ _=>rfl,fun c _ hg=>by
  by_cases e:c=b
  ·subst e;exact Hp.get_set_same hb'
  ·rw [Hp.get_set_ne (nx':=H.nx) hb' e];exact hg,Nat.le_refl _,Nat.le_refl _,fun _ _ _=>rfl,fun c x p hc hp=>by
  by_cases e:c=b
  ·subst e;rw [Hp.get_set_same hb'] at hc;cases hc
  ·rw [Hp.get_set_ne (nx':=H.nx) hb' e] at hc;exact .inr ⟨c,x,p,hc,hp,rfl,id⟩,rfl,rfl,fun _ _ h=> .inl h⟩
theorem app_new {μ:Mu} {w:World} {H0:Hp} (hh:HR G μ H0 w) (hnx:True) {olda newa:List AV} {old xs rest:List Value} {n m z newCap:Nat} {el:TypeId} {t:Option TypeId} (ht:∀e,t=some e→el=e)
  (h1:VRs μ olda old) (h2:VRs μ newa xs) (l1:old.length=n * z) (l2:xs.length=m * z) (l3:rest.length=(newCap - (n+m)) * z) (hle:n+m≤newCap):
  ∃μ',HR G μ' ⟨H0.t.set H0.nx (some (.cells t false (olda++newa))),H0.nx+1⟩ (World.alloc {w with drawn:=w.drawn+1} (.cells (old++xs++rest).toArray el))∧
   Ext μ H0 w μ' ⟨H0.t.set H0.nx (some (.cells t false (olda++newa))),H0.nx+1⟩ (World.alloc {w with drawn:=w.drawn+1} (.cells (old++xs++rest).toArray el))∧
   VR μ' (.sl H0.nx 0 (n+m) z none) (.slice (some ⟨w.heap.size,0,none⟩) (n+m) newCap):=by
 have hh':HR G μ H0 {w with drawn:=w.drawn+1}:=hh.heap rfl
 obtain⟨hm,hg⟩:=hh.none (Nat.le_refl _)
 have hms:=mul_split (sz:=z) hle
 have hadd:(n+m) * z=n * z+m * z:=Nat.add_mul _ _ _
 have hv:=h1.append h2
 have hb:BR (μ.upd H0.nx ⟨w.heap.size,0,newCap * z⟩) ⟨w.heap.size,0,newCap * z⟩ (.cells t false (olda++newa)) (some (.cells (old++xs++rest).toArray el)):=by
  have hv':=hv.mono (Mu.le_upd ⟨w.heap.size,0,newCap * z⟩ hm)
  refine⟨_,el,(0,0),rfl, ?_, ?_,fun _=>⟨rfl,fun e he=>⟨ht e he,rfl,by simp;omega⟩⟩,fun i c hc=> ?_⟩
  ·simp;omega
  ·have:=hv.length;simp at this⊢;omega
  ·obtain⟨x,hx,hxv⟩:=hv'.get i hc
   refine⟨x, ?_,hxv⟩
   have hlt:i<(old++xs).length:=(List.getElem?_eq_some_iff.1 hx).1
   simp only [Nat.zero_add,List.getElem?_toArray]
   rw [List.getElem?_append_left hlt]
   exact hx
 obtain⟨g1,g2⟩:=HR.new hh' hnx (y:= .cells t false (olda++newa)) hb
 refine⟨_,g1,(Ext.heap (w:=w) (w':={w with drawn:=w.drawn+1}) rfl rfl rfl).trans g2, ?_⟩
 exact .sl _ _ _ _ _ ⟨w.heap.size,0,newCap * z⟩ newCap _ (Mu.upd_same _ _ _) hle (by simp) (fun n hn=>by cases hn) (fun _=>by simp) (fun _=>rfl)
theorem app_blind {μ:Mu} {w:World} (hh:HR G μ H w) {b:Nat} {cs old new:List AV} {p:Pl} {t t2:Option TypeId} (hb:H.get b=some (.cells t false cs)) (hp:μ b=some p) (hb':True) (hnx:True)
  {off n z:Nat} {xs:List Value} {m cap:Nat} {ad:Addr} (hold:takeN (n * z) (cs.drop off)=some old) (hv:VRs μ new xs) (h1:new.all one=true) (hl:xs.length=m * z)
  (hle:n+m≤cap) (htot:off+cap * z≤p.tot) (ha:0<cap→ad=⟨p.blk,p.base+off,none⟩) (ht2:∀e,t2=some e→t=some e∧off=0∧cap * z=p.tot):
  ∃w' μ',(storeCells ⟨p.blk,p.base+(off+n * z),none⟩ xs).run P w= .ok () w'∧HR G μ' ⟨(H.t.set b none).set H.nx (some (.cells t2 false (old++new))),H.nx+1⟩ w'∧
   Ext μ H w μ' ⟨(H.t.set b none).set H.nx (some (.cells t2 false (old++new))),H.nx+1⟩ w'∧VR μ' (.sl H.nx 0 (n+m) z none) (.slice (some ad) (n+m) cap):=by
 obtain⟨arr,el,fz,e1,e2,e3,e4,e5⟩:=hh.at hb hp
 obtain⟨e4,e6⟩:=e4 rfl
 subst e4
 obtain⟨s1,s2⟩:=takeN_eq hold
 have hnl:=hv.length
 have hms:=mul_split (sz:=z) hle
 have hadd:(n+m) * z=n * z+m * z:=Nat.add_mul _ _ _
 obtain⟨hm0,hg0⟩:=hh.none (Nat.le_refl _)
 have hrun:=run_storeCells_at P p.blk (p.base+(off+n * z)) el xs 0 arr w e1 (by omega) (ones_cell h1 hv)
 rw [setRow_putObj e1] at hrun
 have hnb:∀c x,(⟨H.t.set b none,H.nx+1⟩:Hp).get c=some x→c≠b∧H.get c=some x:=fun c x hc=>by
  by_cases e:c=b
  ·subst e;rw [Hp.get_set_same hb'] at hc;cases hc
  ·rw [Hp.get_set_ne (nx':=H.nx) hb' e] at hc;exact⟨e,hc⟩
 have hsep:∀c x q,(⟨H.t.set b none,H.nx+1⟩:Hp).get c=some x→μ c=some q→q.blk≠p.blk:=fun c x q hc hq he=>by
  obtain⟨h1,h2⟩:=hnb c x hc
  exact h1 (hh.own b _ p c x q hb hp rfl h2 hq he.symm).symm
 have hw1:HR G μ ⟨H.t.set b none,H.nx+1⟩ (w.putObj p.blk (.cells (arr.toList.take (p.base+(off+n * z)+0)++xs++arr.toList.drop (p.base+(off+n * z)+0+xs.length)).toArray el (0,0))):=
  (hh.del hb').reserve.world (fun c x q hc hq=>World.putObj_heap_other (hsep c x q hc hq)) (fun g cs hG=>World.putObj_heap_other fun e=>hh.globf g cs b _ p hG hb rfl hp e.symm) (fun j o hj=>World.putObj_heap_other fun e=>by rw [e,hh.frof b _ p hb rfl hp] at hj;cases hj)
 have hmle:=Mu.le_upd (b:=H.nx) ⟨p.blk,p.base+off,cap * z⟩ hm0
 refine⟨_,μ.upd H.nx ⟨p.blk,p.base+off,cap * z⟩,hrun,HR.add hw1 hnx (Nat.lt_succ_self _) hm0 ?_ ?_ hsep (fun g cs hG=>hh.globf g cs b _ p hG hb rfl hp) (fun _=>hh.frof b _ p hb rfl hp), ?_, ?_⟩
 ·cases hq:(⟨H.t.set b none,H.nx+1⟩:Hp).get H.nx with
  | none=>rfl
  | some x=>have:=(hnb _ x hq).2;rw [hg0] at this;cases this
 ·rw [World.putObj_heap_same (hh.lt hb hp)]
  refine⟨_,el,(0,0),rfl, ?_, ?_,fun _=>⟨rfl,fun e he=> ?_⟩,fun i c hc=> ?_⟩
  ·simp;omega
  ·have:=takeN_eq hold
   rw [s1];simp;omega
  ·obtain⟨q1,q2,q3⟩:=ht2 e he
   obtain⟨q4,q5,q6⟩:=e6 e q1
   exact⟨q4,by simp only;omega,by simp;omega⟩
  ·have hol:old.length=n * z:=by rw [s1,List.length_take];omega
   simp only [List.getElem?_toArray]
   rw [over_get _ _ _ _ (by simp;omega)]
   by_cases c1:i<old.length
   ·rw [List.getElem?_append_left c1,s1,List.getElem?_take,if_pos (by omega),List.getElem?_drop] at hc
    obtain⟨v,hv1,hv2⟩:=e5 _ _ hc
    refine⟨v, ?_,hv2.mono hmle⟩
    rw [if_pos (by omega),←hv1]
    simp [Nat.add_assoc]
   ·rw [List.getElem?_append_right (by omega)] at hc
    obtain⟨v,hv1,hv2⟩:=hv.get _ hc
    have hlt:=(List.getElem?_eq_some_iff.1 hv1).1
    refine⟨v, ?_,hv2.mono hmle⟩
    rw [if_neg (by omega),if_pos (by omega),←hv1]
    congr 1
    omega
 ·refine⟨hmle,fun c hc=>Mu.upd_ne _ _ (Nat.ne_of_lt hc),fun c hc hg=> ?_,Nat.le_succ _,by simp,fun k hk hno=>World.putObj_heap_other (fun e=>hno b _ p hb rfl hp e.symm),fun c x q hc hq=> ?_,rfl,rfl,fun _ _ h=> .inl h⟩
  ·cases hq:(⟨(H.t.set b none).set H.nx (some (.cells t2 false (old++new))),H.nx+1⟩:Hp).get c with
   | none=>rfl
   | some x=>
    rw [Hp.get_set_ne (nx':=H.nx+1) hnx (Nat.ne_of_lt hc)] at hq
    have:=(hnb c x hq).2
    rw [hg] at this;cases this
  by_cases e:c=H.nx
  ·subst e
   rw [Mu.upd_same] at hq
   obtain rfl:=Option.some.inj hq
   exact .inr ⟨b,_,p,hb,hp,rfl,fun _=>rfl⟩
  ·rw [Mu.upd_ne _ _ e] at hq
   rw [Hp.get_set_ne (nx':=H.nx+1) hnx e] at hc
   exact .inr ⟨c,x,q,(hnb c x hc).2,hq,rfl,id⟩
 ·exact .sl _ _ _ _ _ ⟨p.blk,p.base+off,cap * z⟩ cap ad (Mu.upd_same _ _ _) hle (by simp) (fun n hn=>by cases hn) (fun _=>by simp) ha
theorem blt_false {a b:Nat} (h:Nat.blt a b=false):b≤a:=by
 rw [←Bool.not_eq_true,Nat.blt_eq] at h;omega
theorem appEl_inv {off:Nat} {c:Option Nat} {t:Option TypeId} {el e':TypeId} (h:appEl off c t el=some e'):el=e'∧c=none∧off=0∧t=some e':=by
 unfold appEl at h
 split at h
 ·split at h
  ·rename_i ht
   cases h
   rw [Nat.eq_of_beq_eq_true ht]
   exact⟨rfl,rfl,rfl,rfl⟩
  ·cases h
 ·cases h
theorem m_append {c:Call} {t tx:TypeId} {s x:AV} (ho:o.op= .call c) (hc:c.callee= .builtin .append) (ht:c.argTypes.toList=[t,tx]) (hx:c.args.toList.map (opd e)=[s,x])
  {k:AV→Hp→Bool} (hk:appendK P H t tx s x k=true):MSpec P G o e H k:=by
 have hts:c.argTypes=#[t,tx]:=by rw [←Array.toList_inj];simpa using ht
 have run:∀(a:Act) (w w':World) (u1 u2 v:Value),c.args.map a.eval=#[u1,u2]→(Builtin.append_ #[t,tx] o.type #[u1,u2]).run P w= .ok v w'→(execOp a.eval o).run P w= .ok (.value v) w':=by
  intro a w w' u1 u2 v h1 h2
  simp [execOp,ho,resolve,hc,invoke,builtin,h1,hts,h2,Result.andThen]
 unfold appendK at hk
 split at hk
 ·cases hk
 ·rename_i el hel
  obtain⟨hu,hinfo⟩:=elemSlice_inv hel
  split at hk
  ·rename_i htx hzo hc0 hby
   have hby:=Nat.le_of_ble_eq_true hby
   have hz0:P.cellsOf el≠0:=fun h=>by rw [h] at hc0;cases hc0
   obtain⟨m,new,hk,hcs⟩:=cellsOfK_sound (P:=P) (G:=G) hk
   split at hk
   ·cases hk
   ·rename_i h1
    split at hk
    ·
     have main:∀(base:Option Addr) (n cap:Nat) (μ:Mu) (a:Act) (w:World) (u2:Value),OpdR μ e a o→HR G μ H w→n≤cap→VR μ x u2→c.args.map a.eval=#[.slice base n cap,u2]→
       (execOp a.eval o).run P w= .ok (.value (.slice base n cap)) w:=by
      intro base n cap μ a w u2 hr hh hle hxv hargs
      obtain⟨c1,xs,c2,c3,c4⟩:=hcs μ w u2 hh hxv
      have hxs:xs=[]:=by simpa using c3
      subst hxs
      have c4:=c4 0 (Nat.le_refl _)
      simp only [Nat.zero_mul,List.take_zero] at c4
      exact run a w w _ _ _ hargs (r_append_in hu hinfo htx c1 c4 (by omega) (by cases base<;>simp [storeCells]))
     split at hk
     ·intro μ a w hr hh
      obtain⟨u1,u2,hargs,hd,hs⟩:=args_two ho hx μ a hr
      cases hd
      exact⟨_,_,μ,H,w,main _ _ _ μ a w u2 hr hh (Nat.le_refl _) hs hargs, .val _ _ .nils,hh, .refl,hk⟩
     ·intro μ a w hr hh
      obtain⟨u1,u2,hargs,hd,hs⟩:=args_two ho hx μ a hr
      cases hd with
      | sl _ _ n _ _ p cap ad hp hl htot hc hn ha=>
       exact⟨_,_,μ,H,w,main _ _ _ μ a w u2 hr hh hl hs hargs, .val _ _ (.sl _ _ _ _ _ p cap ad hp hl htot hc hn ha),hh, .refl,hk⟩
     ·cases hk
    ·rename_i m
     split at hk
     ·
      split at hk
      ·rename_i hsm
       have hsm:=Nat.le_of_ble_eq_true hsm
       obtain⟨hnx,hk⟩:=Hp.new_elim hk
       intro μ a w hr hh
       obtain⟨u1,u2,hargs,hd,hs⟩:=args_two ho hx μ a hr
       cases hd
       obtain⟨c1,_⟩:=hcs μ w u2 hh hs
       obtain⟨_,xs,c2,c3,c4⟩:=hcs μ {w with drawn:=w.drawn+1} u2 (hh.heap rfl) hs
       have c4:=c4 _ (Nat.le_refl _)
       rw [List.take_of_length_le (by omega)] at c4
       obtain⟨nc,rest,g1,g2,g3⟩:=r_append_grow (ty:=o.type) (old:=[]) (base:=none) (n:=0) (cap:=0) hu hinfo htx hzo hby c1 c4 (by simp [Builtin.firstCells]) (Nat.zero_lt_succ _:0<0+(m+1)) (by omega)
       obtain⟨μ',q1,q2,q3⟩:=app_new (el:=el) (t:=some el) hh hnx (fun e he=>by cases he;rfl) .nil c2 (by simp:([]:List Value).length=0 * P.cellsOf el) c3 g2 g1
       rw [Nat.zero_add] at q3 g3
       exact⟨_,_,μ',_,_,run a w _ _ _ _ hargs g3, .val _ _ q3,q1,q2,hk⟩
      ·cases hk
     ·rename_i b off n z cp hk0
      split at hk
      ·rename_i el0 ro cs hz hsm hb
       have hz:=Nat.eq_of_beq_eq_true hz
       subst hz
       have hsm:=Nat.le_of_ble_eq_true hsm
       split at hk
       ·cases hk
       ·rename_i old hold
        have grow:∀(t2:Option TypeId) (ht2:∀e,t2=some e→el=e) (H0:Hp) (μ:Mu) (a:Act) (w:World) (u2:Value) (base:Option Addr) (cap:Nat),OpdR μ e a o→HR G μ H w→HR G μ H0 w→True→
          VR μ (.sl b off n (P.cellsOf el) cp) (.slice base n cap)→VR μ x u2→c.args.map a.eval=#[.slice base n cap,u2]→cap<n+(m+1)→
          ∃nx μ' w',(execOp a.eval o).run P w= .ok nx w'∧NextR μ' (.sl H0.nx 0 (n+(m+1)) (P.cellsOf el) none) nx∧
           HR G μ' ⟨H0.t.set H0.nx (some (.cells t2 false (old++new))),H0.nx+1⟩ w'∧Ext μ H0 w μ' ⟨H0.t.set H0.nx (some (.cells t2 false (old++new))),H0.nx+1⟩ w':=by
         intro t2 ht2 H0 μ a w u2 base cap hr hh hh0 hnx hsv hxv hargs hlt
         obtain⟨c1,_⟩:=hcs μ w u2 hh hxv
         obtain⟨_,xs,c2,c3,c4⟩:=hcs μ {w with drawn:=w.drawn+1} u2 (hh.heap rfl) hxv
         have c4:=c4 _ (Nat.le_refl _)
         rw [List.take_of_length_le (by omega)] at c4
         obtain⟨_,os,d2,d3,d4⟩:=sl_cells (P:=P) (w:={w with drawn:=w.drawn+1}) (hh.heap rfl) hsv hb hold
         have d4:=d4 _ (Nat.le_refl _)
         rw [List.take_of_length_le (by omega)] at d4
         obtain⟨nc,rest,g1,g2,g3⟩:=r_append_grow (ty:=o.type) hu hinfo htx hzo hby c1 c4 d4 hlt hsm
         obtain⟨μ',q1,q2,q3⟩:=app_new (el:=el) (t:=t2) hh0 hnx ht2 d2 c2 d3 c3 g2 g1
         exact⟨_,μ',_,run a w _ _ _ _ hargs g3, .val _ _ q3,q1,q2⟩
        split at hk
        ·rename_i hcl
         rw [forceL_eq] at hk
         obtain⟨hnx,hk⟩:=Hp.new_elim hk
         rw [forceN_eq] at hk
         intro μ a w hr hh
         obtain⟨u1,u2,hargs,hd,hs⟩:=args_two ho hx μ a hr
         have hd':=hd
         cases hd with
         | sl _ _ _ _ _ p cap ad hp hl htot hc hn ha=>
          have hlt:cap<n+(m+1):=by
           cases cp with
           | none=>simp [capLt] at hcl
           | some c'=>rw [hc _ rfl];simpa [capLt,Nat.blt_eq] using hcl
          obtain⟨nx,μ',w',q1,q2,q3,q4⟩:=grow (some el) (fun e he=>by cases he;rfl) H μ a w u2 _ cap hr hh hh hnx hd' hs hargs hlt
          exact⟨_,nx,μ',_,w',q1,q2,q3,q4,hk⟩
        ·rename_i hcl
         split at hk
         ·cases hk
         ·split at hk
          ·
           rename_i hfit
           have hfit:=Nat.le_of_ble_eq_true hfit
           split at hk
           ·rename_i cs' hset
            rw [forceL_eq] at hk
            obtain⟨hb',hk⟩:=Hp.put_elim hk
            rw [forceN_eq] at hk
            intro μ a w hr hh
            obtain⟨u1,u2,hargs,hd,hs⟩:=args_two ho hx μ a hr
            cases hd with
            | sl _ _ _ _ _ p cap ad hp hl htot hc hn ha=>
             obtain⟨c1,xs,c2,c3,c4⟩:=hcs μ w u2 hh hs
             have c4:=c4 _ (Nat.le_refl _)
             rw [List.take_of_length_le (by omega)] at c4
             obtain⟨arr,el',fz,e1,e2,e3,e4,e5⟩:=hh.at hb hp
             have hle:n+(m+1)≤cap:=by
              cases cp with
              | some c'=>rw [hc _ rfl];simp only [capLt] at hcl;exact blt_false hcl
              | none=>
               have h5:=hn rfl
               have h6:(n+(m+1)) * P.cellsOf el≤cap * P.cellsOf el:=by omega
               exact Nat.le_of_mul_le_mul_right h6 (Nat.pos_of_ne_zero hz0)
             obtain⟨w',g1,g2,g3⟩:=own_store (P:=P) hh hb hp hb' hset c2 h1
             refine⟨_,_,μ,_,w',run a w w' _ _ _ hargs (r_append_in hu hinfo htx c1 c4 hle ?_), .val _ _ (.sl b off (n+(m+1)) _ cp p cap ad hp hle htot hc hn ha),g2,g3,hk⟩
             simp only
             rw [ha (by omega),addr_add,Nat.add_assoc]
             exact g1
           ·cases hk
          ·
           rw [forceL_eq] at hk
           obtain⟨hb',hk⟩:=Hp.put_elim hk
           obtain⟨hnx,hk⟩:=Hp.new_elim hk
           rw [forceN_eq] at hk
           intro μ a w hr hh
           obtain⟨u1,u2,hargs,hd,hs⟩:=args_two ho hx μ a hr
           have hd':=hd
           cases hd with
           | sl _ _ _ _ _ p cap ad hp hl htot hc hn ha=>
            by_cases hle:n+(m+1)≤cap
            ·obtain⟨c1,xs,c2,c3,c4⟩:=hcs μ w u2 hh hs
             have c4:=c4 _ (Nat.le_refl _)
             rw [List.take_of_length_le (by omega)] at c4
             obtain⟨w',μ',q1,q2,q3,q4⟩:=app_blind (P:=P) hh hb hp hb' hnx hold c2 h1 c3 hle htot ha (fun e he=>by
              obtain⟨a1,a2,a3,a4⟩:=appEl_inv he
              subst a1
              have:=hn a2
              exact⟨a4,a3,by omega⟩)
             refine⟨_,_,μ',_,w',run a w w' _ _ _ hargs (r_append_in hu hinfo htx c1 c4 hle ?_), .val _ _ q4,q2,q3,hk⟩
             simp only
             rw [ha (by omega),addr_add,Nat.add_assoc]
             exact q1
            ·obtain⟨nx,μ',w',q1,q2,q3,q4⟩:=grow (appEl off cp el0 el) (fun e he=>(appEl_inv he).1) ⟨H.t.set b none,H.nx⟩ μ a w u2 _ cap hr hh (hh.del hb') hnx hd' hs hargs (by omega)
             exact⟨_,nx,μ',_,w',q1,q2,q3,(Ext.del hb').trans q4,hk⟩
      ·cases hk
     ·cases hk
  ·cases hk
theorem args_one {c:Call} {x:AV} (ho:o.op= .call c) (hx:c.args.toList.map (opd e)=[x]):∀(μ:Mu) (a:Act),OpdR μ e a o→∃u,c.args.map a.eval=#[u]∧VR μ x u:=by
 intro μ a h
 have hvs:VRs μ (c.args.toList.map (opd e)) (c.args.toList.map a.eval):=vrs_opds fun y hy=>h.mem (by
  simp only [ho,Op.operands,Call.operands]
  simp
  exact .inr (by simpa using hy))
 rw [hx] at hvs
 generalize has:c.args.toList.map a.eval=as at hvs
 cases hvs with
 | cons _ u _ us hu hs=>
  cases hs
  refine⟨u, ?_,hu⟩
  rw [←Array.toList_inj]
  simpa using has
theorem one1_inv {l:List AV} {k:AV→Bool} (h:one1 l k=true):∃x,l=[x]∧k x=true:=by
 unfold one1 at h
 split at h
 ·exact⟨_,rfl,h⟩
 ·cases h
theorem m_clear {c:Call} {t:TypeId} {rest:List TypeId} {x:AV} (ho:o.op= .call c) (hc:c.callee= .builtin .clear) (ht:c.argTypes.toList=t::rest) (hx:c.args.toList.map (opd e)=[x])
  {k:AV→Hp→Bool} (hk:clearK P H t x k=true):MSpec P G o e H k:=by
 have hts:c.argTypes[0]? =some t:=by rw [←Array.getElem?_toList,ht];rfl
 have run:∀(a:Act) (w w':World) (u1 v:Value),c.args.map a.eval=#[u1]→(Builtin.clear_ c.argTypes o.type #[u1]).run P w= .ok v w'→(execOp a.eval o).run P w= .ok (.value v) w':=by
  intro a w w' u1 v h1 h2
  simp [execOp,ho,resolve,hc,invoke,builtin,h1,h2,Result.andThen]
 unfold clearK at hk
 split at hk
 ·rename_i el hel
  obtain⟨hu,hinfo⟩:=elemSlice_inv hel
  intro μ a w hr hh
  obtain⟨u1,hargs,hd⟩:=args_one ho hx μ a hr
  cases hd
  refine⟨_,_,μ,H,w,run a w w _ _ hargs ?_, .val _ _ (.tup [] #[] .nil),hh, .refl,hk⟩
  simp [Builtin.clear_,hts,r_under hu,Result.andThen]
 ·rename_i el b off n z cp hel
  obtain⟨hu,hinfo⟩:=elemSlice_inv hel
  split at hk
  ·intro μ a w hr hh
   obtain⟨u1,hargs,hd⟩:=args_one ho hx μ a hr
   cases hd
   refine⟨_,_,μ,H,w,run a w w _ _ hargs ?_, .val _ _ (.tup [] #[] .nil),hh, .refl,hk⟩
   simp [Builtin.clear_,hts,r_under hu,Result.andThen]
  ·rename_i n
   split at hk
   ·rename_i cs hz hzo h1 hb
    have hz:=Nat.eq_of_beq_eq_true hz
    subst hz
    split at hk
    ·rename_i cs' hset
     rw [forceL_eq] at hk
     obtain⟨hb',hk⟩:=Hp.put_elim hk
     intro μ a w hr hh
     obtain⟨u1,hargs,hd⟩:=args_one ho hx μ a hr
     cases hd with
     | sl _ _ _ _ _ p cap ad hp hl htot hc hn ha=>
      have hzr:∃z,zro P el=some z:=by
       unfold zeroOk at hzo
       split at hzo
       ·exact⟨_,by assumption⟩
       ·cases hzo
      obtain⟨zz,hzz⟩:=hzr
      obtain⟨i,v,hi,hv,hzv⟩:=zeroCs_vr hzz
      have hzs:=zeros_vr (hzv μ) (n+1)
      have h1':(zerosOf (zeroCs P el) (n+1)).all one=true:=by
       rw [List.all_eq_true] at h1⊢
       intro y hy
       obtain⟨j,hj⟩:=List.getElem?_of_mem hy
       rw [zerosOf_get] at hj
       split at hj
       ·exact h1 y (List.mem_of_getElem? hj)
       ·cases hj
      obtain⟨w',g1,g2,g3⟩:=own_store (P:=P) hh hb hp hb' hset hzs h1'
      refine⟨_,_,μ,_,w',run a w w' _ _ hargs ?_, .val _ _ (.tup [] #[] .nil),g2,g3,hk⟩
      have had:ad=⟨p.blk,p.base+off,none⟩:=ha (by omega)
      subst had
      have hzrun:(zeroValue el).run P w= .ok v w:=by simp [zeroValue,r_info hi,hv,Result.andThen]
      simp only [Builtin.clear_,hts,List.getElem?_toArray,List.getElem?_cons_zero,Sem.run_bind,r_under hu,Result.andThen_ok,hzrun,Builtin.zeroCells,g1,Sem.run_pure]
    ·cases hk
   ·cases hk
 ·cases hk
end
end Go.Ev
namespace Go.Ev
set_option linter.unusedVariables false
set_option linter.unusedSimpArgs false
theorem r_setObj {P:Program} {w:World} {r:Nat} {o o':Obj} (h:w.heap[r]? =some o) (hn:∀a b c,o≠ .cells a b c):(setObj r o').run P w= .ok () (w.putObj r o'):=by
 unfold setObj
 cases o<;>simp only [Sem.run,h,World.putObj]
 rename_i a b c
 exact absurd rfl (hn a b c)
theorem br_map_mk {μ:Mu} {p:Pl} {ro:Bool} {es:List (AV×AV×Nat)} {cl:Nat} {ents:Array MapEntry} (h:EntR μ es ents.toList):BR μ p (.map ro es cl) (some (.map ents cl)):=
 ⟨ents,rfl,by simpa using h.len,fun i y v s hs=>by simpa using h.get i y v s hs⟩
theorem EntR.mono {μ μ':Mu} (hm:μ.le μ') {es:List (AV×AV×Nat)} {xs:List MapEntry} (h:EntR μ es xs):EntR μ' es xs:=by
 induction h with
 | nil=>exact .nil
 | cons _ _ _ _ _ _ hk hv hb _ ih=>exact .cons _ _ _ _ _ _ (hk.mono hm) (hv.mono hm) hb ih
theorem EntR.push {μ:Mu} {es:List (AV×AV×Nat)} {xs:List MapEntry} (h:EntR μ es xs) {y v:AV} {x:MapEntry} (hk:VR μ y x.key) (hv:VR μ v x.val):EntR μ (es++[(y,v,x.born)]) (xs++[x]):=by
 induction h with
 | nil=>exact .cons _ _ _ _ _ _ hk hv rfl .nil
 | cons _ _ _ _ _ _ hk hv hb _ ih=>exact .cons _ _ _ _ _ _ hk hv hb ih
theorem EntR.setVal {μ:Mu} {es:List (AV×AV×Nat)} {xs:List MapEntry} (h:EntR μ es xs) {v:AV} {x:Value} (hv:VR μ v x) (f:MapEntry→MapEntry):
  ∀(j:Nat),(∀z,xs[j]? =some z→(f z).key=z.key∧(f z).val=x∧(f z).born=z.born)→EntR μ (setVal v es j) (xs.modify j f):=by
 induction h with
 | nil=>intro j hf;cases j<;>exact .nil
 | cons y v' s z es xs hk hv' hb h ih=>
  intro j hf
  cases j with
  | zero=>
   obtain⟨h1,h2,h3⟩:=hf z (by simp)
   exact .cons _ _ _ _ _ _ (by rw [h1];exact hk) (by rw [h2];exact hv) (by rw [h3];exact hb) h
  | succ j=>
   exact .cons _ _ _ _ _ _ hk hv' hb (ih j fun z hz=>hf z (by simpa using hz))
theorem EntR.same {μ:Mu} {es:List (AV×AV×Nat)} {xs:List MapEntry} (h:EntR μ es xs) (f:MapEntry→MapEntry):
  ∀(j:Nat),(∀z,xs[j]? =some z→f z=z)→EntR μ es (xs.modify j f):=by
 induction h with
 | nil=>intro j hf;cases j<;>exact .nil
 | cons y v' s z es xs hk hv' hb h ih=>
  intro j hf
  cases j with
  | zero=>
   have:=hf z (by simp)
   exact .cons _ _ _ _ _ _ (by rw [this];exact hk) (by rw [this];exact hv') (by rw [this];exact hb) h
  | succ j=>exact .cons _ _ _ _ _ _ hk hv' hb (ih j fun z hz=>hf z (by simpa using hz))
section
variable {P : Program} {G : Globals} {o : Oper} {e : En} {H : Hp}
theorem r_keyStays (u:Value) (w:World):∃w',(Instr.keyThatStays u u).run P w= .ok u w'∧w'.heap=w.heap∧w'.os=w.os∧Outs w'=Outs w:=by
 unfold Instr.keyThatStays
 split
 ·exact⟨w,by simp,rfl,rfl,rfl⟩
 ·refine⟨{w with drawn:=w.drawn+1}, ?_,rfl,rfl,rfl⟩
  simp [choose,Sem.run,Question.forced]
theorem map_put {μ:Mu} {w w1:World} (hh:HR G μ H w) {b:Nat} {es es':List (AV×AV×Nat)} {cl cl':Nat} {p:Pl} (hb:H.get b=some (.map false es cl)) (hp:μ b=some p) (hb':True)
  {ents':Array MapEntry} (he:EntR μ es' ents'.toList) (h1:w1.heap=w.heap) (h2:w1.os=w.os) (h3:Outs w1=Outs w):
  (setObj p.blk (.map ents' cl')).run P w1= .ok () (w1.putObj p.blk (.map ents' cl'))∧HR G μ ⟨H.t.set b (some (.map false es' cl')),H.nx⟩ (w1.putObj p.blk (.map ents' cl'))∧
   Ext μ H w μ ⟨H.t.set b (some (.map false es' cl')),H.nx⟩ (w1.putObj p.blk (.map ents' cl')):=by
 have hh1:HR G μ H w1:=hh.heap h1
 obtain⟨ents,g1,_⟩:=br_map_inv (hh1.at hb hp)
 exact⟨r_setObj g1 (by simp),hh1.put hb rfl hp hb' (br_map_mk he),(Ext.heap h1 h2 h3).trans (Ext.put hh1 hb rfl hp hb' _)⟩
theorem r_mapUpdate {t:TypeId} {m i v:AV} {k:Hp→Bool} (hk:mapUpdateK P H t m i v k=true):
  ∃H',k H'=true∧∀(μ:Mu) (w:World) (mv u x:Value),HR G μ H w→VR μ m mv→VR μ i u→VR μ v x→
   ∃w',(Instr.mapUpdate t mv u x).run P w= .ok () w'∧HR G μ H' w'∧Ext μ H w μ H' w':=by
 unfold mapUpdateK at hk
 split at hk
 ·rename_i mt b hmt
  obtain⟨kt,hu,hf⟩:=mapElem_inv hmt
  split at hk
  ·rename_i es cl hb
   split at hk
   ·rename_i j v0 hkey
    rw [forceL_eq] at hk
    obtain⟨hb',hk⟩:=Hp.put_elim hk
    refine⟨_,hk,fun μ w mv u x hh hm hi hv=> ?_⟩
    cases hm with
    | map _ p hp=>
     obtain⟨ents,g1,g2⟩:=br_map_inv (hh.at hb hp)
     obtain⟨k1,k2⟩:=keyAt_inv hkey
     have hck:=r_checkKey hf k1 hi false w
     have hfk:=r_findKey hf hi w g2 k2
     rcases findKey_seek hi 0 g2 k2 with⟨h,_⟩| ⟨j',v',x',f1,f2,f3,z,f4,f5,f6,f7⟩
     ·cases h
     ·rw [Nat.zero_add] at f1 f2
      injection f1 with f1
      injection f1 with f1 _
      subst f1
      have f4':ents[j]? =some z:=by simpa using f4
      obtain⟨w1,s1,s2,s3,s4⟩:=r_keyStays (P:=P) u w
      obtain⟨q1,q2,q3⟩:=map_put (P:=P) (cl':=cl) (w1:=w1) (ents':=ents.modify j fun e=>{e with key:=u,val:=x}) (es':=setVal v es j) hh hb hp hb' (by
       rw [Array.toList_modify]
       exact g2.setVal hv _ j fun z' hz'=>by
        rw [f4] at hz'
        cases hz'
        exact⟨f5.symm,rfl,rfl⟩) s2 s3 s4
      refine⟨_, ?_,q2,q3⟩
      simp only [Instr.mapUpdate,Sem.run_bind,r_under hu,Result.andThen_ok,r_getObj g1 (by simp),hck,hfk,f2,f4',Option.map_some,Option.getD_some,f5,s1,q1]
   ·rename_i hkey
    rw [forceL_eq,forceN_eq] at hk
    obtain⟨hb',hk⟩:=Hp.put_elim hk
    refine⟨_,hk,fun μ w mv u x hh hm hi hv=> ?_⟩
    cases hm with
    | map _ p hp=>
     obtain⟨ents,g1,g2⟩:=br_map_inv (hh.at hb hp)
     obtain⟨k1,k2⟩:=keyAt_inv hkey
     have hck:=r_checkKey hf k1 hi false w
     have hfk:=r_findKey hf hi w g2 k2
     rcases findKey_seek hi 0 g2 k2 with⟨_,h⟩| ⟨j',v',x',f1,_⟩
     ·obtain⟨q1,q2,q3⟩:=map_put (P:=P) (cl':=cl+1) (w1:=w) (ents':=ents.push {key:=u,val:=x,born:=cl}) (es':=es++[(i,v,cl)]) hh hb hp hb' (by
       rw [Array.toList_push]
       exact g2.push (x:={key:=u,val:=x,born:=cl}) hi hv) rfl rfl rfl
      refine⟨_, ?_,q2,q3⟩
      simp only [Instr.mapUpdate,Sem.run_bind,r_under hu,Result.andThen_ok,r_getObj g1 (by simp),hck,hfk,h,q1]
     ·cases f1
   ·cases hk
  ·cases hk
 ·cases hk
theorem m_mapUpdate {t:TypeId} {m i v:Operand} (ho:o.op= .mapUpdate t m i v∨o.op= .insert t m i v) {k:AV→Hp→Bool}
  (hk:mapUpdateK P H t (opd e m) (opd e i) (opd e v) (fun H=>k (.tup []) H)=true):MSpec P G o e H k:=by
 have hmm:m∈o.op.operands:=by rcases ho with ho | ho<;>simp [ho,Op.operands]
 have hmi:i∈o.op.operands:=by rcases ho with ho | ho<;>simp [ho,Op.operands]
 have hmv:v∈o.op.operands:=by rcases ho with ho | ho<;>simp [ho,Op.operands]
 obtain⟨H',hk,hr⟩:=r_mapUpdate (G:=G) hk
 intro μ a w hop hh
 obtain⟨w',g1,g2,g3⟩:=hr μ w _ _ _ hh (hop.mem hmm) (hop.mem hmi) (hop.mem hmv)
 refine⟨_, .skip,μ,H',w', ?_, .skip,g2,g3,hk⟩
 rcases ho with ho | ho<;>simp [execOp,ho,g1,Result.andThen]
theorem m_mapEntry {t:TypeId} {m i:Operand} (ho:o.op= .mapEntry t m i) {k:AV→Hp→Bool} (hk:mapEntryK P H t (opd e m) (opd e i) k=true):MSpec P G o e H k:=by
 have hmm:m∈o.op.operands:=by simp [ho,Op.operands]
 have hmi:i∈o.op.operands:=by simp [ho,Op.operands]
 unfold mapEntryK at hk
 split at hk
 ·rename_i mt b hmt hm
  obtain⟨kt,hu,hf⟩:=mapElem_inv hmt
  split at hk
  ·rename_i es cl hb
   split at hk
   ·rename_i j v0 hkey
    split at hk
    ·rename_i y0 v1 s hes
     intro μ a w hop hh
     have h1:=hop.at hmm hm
     generalize hma:a.eval m=mv at h1
     have hi:=hop.mem hmi
     cases h1 with
     | map _ p hp=>
      obtain⟨ents,g1,g2⟩:=br_map_inv (hh.at hb hp)
      obtain⟨k1,k2⟩:=keyAt_inv hkey
      have hck:=r_checkKey hf k1 hi false w
      have hfk:=r_findKey hf hi w g2 k2
      rcases findKey_seek hi 0 g2 k2 with⟨h,_⟩| ⟨j',v',x',f1,f2,f3,z,f4,f5,f6,f7⟩
      ·cases h
      ·rw [Nat.zero_add] at f1 f2
       injection f1 with f1
       injection f1 with f1 f1'
       subst f1
       subst f1'
       have f4':ents[j]? =some z:=by simpa using f4
       obtain⟨z',h4,h5,h6,h7⟩:=g2.get j y0 v1 s hes
       rw [f4] at h4
       cases h4
       obtain⟨w1,s1,s2,s3,s4⟩:=r_keyStays (P:=P) (a.eval i) w
       have hent:EntR μ es (ents.modify j fun e=>{e with key:=a.eval i}).toList:=by
        rw [Array.toList_modify]
        exact g2.same _ j fun z' hz'=>by
         rw [f4] at hz'
         cases hz'
         rw [←f5]
       have hh1:HR G μ H w1:=hh.heap s2
       obtain⟨ents1,g11,_⟩:=br_map_inv (hh1.at hb hp)
       have q1:=r_setObj (P:=P) (o':= .map (ents.modify j fun e=>{e with key:=a.eval i}) cl) g11 (by simp)
       have hw:∀c x q,H.get c=some x→μ c=some q→(w1.putObj p.blk (.map (ents.modify j fun e=>{e with key:=a.eval i}) cl)).heap[q.blk]? =w1.heap[q.blk]? :=by
        intro c x q hc hq
        have:ents.modify j (fun e=>{e with key:=a.eval i})=ents:=by
         rw [←Array.toList_inj,Array.toList_modify]
         apply List.ext_getElem?
         intro n
         rw [List.getElem?_modify]
         by_cases hn:j=n
         ·subst hn;rw [f4];simp;rw [←f5]
         ·simp [hn]
        rw [this]
        by_cases hq':q.blk=p.blk
        ·rw [hq',World.putObj_heap_same (hh1.lt hb hp),s2,g1]
        ·exact World.putObj_heap_other hq'
       have hg:∀g cs,G g=some cs→(w1.putObj p.blk (.map (ents.modify j fun e=>{e with key:=a.eval i}) cl)).heap[g]? =w1.heap[g]? :=fun g cs hG=>
        World.putObj_heap_other fun e=>hh.globf g cs b _ p hG hb rfl hp e.symm
       refine⟨_, .value (.tuple #[x',goInt s]),μ,H,_, ?_, .val _ _ (.tup _ _ (.cons _ _ _ _ f3 (.cons _ _ _ _ (.int .i64 (.ofNat s)) .nil))),hh1.world hw hg (fun j o hj=>World.putObj_heap_other fun e=>by rw [e,hh.frof b _ p hb rfl hp] at hj;cases hj), ?_,hk⟩
       ·simp only [execOp,ho,hma,Instr.mapEntry,Sem.run_bind,r_under hu,Result.andThen_ok,r_getObj g1 (by simp),hck,hfk,f2,f4',Option.map_some,Option.getD_some,f5,s1,q1,Sem.run_pure,h7]
       ·refine (Ext.heap s2 s3 s4).trans ⟨Mu.le_refl _,fun _ _=>rfl,fun _ _ h=>h,Nat.le_refl _,by simp,fun k hk hno=>World.putObj_heap_other (fun e=>hno b _ p hb rfl hp e.symm),fun c x q hc hq=> .inr ⟨c,x,q,hc,hq,rfl,id⟩,rfl,rfl,fun _ _ h=> .inl h⟩
    ·cases hk
   ·rename_i hkey
    split at hk
    ·rename_i z hz
     rw [forceL_eq,forceN_eq] at hk
     obtain⟨hb',hk⟩:=Hp.put_elim hk
     intro μ a w hop hh
     have h1:=hop.at hmm hm
     generalize hma:a.eval m=mv at h1
     have hi:=hop.mem hmi
     cases h1 with
     | map _ p hp=>
      obtain⟨ents,g1,g2⟩:=br_map_inv (hh.at hb hp)
      obtain⟨k1,k2⟩:=keyAt_inv hkey
      have hck:=r_checkKey hf k1 hi false w
      have hfk:=r_findKey hf hi w g2 k2
      rcases findKey_seek hi 0 g2 k2 with⟨_,h⟩| ⟨j',v',x',f1,_⟩
      ·obtain⟨zv,hzr,hzv⟩:=r_zero (w:=w) hz μ
       obtain⟨q1,q2,q3⟩:=map_put (P:=P) (cl':=cl+1) (w1:=w) (ents':=ents.push {key:=a.eval i,val:=zv,born:=cl}) (es':=es++[(opd e i,z,cl)]) hh hb hp hb' (by
        rw [Array.toList_push]
        exact g2.push (x:={key:=a.eval i,val:=zv,born:=cl}) hi hzv) rfl rfl rfl
       refine⟨_, .value (.tuple #[zv,goInt cl]),μ,_,_, ?_, .val _ _ (.tup _ _ (.cons _ _ _ _ hzv (.cons _ _ _ _ (.int .i64 (.ofNat cl)) .nil))),q2,q3,hk⟩
       simp only [execOp,ho,hma,Instr.mapEntry,Sem.run_bind,r_under hu,Result.andThen_ok,r_getObj g1 (by simp),hck,hfk,h,hzr,q1,Sem.run_pure]
      ·cases f1
    ·cases hk
   ·cases hk
  ·cases hk
 ·cases hk
theorem m_entryStore {t:TypeId} {m s v:Operand} (ho:o.op= .entryStore t m s v) {k:AV→Hp→Bool}
  (hk:entryStoreK H (opd e m) (opd e s) (opd e v) (fun H=>k (.tup []) H)=true):MSpec P G o e H k:=by
 have hmm:m∈o.op.operands:=by simp [ho,Op.operands]
 have hms:s∈o.op.operands:=by simp [ho,Op.operands]
 have hmv:v∈o.op.operands:=by simp [ho,Op.operands]
 unfold entryStoreK at hk
 split at hk
 ·rename_i b ik n hm hs
  split at hk
  ·rename_i es cl hb
   split at hk
   ·rename_i j hfs
    rw [forceL_eq] at hk
    obtain⟨hb',hk⟩:=Hp.put_elim hk
    intro μ a w hop hh
    have h1:=hop.at hmm hm
    generalize hma:a.eval m=mv at h1
    have hsv:=(hop.at hms hs).int_inv
    cases h1 with
    | map _ p hp=>
     obtain⟨ents,g1,g2⟩:=br_map_inv (hh.at hb hp)
     obtain⟨i,hi1,hi2,x',hi3,hi4⟩:=findStamp_sound g2 hfs
     have hji:j=i:=by omega
     subst hji
     obtain⟨q1,q2,q3⟩:=map_put (P:=P) (cl':=cl) (w1:=w) (ents':=ents.modify j fun e=>{e with val:=a.eval v}) (es':=setVal (opd e v) es j) hh hb hp hb' (by
      rw [Array.toList_modify]
      exact g2.setVal (hop.mem hmv) _ j fun z hz=>⟨rfl,rfl,rfl⟩) rfl rfl rfl
     have hfi:ents.findIdx? (fun e=>(e.born:Int)==Int.ofNat n)=some j:=by
      rw [show ∀q:MapEntry→Bool,ents.findIdx? q=ents.toList.findIdx? q from fun q=>by cases ents;simp,←hi2]
      congr 1
      funext e
      rw [Bool.eq_iff_iff]
      simp
      omega
     refine⟨_, .skip,μ,_,_, ?_, .skip,q2,q3,hk⟩
     simp only [execOp,ho,hma,hsv,Instr.entryStore,Sem.run_bind,Result.andThen_ok,r_getObj g1 (by simp),asInt,asIntOf,Sem.run_pure,hfi,q1]
   ·cases hk
  ·cases hk
 ·cases hk
end
end Go.Ev
namespace Go.Ev
set_option linter.unusedVariables false
set_option linter.unusedSimpArgs false
section
variable {P : Program} {G : Globals} {o : Oper} {e : En} {H : Hp}
theorem m_range {t:TypeId} {x:Operand} (ho:o.op= .range t x) {k:AV→Hp→Bool} (hk:rangeK P H t (opd e x) k=true):MSpec P G o e H k:=by
 have hmx:x∈o.op.operands:=by simp [ho,Op.operands]
 unfold rangeK at hk
 split at hk
 ·rename_i s hu hx
  obtain⟨hnx,hk⟩:=Hp.new_elim hk
  intro μ a w hop hh
  obtain⟨bs,hb,hbl⟩:=(hop.at hmx hx).str_inv
  obtain⟨g1,g2⟩:=hh.new hnx (tot:=0) (y:= .siter s 0) (o:= .stringIter bs 0) ⟨rfl,bs,rfl,hbl⟩
  refine⟨_, .value (.pointer (some ⟨w.heap.size,0,none⟩)),_,_,_, ?_, .val _ _ (.ptr _ 0 ⟨w.heap.size,0,0⟩ (Mu.upd_same _ _ _)),g1,g2,hk⟩
  simp only [execOp,ho,hb,Instr.range,Sem.run_bind,r_under hu,Result.andThen_ok,Sem.run_pure,run_newObj_alloc]
 ·rename_i kt el hu hx
  obtain⟨hnx,hk⟩:=Hp.new_elim hk
  intro μ a w hop hh
  have h1:=hop.at hmx hx
  generalize hxa:a.eval x=xv at h1
  cases h1
  obtain⟨g1,g2⟩:=hh.new hnx (tot:=0) (y:= .miter none 0 [] 0) (o:= .mapIter none 0 #[] 0) ⟨rfl,#[],rfl,rfl⟩
  refine⟨_, .value (.pointer (some ⟨w.heap.size,0,none⟩)),_,_,_, ?_, .val _ _ (.ptr _ 0 ⟨w.heap.size,0,0⟩ (Mu.upd_same _ _ _)),g1,g2,hk⟩
  simp only [execOp,ho,hxa,Instr.range,Sem.run_bind,r_under hu,Result.andThen_ok,Sem.run_pure,run_newObj_alloc]
 ·rename_i kt el m hu hx
  split at hk
  ·rename_i ro es cl hm
   obtain⟨hnx,hk⟩:=Hp.new_elim hk
   intro μ a w hop hh
   have h1:=hop.at hmx hx
   generalize hxa:a.eval x=xv at h1
   cases h1 with
   | map _ q hq=>
    obtain⟨ents,q1,q2⟩:=br_map_inv (hh.at hm hq)
    obtain⟨hmn,_⟩:=hh.none (Nat.le_refl _)
    obtain⟨g1,g2⟩:=hh.new hnx (tot:=0) (y:= .miter (some m) cl [] cl) (o:= .mapIter (some q.blk) cl #[] cl) ⟨rfl,#[],q,(Mu.le_upd _ hmn).1 _ _ hq,rfl,rfl⟩
    refine⟨_, .value (.pointer (some ⟨w.heap.size,0,none⟩)),_,_,_, ?_, .val _ _ (.ptr _ 0 ⟨w.heap.size,0,0⟩ (Mu.upd_same _ _ _)),g1,g2,hk⟩
    simp only [execOp,ho,hxa,Instr.range,Sem.run_bind,r_under hu,Result.andThen_ok,Sem.run_pure,r_getObj q1 (by simp),run_newObj_alloc]
  ·cases hk
 ·cases hk
theorem m_nextStr {x:Operand} (ho:o.op= .next x true) {k:AV→Hp→Bool} (hk:nextStrK H (opd e x) k=true):MSpec P G o e H k:=by
 have hmx:x∈o.op.operands:=by simp [ho,Op.operands]
 unfold nextStrK at hk
 split at hk
 ·rename_i b hx
  split at hk
  ·rename_i s p hb
   split at hk
   ·rename_i c hc
    split at hk
    ·rename_i hlt
     rw [forceN_eq] at hk
     obtain⟨hb',hk⟩:=Hp.put_elim hk
     intro μ a w hop hh
     obtain⟨q,hq,hxa⟩:=(hop.at hmx hx).ptr_inv
     obtain⟨h0,bs,h1,h2⟩:=hh.at hb hq
     obtain⟨by',h3,h4⟩:=str_getElem h2 hc
     have hlt:by'.toNat<128:=by rw [Nat.blt_eq] at hlt;omega
     have hps:p<bs.size:=by
      rw [str_size h2];exact (List.getElem?_eq_some_iff.1 hc).1
     have hget:(bs.get! (p+0)).toNat=by'.toNat:=by
      rw [Nat.add_zero]
      have:bs.get! p=by':=by
       simp only [ByteArray.get!]
       have h3':bs.data[p]? =some by':=by
        rw [getElem?_pos bs p hps] at h3
        injection h3 with h3
        exact Array.getElem?_eq_some_iff.2 ⟨hps,h3⟩
       simp [getElem!_def,h3']
      rw [this]
     have hdec:Utf8.decode bs p=(by'.toNat,1):=by
      unfold Utf8.decode
      simp only [hget,if_pos (show by'.toNat<0x80 from hlt)]
     refine⟨_, .value (.tuple #[.bool true,goInt p, .int .i32 by'.toNat]),μ,_,_, ?_, .val _ _ (.tup _ _ (.cons _ _ _ _ (.bool _) (.cons _ _ _ _ (.int .i64 (.ofNat p)) (.cons _ _ _ _ (h4▸ .int .i32 (.ofNat _)) .nil)))),
      hh.put (y:= .siter s (p+1)) hb rfl hq hb' ⟨h0,bs,rfl,h2⟩,Ext.put hh hb rfl hq hb' _,hk⟩
     simp only [execOp,ho,hxa,h0,Nat.zero_add,Instr.next,Sem.run_bind,r_getObj h1 (by simp),Result.andThen_ok,if_pos hps,hdec,r_setObj h1 (by simp),Sem.run_pure]
    ·cases hk
   ·rename_i hc
    intro μ a w hop hh
    obtain⟨q,hq,hxa⟩:=(hop.at hmx hx).ptr_inv
    obtain⟨h0,bs,h1,h2⟩:=hh.at hb hq
    have hps:¬p<bs.size:=by
     rw [str_size h2];have:=List.getElem?_eq_none_iff.1 hc;omega
    refine⟨_, .value (.tuple #[.bool false]),μ,H,w, ?_, .val _ _ (.tup _ _ (.cons _ _ _ _ (.bool _) .nil)),hh, .refl,hk⟩
    simp only [execOp,ho,hxa,h0,Nat.zero_add,Instr.next,Sem.run_bind,r_getObj h1 (by simp),Result.andThen_ok,if_neg hps,Sem.run_pure]
  ·cases hk
 ·cases hk
theorem memN_eq (n:Nat) (l:List Nat):memN n l=l.contains n:=by
 induction l with
 | nil=>rfl
 | cons m l ih=>
  simp only [memN,List.contains_cons]
  split
  ·rename_i h;rw [Nat.eq_of_beq_eq_true h];simp
  ·rename_i h
   have:(n==m)=false:=by
    rw [beq_eq_false_iff_ne]
    intro e
    subst e
    simp [Nat.beq_refl] at h
   rw [this,Bool.false_or,ih]
theorem leftOf_vr {μ:Mu} {es:List (AV×AV×Nat)} {xs:List MapEntry} (h:EntR μ es xs) (seen:List Nat):EntR μ (leftOf seen es) (xs.filter fun e=> !seen.contains e.born):=by
 induction h with
 | nil=>exact .nil
 | cons y v s x es xs hk hv hb h ih=>
  simp only [leftOf,memN_eq]
  rw [List.filter_cons]
  split
  ·rename_i hc
   rw [hb,hc]
   exact ih
  ·rename_i hc
   rw [hb,hc]
   exact .cons _ _ _ _ _ _ hk hv hb ih
theorem bornBelow_vr {μ:Mu} {es:List (AV×AV×Nat)} {xs:List MapEntry} (h:EntR μ es xs) {n:Nat} (hb:bornBelow n es=true):∀x∈xs,x.born<n:=by
 induction h with
 | nil=>intro x hx;cases hx
 | cons y v s x es xs hk hv hb' h ih=>
  simp only [bornBelow] at hb
  split at hb
  ·rename_i hlt
   rw [Nat.blt_eq] at hlt
   intro z hz
   rcases List.mem_cons.1 hz with rfl | hz
   ·omega
   ·exact ih hb z hz
  ·cases hb
theorem allK_all {α:Type} {l:List α} {k:α→Bool} (h:allK l k=true):∀x∈l,k x=true:=by
 induction l with
 | nil=>intro x hx;cases hx
 | cons y l ih=>
  simp only [allK] at h
  split at h
  ·rename_i hy
   intro x hx
   rcases List.mem_cons.1 hx with rfl | hx
   ·exact hy
   ·exact ih h x hx
  ·cases h
theorem r_mapNext {n:Nat} (w:World) (h:0<n):∃i w1,i<n∧(choose (.mapNext n)).run P w= .ok i w1∧w1.heap=w.heap∧w1.os=w.os∧Outs w1=Outs w:=by
 by_cases h1:n≤1
 ·exact⟨0,w,h,by simp [choose,Sem.run,Question.forced,h1],rfl,rfl,rfl⟩
 ·refine⟨w.tape w.drawn (.mapNext n)%n,{w with drawn:=w.drawn+1},Nat.mod_lt _ h, ?_,rfl,rfl,rfl⟩
  simp [choose,Sem.run,Question.forced,h1,Question.cut]
theorem m_next {x:Operand} (ho:o.op= .next x false) {k:AV→Hp→Bool} (hk:nextK H (opd e x) k=true):MSpec P G o e H k:=by
 have hmx:x∈o.op.operands:=by simp [ho,Op.operands]
 unfold nextK at hk
 split at hk
 ·rename_i b hx
  split at hk
  ·rename_i since seen stepped hb
   intro μ a w hop hh
   obtain⟨q,hq,hxa⟩:=(hop.at hmx hx).ptr_inv
   obtain⟨h0,arr,h1,h2⟩:=hh.at hb hq
   refine⟨_, .value (.tuple #[.bool false]),μ,H,w, ?_, .val _ _ (.tup _ _ (.cons _ _ _ _ (.bool _) .nil)),hh, .refl,hk⟩
   simp only [execOp,ho,hxa,h0,Nat.zero_add,Instr.next,Sem.run_bind,r_getObj h1 (by simp),Result.andThen_ok,Sem.run_pure]
  ·rename_i m since seen stepped hb
   split at hk
   ·rename_i ro es cl hm
    split at hk
    ·rename_i hc1 hc2 hbb
     have hc1:=Nat.eq_of_beq_eq_true hc1
     have hc2:=Nat.eq_of_beq_eq_true hc2
     subst hc1
     have hc2:=hc2.symm
     subst hc2
     have main:∀(μ:Mu) (a:Act) (w:World),OpdR μ e a o→HR G μ H w→∃(q q':Pl) (arr:Array Nat) (ents:Array MapEntry) (L:List MapEntry),μ b=some q∧μ m=some q'∧q.base=0∧
       w.heap[q.blk]? =some (.mapIter (some q'.blk) cl arr cl)∧arr.toList.reverse=seen∧EntR μ (leftOf seen es) L∧
       ((L=[]∧(execOp a.eval o).run P w= .ok (.value (.tuple #[.bool false])) w)∨
        ∃(x:MapEntry) (w1:World),x∈L∧w1.heap=w.heap∧w1.os=w.os∧Outs w1=Outs w∧
         (execOp a.eval o).run P w= .ok (.value (.tuple #[.bool true,x.key,x.val])) (w1.putObj q.blk (.mapIter (some q'.blk) cl (arr.push x.born) cl))):=by
      intro μ a w hop hh
      obtain⟨q,hq,hxa⟩:=(hop.at hmx hx).ptr_inv
      obtain⟨h0,arr,q',hq',h1,h2⟩:=hh.at hb hq
      obtain⟨ents,g1,g2⟩:=br_map_inv (hh.at hm hq')
      have hlv:=leftOf_vr g2 seen
      have hbel:=bornBelow_vr g2 hbb
      refine⟨q,q',arr,ents,_,hq,hq',h0,h1,h2,hlv, ?_⟩
      have hcon:∀n,seen.contains n=arr.contains n:=fun n=>by
       rw [←h2];simp
      generalize hL:(ents.toList.filter fun e=> !seen.contains e.born)=L at hlv
      have hleft:(ents.filter fun e=> !arr.contains e.born).toList=L:=by
       rw [Array.toList_filter,←hL]
       congr 1
       funext e
       rw [hcon]
      have hLb:∀x∈L,x.born<cl:=fun x hx=>by
       rw [←hL] at hx
       exact hbel x (List.mem_filter.1 hx).1
      have hall:(!arr.isEmpty&& !ents.isEmpty&&ents.all (fun e=>e.born≥cl))=false:=by
       cases hq:ents.all (fun e=>decide (e.born≥cl)) with
       | false=>simp
       | true=>
        rw [←Array.all_toList,List.all_eq_true] at hq
        have:ents.toList=[]:=by
         cases hl:ents.toList with
         | nil=>rfl
         | cons z zs=>
          have h1:=hq z (by simp [hl])
          have h2:=hbel z (by simp [hl])
          simp at h1
          omega
        have:ents.isEmpty=true:=by
         rw [Array.isEmpty_iff,←Array.toList_inj,this]
        simp [this]
      have hold:(ents.filter fun e=> !arr.contains e.born).filter (fun e=>e.born<cl)=(ents.filter fun e=> !arr.contains e.born):=by
       rw [←Array.toList_inj,Array.toList_filter,hleft,List.filter_eq_self]
       exact fun x hx=>by simpa using hLb x hx
      have hnew:(ents.filter fun e=> !arr.contains e.born).filter (fun e=>e.born≥cl)=#[]:=by
       rw [←Array.toList_inj,Array.toList_filter,hleft,List.filter_eq_nil_iff]
       exact fun x hx=>by have:=hLb x hx;simp;exact this
      have run:(execOp a.eval o).run P w=((do
        let left:=ents.filter fun e=> !arr.contains e.born
        let candidates:=(if left.isEmpty then #[none] else #[])++left.map some
        match candidates[←choose (.mapNext candidates.size)]? with
        | some (some e)=>
         setObj q.blk (.mapIter (some q'.blk) cl (arr.push e.born) cl)
         pure (.tuple #[.bool true,e.key,e.val])
        | some none=>pure (.tuple #[.bool false])
        | none=>stuck "Next: no such candidate" :Sem Value).run P w).andThen fun v w'=> .ok (.value v) w':=by
       simp only [execOp,ho,hxa,h0,Nat.zero_add,Instr.next,Sem.run_bind,r_getObj h1 (by simp),r_getObj g1 (by simp),Result.andThen_ok,hall,Bool.false_eq_true,if_false,hold,hnew,Array.append_empty]
       rfl
      cases hLc:L with
      | nil=>
       refine .inl ⟨rfl, ?_⟩
       rw [hLc] at hleft
       have hle:(ents.filter fun e=> !arr.contains e.born)=#[]:=by rw [←Array.toList_inj,hleft]
       rw [run,hle]
       simp [choose,Sem.run,Question.forced]
      | cons z zs=>
       have hpos:0<(ents.filter fun e=> !arr.contains e.born).size:=by
        rw [←Array.length_toList,hleft,hLc];simp
       have hne:(ents.filter fun e=> !arr.contains e.born).isEmpty=false:=by
        rw [Bool.eq_false_iff];intro h
        rw [Array.isEmpty_iff] at h
        rw [h] at hpos
        simp at hpos
       obtain⟨idx,w1,hi,hch,e1,e2,e3⟩:=r_mapNext (P:=P) w hpos
       have hx:∃x,(ents.filter fun e=> !arr.contains e.born)[idx]? =some x∧x∈L:=by
        refine⟨(ents.filter fun e=> !arr.contains e.born)[idx],Array.getElem?_eq_getElem hi, ?_⟩
        rw [←hleft]
        exact Array.getElem_mem_toList hi
       obtain⟨x,hx1,hx2⟩:=hx
       refine .inr ⟨x,w1,hLc▸hx2,e1,e2,e3, ?_⟩
       rw [run]
       have hcand:((if (ents.filter fun e=> !arr.contains e.born).isEmpty=true then #[none] else #[])++(ents.filter fun e=> !arr.contains e.born).map some)=(ents.filter fun e=> !arr.contains e.born).map some:=by
        rw [hne];simp
       have h1':w1.heap[q.blk]? =some (.mapIter (some q'.blk) cl arr cl):=by rw [e1];exact h1
       simp only [hcand,Sem.run_bind,Array.size_map,hch,Result.andThen_ok,Array.getElem?_map,hx1,Option.map_some,r_setObj h1' (by simp),Sem.run_pure]
     split at hk
     ·rename_i hnil
      intro μ a w hop hh
      obtain⟨q,q',arr,ents,L,hq,hq',h0,h1,h2,hlv,hor⟩:=main μ a w hop hh
      rw [hnil] at hlv
      cases hlv
      rcases hor with⟨_,hrun⟩| ⟨x,w1,hx,_⟩
      ·exact⟨_,_,μ,H,w,hrun, .val _ _ (.tup _ _ (.cons _ _ _ _ (.bool _) .nil)),hh, .refl,hk⟩
      ·cases hx
     ·rename_i hnn
      intro μ a w hop hh
      obtain⟨q,q',arr,ents,L,hq,hq',h0,h1,h2,hlv,hor⟩:=main μ a w hop hh
      rcases hor with⟨hL,hrun⟩| ⟨x,w1,hx,e1,e2,e3,hrun⟩
      ·subst hL
       generalize hl:leftOf seen es=l at hlv hnn
       cases hlv
       exact absurd rfl hnn
      ·obtain⟨n,hn⟩:=List.getElem?_of_mem hx
       have hlen:=hlv.len
       have hnl:n<(leftOf seen es).length:=by rw [←hlen];exact (List.getElem?_eq_some_iff.1 hn).1
       obtain⟨⟨y,v,s⟩,hn2⟩:∃z,(leftOf seen es)[n]? =some z:=⟨_,List.getElem?_eq_getElem hnl⟩
       obtain⟨x',hx',hk1,hv1,hb1⟩:=hlv.get n y v s hn2
       rw [hn] at hx'
       cases hx'
       have:=allK_all hk (y,v,s) (List.mem_of_getElem? hn2)
       obtain⟨hb',hk⟩:=Hp.put_elim this
       have hh1:HR G μ H w1:=hh.heap e1
       refine⟨_,_,μ,_,_,hrun, .val _ _ (.tup _ _ (.cons _ _ _ _ (.bool _) (.cons _ _ _ _ hk1 (.cons _ _ _ _ hv1 .nil)))),
        hh1.put (y:= .miter (some m) cl (s::seen) cl) hb rfl hq hb' ⟨h0,_,q',hq',rfl, ?_⟩,(Ext.heap e1 e2 e3).trans (Ext.put hh1 hb rfl hq hb' _),hk⟩
       rw [Array.toList_push,List.reverse_append,h2,hb1]
       rfl
    ·cases hk
   ·cases hk
  ·cases hk
 ·cases hk
end
end Go.Ev
namespace Go.Ev
set_option linter.unusedVariables false
set_option linter.unusedSimpArgs false
def Fen (r:Option Nat):Fence:={Fence.wide with round:=r}
theorem Fen.fn_ok (r:Option Nat) (f:FuncId):(Fen r).fn f:=trivial
theorem Fen.in_round (r:Option Nat) (l:Nat):(Fen r).inRound l=Fen (some l):=rfl
def RoR (μ:Mu) (ro:Option Nat) (r:Option Nat):Prop:=
 match ro with
 | none=>r=none
 | some l=>∃p,μ l=some p∧r=some p.blk
theorem RoR.mono {μ μ':Mu} (hm:μ.le μ') {ro r:Option Nat} (h:RoR μ ro r):RoR μ' ro r:=by
 cases ro with
 | none=>exact h
 | some l=>obtain⟨p,hp,h⟩:=h;exact⟨p,hm.1 _ _ hp,h⟩
inductive EndR (μ:Mu):AEnd→Ending→Prop where
 | ret (v x) (h:VR μ v x):EndR μ (.ret v) (.returned x)
 | pan (v y) (h:VR μ v y):EndR μ (.pan v) (.panicked [{v:=y,recovered:=false}])
inductive ExR (μ:Mu):AEx→Exit→Prop where
 | normal:ExR μ .normal .normal
 | exit (i):ExR μ (.exit i) (.exit i)
 | ret:ExR μ .ret .ret
 | pan (v y bad) (h:VR μ v y):ExR μ (.pan v bad) (.panic [{v:=y,recovered:=false}])
def EnvB (μ:Mu) (bad:List Nat) (e:E2) (tmps:Array Value):Prop:=∀t,t<256→memN t bad=false→VR μ (e.get t) (tmps.getD t undef)
theorem EnvR.bad {μ:Mu} {e:E2} {nt:Nat} {tmps:Array Value} (h:EnvR μ e nt tmps) (bad:List Nat):EnvB μ bad e tmps:=fun t ht _=>h.get t ht
def CPost (G:Globals) (μ:Mu) (H:Hp) (w:World) (k:AEnd→Hp→Bool):Ending→World→Prop:=fun en w'=>
 ∃x μ' H',HR G μ' H' w'∧Ext μ H w μ' H' w'∧EndR μ' x en∧k x H'=true
def CallOK (P:Program) (G:Globals) (call:FuncId→List AV→Hp→(AEnd→Hp→Bool)→Bool):Prop:=
 ∀f args H k,call f args H k=true→∀(μ:Mu) (w:World) (vs:Array Value),HR G μ H w→VRs μ args vs.toList→CallsIn Fence.wide 0 P f vs w (CPost G μ H w k)
def KPost (G:Globals) (μ:Mu) (H:Hp) (w:World) (nt:Nat) (k:AEx→En→Hp→Bool):Exit→Act→World→Prop:=fun e' a' w'=>
 ∃x e μ' H',HR G μ' H' w'∧Ext μ H w μ' H' w'∧(EnvR μ' e.t nt a'.tmps∨∃v bad,x= .pan v bad∧EnvB μ' bad e.t a'.tmps)∧DmR μ' e.dm a'.defers∧ExR μ' x e'∧k x e H'=true
def CodeOK (P:Program) (G:Globals) (code:Nat→Code→Option Nat→En→Hp→(AEx→En→Hp→Bool)→Bool):Prop:=
 ∀nt c ro e H k,code nt c ro e H k=true→∀(μ:Mu) (a:Act) (w:World) (r:Option Nat),RoR μ ro r→HR G μ H w→EnvR μ e.t nt a.tmps→DmR μ e.dm a.defers→
  c.wpIn (Fen r) 0 P (KPost G μ H w nt k) a w
def OpWp (P:Program) (G:Globals) (o:Oper) (e:En) (H:Hp) (k kp:AV→Hp→Bool):Prop:=
 ∀(r:Option Nat) (μ:Mu) (a:Act) (w:World) (next:Act→World→Prop) (Q:Exit→Act→World→Prop),OpdR μ e a o→HR G μ H w→
  (∀v x μ' H' w',VR μ' v x→HR G μ' H' w'→Ext μ H w μ' H' w'→k v H'=true→next (a.put o.dst x) w')→
  (∀v y μ' H' w',VR μ' v y→HR G μ' H' w'→Ext μ H w μ' H' w'→kp v H'=true→Q (.panic [{v:=y,recovered:=false}]) a w')→
  o.wpIn (Fen r) 0 P a w next Q
section
variable {P : Program} {G : Globals} {o : Oper} {e : En} {H : Hp}
theorem MSpec.wp {k kp:AV→Hp→Bool} (h:MSpec P G o e H k) (hd:∀c,o.op≠ .defer c):OpWp P G o e H k kp:=by
 intro r μ a w next Q hop hh hn hp
 obtain⟨v,nx,μ',H',w',h1,h2,h3,h4,h5⟩:=h μ a w hop hh
 refine⟨fun f _=>Fen.fn_ok r f, ?_⟩
 rw [Oper.semAt_eq _ _ _ hd,h1]
 cases h2 with
 | val _ x hv=>exact hn _ _ _ _ _ hv h3 h4 h5
 | skip=>exact hn _ _ _ _ _ VR.undef h3 h4 h5
theorem r_callFunc {f:FuncId} {vs:Array Value} {w:World} (h:enters P f=true):(callFunc f vs).run P w= .ok (.enter f vs) w:=by
 unfold enters at h
 split at h
 ·rename_i fn hf
  simp only [Bool.and_eq_true,Bool.not_eq_true'] at h
  obtain⟨h1,h2⟩:=h
  have h3:fn.body.isNone=false:=by cases hb:fn.body<;>simp_all
  unfold callFunc program
  simp only [Sem.run_bind,Sem.run,Result.andThen_ok,hf,h2,h3,Bool.false_eq_true,if_false]
  rfl
 ·cases h
theorem wp_enter {ih:Evs} (hih:CallOK P G ih.call) {f:FuncId} {args:List AV} {k kp:AV→Hp→Bool} (hk:callFn P ih f args H k kp=true) {r:Option Nat} {μ:Mu} {a:Act} {w:World}
  {next:Act→World→Prop} {Q:Exit→Act→World→Prop} (hh:HR G μ H w) {vs:Array Value} (hvs:VRs μ args vs.toList)
  (hrun:enters P f=true→(o.semAt r a.eval).run P w= .ok (.enter f vs) w)
  (hn:∀v x μ' H' w',VR μ' v x→HR G μ' H' w'→Ext μ H w μ' H' w'→k v H'=true→next (a.put o.dst x) w')
  (hp:∀v y μ' H' w',VR μ' v y→HR G μ' H' w'→Ext μ H w μ' H' w'→kp v H'=true→Q (.panic [{v:=y,recovered:=false}]) a w'):
  o.wpIn (Fen r) 0 P a w next Q:=by
 unfold callFn at hk
 split at hk
 ·rename_i hen
  refine⟨fun f _=>Fen.fn_ok r f, ?_⟩
  have hr:(o.semAt (Fen r).round a.eval).run P w= .ok (.enter f vs) w:=hrun hen
  rw [hr,Oper.uponIn_enter]
  refine⟨fun h=>by simp [Fen,Fence.wide] at h, ?_⟩
  have hc:CallsIn (Fen r) 0 P f vs w (CPost G μ H w fun e H=>match e with
   | .ret v=>k v H
   | .pan v=>kp v H):=hih f args H _ hk μ w vs hh hvs
  refine CallsIn.mono hc fun en w' ⟨x,μ',H',h1,h2,h3,h4⟩=> ?_
  cases h3 with
  | ret v x hv=>exact hn _ _ _ _ _ hv h1 h2 h4
  | pan v y hv=>exact hp _ _ _ _ _ hv h1 h2 h4
 ·cases hk
theorem putTmps_sound:∀{ps:List Nat} {args:List AV} {env:E2} {nt:Nat} {k:E2→Bool},putTmps ps args env nt k=true→
  ∃env',k env'=true∧ps.length=args.length∧∀(μ:Mu) (tmps:Array Value) (vs:List Value),EnvR μ env nt tmps→VRs μ args vs→
   EnvR μ env' nt ((ps.zip vs).foldl (fun tmps (t,a)=>tmps.setIfInBounds t a) tmps):=by
 intro ps
 induction ps with
 | nil=>
  intro args env nt k h
  cases args with
  | nil=>exact⟨env,h,rfl,fun μ tmps vs he hv=>by simpa using he⟩
  | cons=>simp [putTmps] at h
 | cons p ps ih=>
  intro args env nt k h
  cases args with
  | nil=>simp [putTmps] at h
  | cons v args=>
   simp only [putTmps] at h
   split at h
   ·rename_i h1 h2
    rw [Nat.blt_eq] at h1 h2
    have h:(Box.casesOn (eputB p) fun g=>g env v fun t=>putTmps ps args t nt k:Bool)=true:=h
    rw [E2.eputB_eq _ _ _ _ h2] at h
    obtain⟨env',h3,h4,h5⟩:=ih h
    refine⟨env',h3,by simp [h4],fun μ tmps vs he hv=> ?_⟩
    cases hv with
    | cons _ x _ xs hx hs=>exact h5 μ _ xs (he.set h1 h2 hx) hs
   ·cases h
theorem loop_inv {μ:Mu} {p:Pl} {st:LoopState} {pe:Option Code} {env:E2} {nt:Nat} {ps:List Nat} {asg body:Code} {d:Nat} {ob:Option Obj} (h:BR μ p (.loop st pe env nt ps asg body d) ob):
  ∃(lp:Loop) (q:Pl),ob=some (.loop lp)∧lp.state=st∧lp.pending=pe∧EnvR μ env nt lp.tmps∧lp.params.toList=ps∧lp.assign=asg∧lp.body=body∧μ d=some q∧lp.defers=q.blk:=by
 obtain⟨fn,tmps,params,q,h1,h2,h3,h4⟩:=h
 exact⟨_,q,h4,rfl,rfl,h2,h3,rfl,rfl,h1,rfl⟩
theorem loop_mk {μ:Mu} {p:Pl} {lp:Loop} {env:E2} {nt d:Nat} {q:Pl} (h1:EnvR μ env nt lp.tmps) (h2:μ d=some q) (h3:lp.defers=q.blk) {ps:List Nat} (hps:lp.params.toList=ps) {asg body:Code} (ha:lp.assign=asg) (hb:lp.body=body) (st:LoopState) (pe:Option Code):
  BR μ p (.loop st pe env nt ps asg body d) (some (.loop {lp with state:=st,pending:=pe})):=by
 subst ha;subst hb
 exact⟨lp.fn,lp.tmps,lp.params,q,h2,h1,hps,by rw [←h3]⟩
theorem own_loop {st:LoopState} {pe:Option Code} {env:E2} {nt:Nat} {ps:List Nat} {asg body:Code} {d:Nat}:(Blk.loop st pe env nt ps asg body d).own=true:=rfl
theorem wp_round {ih:Evs} (hih:CodeOK P G ih.code) {l:Nat} {args:List AV} {k kp:AV→Hp→Bool} (hk:roundK ih l args H k kp=true) {r:Option Nat} {μ:Mu} {a:Act} {w:World}
  {next:Act→World→Prop} {Q:Exit→Act→World→Prop} (hh:HR G μ H w) {vs:Array Value} (hvs:VRs μ args vs.toList) {p:Pl} (hp:μ l=some p)
  (hrun:(o.semAt r a.eval).run P w=(Instr.yield p.blk vs).run P w)
  (hn:∀v x μ' H' w',VR μ' v x→HR G μ' H' w'→Ext μ H w μ' H' w'→k v H'=true→next (a.put o.dst x) w'):
  o.wpIn (Fen r) 0 P a w next Q:=by
 unfold roundK at hk
 split at hk
 ·rename_i st0 pe0 env nt ps asg body d0 hl
  obtain⟨lp,q,g1,g2,g3,g4,g5,g6,g7,g8,g9⟩:=loop_inv (hh.at hl hp)
  obtain⟨env',hk,hlen,henv⟩:=putTmps_sound hk
  have hsz:vs.size=lp.params.size:=by
   have:=hvs.length
   simp at this
   rw [←g5] at hlen
   simp at hlen
   omega
  refine⟨fun f _=>Fen.fn_ok r f, ?_⟩
  have hr:(o.semAt (Fen r).round a.eval).run P w= .ok (.round p.blk lp.fn ((lp.params.zip vs).foldl (fun tmps (t,a)=>tmps.setIfInBounds t a) lp.tmps) lp.assign lp.body) w:=by
   show (o.semAt r a.eval).run P w=_
   rw [hrun,run_yield g1 hsz]
  rw [hr,Oper.uponIn_round]
  refine⟨fun h=>by simp [Fen,Fence.wide] at h,roundIn_of_wpIn (Fen.fn_ok r _) ?_⟩
  rw [Fen.in_round,g6,g7]
  have htm:(lp.params.zip vs).foldl (fun tmps (t,a)=>tmps.setIfInBounds t a) lp.tmps=(ps.zip vs.toList).foldl (fun tmps (t,a)=>tmps.setIfInBounds t a) lp.tmps:=by
   rw [←Array.foldl_toList,Array.toList_zip,g5]
  rw [htm]
  have hcode:=hih nt asg (some l) ⟨env',[]⟩ H _ hk μ {tmps:=(ps.zip vs.toList).foldl (fun tmps (t,a)=>tmps.setIfInBounds t a) lp.tmps,defers:=[]} w (some p.blk) ⟨p,hp,rfl⟩ hh (henv μ _ _ g4 hvs) rfl
  refine Go.wpIn_mono hcode fun e' a' w' ⟨x,e1,μ1,H1,i1,i2,i3,i4,i5,i6⟩=> ?_
  dsimp only at i6
  split at i6
  ·rename_i hdm
   cases i5
   obtain⟨t1,dm1⟩:=e1
   simp only at hdm
   subst hdm
   have i4:a'.defers=[]:=i4
   have i3:EnvR μ1 t1 nt a'.tmps:=by
    rcases i3 with h | ⟨v,bad,h,_⟩
    ·exact h
    ·cases h
   split at i6
   ·rename_i pe en nt' ps' asg' body' d' hl1
    have hp1:=i2.mu.1 _ _ hp
    obtain⟨lp1,q1,j1,j2,j3,j4,j5,j6,j7,j8,j9⟩:=loop_inv (i1.at hl1 hp1)
    obtain⟨hb',i6⟩:=Hp.put_elim i6
    refine⟨_,run_beginRound j1 j2, ?_⟩
    have hput:HR G μ1 ⟨H1.t.set l (some (.loop .busy pe en nt' ps' asg' body' d')),H1.nx⟩ (w'.putObj p.blk (.loop {lp1 with state:= .busy})):=by
     refine i1.put hl1 own_loop hp1 hb' ?_
     have:=loop_mk (p:=p) j4 j8 j9 j5 j6 j7 .busy pe
     have e1:({lp1 with state:= .busy,pending:=pe}:Loop)={lp1 with state:= .busy}:=by rw [←j3]
     rw [e1] at this
     exact this
    have hext:=Ext.put (y:= .loop .busy pe en nt' ps' asg' body' d') i1 hl1 own_loop hp1 hb' (.loop {lp1 with state:= .busy})
    have hcode2:=hih nt body (some l) ⟨t1,[]⟩ _ _ i6 μ1 a' _ (some p.blk) ⟨p,hp1,rfl⟩ hput i3 i4
    refine Go.wpIn_mono hcode2 fun e2 a2 w2 ⟨x2,e2',μ2,H2,m1,m2,m3,m4,m5,m6⟩=> ?_
    dsimp only at m6
    split at m6
    ·rename_i st2 pe2 en2 nt2 ps2 asg2 body2 d2 hdm2 hl2
     have hp2:=m2.mu.1 _ _ hp1
     obtain⟨lp2,q2,n1,n2,n3,n4,n5,n6,n7,n8,n9⟩:=loop_inv (m1.at hl2 hp2)
     have fin:∀(jump:Option Code) (H3:Hp),(H2.put l (some (.loop (if jump.isNone then .ready else .done) jump en2 nt2 ps2 asg2 body2 d2)) fun H=>k (.bool jump.isNone) H)=true→
       ∃v w3,(Instr.endRound p.blk jump).run P w2= .ok v w3∧next (a.put o.dst v) w3:=by
      intro jump H3 hput3
      obtain⟨hb3,hk3⟩:=Hp.put_elim hput3
      refine⟨_,_,run_endRound jump n1, ?_⟩
      have hr3:HR G μ2 ⟨H2.t.set l (some (.loop (if jump.isNone then .ready else .done) jump en2 nt2 ps2 asg2 body2 d2)),H2.nx⟩
        (w2.putObj p.blk (.loop {lp2 with state:=if jump.isNone then .ready else .done,pending:=jump})):=by
       refine m1.put hl2 own_loop hp2 hb3 ?_
       exact loop_mk (p:=p) n4 n8 n9 n5 n6 n7 (if jump.isNone then .ready else .done) jump
      have hx3:=Ext.put (y:= .loop (if jump.isNone then .ready else .done) jump en2 nt2 ps2 asg2 body2 d2) m1 hl2 own_loop hp2 hb3 (.loop {lp2 with state:=if jump.isNone then .ready else .done,pending:=jump})
      exact hn _ _ μ2 _ _ (.bool _) hr3 (((i2.trans hext).trans m2).trans hx3) hk3
     split at m6
     ·cases m5
      exact fin none H2 m6
     ·cases m5
      exact fin (some .ret) H2 m6
     ·cases m5
      exact fin (some (.exit _)) H2 m6
     ·cases m6
    ·cases m6
   ·cases i6
  ·cases i6
 ·cases hk
end
end Go.Ev
namespace Go.Ev
set_option linter.unusedVariables false
set_option linter.unusedSimpArgs false
section
variable {P : Program} {G : Globals} {o : Oper} {e : En} {H : Hp}
theorem vrs_args {c:Call} (ho:o.op= .call c) {μ:Mu} {a:Act} (h:OpdR μ e a o):VRs μ (c.args.toList.map (opd e)) (c.args.map a.eval).toList:=by
 rw [Array.toList_map]
 exact vrs_opds fun y hy=>h.mem (by
  simp only [ho,Op.operands,Call.operands]
  simp
  exact .inr (by simpa using hy))
theorem r_method {t:TypeId} {v:Value} {m:String} {g:FuncId} {w:World} {n:Nat} (h:methodOf P t m=some g):(method (n+1) t v m).run P w= .ok (g,v) w:=by
 unfold methodOf at h
 split at h
 ·rename_i i hi
  split at h
  ·rename_i mt hm
   split at h
   ·rename_i f p hpath hfunc
    split at h
    ·rename_i el hu
     cases h
     unfold method
     simp only [Sem.run_bind,r_info hi,Result.andThen_ok,hm,hpath,follow,Sem.run_pure,hfunc,receiverAt,r_under hu,Place.get]
    ·cases h
    ·rename_i d hne hu
     cases h
     unfold method
     cases d with
     | pointer el=>exact (hne el rfl).elim
     | _=>simp only [Sem.run_bind,r_info hi,Result.andThen_ok,hm,hpath,follow,Sem.run_pure,hfunc,receiverAt,r_under hu,Place.get]
    ·cases h
   ·cases h
  ·cases h
 ·cases h
theorem r_noEsc {f:FuncId} (h:isNoEsc P f=true) (x:Value) (w:World):(callFunc f #[x]).run P w= .ok (.value x) w:=by
 unfold isNoEsc at h
 split at h
 ·rename_i fn hf
  simp only [Bool.and_eq_true,beq_iff_eq] at h
  obtain⟨h1,h2,h3⟩:=h
  have e1:Extern.findNext fn=none:=by
   unfold Extern.findNext
   rw [h2,h3]
   rfl
  have e2:Extern.find fn=some Extern.AbiNoEscape.same:=by
   unfold Extern.find
   rw [h2,h3]
   rfl
  rw [run_callFunc_extern hf (by rw [h2];rfl) h1 e1 e2,Lib.run_noEscape]
  rfl
 ·cases h
theorem freeze_put {w:World} {b n:Nat} {arr:Array Value} {el:TypeId} {fz:Nat×Nat} (h:w.heap[b]? =some (.cells arr el fz)):∃fz',w.freeze ⟨b,0,none⟩ n=w.putObj b (.cells arr el fz'):=by
 unfold World.freeze
 obtain⟨hlt,hget⟩:=Array.getElem?_eq_some_iff.1 h
 split
 ·refine⟨fz, ?_⟩
  unfold World.putObj
  have:w.heap.setIfInBounds b (.cells arr el fz)=w.heap:=by
   rw [←hget]
   apply Array.ext
   ·simp
   ·intro i h1 h2
    rw [Array.getElem_setIfInBounds]
    split
    ·rename_i e;subst e;rfl
    ·rfl
  rw [this]
 ·obtain⟨lo,hi⟩:=fz
  refine⟨if lo==hi then (0,0+n) else (min lo 0,max hi (0+n)), ?_⟩
  unfold World.putObj
  congr 1
  apply Array.ext
  ·simp
  ·intro i h1 h2
   rw [Array.getElem_modify,Array.getElem_setIfInBounds]
   by_cases e:b=i
   ·subst e
    rw [if_pos rfl,if_pos rfl,hget]
   ·rw [if_neg e,if_neg e]
theorem m_ustr {c:Call} {t it:TypeId} {x y:AV} (ho:o.op= .call c) (hc:c.callee= .builtin .unsafeString) (ht:c.argTypes.toList=[t,it]) (hx:c.args.toList.map (opd e)=[x,y])
  {k:AV→Hp→Bool} (hk:ustrK P H t x y k=true):MSpec P G o e H k:=by
 have hlen:∀(a:Act) (w w':World) (u1 u2 v:Value),c.args.map a.eval=#[u1,u2]→(Builtin.unsafeString_ c.argTypes o.type #[u1,u2]).run P w= .ok v w'→(execOp a.eval o).run P w= .ok (.value v) w':=by
  intro a w w' u1 u2 v h1 h2
  simp [execOp,ho,resolve,hc,invoke,builtin,h1,h2,Result.andThen]
 have hts0:c.argTypes=#[t,it]:=by rw [←Array.toList_inj];simpa using ht
 rw [hts0] at hlen
 unfold ustrK at hk
 split at hk
 ·rename_i n
  split at hk
  ·split at hk
   ·intro μ a w hr hh
    obtain⟨u1,u2,hargs,h1,h2⟩:=args_two ho hx μ a hr
    cases h1;cases h2
    refine⟨_,_,μ,H,w,hlen a w w _ _ _ hargs ?_, .val _ _ (.str .empty _ rfl),hh, .refl,hk⟩
    exact Lib.run_unsafeString_none w t it _ none
   ·intro μ a w hr hh
    obtain⟨u1,u2,hargs,h1,h2⟩:=args_two ho hx μ a hr
    cases h1;cases h2
    refine⟨_,_,μ,H,w,hlen a w w _ _ _ hargs ?_, .val _ _ (.str .empty _ rfl),hh, .refl,hk⟩
    exact Lib.run_unsafeString_none w t it _ _
   ·cases hk
  ·rename_i n
   split at hk
   ·rename_i b off
    split at hk
    ·rename_i el cs hb
     split at hk
     ·rename_i e' hpt
      split at hk
      ·rename_i l he hc1 hsm hby
       have he:=Nat.eq_of_beq_eq_true he
       subst he
       have hc1:=Nat.eq_of_beq_eq_true hc1
       have hsm:=Nat.le_of_ble_eq_true hsm
       rw [forceL_eq] at hk
       obtain⟨hb',hk⟩:=Hp.put_elim hk
       intro μ a w hr hh
       obtain⟨u1,u2,hargs,h1,h2⟩:=args_two ho hx μ a hr
       cases h1 with | ptr _ _ p hp=>
       cases h2
       obtain⟨arr,e1,fz,g1,g2,g3,g4,g5⟩:=hh.at hb hp
       obtain⟨g4,g6⟩:=g4 rfl
       obtain⟨q1,q2,q3⟩:=g6 _ rfl
       subst q1
       have hnl:n+1≤cs.length:=bytesOfCells_len hby
       obtain⟨xs,k1,k2,k3⟩:=vrs_window g5 hnl
       obtain⟨l1,bs,l2,l3⟩:=bytesOfCells_inv hby k2
       have hbl:bs.length=n+1:=by rw [←l1,←l2];simp
       obtain⟨fz',hfr⟩:=freeze_put (n:=n+1) g1
       have hrun:=Lib.run_unsafeString_row (P:=P) w t it o.type e1 hpt hc1 p.blk arr.size (shape_cells g1) bs (by intro h;rw [h] at hbl;simp at hbl) (by omega) (by omega) (fun j x hj=>by
        have:=k3 j _ (l3 j x hj)
        have ha:(⟨p.blk,0,none⟩:Addr).add j=⟨p.blk,j,none⟩:=by
         have:=addr_add p.blk 0 j
         simpa using this
        rw [ha,cell_at g1]
        simpa [q2] using this)
       rw [hbl,hfr] at hrun
       refine⟨_,_,μ,_,w.putObj p.blk (.cells arr e1 fz'),hlen a w _ _ _ _ hargs ?_, .val _ _ (.str ⟨bs.toArray⟩ l (by simpa using l2)),hh.put (y:= .cells (some e1) true cs) hb rfl hp hb' ⟨arr,e1,fz',rfl,g2,g3,fun h=>(by cases h),g5⟩,Ext.put hh hb rfl hp hb' _,hk⟩
       rw [q2]
       exact hrun
      ·cases hk
     ·cases hk
    ·cases hk
   ·cases hk
 ·cases hk
theorem m_call {c:Call} {f:Operand} (ho:o.op= .call c) (hc:c.callee= .value f) {ih:Evs} (h1:CodeOK P G ih.code) (h2:CallOK P G ih.call) {k kp:AV→Hp→Bool}
  (hk:callV P (opd e f) (c.args.toList.map (opd e)) ih H k kp=true):OpWp P G o e H k kp:=by
 have hmf:f∈o.op.operands:=by simp [ho,Op.operands,Call.operands,hc]
 unfold callV at hk
 split at hk
 ·rename_i g first cap hf
  rw [forceL_eq] at hk
  intro r μ a w next Q hop hh hn hp
  have hfv:=hop.at hmf hf
  generalize hfa:a.eval f=fv at hfv
  cases hfv with
  | fn _ _ _ first' cap' ha hcap=>
   have hvs:VRs μ (first++c.args.toList.map (opd e)++cap) (first'++c.args.map a.eval++cap').toList:=by
    rw [Array.toList_append,Array.toList_append]
    exact (ha.append (vrs_args ho hop)).append hcap
   split at hk
   ·rename_i hne
    obtain⟨x,hx,hk⟩:=one1_inv hk
    rw [hx] at hvs
    obtain⟨u,hu1,hu2⟩:∃u,(first'++c.args.map a.eval++cap')=#[u]∧VR μ x u:=by
     generalize hvl:(first'++c.args.map a.eval++cap').toList=vl at hvs
     cases hvs with
     | cons _ u _ us hu hs=>
      cases hs
      exact⟨u,by rw [←Array.toList_inj];simpa using hvl,hu⟩
    refine⟨fun f _=>Fen.fn_ok r f, ?_⟩
    rw [Oper.semAt_eq _ _ _ (fun c' h=>by rw [ho] at h;cases h)]
    have hrun:(execOp a.eval o).run P w= .ok (.value u) w:=by
     simp only [execOp,ho,resolve,hc,hfa,Deferred.ofValue,Sem.run_bind,Sem.run_pure,Result.andThen_ok,invoke]
     rw [hu1]
     exact r_noEsc hne u w
    rw [hrun]
    exact hn _ _ _ _ _ hu2 hh .refl hk
   ·refine wp_enter h2 hk hh hvs (fun hen=> ?_) hn hp
    rw [Oper.semAt_eq _ _ _ (fun c' h=>by rw [ho] at h;cases h)]
    simp only [execOp,ho,resolve,hc,hfa,Deferred.ofValue,Sem.run_bind,Sem.run_pure,Result.andThen_ok,invoke,r_callFunc hen]
 ·rename_i l hf
  intro r μ a w next Q hop hh hn hp
  have hfv:=hop.at hmf hf
  generalize hfa:a.eval f=fv at hfv
  cases hfv with
  | yld _ p hpl=>
   refine wp_round h1 hk hh (vrs_args ho hop) hpl ?_ hn
   rw [Oper.semAt_eq _ _ _ (fun c' h=>by rw [ho] at h;cases h)]
   simp only [execOp,ho,resolve,hc,hfa,Deferred.ofValue,Sem.run_bind,Sem.run_pure,Result.andThen_ok,invoke]
   congr 2
   simp
 ·cases hk
theorem m_invoke {c:Call} {x:Operand} {m:String} (ho:o.op= .call c) (hc:c.callee= .invoke x m) {ih:Evs} (h2:CallOK P G ih.call) {k kp:AV→Hp→Bool}
  (hk:invokeV P m (opd e x) (c.args.toList.map (opd e)) ih H k kp=true):OpWp P G o e H k kp:=by
 have hmx:x∈o.op.operands:=by simp [ho,Op.operands,Call.operands,hc]
 unfold invokeV at hk
 split at hk
 ·rename_i t v hx
  split at hk
  ·rename_i g hg
   intro r μ a w next Q hop hh hn hp
   have hxv:=hop.at hmx hx
   generalize hxa:a.eval x=xv at hxv
   cases hxv with
   | ifc _ _ v' hv=>
    have hvs:VRs μ (v::c.args.toList.map (opd e)) (#[v']++c.args.map a.eval).toList:=by
     rw [Array.toList_append]
     exact .cons _ _ _ _ hv (vrs_args ho hop)
    refine wp_enter h2 hk hh hvs (fun hen=> ?_) hn hp
    rw [Oper.semAt_eq _ _ _ (fun c' h=>by rw [ho] at h;cases h)]
    have he:((#[Value.iface t v']++c.args.map a.eval).extract 1 (#[Value.iface t v']++c.args.map a.eval).size)=c.args.map a.eval:=by
     rw [←Array.toList_inj]
     simp
     rw [List.take_of_length_le (by simp)]
    have hg0:(#[Value.iface t v']++c.args.map a.eval)[0]? =some (.iface t v'):=by
     rw [Array.getElem?_append_left (by simp)];rfl
    have hm:(callMethod (.iface t v') m (c.args.map a.eval)).run P w= .ok (.enter g (#[v']++c.args.map a.eval)) w:=by
     have hdep:P.types.size+Made.depth=(P.types.size+(Made.depth - 1))+1:=rfl
     simp only [callMethod,Sem.run_bind,program,Sem.run,Result.andThen_ok,hdep,r_method hg,r_callFunc hen]
    simp only [execOp,ho,resolve,hc,hxa,Sem.run_bind,Sem.run_pure,Result.andThen_ok,invoke,hg0,he]
    exact hm
  ·cases hk
 ·cases hk
theorem m_panic {x:Operand} (ho:o.op= .panic x) {k kp:AV→Hp→Bool} (hk:panicV (opd e x) H kp=true):OpWp P G o e H k kp:=by
 have hmx:x∈o.op.operands:=by simp [ho,Op.operands]
 unfold panicV at hk
 split at hk
 ·rename_i t v hx
  intro r μ a w next Q hop hh hn hp
  have hxv:=hop.at hmx hx
  generalize hxa:a.eval x=xv at hxv
  have hxv':=hxv
  cases hxv with
  | ifc _ _ v' hv=>
   refine⟨fun f _=>Fen.fn_ok r f, ?_⟩
   rw [Oper.semAt_eq _ _ _ (fun c' h=>by rw [ho] at h;cases h)]
   have hr:(execOp a.eval o).run P w= .halt (.panic (.iface t v')) w:=by
    simp [execOp,ho,hxa,Instr.panic,goPanic,Sem.run]
   rw [hr,Oper.uponIn_panic]
   exact hp _ _ _ _ _ hxv' hh .refl hk
 ·cases hk
theorem no_m {f:OpF} (h:no= .m f) {ih:Evs} {k kp:AV→Hp→Bool} (hk:f ih e H k kp=true):False:=by
 unfold no at h
 cases h
 cases hk
theorem PSpec.wp {v:AV} (h:PSpec P o e v) (hd:∀c,o.op≠ .defer c) {k kp:AV→Hp→Bool} (hk:k v H=true):OpWp P G o e H k kp:=by
 intro r μ a w next Q hop hh hn hp
 obtain⟨x,hx,hv⟩:=h μ a w hop
 refine⟨fun f _=>Fen.fn_ok r f, ?_⟩
 rw [Oper.semAt_eq _ _ _ hd,hx]
 exact hn _ _ _ _ _ hv hh .refl hk
theorem LSpec.wp {v:AV} (h:LSpec P G o e H v) (hd:∀c,o.op≠ .defer c) {k kp:AV→Hp→Bool} (hk:k v H=true):OpWp P G o e H k kp:=by
 intro r μ a w next Q hop hh hn hp
 obtain⟨x,hx,hv⟩:=h μ a w hop hh.toHRg
 refine⟨fun f _=>Fen.fn_ok r f, ?_⟩
 rw [Oper.semAt_eq _ _ _ hd,hx]
 exact hn _ _ _ _ _ hv hh .refl hk
theorem ASpec.wp {blk:Blk} {mk:Nat→AV} (h:ASpec P o e blk mk) (hd:∀c,o.op≠ .defer c) {k kp:AV→Hp→Bool} (hk:(H.new blk fun b H=>k (mk b) H)=true):OpWp P G o e H k kp:=by
 intro r μ a w next Q hop hh hn hp
 obtain⟨hnx,hk⟩:=Hp.new_elim hk
 obtain⟨obj,x,tot,hx,hb⟩:=h μ a w hop
 obtain⟨hm,_⟩:=hh.none (Nat.le_refl _)
 obtain⟨h1,h2⟩:=hb H.nx hm
 obtain⟨g1,g2⟩:=hh.new hnx h1
 refine⟨fun f _=>Fen.fn_ok r f, ?_⟩
 rw [Oper.semAt_eq _ _ _ hd,hx]
 exact hn _ _ _ _ _ h2 g1 g2 hk
theorem opC_m {f:OpF} (h:opC P G o= .m f) {ih:Evs} (h1:CodeOK P G ih.code) (h2:CallOK P G ih.call) {k kp:AV→Hp→Bool} (hk:f ih e H k kp=true):OpWp P G o e H k kp:=by
 unfold opC at h
 split at h<;>rename_i ho
 ·simp only [opdB_mk] at h;cases h
 ·simp only [opdB_mk] at h;cases h
 ·simp only [opdB_mk] at h;cases h
 ·split at h
  ·cases h
  ·exact (no_m h hk).elim
 ·simp only [opdB_mk] at h;cases h
 ·simp only [partsB_mk] at h;cases h
 ·simp only [partsB_mk] at h;cases h
 ·simp only [opdB_mk] at h;cases h
 ·simp only [opdB_mk] at h;cases h;exact (m_store ho hk).wp (fun c hc=>by rw [ho] at hc;cases hc)
 ·simp only [opdB_mk] at h;cases h
 ·simp only [opdB_mk] at h;cases h
 ·simp only [opdB_mk] at h;cases h
 ·simp only [opdB_mk] at h
  split at h<;>cases h
 ·simp only [opdB_mk] at h
  split at h
  ·exact (no_m h hk).elim
  ·cases h
 ·simp only [opdsB_mk] at h;cases h
 ·cases h
 ·split at h
  ·split at h
   ·simp only [opdB_mk] at h;cases h
   ·exact (no_m h hk).elim
  ·exact (no_m h hk).elim
 ·simp only [opdB_mk,optB_mk] at h;cases h
 ·split at h
  ·split at h
   ·split at h
    ·exact (no_m h hk).elim
    ·simp only [opdB_mk] at h;cases h
   ·exact (no_m h hk).elim
  ·exact (no_m h hk).elim
 ·split at h
  ·split at h
   ·simp only [opdB_mk] at h;cases h
   ·exact (no_m h hk).elim
  ·exact (no_m h hk).elim
 ·simp only [opdB_mk] at h;cases h
 ·simp only [opdB_mk] at h;cases h
 ·simp only [opdB_mk] at h;cases h
 ·simp only [opdB_mk] at h;cases h;exact (m_mapUpdate (.inl ho) hk).wp (fun c hc=>by rw [ho] at hc;cases hc)
 ·simp only [opdB_mk] at h;cases h;exact (m_mapUpdate (.inr ho) hk).wp (fun c hc=>by rw [ho] at hc;cases hc)
 ·simp only [opdB_mk] at h;cases h;exact (m_mapEntry ho hk).wp (fun c hc=>by rw [ho] at hc;cases hc)
 ·simp only [opdB_mk] at h;cases h;exact (m_entryStore ho hk).wp (fun c hc=>by rw [ho] at hc;cases hc)
 ·simp only [opdB_mk] at h;cases h;exact (m_range ho hk).wp (fun c hc=>by rw [ho] at hc;cases hc)
 ·simp only [opdB_mk] at h;cases h;exact (m_next ho hk).wp (fun c hc=>by rw [ho] at hc;cases hc)
 ·simp only [opdB_mk] at h;cases h;exact (m_nextStr ho hk).wp (fun c hc=>by rw [ho] at hc;cases hc)
 ·simp only [opdB_mk] at h;cases h
 ·simp only [opdB_mk] at h;cases h
 ·simp only [opdB_mk] at h;cases h
 ·rename_i c
  have hnd:∀c,o.op≠ .defer c:=fun c hc=>by rw [ho] at hc;cases hc
  unfold callC at h
  simp only [opdsB_mk,opdB_mk] at h
  split at h
  ·rename_i b hc
   unfold builtinC at h
   split at h
   ·split at h
    ·rename_i t u ht
     cases h
     obtain⟨x,y,hx,hk⟩:=two2_inv hk
     exact (m_append ho hc ht hx hk).wp hnd
    ·exact (no_m h hk).elim
   ·split at h
    ·cases h
    ·exact (no_m h hk).elim
   ·split at h
    ·rename_i t rest ht
     cases h
     obtain⟨x,y,hx,hk⟩:=two2_inv hk
     exact (m_copy ho hc ht hx hk).wp hnd
    ·exact (no_m h hk).elim
   ·split at h
    ·rename_i t rest ht
     cases h
     obtain⟨x,hx,hk⟩:=one1_inv hk
     exact (m_clear ho hc ht hx hk).wp hnd
    ·exact (no_m h hk).elim
   ·cases h
   ·split at h
    ·rename_i t it ht
     cases h
     obtain⟨x,y,hx,hk⟩:=two2_inv hk
     exact (m_ustr ho hc ht hx hk).wp hnd
    ·exact (no_m h hk).elim
   ·cases h
   ·cases h
   ·exact (no_m h hk).elim
  ·rename_i f' hc
   cases h
   exact m_call ho hc h1 h2 hk
  ·rename_i x m hc
   cases h
   exact m_invoke ho hc h2 hk
 ·simp only [opdB_mk] at h;cases h;exact m_panic ho hk
 ·exact (no_m h hk).elim
theorem opK_inv {c:Cls} (h:opK P G o=c) (hno:∀f:OpF,c= .m f→f=(fun _ _ _ _ _=>false)→False):opC P G o=c∧∀x∈o.op.operands.toList,okOpd x=true:=by
 unfold opK at h
 split at h
 ·rename_i hall
  exact⟨h,List.all_eq_true.1 hall⟩
 ·subst h
  exact (hno _ rfl rfl).elim
theorem opd_r {μ:Mu} {nt:Nat} {a:Act} (h:EnvR μ e.t nt a.tmps) (ho:∀x∈o.op.operands.toList,okOpd x=true):OpdR μ e a o:=fun x hx=>opd_vr h (ho x hx)
end
end Go.Ev
namespace Go.Ev
set_option linter.unusedVariables false
set_option linter.unusedSimpArgs false
section
variable {P : Program} {G : Globals}
theorem opTmp_eq (e:En) (d:Nat):opd e (.tmp d)=e.t.get d:=opd_eq e d
theorem putB_inv (nt:Nat) (dst:Option Tmp):∃f,putB nt dst= .mk f∧∀(e:En) (v:AV) (k:En→Bool),f e v k=true→
  ∃e',k e'=true∧e'.dm=e.dm∧∀(μ:Mu) (a:Act) (x:Value),EnvR μ e.t nt a.tmps→VR μ v x→EnvR μ e'.t nt (a.put dst x).tmps:=by
 unfold putB
 cases dst with
 | none=>exact⟨_,rfl,fun e v k h=>⟨e,h,rfl,fun μ a x he _=>he⟩⟩
 | some d=>
  simp only
  split
  ·rename_i h1 h2
   rw [Nat.blt_eq] at h1 h2
   cases hb:eputB d with
   | mk g=>
    refine⟨_,rfl,fun e v k h=> ?_⟩
    obtain⟨t,dm⟩:=e
    have h:(g t v fun t=>k ⟨t,dm⟩)=true:=h
    have he:(Box.casesOn (eputB d) fun g=>g t v fun t=>k ⟨t,dm⟩:Bool)=true:=by rw [hb];exact h
    rw [E2.eputB_eq _ _ _ _ h2] at he
    exact⟨_,he,rfl,fun μ a x hr hv=>hr.set h1 h2 hv⟩
  ·exact⟨_,rfl,fun e v k h=>by cases h⟩
theorem put_defers (a:Act) (dst:Option Tmp) (x:Value):(a.put dst x).defers=a.defers:=by cases dst<;>rfl
theorem wantB_inv {ops:Array Oper} {o:Oper} {j:Nat} {w:Bool} (hg:o.guard=some (j,w)) (hok:wantOk ops.toList (some (j,w))=true):
  ∃f,wantB ops.toList j w= .mk f∧∀(μ:Mu) (e:En) (nt:Nat) (a:Act),EnvR μ e.t nt a.tmps→f e=Region.wanted o (yielded ops a.tmps):=by
 unfold wantB
 unfold wantOk at hok
 simp only [Region.wanted,hg,yielded]
 simp only [Array.getElem?_toList] at hok⊢
 cases hj:ops[j]? with
 | none=>exact⟨_,rfl,fun μ e nt a he=>by simp⟩
 | some oj=>
  simp only [hj] at hok⊢
  cases hd:oj.dst with
  | none=>exact⟨_,rfl,fun μ e nt a he=>by simp [hd]⟩
  | some d=>
   simp only [hd] at hok⊢
   simp only [hok,opdB_mk]
   refine⟨_,rfl,fun μ e nt a he=> ?_⟩
   rw [Nat.blt_eq] at hok
   have h1:=he.get d hok
   rw [opTmp_eq]
   simp only [Option.bind_some,hd]
   cases hx:a.tmps[d]? with
   | none=>
    have:a.tmps.getD d undef=undef:=by simp [Array.getD_eq_getD_getElem?,hx]
    rw [this] at h1
    generalize e.t.get d=v at h1
    cases v with
    | dat d=>rcases h1.dat_inv with⟨_,h⟩| ⟨_,_,_,h⟩| ⟨_,h⟩<;>cases h
    | _=>simp [boolIs]<;>cases h1
   | some x=>
    have:a.tmps.getD d undef=x:=by simp [Array.getD_eq_getD_getElem?,hx]
    rw [this] at h1
    generalize e.t.get d=v at h1
    cases v with
    | dat d=>rcases h1.dat_inv with⟨_,rfl⟩| ⟨_,_,_,rfl⟩| ⟨_,rfl⟩<;>simp [boolIs]
    | bool b=>cases h1;cases b<;>cases w<;>rfl
    | _=>cases h1<;>simp [boolIs]
theorem KPost.after {μ μ':Mu} {H H':Hp} {w w':World} {nt:Nat} {k:AEx→En→Hp→Bool} {e':Exit} {a':Act} {w'':World} (h:KPost G μ' H' w' nt k e' a' w'') (hx:Ext μ H w μ' H' w'):
  KPost G μ H w nt k e' a' w'':=by
 obtain⟨x,e,μ'',H'',h1,h2,h3⟩:=h
 exact⟨x,e,μ'',H'',h1,hx.trans h2,h3⟩
theorem runB_inv (o:Oper):∃f,runB P G o= .mk f∧∀{ih:Evs},CodeOK P G ih.code→CallOK P G ih.call→∀(e:En) (H:Hp) (k kp:AV→Hp→Bool),f ih e H k kp=true→
  (∀x∈o.op.operands.toList,okOpd x=true)∧OpWp P G o e H k kp:=by
 unfold runB
 have hnd:∀{c:Cls},opC P G o=c→(∀f:OpF,c≠ .m f)→∀d,o.op≠ .defer d:=by
  intro c hc hm d hd
  have:opC P G o=no:=by unfold opC;rw [hd]
  rw [this] at hc
  exact hm _ hc.symm
 cases hc:opK P G o with
 | p f=>
  obtain⟨h1,h2⟩:=opK_inv hc (fun f h=>by cases h)
  exact⟨_,rfl,fun _ _ e H k kp hk=>⟨h2,by
   obtain⟨v,hv,hk⟩:=opC_p h1 hk
   exact hv.wp (hnd h1 (fun f h=>by cases h)) hk⟩⟩
 | l f=>
  obtain⟨h1,h2⟩:=opK_inv hc (fun f h=>by cases h)
  exact⟨_,rfl,fun _ _ e H k kp hk=>⟨h2,by
   obtain⟨v,hv,hk⟩:=opC_l h1 hk
   exact hv.wp (hnd h1 (fun f h=>by cases h)) hk⟩⟩
 | a f=>
  obtain⟨h1,h2⟩:=opK_inv hc (fun f h=>by cases h)
  exact⟨_,rfl,fun _ _ e H k kp hk=>⟨h2,by
   obtain⟨blk,mk,hv,hk⟩:=opC_a h1 hk
   exact hv.wp (hnd h1 (fun f h=>by cases h)) hk⟩⟩
 | m f=>
  refine⟨_,rfl,fun hc1 hc2 e H k kp hk=> ?_⟩
  by_cases hf:f=(fun _ _ _ _ _=>false)
  ·subst hf;cases hk
  ·obtain⟨h1,h2⟩:=opK_inv hc (fun f' h hf'=>by injection h with h;subst h;exact hf hf')
   exact⟨h2,opC_m h1 hc1 hc2 hk⟩
theorem opsB_inv (nt:Nat) (ops:Array Oper):∀(l:List Oper),∃f,opsB P G nt ops.toList l= .mk f∧∀{ih:Evs},CodeOK P G ih.code→CallOK P G ih.call→
  ∀(e:En) (H:Hp) (k:AEx→En→Hp→Bool),f ih e H k=true→∀(μ:Mu) (a:Act) (w:World) (r:Option Nat) (Q:Exit→Act→World→Prop),HR G μ H w→EnvR μ e.t nt a.tmps→DmR μ e.dm a.defers→
   (∀e' a' w',KPost G μ H w nt k e' a' w'→Q e' a' w')→wpListIn (Fen r) 0 P ops Q l a w:=by
 intro l
 induction l with
 | nil=>exact⟨_,rfl,fun _ _ e H k hk μ a w r Q hh he hd hq=>hq _ _ _ ⟨.normal,e,μ,H,hh, .refl, .inl he,hd, .normal,hk⟩⟩
 | cons o l ih=>
  obtain⟨f1,e1,s1⟩:=runB_inv (P:=P) (G:=G) o
  obtain⟨f2,e2,s2⟩:=ih
  obtain⟨fp,e3,s3⟩:=putB_inv nt o.dst
  have hstep:opsB P G nt ops.toList (o::l)=opThen nt ops.toList f1 o.dst f2 o.guard:=by
   show (Box.casesOn (runB P G o) fun f=>Box.casesOn (opsB P G nt ops.toList l) fun r=>opThen nt ops.toList f o.dst r o.guard:Box OpsF)=_
   rw [e1,e2]
  have go:∀{ih:Evs},CodeOK P G ih.code→CallOK P G ih.call→∀(e:En) (H:Hp) (k:AEx→En→Hp→Bool),f1 ih e H (fun v H=>fp e v fun e=>f2 ih e H k) (fun v H=>k (.pan v []) e H)=true→
    ∀(μ:Mu) (a:Act) (w:World) (r:Option Nat) (Q:Exit→Act→World→Prop),HR G μ H w→EnvR μ e.t nt a.tmps→DmR μ e.dm a.defers→
    (∀e' a' w',KPost G μ H w nt k e' a' w'→Q e' a' w')→o.wpIn (Fen r) 0 P a w (wpListIn (Fen r) 0 P ops Q l) Q:=by
   intro ih h1 h2 e H k hk μ a w r Q hh he hd hq
   obtain⟨q1,q2⟩:=s1 h1 h2 e H _ _ hk
   refine q2 r μ a w _ Q (opd_r he q1) hh (fun v x μ' H' w' hv hh' hx hk'=> ?_) (fun v y μ' H' w' hv hh' hx hk'=> ?_)
   ·obtain⟨e',k1,k2,k3⟩:=s3 _ _ _ hk'
    refine s2 h1 h2 e' H' k k1 μ' _ w' r Q hh' (k3 μ' a x (he.mono hx.mu) hv) ?_ (fun _ _ _ hkp=>hq _ _ _ (hkp.after hx))
    rw [put_defers,k2]
    exact hd.mono hx.mu
   ·exact hq _ _ _ ⟨.pan v [],e,μ',H',hh',hx, .inl (he.mono hx.mu),hd.mono hx.mu, .pan v y [] hv,hk'⟩
  have skip:∀{ih:Evs},CodeOK P G ih.code→CallOK P G ih.call→∀(e:En) (H:Hp) (k:AEx→En→Hp→Bool),(fp e (.tup []) fun e=>f2 ih e H k)=true→
    ∀(μ:Mu) (a:Act) (w:World) (r:Option Nat) (Q:Exit→Act→World→Prop),HR G μ H w→EnvR μ e.t nt a.tmps→DmR μ e.dm a.defers→
    (∀e' a' w',KPost G μ H w nt k e' a' w'→Q e' a' w')→wpListIn (Fen r) 0 P ops Q l (a.put o.dst undef) w:=by
   intro ih h1 h2 e H k hk μ a w r Q hh he hd hq
   obtain⟨e',k1,k2,k3⟩:=s3 _ _ _ hk
   refine s2 h1 h2 e' H k k1 μ _ w r Q hh (k3 μ a undef he VR.undef) ?_ hq
   rw [put_defers,k2]
   exact hd
  rw [hstep]
  unfold opThen
  rw [e3]
  cases hg:o.guard with
  | none=>
   refine⟨_,rfl,fun h1 h2 e H k hk μ a w r Q hh he hd hq=> ?_⟩
   simp only [wpListIn,Region.wanted,hg,if_true]
   exact go h1 h2 e H k hk μ a w r Q hh he hd hq
  | some jw=>
   obtain⟨j,wt⟩:=jw
   simp only
   cases hok:wantOk ops.toList (some (j,wt)) with
   | false=>exact⟨_,rfl,fun h1 h2 e H k hk=>by cases hk⟩
   | true=>
    obtain⟨fw,e4,s4⟩:=wantB_inv hg hok
    simp only [e4]
    refine⟨_,rfl,fun h1 h2 e H k hk μ a w r Q hh he hd hq=> ?_⟩
    have hw:=s4 μ e nt a he
    simp only [wpListIn,←hw]
    cases hfw:fw e with
    | false=>
     rw [hfw] at hk
     simp only [Bool.false_eq_true,if_false]
     exact⟨fun f _=>Fen.fn_ok r f,skip h1 h2 e H k hk μ a w r Q hh he hd hq⟩
    | true=>
     rw [hfw] at hk
     simp only [if_true]
     exact go h1 h2 e H k hk μ a w r Q hh he hd hq
end
end Go.Ev
