/- A part of the proof of RoundAlone. -/
import Derived.Test.YtnljpmbidnnlkaaGreatDoorRAa
import Derived.TacticsIn
import Derived.Laws.Externs
import Derived.Scope
import Derived.LoopNIn
import Derived.OrdersIn
import Derived.RecoverIn
import Derived.Below
set_option maxRecDepth 1000000
set_option linter.unusedVariables false
set_option linter.unusedSimpArgs false
namespace Go.Ev
section
variable {P : Program} {G : bg} {o : Oper} {e : En} {H : Hp}
theorem Kr {t:TypeId} {x:Operand} (ho:o.op= .range t x) {k:AV->Hp->Bool} (hk:qB P H t (opd e x) k=true):nA P G o e H k:=by
 have hmx:x∈o.op.operands:=by simp [ho,Op.operands]
 unfold qB at hk
 split at hk
 ·rename_i s hu hx
  obtain⟨hnx,hk⟩:=dN hk
  intro μ a w hop hh
  obtain⟨bs,hb,hbl⟩:=(hop.at hmx hx).str_inv
  obtain⟨g1,g2⟩:=hh.new hnx (tot:=0) (y:= .siter s 0) (o:= .stringIter bs 0) ⟨rfl,bs,rfl,hbl⟩
  refine⟨_,.value (.pointer (some ⟨w.heap.size,0,none⟩)),_,_,_, ?_,.val _ _ (.ptr _ 0 ⟨w.heap.size,0,0⟩ (bT _ _ _)),g1,g2,hk⟩
  simp only [execOp,ho,hb,Instr.range,Sem.run_bind,bO hu,Result.andThen_ok,Sem.run_pure,run_newObj_alloc]
 ·rename_i kt el hu hx
  obtain⟨hnx,hk⟩:=dN hk
  intro μ a w hop hh
  have h1:=hop.at hmx hx
  generalize hxa:a.eval x=xv at h1
  cases h1
  obtain⟨g1,g2⟩:=hh.new hnx (tot:=0) (y:= .miter none 0 [] 0) (o:= .mapIter none 0 #[] 0) ⟨rfl,#[],rfl,rfl⟩
  refine⟨_,.value (.pointer (some ⟨w.heap.size,0,none⟩)),_,_,_, ?_,.val _ _ (.ptr _ 0 ⟨w.heap.size,0,0⟩ (bT _ _ _)),g1,g2,hk⟩
  simp only [execOp,ho,hxa,Instr.range,Sem.run_bind,bO hu,Result.andThen_ok,Sem.run_pure,run_newObj_alloc]
 ·rename_i kt el m hu hx
  split at hk
  ·rename_i ro es cl hm
   obtain⟨hnx,hk⟩:=dN hk
   intro μ a w hop hh
   have h1:=hop.at hmx hx
   generalize hxa:a.eval x=xv at h1
   cases h1 with
   | map _ q hq=>
    obtain⟨ents,q1,q2⟩:=ix (hh.at hm hq)
    obtain⟨hmn,_⟩:=hh.none (bh _)
    obtain⟨g1,g2⟩:=hh.new hnx (tot:=0) (y:= .miter (some m) cl [] cl) (o:= .mapIter (some q.blk) cl #[] cl) ⟨rfl,#[],q,(dU _ hmn).1 _ _ hq,rfl,rfl⟩
    refine⟨_,.value (.pointer (some ⟨w.heap.size,0,none⟩)),_,_,_, ?_,.val _ _ (.ptr _ 0 ⟨w.heap.size,0,0⟩ (bT _ _ _)),g1,g2,hk⟩
    simp only [execOp,ho,hxa,Instr.range,Sem.run_bind,bO hu,Result.andThen_ok,Sem.run_pure,iU q1 (by simp),run_newObj_alloc]
  ·cases hk
 ·cases hk
theorem Fb {x:Operand} (ho:o.op= .next x true) {k:AV->Hp->Bool} (hk:uT H (opd e x) k=true):nA P G o e H k:=by
 unfold uT at hk
 cases hk
theorem K8 (n:Nat) (l:List Nat):qx n l=l.contains n:=by
 induction l with
 | nil=>rfl
 | cons m l ih=>
  simp only [qx,List.contains_cons]
  split
  ·rename_i h;rw [cw h];simp
  ·rename_i h
   have:(n==m)=false:=by
    rw [beq_eq_false_iff_ne]
    intro e
    subst e
    simp [bW] at h
   rw [this,lT,ih]
theorem Et {μ:Mu} {es:List (AV×AV×Nat)} {xs:List MapEntry} (h:iH μ es xs) (seen:List Nat):iH μ (fJ seen es) (xs.filter fun e=> !seen.contains e.born):=by
 induction h with
 | nil=>exact .nil
 | cons y v s x es xs hk hv hb h ih=>
  simp only [fJ,K8]
  rw [List.filter_cons]
  split
  ·rename_i hc
   rw [hb,hc]
   exact ih
  ·rename_i hc
   rw [hb,hc]
   exact .cons _ _ _ _ _ _ hk hv hb ih
theorem yG {μ:Mu} {es:List (AV×AV×Nat)} {xs:List MapEntry} (h:iH μ es xs) {n:Nat} (hb:lP n es=true):∀x∈xs,x.born<n:=by
 induction h with
 | nil=>intro x hx;cases hx
 | cons y v s x es xs hk hv hb' h ih=>
  simp only [lP] at hb
  split at hb
  ·rename_i hlt
   rw [cT] at hlt
   intro z hz
   rcases cy.1 hz with rfl | hz
   ·omega
   ·exact ih hb z hz
  ·cases hb
theorem GG {α:Type} {l:List α} {k:α->Bool} (h:Eu l k=true):∀x∈l,k x=true:=by
 induction l with
 | nil=>intro x hx;cases hx
 | cons y l ih=>
  simp only [Eu] at h
  split at h
  ·rename_i hy
   intro x hx
   rcases cy.1 hx with rfl | hx
   ·exact hy
   ·exact ih h x hx
  ·cases h
theorem Er {n:Nat} (w:World) (h:0<n):∃i w1,i<n/\(choose (.mapNext n)).run P w= .ok i w1/\w1.heap=w.heap/\w1.os=w.os/\tW w1=tW w:=by
 by_cases h1:n<=1
 ·exact⟨0,w,h,by simp [choose,Sem.run,Question.forced,h1],rfl,rfl,rfl⟩
 ·refine⟨w.tape w.drawn (.mapNext n)%n,{w with drawn:=w.drawn+1},kI _ h, ?_,rfl,rfl,rfl⟩
  simp [choose,Sem.run,Question.forced,h1,Question.cut]
theorem Qo {x:Operand} (ho:o.op= .next x false) {k:AV->Hp->Bool} (hk:wM H (opd e x) k=true):nA P G o e H k:=by
 have hmx:x∈o.op.operands:=by simp [ho,Op.operands]
 unfold wM at hk
 split at hk
 ·rename_i b hx
  split at hk
  ·rename_i since seen stepped hb
   intro μ a w hop hh
   obtain⟨q,hq,hxa⟩:=(hop.at hmx hx).ptr_inv
   obtain⟨h0,arr,h1,h2⟩:=hh.at hb hq
   refine⟨_,.value (.tuple #[.bool false]),μ,H,w, ?_,.val _ _ (.tup _ _ (.cons _ _ _ _ (.bool _) .nil)),hh,.refl,hk⟩
   simp only [execOp,ho,hxa,h0,ca,Instr.next,Sem.run_bind,iU h1 (by simp),Result.andThen_ok,Sem.run_pure]
  ·rename_i m since seen stepped hb
   split at hk
   ·rename_i ro es cl hm
    split at hk
    ·rename_i hc1 hc2 hbb
     have hc1:=cw hc1
     have hc2:=cw hc2
     subst hc1
     have hc2:=hc2.symm
     subst hc2
     have main:∀(μ:Mu) (a:Act) (w:World),mF μ e a o->HR G μ H w->∃(q q':Pl) (arr:Array Nat) (ents:Array MapEntry) (L:List MapEntry),μ b=some q/\μ m=some q'/\q.base=0/\
       w.heap[q.blk]? =some (.mapIter (some q'.blk) cl arr cl)/\arr.toList.reverse=seen/\iH μ (fJ seen es) L/\
       ((L=[]/\(execOp a.eval o).run P w= .ok (.value (.tuple #[.bool false])) w)∨
        ∃(x:MapEntry) (w1:World),x∈L/\w1.heap=w.heap/\w1.os=w.os/\tW w1=tW w/\
         (execOp a.eval o).run P w= .ok (.value (.tuple #[.bool true,x.key,x.val])) (w1.putObj q.blk (.mapIter (some q'.blk) cl (arr.push x.born) cl))):=by
      intro μ a w hop hh
      obtain⟨q,hq,hxa⟩:=(hop.at hmx hx).ptr_inv
      obtain⟨h0,arr,q',hq',h1,h2⟩:=hh.at hb hq
      obtain⟨ents,g1,g2⟩:=ix (hh.at hm hq')
      have hlv:=Et g2 seen
      have hbel:=yG g2 hbb
      refine⟨q,q',arr,ents,_,hq,hq',h0,h1,h2,hlv, ?_⟩
      have hcon:∀n,seen.contains n=arr.contains n:=fun n=>by
       rw [←h2];simp
      generalize hL:(ents.toList.filter fun e=> !seen.contains e.born)=L at hlv
      have hleft:(ents.filter fun e=> !arr.contains e.born).toList=L:=by
       rw [Array.toList_filter,←hL]
       congr 1
       funext e
       rw [hcon]
      have hLb:∀x∈L,x.born<cl:=fun x hx=>by
       rw [←hL] at hx
       exact hbel x (mL.1 hx).1
      have hall:(!arr.isEmpty&& !ents.isEmpty&&ents.all (fun e=>e.born≥cl))=false:=by
       cases hq:ents.all (fun e=>decide (e.born≥cl)) with
       | false=>simp
       | true=>
        rw [←Array.all_toList,eI] at hq
        have:ents.toList=[]:=by
         cases hl:ents.toList with
         | nil=>rfl
         | cons z zs=>
          have h1:=hq z (by simp [hl])
          have h2:=hbel z (by simp [hl])
          simp at h1
          omega
        have:ents.isEmpty=true:=by
         rw [Array.isEmpty_iff,←iv,this]
        simp [this]
      have hold:(ents.filter fun e=> !arr.contains e.born).filter (fun e=>e.born<cl)=(ents.filter fun e=> !arr.contains e.born):=by
       rw [←iv,Array.toList_filter,hleft,List.filter_eq_self]
       exact fun x hx=>by simpa using hLb x hx
      have hnew:(ents.filter fun e=> !arr.contains e.born).filter (fun e=>e.born≥cl)=#[]:=by
       rw [←iv,Array.toList_filter,hleft,List.filter_eq_nil_iff]
       exact fun x hx=>by have:=hLb x hx;simp;exact this
      have run:(execOp a.eval o).run P w=((do
        let left:=ents.filter fun e=> !arr.contains e.born
        let candidates:=(if left.isEmpty then #[none] else #[])++left.map some
        match candidates[←choose (.mapNext candidates.size)]? with
        | some (some e)=>
         setObj q.blk (.mapIter (some q'.blk) cl (arr.push e.born) cl)
         pure (.tuple #[.bool true,e.key,e.val])
        | some none=>pure (.tuple #[.bool false])
        | none=>stuck "Next: no such candidate" :Sem Value).run P w).andThen fun v w'=>.ok (.value v) w':=by
       simp only [execOp,ho,hxa,h0,ca,Instr.next,Sem.run_bind,iU h1 (by simp),iU g1 (by simp),Result.andThen_ok,hall,dI,eE,hold,hnew,Array.append_empty]
       rfl
      cases hLc:L with
      | nil=>
       refine .inl ⟨rfl, ?_⟩
       rw [hLc] at hleft
       have hle:(ents.filter fun e=> !arr.contains e.born)=#[]:=by rw [←iv,hleft]
       rw [run,hle]
       simp [choose,Sem.run,Question.forced]
      | cons z zs=>
       have hpos:0<(ents.filter fun e=> !arr.contains e.born).size:=by
        rw [←Array.length_toList,hleft,hLc];simp
       have hne:(ents.filter fun e=> !arr.contains e.born).isEmpty=false:=by
        rw [Bool.eq_false_iff];intro h
        rw [Array.isEmpty_iff] at h
        rw [h] at hpos
        simp at hpos
       obtain⟨idx,w1,hi,hch,e1,e2,e3⟩:=Er (P:=P) w hpos
       have hx:∃x,(ents.filter fun e=> !arr.contains e.born)[idx]? =some x/\x∈L:=by
        refine⟨(ents.filter fun e=> !arr.contains e.born)[idx],oe hi, ?_⟩
        rw [←hleft]
        exact Array.getElem_mem_toList hi
       obtain⟨x,hx1,hx2⟩:=hx
       refine .inr ⟨x,w1,hLc▸hx2,e1,e2,e3, ?_⟩
       rw [run]
       have hcand:((if (ents.filter fun e=> !arr.contains e.born).isEmpty=true then #[none] else #[])++(ents.filter fun e=> !arr.contains e.born).map some)=(ents.filter fun e=> !arr.contains e.born).map some:=by
        rw [hne];simp
       have h1':w1.heap[q.blk]? =some (.mapIter (some q'.blk) cl arr cl):=by rw [e1];exact h1
       simp only [hcand,Sem.run_bind,Array.size_map,hch,Result.andThen_ok,Array.getElem?_map,hx1,nC,AG h1' (by simp),Sem.run_pure]
     split at hk
     ·rename_i hnil
      intro μ a w hop hh
      obtain⟨q,q',arr,ents,L,hq,hq',h0,h1,h2,hlv,hor⟩:=main μ a w hop hh
      rw [hnil] at hlv
      cases hlv
      rcases hor with⟨_,hrun⟩| ⟨x,w1,hx,_⟩
      ·exact⟨_,_,μ,H,w,hrun,.val _ _ (.tup _ _ (.cons _ _ _ _ (.bool _) .nil)),hh,.refl,hk⟩
      ·cases hx
     ·rename_i hnn
      intro μ a w hop hh
      obtain⟨q,q',arr,ents,L,hq,hq',h0,h1,h2,hlv,hor⟩:=main μ a w hop hh
      rcases hor with⟨hL,hrun⟩| ⟨x,w1,hx,e1,e2,e3,hrun⟩
      ·subst hL
       generalize hl:fJ seen es=l at hlv hnn
       cases hlv
       exact absurd rfl hnn
      ·obtain⟨n,hn⟩:=List.getElem?_of_mem hx
       have hlen:=hlv.len
       have hnl:n<(fJ seen es).length:=by rw [←hlen];exact (jb.1 hn).1
       obtain⟨⟨y,v,s⟩,hn2⟩:∃z,(fJ seen es)[n]? =some z:=⟨_,dW hnl⟩
       obtain⟨x',hx',hk1,hv1,hb1⟩:=hlv.get n y v s hn2
       rw [hn] at hx'
       cases hx'
       have:=GG hk (y,v,s) (ku hn2)
       obtain⟨hb',hk⟩:=dD this
       have hh1:HR G μ H w1:=hh.heap e1
       refine⟨_,_,μ,_,_,hrun,.val _ _ (.tup _ _ (.cons _ _ _ _ (.bool _) (.cons _ _ _ _ hk1 (.cons _ _ _ _ hv1 .nil)))),
        hh1.put (y:= .miter (some m) cl (s::seen) cl) hb rfl hq hb' ⟨h0,_,q',hq',rfl, ?_⟩,(Ext.heap e1 e2 e3).trans (gS hh1 hb rfl hq hb' _),hk⟩
       rw [Array.toList_push,List.reverse_append,h2,hb1]
       rfl
    ·cases hk
   ·cases hk
  ·cases hk
 ·cases hk
end
def Fen (r:Option Nat):Fence:={Fence.wide with round:=r}
theorem dj (r:Option Nat) (f:FuncId):(Fen r).fn f:=aW
theorem ul (r:Option Nat) (l:Nat):(Fen r).inRound l=Fen (some l):=rfl
def RoR (μ:Mu) (ro:Option Nat) (r:Option Nat):Prop:=
 match ro with
 | none=>r=none
 | some l=>∃p,μ l=some p/\r=some p.blk
theorem RoR.mono {μ μ':Mu} (hm:μ.le μ') {ro r:Option Nat} (h:RoR μ ro r):RoR μ' ro r:=by
 cases ro with
 | none=>exact h
 | some l=>obtain⟨p,hp,h⟩:=h;exact⟨p,hm.1 _ _ hp,h⟩
inductive RD (μ:Mu):fk->Ending->Prop where
 | ret (v x) (h:VR μ v x):RD μ (.ret v) (.returned x)
 | pan (v y) (h:VR μ v y):RD μ (.pan v) (.panicked [{v:=y,recovered:=false}])
inductive ExR (μ:Mu):AEx->Exit->Prop where
 | normal:ExR μ .normal .normal
 | exit (i):ExR μ (.exit i) (.exit i)
 | ret:ExR μ .ret .ret
 | pan (v y bad) (h:VR μ v y):ExR μ (.pan v bad) (.panic [{v:=y,recovered:=false}])
def uK (μ:Mu) (bad:List Nat) (e:E2) (tmps:Array Value):Prop:=∀t,t<256->qx t bad=false->VR μ (e t) (tmps.getD t undef)
theorem fY.bad {μ:Mu} {e:E2} {nt:Nat} {tmps:Array Value} (h:fY μ e nt tmps) (bad:List Nat):uK μ bad e tmps:=fun t ht _=>h.get t ht
def pq (G:bg) (μ:Mu) (H:Hp) (w:World) (k:fk->Hp->Bool):Ending->World->Prop:=fun en w'=>
 ∃x μ' H',HR G μ' H' w'/\Ext μ H w μ' H' w'/\RD μ' x en/\k x H'=true
def gI (P:Program) (G:bg) (call:FuncId->List AV->Hp->(fk->Hp->Bool)->Bool):Prop:=
 ∀f args H k,call f args H k=true->∀(μ:Mu) (w:World) (vs:Array Value),HR G μ H w->VRs μ args vs.toList->CallsIn Fence.wide 0 P f vs w (pq G μ H w k)
def gN (G:bg) (μ:Mu) (H:Hp) (w:World) (nt:Nat) (k:AEx->En->Hp->Bool):Exit->Act->World->Prop:=fun e' a' w'=>
 ∃x e μ' H',HR G μ' H' w'/\Ext μ H w μ' H' w'/\(fY μ' e.t nt a'.tmps∨∃v bad,x= .pan v bad/\uK μ' bad e.t a'.tmps)/\DmR μ' e.dm a'.defers/\ExR μ' x e'/\k x e H'=true
def gP (P:Program) (G:bg) (code:Nat->Code->Option Nat->En->Hp->(AEx->En->Hp->Bool)->Bool):Prop:=
 ∀nt c ro e H k,code nt c ro e H k=true->∀(μ:Mu) (a:Act) (w:World) (r:Option Nat),RoR μ ro r->HR G μ H w->fY μ e.t nt a.tmps->DmR μ e.dm a.defers->
  c.wpIn (Fen r) 0 P (gN G μ H w nt k) a w
def y9 (P:Program) (G:bg) (o:Oper) (e:En) (H:Hp) (k kp:AV->Hp->Bool):Prop:=
 ∀(r:Option Nat) (μ:Mu) (a:Act) (w:World) (next:Act->World->Prop) (Q:Exit->Act->World->Prop),mF μ e a o->HR G μ H w->
  (∀v x μ' H' w',VR μ' v x->HR G μ' H' w'->Ext μ H w μ' H' w'->k v H'=true->next (a.put o.dst x) w')->
  (∀v y μ' H' w',VR μ' v y->HR G μ' H' w'->Ext μ H w μ' H' w'->kp v H'=true->Q (.panic [{v:=y,recovered:=false}]) a w')->
  o.wpIn (Fen r) 0 P a w next Q
section
variable {P : Program} {G : bg} {o : Oper} {e : En} {H : Hp}
theorem nA.wp {k kp:AV->Hp->Bool} (h:nA P G o e H k) (hd:∀c,o.op≠ .defer c):y9 P G o e H k kp:=by
 intro r μ a w next Q hop hh hn hp
 obtain⟨v,nx,μ',H',w',h1,h2,h3,h4,h5⟩:=h μ a w hop hh
 refine⟨fun f _=>dj r f, ?_⟩
 rw [Oper.semAt_eq _ _ _ hd,h1]
 cases h2 with
 | val _ x hv=>exact hn _ _ _ _ _ hv h3 h4 h5
 | skip=>exact hn _ _ _ _ _ kT h3 h4 h5
theorem nT {f:FuncId} {vs:Array Value} {w:World} (h:iz P f=true):(callFunc f vs).run P w= .ok (.enter f vs) w:=by
 unfold iz at h
 split at h
 ·rename_i fn hf
  simp only [bX,et] at h
  obtain⟨h1,h2⟩:=h
  have h3:fn.body.isNone=false:=by cases hb:fn.body<;>simp_all
  unfold callFunc program
  simp only [Sem.run_bind,Sem.run,Result.andThen_ok,hf,h2,h3,dI,eE]
  rfl
 ·cases h
theorem Ai {ih:Evs} (hih:gI P G ih.call) {f:FuncId} {args:List AV} {k kp:AV->Hp->Bool} (hk:tw P ih f args H k kp=true) {r:Option Nat} {μ:Mu} {a:Act} {w:World}
  {next:Act->World->Prop} {Q:Exit->Act->World->Prop} (hh:HR G μ H w) {vs:Array Value} (hvs:VRs μ args vs.toList)
  (hrun:iz P f=true->(o.semAt r a.eval).run P w= .ok (.enter f vs) w)
  (hn:∀v x μ' H' w',VR μ' v x->HR G μ' H' w'->Ext μ H w μ' H' w'->k v H'=true->next (a.put o.dst x) w')
  (hp:∀v y μ' H' w',VR μ' v y->HR G μ' H' w'->Ext μ H w μ' H' w'->kp v H'=true->Q (.panic [{v:=y,recovered:=false}]) a w'):
  o.wpIn (Fen r) 0 P a w next Q:=by
 unfold tw at hk
 split at hk
 ·rename_i hen
  refine⟨fun f _=>dj r f, ?_⟩
  have hr:(o.semAt (Fen r).round a.eval).run P w= .ok (.enter f vs) w:=hrun hen
  rw [hr,Oper.uponIn_enter]
  refine⟨fun h=>by simp [Fen,Fence.wide] at h, ?_⟩
  have hc:CallsIn (Fen r) 0 P f vs w (pq G μ H w fun e H=>match e with
   | .ret v=>k v H
   | .pan v=>kp v H):=hih f args H _ hk μ w vs hh hvs
  refine CallsIn.mono hc fun en w' ⟨x,μ',H',h1,h2,h3,h4⟩=> ?_
  cases h3 with
  | ret v x hv=>exact hn _ _ _ _ _ hv h1 h2 h4
  | pan v y hv=>exact hp _ _ _ _ _ hv h1 h2 h4
 ·cases hk
theorem wG:∀{ps:List Nat} {args:List AV} {env:E2} {nt:Nat} {k:E2->Bool},jD ps args env nt k=true->
  ∃env',k env'=true/\ps.length=args.length/\∀(μ:Mu) (tmps:Array Value) (vs:List Value),fY μ env nt tmps->VRs μ args vs->
   fY μ env' nt ((ps.zip vs).foldl (fun tmps (t,a)=>tmps.setIfInBounds t a) tmps):=by
 intro ps
 induction ps with
 | nil=>
  intro args env nt k h
  cases args with
  | nil=>exact⟨env,h,rfl,fun μ tmps vs he hv=>by simpa using he⟩
  | cons=>simp [jD] at h
 | cons p ps ih=>
  intro args env nt k h
  cases args with
  | nil=>simp [jD] at h
  | cons v args=>
   simp only [jD] at h
   split at h
   ·rename_i h1 h2
    rw [cT] at h1 h2
    have h:(Box.casesOn (oz p) fun g=>g env v fun t=>jD ps args t nt k:Bool)=true:=h
    rw [gH _ _ _ _ h2] at h
    obtain⟨env',h3,h4,h5⟩:=ih h
    refine⟨env',h3,by simp [h4],fun μ tmps vs he hv=> ?_⟩
    cases hv with
    | cons _ x _ xs hx hs=>exact h5 μ _ xs (he.set h1 h2 hx) hs
   ·cases h
theorem pp {μ:Mu} {p:Pl} {st:LoopState} {pe:Option Code} {env:E2} {nt:Nat} {ps:List Nat} {asg body:Code} {d:Nat} {ob:Option Obj} (h:BR μ p (.loop st pe env nt ps asg body d) ob):
  ∃(lp:Loop) (q:Pl),ob=some (.loop lp)/\lp.state=st/\lp.pending=pe/\fY μ env nt lp.tmps/\lp.params.toList=ps/\lp.assign=asg/\lp.body=body/\μ d=some q/\lp.defers=q.blk:=by
 obtain⟨fn,tmps,params,q,h1,h2,h3,h4⟩:=h
 exact⟨_,q,h4,rfl,rfl,h2,h3,rfl,rfl,h1,rfl⟩
theorem yr {μ:Mu} {p:Pl} {lp:Loop} {env:E2} {nt d:Nat} {q:Pl} (h1:fY μ env nt lp.tmps) (h2:μ d=some q) (h3:lp.defers=q.blk) {ps:List Nat} (hps:lp.params.toList=ps) {asg body:Code} (ha:lp.assign=asg) (hb:lp.body=body) (st:LoopState) (pe:Option Code):
  BR μ p (.loop st pe env nt ps asg body d) (some (.loop {lp with state:=st,pending:=pe})):=by
 subst ha;subst hb
 exact⟨lp.fn,lp.tmps,lp.params,q,h2,h1,hps,by rw [←h3]⟩
theorem nH {st:LoopState} {pe:Option Code} {env:E2} {nt:Nat} {ps:List Nat} {asg body:Code} {d:Nat}:(Blk.loop st pe env nt ps asg body d).own=true:=rfl
theorem FP {ih:Evs} (hih:gP P G ih.code) {l:Nat} {args:List AV} {k kp:AV->Hp->Bool} (hk:oV ih l args H k kp=true) {r:Option Nat} {μ:Mu} {a:Act} {w:World}
  {next:Act->World->Prop} {Q:Exit->Act->World->Prop} (hh:HR G μ H w) {vs:Array Value} (hvs:VRs μ args vs.toList) {p:Pl} (hp:μ l=some p)
  (hrun:(o.semAt r a.eval).run P w=(Instr.yield p.blk vs).run P w)
  (hn:∀v x μ' H' w',VR μ' v x->HR G μ' H' w'->Ext μ H w μ' H' w'->k v H'=true->next (a.put o.dst x) w'):
  o.wpIn (Fen r) 0 P a w next Q:=by
 unfold oV at hk
 split at hk
 ·rename_i st0 pe0 env nt ps asg body d0 hl
  obtain⟨lp,q,g1,g2,g3,g4,g5,g6,g7,g8,g9⟩:=pp (hh.at hl hp)
  obtain⟨env',hk,hlen,henv⟩:=wG hk
  have hsz:vs.size=lp.params.size:=by
   have:=hvs.length
   simp at this
   rw [←g5] at hlen
   simp at hlen
   omega
  refine⟨fun f _=>dj r f, ?_⟩
  have hr:(o.semAt (Fen r).round a.eval).run P w= .ok (.round p.blk lp.fn ((lp.params.zip vs).foldl (fun tmps (t,a)=>tmps.setIfInBounds t a) lp.tmps) lp.assign lp.body) w:=by
   show (o.semAt r a.eval).run P w=_
   rw [hrun,run_yield g1 hsz]
  rw [hr,Oper.uponIn_round]
  refine⟨fun h=>by simp [Fen,Fence.wide] at h,roundIn_of_wpIn (dj r _) ?_⟩
  rw [ul,g6,g7]
  have htm:(lp.params.zip vs).foldl (fun tmps (t,a)=>tmps.setIfInBounds t a) lp.tmps=(ps.zip vs.toList).foldl (fun tmps (t,a)=>tmps.setIfInBounds t a) lp.tmps:=by
   rw [←Array.foldl_toList,Array.toList_zip,g5]
  rw [htm]
  have hcode:=hih nt asg (some l) ⟨env',[]⟩ H _ hk μ {tmps:=(ps.zip vs.toList).foldl (fun tmps (t,a)=>tmps.setIfInBounds t a) lp.tmps,defers:=[]} w (some p.blk) ⟨p,hp,rfl⟩ hh (henv μ _ _ g4 hvs) rfl
  refine Go.wpIn_mono hcode fun e' a' w' ⟨x,e1,μ1,H1,i1,i2,i3,i4,i5,i6⟩=> ?_
  dsimp only at i6
  split at i6
  ·rename_i hdm
   cases i5
   obtain⟨t1,dm1⟩:=e1
   simp only at hdm
   subst hdm
   have i4:a'.defers=[]:=i4
   have i3:fY μ1 t1 nt a'.tmps:=by
    rcases i3 with h | ⟨v,bad,h,_⟩
    ·exact h
    ·cases h
   split at i6
   ·rename_i pe en nt' ps' asg' body' d' hl1
    have hp1:=i2.mu.1 _ _ hp
    obtain⟨lp1,q1,j1,j2,j3,j4,j5,j6,j7,j8,j9⟩:=pp (i1.at hl1 hp1)
    obtain⟨hb',i6⟩:=dD i6
    refine⟨_,run_beginRound j1 j2, ?_⟩
    have hput:HR G μ1 ⟨H1.t.set l (some (.loop .busy pe en nt' ps' asg' body' d')),H1.nx⟩ (w'.putObj p.blk (.loop {lp1 with state:= .busy})):=by
     refine i1.put hl1 nH hp1 hb' ?_
     have:=yr (p:=p) j4 j8 j9 j5 j6 j7 .busy pe
     have e1:({lp1 with state:= .busy,pending:=pe}:Loop)={lp1 with state:= .busy}:=by rw [←j3]
     rw [e1] at this
     exact this
    have hext:=gS (y:= .loop .busy pe en nt' ps' asg' body' d') i1 hl1 nH hp1 hb' (.loop {lp1 with state:= .busy})
    have hcode2:=hih nt body (some l) ⟨t1,[]⟩ _ _ i6 μ1 a' _ (some p.blk) ⟨p,hp1,rfl⟩ hput i3 i4
    refine Go.wpIn_mono hcode2 fun e2 a2 w2 ⟨x2,e2',μ2,H2,m1,m2,m3,m4,m5,m6⟩=> ?_
    dsimp only at m6
    split at m6
    ·rename_i st2 pe2 en2 nt2 ps2 asg2 body2 d2 hdm2 hl2
     have hp2:=m2.mu.1 _ _ hp1
     obtain⟨lp2,q2,n1,n2,n3,n4,n5,n6,n7,n8,n9⟩:=pp (m1.at hl2 hp2)
     have fin:∀(jump:Option Code) (H3:Hp),(H2.put l (some (.loop (if jump.isNone then .ready else .done) jump en2 nt2 ps2 asg2 body2 d2)) fun H=>k (.bool jump.isNone) H)=true->
       ∃v w3,(Instr.endRound p.blk jump).run P w2= .ok v w3/\next (a.put o.dst v) w3:=by
      intro jump H3 hput3
      obtain⟨hb3,hk3⟩:=dD hput3
      refine⟨_,_,run_endRound jump n1, ?_⟩
      have hr3:HR G μ2 ⟨H2.t.set l (some (.loop (if jump.isNone then .ready else .done) jump en2 nt2 ps2 asg2 body2 d2)),H2.nx⟩
        (w2.putObj p.blk (.loop {lp2 with state:=if jump.isNone then .ready else .done,pending:=jump})):=by
       refine m1.put hl2 nH hp2 hb3 ?_
       exact yr (p:=p) n4 n8 n9 n5 n6 n7 (if jump.isNone then .ready else .done) jump
      have hx3:=gS (y:= .loop (if jump.isNone then .ready else .done) jump en2 nt2 ps2 asg2 body2 d2) m1 hl2 nH hp2 hb3 (.loop {lp2 with state:=if jump.isNone then .ready else .done,pending:=jump})
      exact hn _ _ μ2 _ _ (.bool _) hr3 (((i2.trans hext).trans m2).trans hx3) hk3
     split at m6
     ·cases m5
      exact fin none H2 m6
     ·cases m5
      exact fin (some .ret) H2 m6
     ·cases m5
      exact fin (some (.exit _)) H2 m6
     ·cases m6
    ·cases m6
   ·cases i6
  ·cases i6
 ·cases hk
end
section
variable {P : Program} {G : bg} {o : Oper} {e : En} {H : Hp}
theorem vK {c:Call} (ho:o.op= .call c) {μ:Mu} {a:Act} (h:mF μ e a o):VRs μ (c.args.toList.map (opd e)) (c.args.map a.eval).toList:=by
 rw [ou]
 exact kD fun y hy=>h.mem (by
  simp only [ho,Op.operands,Call.operands]
  simp
  exact .inr (by simpa using hy))
theorem FZ {t:TypeId} {v:Value} {m:String} {g:FuncId} {w:World} {n:Nat} (h:uX P t m=some g):(method (n+1) t v m).run P w= .ok (g,v) w:=by
 unfold uX at h
 split at h
 ·rename_i i hi
  split at h
  ·rename_i mt hm
   split at h
   ·rename_i f p hpath hfunc
    split at h
    ·rename_i el hu
     cases h
     unfold method
     simp only [Sem.run_bind,nj hi,Result.andThen_ok,hm,hpath,follow,Sem.run_pure,hfunc,receiverAt,bO hu,Place.get]
    ·cases h
    ·rename_i d hne hu
     cases h
     unfold method
     cases d with
     | pointer el=>exact (hne el rfl).elim
     | _=>simp only [Sem.run_bind,nj hi,Result.andThen_ok,hm,hpath,follow,Sem.run_pure,hfunc,receiverAt,bO hu,Place.get]
    ·cases h
   ·cases h
  ·cases h
 ·cases h
theorem Kg {f:FuncId} (h:kf P f=true) (x:Value) (w:World):(callFunc f #[x]).run P w= .ok (.value x) w:=by
 unfold kf at h
 split at h
 ·rename_i fn hf
  simp only [bX,beq_iff_eq] at h
  obtain⟨h1,h2,h3⟩:=h
  have e1:Extern.findNext fn=none:=by
   unfold Extern.findNext
   rw [h2,h3]
   rfl
  have e2:Extern.find fn=some Extern.AbiNoEscape.same:=by
   unfold Extern.find
   rw [h2,h3]
   rfl
  rw [run_callFunc_extern hf (by rw [h2];rfl) h1 e1 e2,Lib.run_noEscape]
  rfl
 ·cases h
theorem Ro {c:Call} {t it:TypeId} {x y:AV} (ho:o.op= .call c) (hc:c.callee= .builtin .unsafeString) (ht:c.argTypes.toList=[t,it]) (hx:c.args.toList.map (opd e)=[x,y])
  {k:AV->Hp->Bool} (hk:G4 P H t x y k=true):nA P G o e H k:=by
 unfold G4 at hk
 cases hk
theorem SJ {c:Call} {f:Operand} (ho:o.op= .call c) (hc:c.callee= .value f) {ih:Evs} (h1:gP P G ih.code) (h2:gI P G ih.call) {k kp:AV->Hp->Bool}
  (hk:Di P (opd e f) (c.args.toList.map (opd e)) ih H k kp=true):y9 P G o e H k kp:=by
 have hmf:f∈o.op.operands:=by simp [ho,Op.operands,Call.operands,hc]
 unfold Di at hk
 split at hk
 ·rename_i g first cap hf
  rw [bH] at hk
  intro r μ a w next Q hop hh hn hp
  have hfv:=hop.at hmf hf
  generalize hfa:a.eval f=fv at hfv
  cases hfv with
  | fn _ _ _ first' cap' ha hcap=>
   have hvs:VRs μ (first++c.args.toList.map (opd e)++cap) (first'++c.args.map a.eval++cap').toList:=by
    rw [nJ,nJ]
    exact (ha.append (vK ho hop)).append hcap
   split at hk
   ·rename_i hne
    obtain⟨x,hx,hk⟩:=AL hk
    rw [hx] at hvs
    obtain⟨u,hu1,hu2⟩:∃u,(first'++c.args.map a.eval++cap')=#[u]/\VR μ x u:=by
     generalize hvl:(first'++c.args.map a.eval++cap').toList=vl at hvs
     cases hvs with
     | cons _ u _ us hu hs=>
      cases hs
      exact⟨u,by rw [←iv];simpa using hvl,hu⟩
    refine⟨fun f _=>dj r f, ?_⟩
    rw [Oper.semAt_eq _ _ _ (fun c' h=>by rw [ho] at h;cases h)]
    have hrun:(execOp a.eval o).run P w= .ok (.value u) w:=by
     simp only [execOp,ho,resolve,hc,hfa,Deferred.ofValue,Sem.run_bind,Sem.run_pure,Result.andThen_ok,invoke]
     rw [hu1]
     exact Kg hne u w
    rw [hrun]
    exact hn _ _ _ _ _ hu2 hh .refl hk
   ·refine Ai h2 hk hh hvs (fun hen=> ?_) hn hp
    rw [Oper.semAt_eq _ _ _ (fun c' h=>by rw [ho] at h;cases h)]
    simp only [execOp,ho,resolve,hc,hfa,Deferred.ofValue,Sem.run_bind,Sem.run_pure,Result.andThen_ok,invoke,nT hen]
 ·rename_i l hf
  intro r μ a w next Q hop hh hn hp
  have hfv:=hop.at hmf hf
  generalize hfa:a.eval f=fv at hfv
  cases hfv with
  | yld _ p hpl=>
   refine FP h1 hk hh (vK ho hop) hpl ?_ hn
   rw [Oper.semAt_eq _ _ _ (fun c' h=>by rw [ho] at h;cases h)]
   simp only [execOp,ho,resolve,hc,hfa,Deferred.ofValue,Sem.run_bind,Sem.run_pure,Result.andThen_ok,invoke]
   congr 2
   simp
 ·cases hk
theorem IV {c:Call} {x:Operand} {m:String} (ho:o.op= .call c) (hc:c.callee= .invoke x m) {ih:Evs} (h2:gI P G ih.call) {k kp:AV->Hp->Bool}
  (hk:uG P m (opd e x) (c.args.toList.map (opd e)) ih H k kp=true):y9 P G o e H k kp:=by
 have hmx:x∈o.op.operands:=by simp [ho,Op.operands,Call.operands,hc]
 unfold uG at hk
 split at hk
 ·rename_i t v hx
  split at hk
  ·rename_i g hg
   intro r μ a w next Q hop hh hn hp
   have hxv:=hop.at hmx hx
   generalize hxa:a.eval x=xv at hxv
   cases hxv with
   | ifc _ _ v' hv=>
    have hvs:VRs μ (v::c.args.toList.map (opd e)) (#[v']++c.args.map a.eval).toList:=by
     rw [nJ]
     exact .cons _ _ _ _ hv (vK ho hop)
    refine Ai h2 hk hh hvs (fun hen=> ?_) hn hp
    rw [Oper.semAt_eq _ _ _ (fun c' h=>by rw [ho] at h;cases h)]
    have he:((#[Value.iface t v']++c.args.map a.eval).extract 1 (#[Value.iface t v']++c.args.map a.eval).size)=c.args.map a.eval:=by
     rw [←iv]
     simp
     rw [cN (by simp)]
    have hg0:(#[Value.iface t v']++c.args.map a.eval)[0]? =some (.iface t v'):=by
     rw [qY (by simp)];rfl
    have hm:(callMethod (.iface t v') m (c.args.map a.eval)).run P w= .ok (.enter g (#[v']++c.args.map a.eval)) w:=by
     have hdep:P.types.size+Made.depth=(P.types.size+(Made.depth - 1))+1:=rfl
     simp only [callMethod,Sem.run_bind,program,Sem.run,Result.andThen_ok,hdep,FZ hg,nT hen]
    simp only [execOp,ho,resolve,hc,hxa,Sem.run_bind,Sem.run_pure,Result.andThen_ok,invoke,hg0,he]
    exact hm
  ·cases hk
 ·cases hk
theorem KN {x:Operand} (ho:o.op= .panic x) {k kp:AV->Hp->Bool} (hk:BE (opd e x) H kp=true):y9 P G o e H k kp:=by
 have hmx:x∈o.op.operands:=by simp [ho,Op.operands]
 unfold BE at hk
 split at hk
 ·rename_i t v hx
  intro r μ a w next Q hop hh hn hp
  have hxv:=hop.at hmx hx
  generalize hxa:a.eval x=xv at hxv
  have hxv':=hxv
  cases hxv with
  | ifc _ _ v' hv=>
   refine⟨fun f _=>dj r f, ?_⟩
   rw [Oper.semAt_eq _ _ _ (fun c' h=>by rw [ho] at h;cases h)]
   have hr:(execOp a.eval o).run P w= .halt (.panic (.iface t v')) w:=by
    simp [execOp,ho,hxa,Instr.panic,goPanic,Sem.run]
   rw [hr,Oper.uponIn_panic]
   exact hp _ _ _ _ _ hxv' hh .refl hk
 ·cases hk
theorem p7 {f:OpF} (h:no= .m f) {ih:Evs} {k kp:AV->Hp->Bool} (hk:f ih e H k kp=true):False:=by
 unfold no at h
 cases h
 cases hk
theorem iY.wp {v:AV} (h:iY P o e v) (hd:∀c,o.op≠ .defer c) {k kp:AV->Hp->Bool} (hk:k v H=true):y9 P G o e H k kp:=by
 intro r μ a w next Q hop hh hn hp
 obtain⟨x,hx,hv⟩:=h μ a w hop
 refine⟨fun f _=>dj r f, ?_⟩
 rw [Oper.semAt_eq _ _ _ hd,hx]
 exact hn _ _ _ _ _ hv hh .refl hk
theorem qh.wp {v:AV} (h:qh P G o e H v) (hd:∀c,o.op≠ .defer c) {k kp:AV->Hp->Bool} (hk:k v H=true):y9 P G o e H k kp:=by
 intro r μ a w next Q hop hh hn hp
 obtain⟨x,hx,hv⟩:=h μ a w hop hh.toHRg
 refine⟨fun f _=>dj r f, ?_⟩
 rw [Oper.semAt_eq _ _ _ hd,hx]
 exact hn _ _ _ _ _ hv hh .refl hk
theorem tD.wp {blk:Blk} {mk:Nat->AV} (h:tD P o e blk mk) (hd:∀c,o.op≠ .defer c) {k kp:AV->Hp->Bool} (hk:(H.new blk fun b H=>k (mk b) H)=true):y9 P G o e H k kp:=by
 intro r μ a w next Q hop hh hn hp
 obtain⟨hnx,hk⟩:=dN hk
 obtain⟨obj,x,tot,hx,hb⟩:=h μ a w hop
 obtain⟨hm,_⟩:=hh.none (bh _)
 obtain⟨h1,h2⟩:=hb H.nx hm
 obtain⟨g1,g2⟩:=hh.new hnx h1
 refine⟨fun f _=>dj r f, ?_⟩
 rw [Oper.semAt_eq _ _ _ hd,hx]
 exact hn _ _ _ _ _ h2 g1 g2 hk
theorem Ny {f:OpF} (h:opC P G o= .m f) {ih:Evs} (h1:gP P G ih.code) (h2:gI P G ih.call) {k kp:AV->Hp->Bool} (hk:f ih e H k kp=true):y9 P G o e H k kp:=by
 unfold opC at h
 split at h<;>rename_i ho
 ·simp only [aQ] at h;cases h
 ·simp only [aQ] at h;cases h
 ·simp only [aQ] at h;cases h
 ·split at h
  ·cases h
  ·exact (p7 h hk).elim
 ·simp only [aQ] at h;cases h
 ·simp only [bV] at h;cases h
 ·simp only [bV] at h;cases h
 ·simp only [aQ] at h;cases h
 ·simp only [aQ] at h;cases h;exact (Kb ho hk).wp (fun c hc=>by rw [ho] at hc;cases hc)
 ·simp only [aQ] at h;cases h
 ·simp only [aQ] at h;cases h
 ·simp only [aQ] at h;cases h
 ·simp only [aQ] at h
  split at h<;>cases h
 ·simp only [aQ] at h
  split at h
  ·exact (p7 h hk).elim
  ·cases h
 ·simp only [cj] at h;cases h
 ·cases h
 ·split at h
  ·split at h
   ·simp only [aQ] at h;cases h
   ·exact (p7 h hk).elim
  ·exact (p7 h hk).elim
 ·simp only [aQ,dc] at h;cases h
 ·split at h
  ·split at h
   ·split at h
    ·exact (p7 h hk).elim
    ·simp only [aQ] at h;cases h
   ·exact (p7 h hk).elim
  ·exact (p7 h hk).elim
 ·split at h
  ·split at h
   ·simp only [aQ] at h;cases h
   ·exact (p7 h hk).elim
  ·exact (p7 h hk).elim
 ·simp only [aQ] at h;cases h
 ·simp only [aQ] at h;cases h
 ·simp only [aQ] at h;cases h
 ·simp only [aQ] at h;cases h;exact (tA (.inl ho) hk).wp (fun c hc=>by rw [ho] at hc;cases hc)
 ·simp only [aQ] at h;cases h;exact (tA (.inr ho) hk).wp (fun c hc=>by rw [ho] at hc;cases hc)
 ·simp only [aQ] at h;cases h;exact (BU ho hk).wp (fun c hc=>by rw [ho] at hc;cases hc)
 ·simp only [aQ] at h;cases h;exact (y3 ho hk).wp (fun c hc=>by rw [ho] at hc;cases hc)
 ·simp only [aQ] at h;cases h;exact (Kr ho hk).wp (fun c hc=>by rw [ho] at hc;cases hc)
 ·simp only [aQ] at h;cases h;exact (Qo ho hk).wp (fun c hc=>by rw [ho] at hc;cases hc)
 ·simp only [aQ] at h;cases h;exact (Fb ho hk).wp (fun c hc=>by rw [ho] at hc;cases hc)
 ·simp only [aQ] at h;cases h
 ·simp only [aQ] at h;cases h
 ·simp only [aQ] at h;cases h
 ·rename_i c
  have hnd:∀c,o.op≠ .defer c:=fun c hc=>by rw [ho] at hc;cases hc
  unfold zG at h
  simp only [cj,aQ] at h
  split at h
  ·rename_i b hc
   unfold pi at h
   split at h
   ·split at h
    ·rename_i t u ht
     cases h
     obtain⟨x,y,hx,hk⟩:=ww hk
     exact (G' ho hc ht hx hk).wp hnd
    ·exact (p7 h hk).elim
   ·split at h
    ·cases h
    ·exact (p7 h hk).elim
   ·split at h
    ·rename_i t rest ht
     cases h
     obtain⟨x,y,hx,hk⟩:=ww hk
     exact (QE ho hc ht hx hk).wp hnd
    ·exact (p7 h hk).elim
   ·split at h
    ·rename_i t rest ht
     cases h
     obtain⟨x,hx,hk⟩:=AL hk
     exact (KZ ho hc ht hx hk).wp hnd
    ·exact (p7 h hk).elim
   ·cases h
   ·split at h
    ·rename_i t it ht
     cases h
     obtain⟨x,y,hx,hk⟩:=ww hk
     exact (Ro ho hc ht hx hk).wp hnd
    ·exact (p7 h hk).elim
   ·cases h
   ·cases h
   ·exact (p7 h hk).elim
  ·rename_i f' hc
   cases h
   exact SJ ho hc h1 h2 hk
  ·rename_i x m hc
   cases h
   exact IV ho hc h2 hk
 ·simp only [aQ] at h;cases h;exact KN ho hk
 ·exact (p7 h hk).elim
theorem lB {c:Cls} (h:opK P G o=c) (hno:∀f:OpF,c= .m f->f=(fun _ _ _ _ _=>false)->False):opC P G o=c/\∀x∈o.op.operands.toList,mz x=true:=by
 unfold opK at h
 split at h
 ·rename_i hall
  exact⟨h,eI.1 hall⟩
 ·subst h
  exact (hno _ rfl rfl).elim
theorem M5 {μ:Mu} {nt:Nat} {a:Act} (h:fY μ e.t nt a.tmps) (ho:∀x∈o.op.operands.toList,mz x=true):mF μ e a o:=fun x hx=>vV h (ho x hx)
end
section
variable {P : Program} {G : bg}
theorem pd (e:En) (d:Nat):opd e (.tmp d)=e.t d:=IA e d
theorem Aj (nt:Nat) (dst:Option Tmp):∃f,oN nt dst= .mk f/\∀(e:En) (v:AV) (k:En->Bool),f e v k=true->
  ∃e',k e'=true/\e'.dm=e.dm/\∀(μ:Mu) (a:Act) (x:Value),fY μ e.t nt a.tmps->VR μ v x->fY μ e'.t nt (a.put dst x).tmps:=by
 unfold oN
 cases dst with
 | none=>exact⟨_,rfl,fun e v k h=>⟨e,h,rfl,fun μ a x he _=>he⟩⟩
 | some d=>
  simp only
  split
  ·rename_i h1 h2
   rw [cT] at h1 h2
   cases hb:oz d with
   | mk g=>
    refine⟨_,rfl,fun e v k h=> ?_⟩
    obtain⟨t,dm⟩:=e
    have h:(g t v fun t=>k ⟨t,dm⟩)=true:=h
    have he:(Box.casesOn (oz d) fun g=>g t v fun t=>k ⟨t,dm⟩:Bool)=true:=by rw [hb];exact h
    rw [gH _ _ _ _ h2] at he
    exact⟨_,he,rfl,fun μ a x hr hv=>hr.set h1 h2 hv⟩
  ·exact⟨_,rfl,fun e v k h=>by cases h⟩
theorem jj (a:Act) (dst:Option Tmp) (x:Value):(a.put dst x).defers=a.defers:=by cases dst<;>rfl
theorem ER {ops:Array Oper} {o:Oper} {j:Nat} {w:Bool} (hg:o.guard=some (j,w)) (hok:nX ops.toList (some (j,w))=true):
  ∃f,ry ops.toList j w= .mk f/\∀(μ:Mu) (e:En) (nt:Nat) (a:Act),fY μ e.t nt a.tmps->f e=Region.wanted o (yielded ops a.tmps):=by
 unfold ry
 unfold nX at hok
 simp only [Region.wanted,hg,yielded]
 simp only [Array.getElem?_toList] at hok⊢
 cases hj:ops[j]? with
 | none=>exact⟨_,rfl,fun μ e nt a he=>by simp⟩
 | some oj=>
  simp only [hj] at hok⊢
  cases hd:oj.dst with
  | none=>exact⟨_,rfl,fun μ e nt a he=>by simp [hd]⟩
  | some d=>
   simp only [hd] at hok⊢
   simp only [hok,aQ]
   refine⟨_,rfl,fun μ e nt a he=> ?_⟩
   rw [cT] at hok
   have h1:=he.get d hok
   rw [pd]
   simp only [uA,hd]
   cases hx:a.tmps[d]? with
   | none=>
    have:a.tmps.getD d undef=undef:=by simp [mV,hx]
    rw [this] at h1
    generalize e.t d=v at h1
    cases v with
    | dat d=>rcases h1.dat_inv with⟨_,h⟩| ⟨_,_,_,h⟩| ⟨_,h⟩<;>cases h
    | _=>simp [gD]<;>cases h1
   | some x=>
    have:a.tmps.getD d undef=x:=by simp [mV,hx]
    rw [this] at h1
    generalize e.t d=v at h1
    cases v with
    | dat d=>rcases h1.dat_inv with⟨_,rfl⟩| ⟨_,_,_,rfl⟩| ⟨_,rfl⟩<;>simp [gD]
    | bool b=>cases h1;cases b<;>cases w<;>rfl
    | _=>cases h1<;>simp [gD]
theorem gN.after {μ μ':Mu} {H H':Hp} {w w':World} {nt:Nat} {k:AEx->En->Hp->Bool} {e':Exit} {a':Act} {w'':World} (h:gN G μ' H' w' nt k e' a' w'') (hx:Ext μ H w μ' H' w'):
  gN G μ H w nt k e' a' w'':=by
 obtain⟨x,e,μ'',H'',h1,h2,h3⟩:=h
 exact⟨x,e,μ'',H'',h1,hx.trans h2,h3⟩
theorem Hl (o:Oper):∃f,Jk P G o= .mk f/\∀{ih:Evs},gP P G ih.code->gI P G ih.call->∀(e:En) (H:Hp) (k kp:AV->Hp->Bool),f ih e H k kp=true->
  (∀x∈o.op.operands.toList,mz x=true)/\y9 P G o e H k kp:=by
 unfold Jk
 have hnd:∀{c:Cls},opC P G o=c->(∀f:OpF,c≠ .m f)->∀d,o.op≠ .defer d:=by
  intro c hc hm d hd
  have:opC P G o=no:=by unfold opC;rw [hd]
  rw [this] at hc
  exact hm _ hc.symm
 cases hc:opK P G o with
 | p f=>
  obtain⟨h1,h2⟩:=lB hc (fun f h=>by cases h)
  exact⟨_,rfl,fun _ _ e H k kp hk=>⟨h2,by
   obtain⟨v,hv,hk⟩:=Gq h1 hk
   exact hv.wp (hnd h1 (fun f h=>by cases h)) hk⟩⟩
 | l f=>
  obtain⟨h1,h2⟩:=lB hc (fun f h=>by cases h)
  exact⟨_,rfl,fun _ _ e H k kp hk=>⟨h2,by
   obtain⟨v,hv,hk⟩:=GF h1 hk
   exact hv.wp (hnd h1 (fun f h=>by cases h)) hk⟩⟩
 | a f=>
  obtain⟨h1,h2⟩:=lB hc (fun f h=>by cases h)
  exact⟨_,rfl,fun _ _ e H k kp hk=>⟨h2,by
   obtain⟨blk,mk,hv,hk⟩:=Ot h1 hk
   exact hv.wp (hnd h1 (fun f h=>by cases h)) hk⟩⟩
 | m f=>
  refine⟨_,rfl,fun hc1 hc2 e H k kp hk=> ?_⟩
  by_cases hf:f=(fun _ _ _ _ _=>false)
  ·subst hf;cases hk
  ·obtain⟨h1,h2⟩:=lB hc (fun f' h hf'=>by injection h with h;subst h;exact hf hf')
   exact⟨h2,Ny h1 hc1 hc2 hk⟩
theorem Ax (nt:Nat) (ops:Array Oper):∀(l:List Oper),∃f,Hi P G nt ops.toList l= .mk f/\∀{ih:Evs},gP P G ih.code->gI P G ih.call->
  ∀(e:En) (H:Hp) (k:AEx->En->Hp->Bool),f ih e H k=true->∀(μ:Mu) (a:Act) (w:World) (r:Option Nat) (Q:Exit->Act->World->Prop),HR G μ H w->fY μ e.t nt a.tmps->DmR μ e.dm a.defers->
   (∀e' a' w',gN G μ H w nt k e' a' w'->Q e' a' w')->wpListIn (Fen r) 0 P ops Q l a w:=by
 intro l
 induction l with
 | nil=>exact⟨_,rfl,fun _ _ e H k hk μ a w r Q hh he hd hq=>hq _ _ _ ⟨.normal,e,μ,H,hh,.refl,.inl he,hd,.normal,hk⟩⟩
 | cons o l ih=>
  obtain⟨f1,e1,s1⟩:=Hl (P:=P) (G:=G) o
  obtain⟨f2,e2,s2⟩:=ih
  obtain⟨fp,e3,s3⟩:=Aj nt o.dst
  have hstep:Hi P G nt ops.toList (o::l)=y4 nt ops.toList f1 o.dst f2 o.guard:=by
   show (Box.casesOn (Jk P G o) fun f=>Box.casesOn (Hi P G nt ops.toList l) fun r=>y4 nt ops.toList f o.dst r o.guard:Box Ih)=_
   rw [e1,e2]
  have go:∀{ih:Evs},gP P G ih.code->gI P G ih.call->∀(e:En) (H:Hp) (k:AEx->En->Hp->Bool),f1 ih e H (fun v H=>fp e v fun e=>f2 ih e H k) (fun v H=>k (.pan v []) e H)=true->
    ∀(μ:Mu) (a:Act) (w:World) (r:Option Nat) (Q:Exit->Act->World->Prop),HR G μ H w->fY μ e.t nt a.tmps->DmR μ e.dm a.defers->
    (∀e' a' w',gN G μ H w nt k e' a' w'->Q e' a' w')->o.wpIn (Fen r) 0 P a w (wpListIn (Fen r) 0 P ops Q l) Q:=by
   intro ih h1 h2 e H k hk μ a w r Q hh he hd hq
   obtain⟨q1,q2⟩:=s1 h1 h2 e H _ _ hk
   refine q2 r μ a w _ Q (M5 he q1) hh (fun v x μ' H' w' hv hh' hx hk'=> ?_) (fun v y μ' H' w' hv hh' hx hk'=> ?_)
   ·obtain⟨e',k1,k2,k3⟩:=s3 _ _ _ hk'
    refine s2 h1 h2 e' H' k k1 μ' _ w' r Q hh' (k3 μ' a x (he.mono hx.mu) hv) ?_ (fun _ _ _ hkp=>hq _ _ _ (hkp.after hx))
    rw [jj,k2]
    exact hd.mono hx.mu
   ·exact hq _ _ _ ⟨.pan v [],e,μ',H',hh',hx,.inl (he.mono hx.mu),hd.mono hx.mu,.pan v y [] hv,hk'⟩
  have skip:∀{ih:Evs},gP P G ih.code->gI P G ih.call->∀(e:En) (H:Hp) (k:AEx->En->Hp->Bool),(fp e (.tup []) fun e=>f2 ih e H k)=true->
    ∀(μ:Mu) (a:Act) (w:World) (r:Option Nat) (Q:Exit->Act->World->Prop),HR G μ H w->fY μ e.t nt a.tmps->DmR μ e.dm a.defers->
    (∀e' a' w',gN G μ H w nt k e' a' w'->Q e' a' w')->wpListIn (Fen r) 0 P ops Q l (a.put o.dst undef) w:=by
   intro ih h1 h2 e H k hk μ a w r Q hh he hd hq
   obtain⟨e',k1,k2,k3⟩:=s3 _ _ _ hk
   refine s2 h1 h2 e' H k k1 μ _ w r Q hh (k3 μ a undef he kT) ?_ hq
   rw [jj,k2]
   exact hd
  rw [hstep]
  unfold y4
  rw [e3]
  cases hg:o.guard with
  | none=>
   refine⟨_,rfl,fun h1 h2 e H k hk μ a w r Q hh he hd hq=> ?_⟩
   simp only [wpListIn,Region.wanted,hg,gh]
   exact go h1 h2 e H k hk μ a w r Q hh he hd hq
  | some jw=>
   obtain⟨j,wt⟩:=jw
   simp only
   cases hok:nX ops.toList (some (j,wt)) with
   | false=>exact⟨_,rfl,fun h1 h2 e H k hk=>by cases hk⟩
   | true=>
    obtain⟨fw,e4,s4⟩:=ER hg hok
    simp only [e4]
    refine⟨_,rfl,fun h1 h2 e H k hk μ a w r Q hh he hd hq=> ?_⟩
    have hw:=s4 μ e nt a he
    simp only [wpListIn,←hw]
    cases hfw:fw e with
    | false=>
     rw [hfw] at hk
     simp only [dI,eE]
     exact⟨fun f _=>dj r f,skip h1 h2 e H k hk μ a w r Q hh he hd hq⟩
    | true=>
     rw [hfw] at hk
     simp only [gh]
     exact go h1 h2 e H k hk μ a w r Q hh he hd hq
end
section
variable {P : Program} {G : bg}
def Bx (P:Program) (G:bg):Prop:=∀(nt id:Nat) (ops:Array Oper),∃f,Im P G nt ops= .mk f/\∀{ih:Evs},gP P G ih.code->gI P G ih.call->
 ∀(e:En) (H:Hp) (k:AEx->En->Hp->Bool),f ih e H k=true->∀(μ:Mu) (a:Act) (w:World) (r:Option Nat),HR G μ H w->fY μ e.t nt a.tmps->DmR μ e.dm a.defers->
  (Code.region id ops true).wpIn (Fen r) 0 P (gN G μ H w nt k) a w
def BJ (P:Program) (G:bg) (m:Nat) (code:Nat->Code->Option Nat->En->Hp->(AEx->En->Hp->Bool)->Bool):Prop:=
 ∀nt b ro e H k,code nt (.loop b) ro e H k=true->∀(μ:Mu) (a:Act) (w:World) (r:Option Nat),RoR μ ro r->HR G μ H w->fY μ e.t nt a.tmps->DmR μ e.dm a.defers->
  Code.roundsIn (Fen r) 0 P b (gN G μ H w nt k) m a w
theorem qe {F:Fence} {n:Nat} {c:Code} {Q Q':Exit->Act->World->Prop} (hq:∀e a w,Q e a w->Q' e a w):∀(m:Nat) (a:Act) (w:World),Code.roundsIn F n P c Q m a w->Code.roundsIn F n P c Q' m a w:=by
 intro m
 induction m with
 | zero=>intro a w h;exact h
 | succ m ih=>
  intro a w h
  refine Go.wpIn_mono (Q:=Exit.then (Code.roundsIn F n P c Q m) Q) h fun e a w h=> ?_
  cases e with
  | normal=>exact ih _ _ h
  | exit i=>exact hq _ _ _ h
  | goto l=>exact hq _ _ _ h
  | ret=>exact hq _ _ _ h
  | panic ch=>exact hq _ _ _ h
  | outgrown=>exact hq _ _ _ h
theorem CE {F:Fence} {n:Nat} {c:Code} {Q:Exit->Act->World->Prop} {a:Act} {w:World} (hg:∀l a w,¬Q (.goto l) a w) (h:c.wpIn F n P Q a w):(Code.scope c).wpIn F n P Q a w:=by
 intro b k cs hro hb hr
 have s1:step P (lone (b.atR a (.code (.scope c)::k)) cs w)= .next (lone (b.atR a (.code c:: .inScope c::k)) cs w):=step_lone_go (by simp [stepG,stepG.exec,Frame.atR])
 have s2:∀a w,step P (lone (b.atR a (.inScope c::k)) cs w)= .next (lone (b.atR a k) cs w):=fun a w=>step_lone_go (by simp [stepG,stepG.exec,Frame.atR])
 have h0:(lone (b.atR a (.code (.scope c)::k)) cs w).fenced P F:=fenced_calm hb hr rfl
 obtain⟨e,a₁,w₁,hq,harr⟩:=h b (.inScope c::k) cs hro hb hr
 cases e with
 | normal=>exact⟨.normal,a₁,w₁,hq,.head h0 s1 (StepsIn.trans harr (.one (fenced_calm hb hr rfl) (s2 a₁ w₁)))⟩
 | exit id=>
  refine⟨.exit id,a₁,w₁,hq,fun k' hk=>.head h0 s1 (harr.1 k' (by simp [exitTo,hk])),fun hr' hk=> ?_⟩
  obtain⟨k₁,h1,h2⟩:=harr.2 hr' (by simp [exitTo,hk])
  exact⟨k₁,h1,.head h0 s1 h2⟩
 | goto l=>exact (hg l _ _ hq).elim
 | ret=>exact⟨_,a₁,w₁,hq,.of_steps (.one h0 s1) harr⟩
 | panic ch=>exact⟨_,a₁,w₁,hq,.of_steps (.one h0 s1) harr⟩
 | outgrown=>exact⟨_,a₁,w₁,hq,.of_steps (.one h0 s1) harr⟩
theorem iA {μ:Mu} {H:Hp} {w:World} {nt:Nat} {k:AEx->En->Hp->Bool} {a:Act} {x:AEx} {e:En} {e':Exit} (hh:HR G μ H w) (he:fY μ e.t nt a.tmps) (hd:DmR μ e.dm a.defers)
  (hx:ExR μ x e') (hk:k x e H=true):gN G μ H w nt k e' a w:=⟨x,e,μ,H,hh,.refl,.inl he,hd,hx,hk⟩
theorem qC {ih:Evs} {nt:Nat} {b:Code} {ro:Option Nat} {k:AEx->En->Hp->Bool} {μ:Mu} {H:Hp} {w:World} {r:Option Nat} (hro:RoR μ ro r)
  {K:Act->World->Prop}
  (hK:∀e H',ih.code nt b ro e H' k=true->∀(μ':Mu) (a':Act) (w':World),RoR μ' ro r->HR G μ' H' w'->fY μ' e.t nt a'.tmps->DmR μ' e.dm a'.defers->Ext μ H w μ' H' w'->K a' w'):
  ∀e' a' w',gN G μ H w nt (fun x e H=>aY x (fun _=>ih.code nt b ro e H k) (fun x=>k x e H)) e' a' w'->Exit.then K (gN G μ H w nt k) e' a' w':=by
 intro e' a' w' ⟨x,e1,μ1,H1,i1,i2,i3,i4,i5,i6⟩
 cases i5 with
 | normal=>
  have i3:fY μ1 e1.t nt a'.tmps:=by
   rcases i3 with h | ⟨v,bad,h,_⟩
   ·exact h
   ·cases h
  exact hK e1 H1 i6 μ1 a' w' (hro.mono i2.mu) i1 i3 i4 i2
 | exit i=>exact⟨_,e1,μ1,H1,i1,i2,i3,i4,.exit i,i6⟩
 | ret=>exact⟨_,e1,μ1,H1,i1,i2,i3,i4,.ret,i6⟩
 | pan v y bad h=>exact⟨_,e1,μ1,H1,i1,i2,i3,i4,.pan v y bad h,i6⟩
theorem uN {l:Nat} {e:En} {H:Hp} {k:AEx->En->Hp->Bool} (hk:kE l e H k=true) {μ:Mu} {w:World} {nt:Nat} {a:Act} {r:Option Nat} {p:Pl} (hp:μ l=some p) (hh:HR G μ H w) (he:fY μ e.t nt a.tmps)
  (hd:DmR μ e.dm a.defers):∃jump w4,(Instr.endLoop p.blk).run P w= .ok jump w4/\
   (match jump with
       | none=>gN G μ H w nt k .normal a w4
       | some c=>c.wpIn (Fen r) 0 P (gN G μ H w nt k) a w4):=by
 unfold kE at hk
 split at hk
 ·rename_i st pe en nt' ps asg body d hl
  obtain⟨lp,q,g1,g2,g3,g4,g5,g6,g7,g8,g9⟩:=pp (hh.at hl hp)
  split at hk
  ·cases hk
  ·rename_i hnb
   obtain⟨hb',hk⟩:=dD hk
   have hst:lp.state≠ .busy:=by rw [g2];exact fun h=>hnb h
   have hput:HR G μ ⟨H.t.set l (some (.loop .exhausted pe en nt' ps asg body d)),H.nx⟩ (w.putObj p.blk (.loop {lp with state:= .exhausted})):=by
    refine hh.put hl nH hp hb' ?_
    have:=yr (p:=p) g4 g8 g9 g5 g6 g7 .exhausted pe
    have e1:({lp with state:= .exhausted,pending:=pe}:Loop)={lp with state:= .exhausted}:=by rw [←g3]
    rw [e1] at this
    exact this
   have hext:=gS (y:= .loop .exhausted pe en nt' ps asg body d) hh hl nH hp hb' (.loop {lp with state:= .exhausted})
   refine⟨pe,w.putObj p.blk (.loop {lp with state:= .exhausted}),by rw [run_endLoop g1 hst,g3], ?_⟩
   split at hk
   ·exact (iA (x:= .normal) hput he hd .normal hk).after hext
   ·exact wpIn_exit ((iA (x:= .exit _) hput he hd (.exit _) hk).after hext)
   ·exact wpIn_ret ((iA (x:= .ret) hput he hd .ret hk).after hext)
   ·cases hk
 ·cases hk
theorem qi {ih:Evs} (h2:gI P G ih.call) {nt:Nat} {ps:Array Tmp} {asg body:Code} {g:FuncId} {first cap:List AV} {d:Nat} {e:En} {H:Hp} {k:AEx->En->Hp->Bool}
  (hk:rL P nt ps.toList asg body g first cap ih d e H k=true) {μ:Mu} {w:World} {a:Act} {r:Option Nat} {q:Pl} (hq:μ d=some q) (hh:HR G μ H w) (he:fY μ e.t nt a.tmps)
  {fo:Operand} {first' cap':Array Value} (hfo:a.eval fo=Value.func (.func g) first' cap') (hfi:VRs μ first first'.toList) (hca:VRs μ cap cap'.toList) (mark:List Deferred) (hd:DmR μ e.dm (mark++a.defers)) (fn:FuncId):
  ∃(dd:Deferred) (w₁':World) (f:FuncId) (args:Array Value) (w₂:World),
   (resolve a.eval (rangeCall fo w.heap.size) 0).run P (w.alloc (.loop {state:= .ready,pending:=none,fn,tmps:=a.tmps,params:=ps,assign:=asg,body,defers:=q.blk}))= .ok dd w₁'/\
   (invoke dd.target dd.args).run P w₁'= .ok (.enter f args) w₂/\
   CallsIn (Fen r) 0 P f args w₂ (rangePost (Fen r) 0 P w.heap.size (gN G μ H w nt k) {a with defers:=mark++a.defers}):=by
 unfold rL at hk
 obtain⟨hnx,hk⟩:=dN hk
 rw [bH] at hk
 obtain⟨hm0,hg0⟩:=hh.none (bh _)
 have hle:=dU (b:=H.nx) ⟨w.heap.size,0,0⟩ hm0
 obtain⟨r1,x1⟩:=hh.new hnx (tot:=0) (y:= .loop .ready none e.t nt ps.toList asg body d) (o:= .loop {state:= .ready,pending:=none,fn,tmps:=a.tmps,params:=ps,assign:=asg,body,defers:=q.blk})
  ⟨fn,a.tmps,ps,q,hle.1 _ _ hq,he.mono hle,rfl,rfl⟩
 split at hk
 ·rename_i hen
  have hvs:VRs (μ.upd H.nx ⟨w.heap.size,0,0⟩) (first++[.yld H.nx]++cap) (first'++#[Value.func (.yield w.heap.size) #[] #[]]++cap').toList:=by
   rw [nJ,nJ]
   exact ((hfi.mono hle).append (.cons _ _ _ _ (.yld _ ⟨w.heap.size,0,0⟩ (bT _ _ _)) .nil)).append (hca.mono hle)
  refine⟨{target:= .fn (.func g) cap',args:=first'++#[Value.func (.yield w.heap.size) #[] #[]]},(w.alloc (.loop {state:= .ready,pending:=none,fn,tmps:=a.tmps,params:=ps,assign:=asg,body,defers:=q.blk})),g,first'++#[Value.func (.yield w.heap.size) #[] #[]]++cap',(w.alloc (.loop {state:= .ready,pending:=none,fn,tmps:=a.tmps,params:=ps,assign:=asg,body,defers:=q.blk})), ?_, ?_, ?_⟩
  ·have hc:(Act.eval a (.const (.func (.yield w.heap.size) #[] #[])))=Value.func (.yield w.heap.size) #[] #[]:=rfl
   simp only [resolve,rangeCall,hfo,Deferred.ofValue,List.map_toArray,kG,List.map_nil,hc]
   rfl
  ·exact nT hen
  ·have hc:CallsIn (Fen r) 0 P g (first'++#[Value.func (.yield w.heap.size) #[] #[]]++cap') _ (pq G _ _ _ _):=h2 g _ _ _ hk _ _ _ r1 hvs
   refine CallsIn.mono hc fun en w' ⟨x,μ',H',i1,i2,i3,i4⟩=> ?_
   have hx:=x1.trans i2
   cases i3 with
   | ret v x hv=>
    obtain⟨jump,w4,j1,j2⟩:=uN (P:=P) (r:=r) (a:={a with defers:=mark++a.defers}) i4 (i2.mu.1 _ _ (bT _ _ _)) i1 (he.mono hx.mu) (hd.mono hx.mu)
    refine⟨jump,w4,j1, ?_⟩
    cases jump with
    | none=>exact gN.after j2 hx
    | some c=>exact Go.wpIn_mono j2 fun _ _ _ h=>h.after hx
   | pan v y hv=>exact⟨.pan v [],e,μ',H',i1,hx,.inl (he.mono hx.mu),hd.mono hx.mu,.pan v y [] hv,i4⟩
 ·cases hk
end
section
variable {P : Program} {G : bg}
theorem wm {F:Fence} {n l:Nat} {Q Q':Exit->Act->World->Prop} (hq:∀e a w,Q e a w->Q' e a w) {a':Act}:∀(en:Ending) (w:World),rangePost F n P l Q a' en w->rangePost F n P l Q' a' en w:=by
 intro en w h
 cases en with
 | returned v=>
  obtain⟨jump,w4,h1,h2⟩:=h
  refine⟨jump,w4,h1, ?_⟩
  cases jump with
  | none=>exact hq _ _ _ h2
  | some c=>exact Go.wpIn_mono h2 hq
 | panicked chain=>exact hq _ _ _ h
 | outgrown=>obtain⟨a,w,h⟩:=h;exact⟨a,w,hq _ _ _ h⟩
theorem tX {ih:Evs} (h2:gI P G ih.call) {nt:Nat} {ps:Array Tmp} {asg body:Code} {fo:Operand} {ro:Option Nat} {e:En} {H:Hp} {k:AEx->En->Hp->Bool} (hop:mz fo=true)
  (hk:fG P nt ps.toList asg body (opd e fo) ih ro e H k=true) {μ:Mu} {w:World} {a:Act} {r:Option Nat} (hro:RoR μ ro r) (hh:HR G μ H w) (he:fY μ e.t nt a.tmps) (hd:DmR μ e.dm a.defers):
  (Code.rangeFunc fo ps asg body).wpIn (Fen r) 0 P (gN G μ H w nt k) a w:=by
 unfold fG at hk
 split at hk
 ·rename_i g first cap hf
  have hfv:=vV he hop
  rw [hf] at hfv
  generalize hfa:a.eval fo=fv at hfv
  cases hfv with
  | fn _ _ _ first' cap' ha hcap=>
   refine wpIn_rangeFunc fun fn _=> ?_
   split at hk
   ·
    obtain⟨hnx,hk⟩:=dN hk
    obtain⟨hm0,_⟩:=hh.none (bh _)
    have hle:=dU (b:=H.nx) ⟨w.heap.size,0,0⟩ hm0
    have hr0:r=none:=hro
    subst hr0
    obtain⟨r1,x1⟩:=hh.new hnx (tot:=0) (y:= .dfr true) (o:= .deferred (some [])) rfl
    obtain⟨dd,w1',f,args,w2,g1,g2,g3⟩:=qi (P:=P) (r:=none) h2 hk (bT _ _ _) r1 (he.mono hle) hfa (ha.mono hle) (hcap.mono hle) [{target:= .collected w.heap.size,args:=#[]}]
     ⟨⟨w.heap.size,0,0⟩,a.defers,bT _ _ _,rfl,hd.mono hle⟩ fn
    have hsz:(w.alloc (.deferred (some []))).heap.size=w.heap.size+1:=by simp
    rw [hsz] at g1 g3
    refine⟨_,_,_,dd,w1',f,args,w2,run_enterLoop_outer fn a.tmps ps asg body,g1,fun _ _=>dj _ _,g2,fun h=>by simp [Fen,Fence.wide] at h, ?_⟩
    exact CallsIn.mono g3 (wm fun _ _ _ h=>h.after x1)
   ·
    rename_i l
    obtain⟨p,hp,hr0⟩:=hro
    subst hr0
    split at hk
    ·rename_i st pe en nt' ps' asg' body' d hl
     obtain⟨lp,q,g1,g2,g3,g4,g5,g6,g7,g8,g9⟩:=pp (hh.at hl hp)
     obtain⟨dd,w1',f,args,w2,j1,j2,j3⟩:=qi (P:=P) (r:=some p.blk) h2 hk g8 hh he hfa ha hcap [] hd fn
     refine⟨w.heap.size,[],_,dd,w1',f,args,w2, ?_,j1,fun _ _=>dj _ _,j2,fun h=>by simp [Fen,Fence.wide] at h,j3⟩
     show (Instr.enterLoop fn a.tmps ps asg body (some p.blk)).run P w=_
     simp only [Instr.enterLoop,Sem.run_bind,run_getLoop g1,Result.andThen_ok,Sem.run_pure,run_newObj_alloc,g9]
    ·cases hk
 ·cases hk
theorem tF:∀{l init:List Oper} {c:Call},nN l=some (init,c)->∃o:Oper,l=init++[o]/\o.op= .defer c/\o.guard=none/\o.dst=none
 | [],_,_,h=>by cases h
 | [o],init,c,h=>by
  unfold nN at h
  dsimp only at h
  split at h
  ·rename_i c' h1 h2 h3
   cases h
   exact⟨o,rfl,h1,h2,h3⟩
  ·cases h
 | o::p::l,init,c,h=>by
  unfold nN at h
  dsimp only at h
  split at h
  ·rename_i i c' hi
   cases h
   obtain⟨o',h1,h2⟩:=tF hi
   exact⟨o',by rw [h1];rfl,h2⟩
  ·cases h
theorem Cv {F:Fence} {n:Nat} {o:Oper} {a:Act} {w:World} {K K':Act->World->Prop} {Q T:Exit->Act->World->Prop} (h:o.wpIn F n P a w K (Exit.then (T .normal) Q)):o.wpIn F n P a w K Q:=by
 unfold Oper.wpIn at *
 refine⟨h.1, ?_⟩
 have h:=h.2
 generalize (o.semAt F.round a.eval).run P w=r at *
 cases r with
 | ok x w'=>
  cases x<;>simp only [Oper.uponIn] at h⊢ <;>
   first
    | exact h
    | exact⟨h.1,CallsIn.mono h.2 (fun e w'' he=>by cases e<;>exact he)⟩
    | exact⟨h.1,RoundIn.mono h.2 (fun e w'' he=>by cases e<;>exact he)⟩
 | halt x w'=>cases x<;>simp only [Oper.uponIn] at h⊢ <;>exact h
theorem ua {F:Fence} {n:Nat} {ops:Array Oper} {Q:Exit->Act->World->Prop} {l2:List Oper}:∀(l1:List Oper) (a:Act) (w:World),
  wpListIn F n P ops (Exit.then (wpListIn F n P ops Q l2) Q) l1 a w->wpListIn F n P ops Q (l1++l2) a w:=by
 intro l1
 induction l1 with
 | nil=>intro a w h;exact h
 | cons o l ih=>
  intro a w h
  simp only [lA,wpListIn] at h⊢
  split
  ·rename_i hw
   rw [if_pos hw] at h
   exact Cv (T:=fun _=>wpListIn F n P ops Q l2) (K':=fun _ _=>True) (Oper.wpIn_mono ih h)
  ·rename_i hw
   rw [if_neg hw] at h
   exact⟨h.1,ih _ _ h.2⟩
theorem BK (nt id:Nat) (ops:Array Oper) {init:List Oper} {c:Call} (hdf:nN ops.toList=some (init,c)):∃f,Ba P G nt ops.toList init c= .mk f/\∀{ih:Evs},gP P G ih.code->gI P G ih.call->
  ∀(ro:Option Nat) (e:En) (H:Hp) (k:AEx->En->Hp->Bool),f ih ro e H k=true->∀(μ:Mu) (a:Act) (w:World) (r:Option Nat),RoR μ ro r->HR G μ H w->fY μ e.t nt a.tmps->DmR μ e.dm a.defers->
   (Code.region id ops false).wpIn (Fen r) 0 P (gN G μ H w nt k) a w:=by
 obtain⟨o,hl,hop,hg,hdst⟩:=tF hdf
 unfold Ba
 split
 ·rename_i fo hfo
  split
  ·rename_i ok1 ok2
   obtain⟨f,hf,hs⟩:=Ax (P:=P) (G:=G) nt ops init
   simp only [hf,aQ,cj]
   refine⟨_,rfl,fun h1 h2 ro e H k hk μ a w r hro hh he hd=> ?_⟩
   cases ro with
   | some l=>cases hk
   | none=>
    have hr0:r=none:=hro
    subst hr0
    refine wpIn_region_list ?_
    rw [hl]
    refine ua init a w (hs h1 h2 e H _ hk μ a w none _ hh he hd fun e' a' w' hp=> ?_)
    obtain⟨x,e1,μ1,H1,i1,i2,i3,i4,i5,i6⟩:=hp
    cases i5 with
    | normal=>
     have i3:fY μ1 e1.t nt a'.tmps:=by
      rcases i3 with h | ⟨v,bad,h,_⟩
      ·exact h
      ·cases h
     have i6:Cf (opd e1 fo) (c.args.toList.map (opd e1)) e1 H1 k=true:=i6
     unfold Cf at i6
     split at i6
     ·rename_i g first cap hfv
      rw [bH] at i6
      have hv:=vV i3 ok1
      rw [hfv] at hv
      generalize hfa:a'.eval fo=fv at hv
      cases hv with
      | fn _ _ _ first' cap' ha hcap=>
       have has:VRs μ1 (c.args.toList.map (opd e1)) (c.args.toList.map a'.eval):=kD fun x hx=>vV i3 (eI.1 ok2 x hx)
       show wpListIn (Fen none) 0 P ops _ [o] a' w'
       refine wpListIn_plain hg fun K hK=> ?_
       refine⟨fun f _=>dj none f, ?_⟩
       have hrun:(o.semAt (Fen none).round a'.eval).run P w'= .ok (.defer {target:= .fn (.func g) cap',args:=first'++c.args.map a'.eval}) w':=by
        show (execOp a'.eval o).run P w'=_
        simp only [execOp,hop,resolve,hfo,hfa,Deferred.ofValue,Sem.run_bind,Sem.run_pure,Result.andThen_ok]
       rw [hrun,Oper.uponIn_defer]
       refine hK _ _ ?_
       rw [hdst]
       refine⟨.normal,⟨e1.t,.call g (first++c.args.toList.map (opd e1)++cap)::e1.dm⟩,μ1,H1,i1,i2,.inl i3,⟨cap',_,_,rfl, ?_,i4⟩,.normal,i6⟩
       rw [nJ,nJ,ou]
       exact (ha.append has).append hcap
     ·cases i6
    | exit i=>exact⟨_,e1,μ1,H1,i1,i2,i3,i4,.exit i,i6⟩
    | ret=>exact⟨_,e1,μ1,H1,i1,i2,i3,i4,.ret,i6⟩
    | pan v y bad h=>exact⟨_,e1,μ1,H1,i1,i2,i3,i4,.pan v y bad h,i6⟩
  ·exact⟨_,rfl,fun _ _ _ _ _ _ hk=>by cases hk⟩
 ·exact⟨_,rfl,fun _ _ _ _ _ _ hk=>by cases hk⟩
theorem wO (hdraw:Bx P G) (nt:Nat) (c:Code):∃f,mO P G nt c= .mk f/\∀{ih:Evs},gP P G ih.code->gI P G ih.call->
  ∀(ro:Option Nat) (e:En) (H:Hp) (k:AEx->En->Hp->Bool),f ih ro e H k=true->∀(μ:Mu) (a:Act) (w:World) (r:Option Nat),RoR μ ro r->HR G μ H w->fY μ e.t nt a.tmps->DmR μ e.dm a.defers->
   (∀b,c≠ .loop b)->c.wpIn (Fen r) 0 P (gN G μ H w nt k) a w:=by
 cases c with
 | skip=>exact⟨_,rfl,fun _ _ ro e H k hk μ a w r hro hh he hd _=>wpIn_skip (iA hh he hd .normal hk)⟩
 | label l=>exact⟨_,rfl,fun _ _ ro e H k hk μ a w r hro hh he hd _=>wpIn_label (iA hh he hd .normal hk)⟩
 | region id ops draw=>
  cases draw with
  | false=>
   cases hdf:nN ops.toList with
   | none=>
    obtain⟨f,hf,hs⟩:=Ax (P:=P) (G:=G) nt ops ops.toList
    refine⟨fun ih _ e H k=>f ih e H k, ?_,fun h1 h2 ro e H k hk μ a w r hro hh he hd _=>wpIn_region_list (hs h1 h2 e H k hk μ a w r _ hh he hd fun _ _ _ h=>h)⟩
    simp only [mO,hdf,hf]
   | some ic=>
    obtain⟨init,c⟩:=ic
    obtain⟨f,hf,hs⟩:=BK (P:=P) (G:=G) nt id ops hdf
    refine⟨f, ?_,fun h1 h2 ro e H k hk μ a w r hro hh he hd _=>hs h1 h2 ro e H k hk μ a w r hro hh he hd⟩
    simp only [mO,hdf,hf]
  | true=>
   obtain⟨f,hf,hs⟩:=hdraw nt id ops
   refine⟨fun ih _ e H k=>f ih e H k, ?_,fun h1 h2 ro e H k hk μ a w r hro hh he hd _=>hs h1 h2 e H k hk μ a w r hh he hd⟩
   simp only [mO,hf]
 | seq x y=>
  refine⟨_,rfl,fun h1 h2 ro e H k hk μ a w r hro hh he hd _=>wpIn_seq (Go.wpIn_mono (h1 _ _ _ _ _ _ hk μ a w r hro hh he hd) (qC hro fun e1 H1 hk1 μ1 a1 w1 hro1 hh1 he1 hd1 hx=> ?_))⟩
  exact Go.wpIn_mono (h1 _ _ _ _ _ _ hk1 μ1 a1 w1 r hro1 hh1 he1 hd1) fun _ _ _ h=>h.after hx
 | cond c x y=>
  cases ho:mz c with
  | false=>exact⟨fun _ _ _ _ _=>false,by simp only [mO,ho],fun _ _ _ _ _ _ hk=>by cases hk⟩
  | true=>
   refine⟨fun ih ro e H k=>aE (opd e c) (fun _=>ih.code nt x ro e H k) (fun _=>ih.code nt y ro e H k),by simp only [mO,ho,aQ],fun h1 h2 ro e H k hk μ a w r hro hh he hd _=> ?_⟩
   have hv:=vV he ho
   unfold aE at hk
   dsimp only at hk
   split at hk
   ·rename_i hc
    rw [hc] at hv
    exact wpIn_cond_true hv.bool_inv (h1 _ _ _ _ _ _ hk μ a w r hro hh he hd)
   ·rename_i hc
    rw [hc] at hv
    exact wpIn_cond_false hv.bool_inv (h1 _ _ _ _ _ _ hk μ a w r hro hh he hd)
   ·cases hk
 | block id b=>
  refine⟨_,rfl,fun h1 h2 ro e H k hk μ a w r hro hh he hd _=>wpIn_block (Go.wpIn_mono (h1 _ _ _ _ _ _ hk μ a w r hro hh he hd) fun e' a' w' hp=> ?_)⟩
  obtain⟨x,e1,μ1,H1,i1,i2,i3,i4,i5,i6⟩:=hp
  cases i5 with
  | normal=>exact⟨.normal,e1,μ1,H1,i1,i2,i3,i4,.normal,i6⟩
  | exit i=>
   simp only [bz] at i6
   simp only [Exit.inBlock]
   have i3:fY μ1 e1.t nt a'.tmps:=by
    rcases i3 with h | ⟨v,bad,h,_⟩
    ·exact h
    ·cases h
   split at i6
   ·rename_i hi
    rw [if_pos (cw hi)]
    exact⟨.normal,e1,μ1,H1,i1,i2,.inl i3,i4,.normal,i6⟩
   ·rename_i hi
    rw [if_neg (fun h=>by subst h;simp [bW] at hi)]
    exact⟨.exit i,e1,μ1,H1,i1,i2,.inl i3,i4,.exit i,i6⟩
  | ret=>exact⟨.ret,e1,μ1,H1,i1,i2,i3,i4,.ret,i6⟩
  | pan v y bad h=>exact⟨.pan v bad,e1,μ1,H1,i1,i2,i3,i4,.pan v y bad h,i6⟩
 | loop b=>exact⟨_,rfl,fun _ _ _ _ _ _ _ _ _ _ _ _ _ _ _ hl=>absurd rfl (hl b)⟩
 | exit i=>exact⟨_,rfl,fun _ _ ro e H k hk μ a w r hro hh he hd _=>wpIn_exit (iA hh he hd (.exit i) hk)⟩
 | ret=>exact⟨_,rfl,fun _ _ ro e H k hk μ a w r hro hh he hd _=>wpIn_ret (iA hh he hd .ret hk)⟩
 | scope b=>
  refine⟨_,rfl,fun h1 h2 ro e H k hk μ a w r hro hh he hd _=>CE ?_ (h1 _ _ _ _ _ _ hk μ a w r hro hh he hd)⟩
  intro l a w ⟨x,e1,μ1,H1,i1,i2,i3,i4,i5,i6⟩
  cases i5
 | rangeFunc fo ps asg body=>
  cases ho:mz fo with
  | false=>exact⟨fun _ _ _ _ _=>false,by simp only [mO,ho],fun _ _ _ _ _ _ hk=>by cases hk⟩
  | true=>
   refine⟨fun ih ro e H k=>fG P nt ps.toList asg body (opd e fo) ih ro e H k,by simp only [mO,ho,aQ],fun h1 h2 ro e H k hk μ a w r hro hh he hd _=> ?_⟩
   exact tX h2 ho hk hro hh he hd
 | goto l=>exact⟨_,rfl,fun _ _ ro e H k hk=>by cases hk⟩
 | refuse u=>exact⟨_,rfl,fun _ _ ro e H k hk=>by cases hk⟩
theorem By {ih:Evs} (h1:gP P G ih.code) {m:Nat} (hl:BJ P G m ih.code) {nt:Nat} {b:Code} {ro:Option Nat} {e:En} {H:Hp} {k:AEx->En->Hp->Bool}
  (hk:(ih.code nt b ro e H fun x e H=>aY x (fun _=>ih.code nt (.loop b) ro e H k) (fun x=>k x e H))=true) {μ:Mu} {a:Act} {w:World} {r:Option Nat} (hro:RoR μ ro r) (hh:HR G μ H w) (he:fY μ e.t nt a.tmps)
  (hd:DmR μ e.dm a.defers):Code.roundsIn (Fen r) 0 P b (gN G μ H w nt k) (m+1) a w:=
 Go.wpIn_mono (h1 _ _ _ _ _ _ hk μ a w r hro hh he hd) (qC hro fun e1 H1 hk1 μ1 a1 w1 hro1 hh1 he1 hd1 hx=>
  qe (fun _ _ _ h=>h.after hx) m _ _ (hl _ _ _ _ _ _ hk1 μ1 a1 w1 r hro1 hh1 he1 hd1))
end
section
variable {P : Program} {G : bg}
theorem JZ {H:Hp} {t:TypeId} {x:AV} {k:AV->Bool} (hk:mw P G H t x k=true):
  ∃v,k v=true/\∀(μ:Mu) (w:World) (X:Value),HR G μ H w->VR μ x X->∃y,(do loadVar t (←asAddr X):Sem Value).run P w= .ok y w/\VR μ v y:=by
 unfold mw at hk
 split at hk
 ·rename_i b off
  split at hk
  ·rename_i _ ro cs hb
   obtain⟨v,hp,hk⟩:=iD hk
   refine⟨v,hk,fun μ w X hr hX=> ?_⟩
   obtain⟨p,hp1,rfl⟩:=hX.ptr_inv
   obtain⟨arr,el,fz,h1,h2,h3,h4,h5⟩:=hr.at hb hp1
   obtain⟨y,hy,hyv⟩:=lN (P:=P) (t:=t) h1 h5 hp
   exact⟨y,by simp [asAddr,hy,Result.andThen],hyv⟩
  ·cases hk
 ·rename_i g off
  split at hk
  ·rename_i cs hG
   obtain⟨v,hp,hk⟩:=iD hk
   refine⟨v,hk,fun μ w X hr hX=> ?_⟩
   cases hX
   obtain⟨arr,el,fz,h1,hsz,h5⟩:=hr.glob g cs hG
   obtain⟨y,hy,hyv⟩:=lN (P:=P) (t:=t) (base:=0) h1 (by simpa using h5) hp
   rw [ca] at hy
   exact⟨y,by simp [asAddr,hy,Result.andThen],hyv⟩
  ·cases hk
 ·rename_i cs off
  obtain⟨v,hp,hk⟩:=iD hk
  refine⟨v,hk,fun μ w X hr hX=> ?_⟩
  cases hX with
  | dat _ _ L hm hd=>
  cases hd with
  | ptr _ _ p arr el fz xs L g ht hl hf hx' hs=>
  have hvs:=lx hs
  obtain⟨y,hy,hyv⟩:=lN (P:=P) (t:=t) (base:=p.base) (hr.froz _ _ g) (fun i c hc=>by
   obtain⟨z,hz,hzv⟩:=hvs.get i hc
   exact⟨z,hx' i z hz,hzv⟩) hp
  exact⟨y,by simp [asAddr,hy,Result.andThen],hyv⟩
 ·cases hk
abbrev Gs (tmps:Array Value):ResultVar->Sem Value
 | .tmp t=>pure (tmps.getD t undef)
 | .cell a t=>do loadVar t (←asAddr (tmps.getD a undef))
theorem Ck {e:En} {H:Hp} {bad:List Nat}:∀{rs:List ResultVar} {k:List AV->Bool},ta P G rs e H k=true->rf bad rs=true->
  ∃vs,k vs=true/\∀(μ:Mu) (w:World) (a:Act),HR G μ H w->uK μ bad e.t a.tmps->∃xs:List Value,(rs.mapM (Gs a.tmps)).run P w= .ok xs w/\VRs μ vs xs:=by
 intro rs
 induction rs with
 | nil=>intro k h _;exact⟨[],h,fun μ w a hh he=>⟨[],by simp,.nil⟩⟩
 | cons r rs ih=>
  intro k h hok
  cases r with
  | tmp t=>
   simp only [rf] at hok
   split at hok
   ·cases hok
   rename_i hnb
   simp only [ta] at h
   split at h
   ·rename_i ht
    rw [cT] at ht
    obtain⟨vs,hk,hs⟩:=ih h hok
    refine⟨_,hk,fun μ w a hh he=> ?_⟩
    obtain⟨xs,h1,h2⟩:=hs μ w a hh he
    refine⟨a.tmps.getD t undef::xs, ?_,.cons _ _ _ _ (by rw [pd];exact he t ht hnb) h2⟩
    simp only [List.mapM_cons,Sem.run_bind,Sem.run_pure,Result.andThen_ok,h1]
   ·cases h
  | cell c t=>
   simp only [rf] at hok
   split at hok
   ·cases hok
   rename_i hnb
   simp only [ta] at h
   split at h
   ·rename_i ht
    rw [cT] at ht
    obtain⟨v,hk,hv⟩:=JZ h
    obtain⟨vs,hk,hs⟩:=ih hk hok
    refine⟨_,hk,fun μ w a hh he=> ?_⟩
    obtain⟨xs,h1,h2⟩:=hs μ w a hh he
    obtain⟨y,hy,hyv⟩:=hv μ w (a.tmps.getD c undef) hh (by rw [pd];exact he c ht hnb)
    refine⟨y::xs, ?_,.cons _ _ _ _ hyv h2⟩
    simp only [List.mapM_cons,Sem.run_bind,Sem.run_pure,Result.andThen_ok] at hy⊢
    simp only [Gs,Sem.run_bind,hy,Result.andThen_ok,h1]
   ·cases h
theorem F6 {μ:Mu} {vs:List AV} {xs:List Value} (h:VRs μ vs xs):VR μ (rA vs) (if h:xs.toArray.size=1 then xs.toArray[0] else .tuple xs.toArray):=by
 cases h with
 | nil=>simp [rA];exact .tup _ _ .nil
 | cons v x vs xs hv hs=>
  cases hs with
  | nil=>simp [rA];exact hv
  | cons v' x' vs xs hv' hs=>simp [rA];exact .tup _ _ (.cons _ _ _ _ hv (.cons _ _ _ _ hv' hs))
theorem pX:∀(rs:List ResultVar),rf [] rs=true
 | []=>rfl
 | .tmp _::rs=>pX rs
 | .cell _ _::rs=>pX rs
theorem ng {e:En} {H:Hp} {fn:Func} {bad:List Nat} {k:List AV->Bool} (h:ta P G fn.results.toList e H k=true) (hok:rf bad fn.results.toList=true):
  ∃vs,k vs=true/\∀(μ:Mu) (w:World) (a:Act),HR G μ H w->uK μ bad e.t a.tmps->∃x,(results fn a.tmps).run P w= .ok x w/\VR μ (rA vs) x:=by
 obtain⟨vs,hk,hs⟩:=Ck h hok
 refine⟨vs,hk,fun μ w a hh he=> ?_⟩
 obtain⟨xs,h1,h2⟩:=hs μ w a hh he
 refine⟨_, ?_,F6 h2⟩
 have:results fn a.tmps=(do
   let vs←fn.results.mapM (Gs a.tmps)
   pure (if h:vs.size=1 then vs[0] else .tuple vs)):=by
  unfold results
  congr 1
 rw [this]
 simp only [Array.mapM_eq_mapM_toList,Sem.run_bind,Sem.run_map,h1,Result.andThen_ok,Sem.run_pure]
theorem yV:∀{args:List AV} {i:Nat} {t:E2} {k:E2->Bool},qA args i t k=true->i+args.length<=256->
  ∃t',k t'=true/\∀j,j<256->t' j=if i<=j then (args[j - i]?).getD (t j) else t j:=by
 intro args
 induction args with
 | nil=>intro i t k h hl;exact⟨t,h,fun j hj=>by split<;>simp⟩
 | cons v args ih=>
  intro i t k h hl
  simp only [dR] at hl
  have h:(Box.casesOn (oz i) fun g=>g t v fun t=>qA args (i+1) t k:Bool)=true:=h
  rw [gH _ _ _ _ (by omega)] at h
  obtain⟨t',hk,hs⟩:=ih h (by omega)
  refine⟨t',hk,fun j hj=> ?_⟩
  rw [hs j hj]
  by_cases h1:i+1<=j
  ·rw [if_pos h1,if_pos (by omega),cM _ _ _ _ (by omega) hj (by omega)]
   obtain⟨d,rfl⟩:∃d,j=i+1+d:=⟨j - (i+1),by omega⟩
   have e1:i+1+d - (i+1)=d:=by omega
   have e2:i+1+d - i=d+1:=by omega
   rw [e1,e2,nS]
  ·rw [if_neg h1]
   by_cases h2:j=i
   ·subst h2
    rw [cY _ _ _ hj,if_pos (bh _),Nat.sub_self]
    simp
   ·rw [cM _ _ _ _ (by omega) hj h2,if_neg (by omega)]
theorem zS {args:List AV} {t:E2} {k:E2->Bool} {n:Nat} (hk:qA args 0 E2.empty k=true) (b1:args.length<=n) (b2:args.length<=256):
  ∃t,k t=true/\∀(μ:Mu) (vs:Array Value),VRs μ args vs.toList->fY μ t n (vs++Array.replicate (n - vs.size) undef):=by
 obtain⟨t,hk,ht⟩:=yV hk (by omega)
 refine⟨t,hk,fun μ vs hvs=> ?_⟩
 have hl:=hvs.length
 simp at hl
 refine⟨by simp;omega,fun j hj=> ?_⟩
 rw [ht j hj,if_pos (bN _),kC,tY]
 cases ha:args[j]? with
 | some v=>
  obtain⟨x,hx,hxv⟩:=hvs.get j ha
  have hlt:j<vs.size:=by have:=(jb.1 hx).1;simpa using this
  have:(vs++Array.replicate (n - vs.size) undef)[j]? =some x:=by
   rw [qY hlt];simpa using hx
  simpa [mV,this] using hxv
 | none=>
  have hge:args.length<=j:=List.getElem?_eq_none_iff.1 ha
  have:(vs++Array.replicate (n - vs.size) undef).getD j undef=undef:=by
   rw [mV,Array.getElem?_append_right (by omega)]
   cases hq:(Array.replicate (n - vs.size) undef)[j - vs.size]? with
   | none=>rfl
   | some y=>
    obtain⟨_,h2⟩:=ir.1 hq
    simp at h2
    simp [h2]
  rw [this]
  exact kT
def MdR (μ:Mu):Option AV->Bool->FrameMode->Prop
 | none,_,u=>u= .returning
 | some v,rc,u=>∃y,VR μ v y/\u= .panicking [{v:=y,recovered:=rc}]
theorem MdR.mono {μ μ':Mu} (hm:μ.le μ') {pv:Option AV} {rc:Bool} {u:FrameMode} (h:MdR μ pv rc u):MdR μ' pv rc u:=by
 cases pv with
 | none=>exact h
 | some v=>obtain⟨y,hv,hu⟩:=h;exact⟨y,hv.mono hm,hu⟩
theorem Ew {o:Oper} (h:GI o=true) (ρ:Operand->Value) (w:World):(execOp ρ o).run P w= .ok .recover w:=by
 unfold GI at h
 split at h
 ·rename_i c ho
  split at h
  ·rename_i hc ha
   have hargs:c.args=#[]:=by rw [←iv];simpa using ha
   simp only [execOp,ho,resolve,hc,hargs,Sem.run_bind,Sem.run_pure,Result.andThen_ok,invoke,builtin,List.map_toArray,List.map_nil]
  ·cases h
 ·cases h
theorem yI {nt:Nat} {ops:Array Oper} {c₀:Frame} {cs:List Frame} {pv:Option AV} {Q:Exit->Act->List Frame->World->Prop} {μ:Mu} {w:World}:∀(l:List Oper) (i:Nat) (rc:Bool) (e:En) (k:Bool->En->Bool) (a:Act) (u:FrameMode),
  (∀j,l[j]? =ops[i+j]?)->sY P G nt l pv rc e k=true->fY μ e.t nt a.tmps->MdR μ pv rc u->a.defers=[]->e.dm=[]->
  (∀rc' e' a' u',k rc' e'=true->fY μ e'.t nt a'.tmps->MdR μ pv rc' u'->a'.defers=[]->e'.dm=[]->Q .normal a' ({c₀ with mode:=u'}::cs) w)->
  wpOpsSIn Fence.wide 0 P ops Q (List.range' i l.length) a ({c₀ with mode:=u}::cs) w:=by
 intro l
 induction l with
 | nil=>intro i rc e k a u hl hk he hu hd hdm hq;exact hq _ _ _ _ hk he hu hd hdm
 | cons o l ih=>
  intro i rc e k a u hl hk he hu hd hdm hq
  have h0:ops[i]? =some o:=by simpa using (hl 0).symm
  have hl':∀j,l[j]? =ops[i+1+j]? :=fun j=>by have:=hl (j+1);simpa [fm,Nat.add_comm 1 j] using this
  simp only [sY] at hk
  split at hk
  ·cases hk
  ·rename_i hg
   simp only [dR,List.range'_succ,wpOpsSIn,h0,Region.wanted,hg,gh]
   refine⟨fun f _=>aW, ?_⟩
   obtain⟨fp,e3,s3⟩:=Aj nt o.dst
   split at hk
   ·rename_i hrec
    rw [Ew hrec]
    simp only
    split at hk
    ·rename_i v
     rw [e3] at hk
     obtain⟨y,hy,hu⟩:=hu
     subst hu
     obtain⟨e',k1,k2,k3⟩:=s3 _ _ _ hk
     simp only [recoverD]
     exact ih (i+1) true e' k _ (.panicking [{v:=y,recovered:=true}]) hl' k1 (k3 μ a _ he hy) ⟨y,hy,rfl⟩ (by rw [jj];exact hd) (by rw [k2];exact hdm) hq
    ·rename_i pv' rc' hno
     rw [e3] at hk
     obtain⟨e',k1,k2,k3⟩:=s3 _ _ _ hk
     have hrd:recoverD ({c₀ with mode:=u}::cs)=none:=by
      cases pv with
      | none=>have hu:u= .returning:=hu;subst hu;rfl
      | some v=>
       obtain⟨y,hy,hu⟩:=hu
       subst hu
       cases rc with
       | true=>rfl
       | false=>exact absurd rfl (hno v rfl)
     rw [hrd]
     exact ih (i+1) rc e' k _ u hl' k1 (k3 μ a _ he .nili) hu (by rw [jj];exact hd) (by rw [k2];exact hdm) hq
   ·split at hk
    ·rename_i f hc
     obtain⟨h1,h2⟩:=lB hc (fun f h=>by cases h)
     obtain⟨v,hv,hk⟩:=Gq h1 hk
     rw [e3] at hk
     obtain⟨e',k1,k2,k3⟩:=s3 _ _ _ hk
     obtain⟨x,hx,hxv⟩:=hv μ a w (M5 he h2)
     rw [hx]
     exact ih (i+1) rc e' k _ u hl' k1 (k3 μ a _ he hxv) hu (by rw [jj];exact hd) (by rw [k2];exact hdm) hq
    ·cases hk
theorem wy {ih:Evs} (h1:gP P G ih.code) {f:FuncId} {args:List AV} {pv:Option AV} {H:Hp} {k:Bool->Hp->Bool} (hk:yz P G ih f args pv H k=true) {μ:Mu} {w:World} {vs:Array Value}
  (hh:HR G μ H w) (hvs:VRs μ args vs.toList) {u:FrameMode} (hu:MdR μ pv false u) {R:Ending->FrameMode->World->Prop}
  (hR:∀v rc μ' H' w' u',HR G μ' H' w'->Ext μ H w μ' H' w'->MdR μ' pv rc u'->k rc H'=true->R (.returned v) u' w'):CallsDIn Fence.wide 0 P f vs u w R:=by
 unfold yz at hk
 split at hk
 ·rename_i fn hf
  split at hk
  ·rename_i id ops rest hc
   split at hk
   ·rename_i hb
    simp only [bX] at hb
    obtain⟨t,hk,ht⟩:=zS (t:=E2.empty) hk (dK hb.1) (dK hb.2)
    refine callsDIn_of_wpSIn hf hc aW fun c₀ cs hcu=> ?_
    refine wpSIn_seq (wpSIn_region ?_)
    have hc0:(c₀::cs)=({c₀ with mode:=u}::cs):=by rw [←hcu]
    rw [hc0,List.range_eq_range',←Array.length_toList]
    refine yI (μ:=μ) ops.toList 0 false _ _ _ u (by simp) hk (ht μ vs hvs) hu rfl rfl fun rc e' a' u' hk he hu' hd hdm=> ?_
    refine wpSIn_of_wpIn rfl ?_
    have hcode:=h1 _ _ _ _ _ _ hk μ a' w none rfl hh he (by rw [hdm];exact hd)
    refine Go.wpIn_mono hcode fun e2 a2 w2 hp=> ?_
    obtain⟨x,e1,μ1,H1,i1,i2,i3,i4,i5,i6⟩:=hp
    have fin:fY μ1 e1.t fn.ntmps a2.tmps->e1.dm=[]->ta P G fn.results.toList e1 H1 (fun _=>k rc H1)=true->
      a2.defers=[]/\∃u'',({c₀ with mode:=u'}::cs:List Frame)={c₀ with mode:=u''}::cs/\∃v,(results fn a2.tmps).run P w2= .ok v w2/\R (.returned v) u'' w2:=by
     intro j1 j2 j3
     rw [j2] at i4
     obtain⟨rs,k3,s3⟩:=ng (bad:=[]) j3 (pX _)
     obtain⟨x,r1,r2⟩:=s3 μ1 w2 a2 i1 (j1.bad [])
     exact⟨i4,u',rfl,x,r1,hR _ _ _ _ _ _ i1 i2 (hu'.mono i2.mu) k3⟩
    unfold Il at i6
    cases i5 with
    | normal=>
     have i3:fY μ1 e1.t fn.ntmps a2.tmps:=by
      rcases i3 with h | ⟨v,bad,h,_⟩
      ·exact h
      ·cases h
     cases hdm1:e1.dm with
     | nil=>rw [hdm1] at i6;exact fin i3 hdm1 i6
     | cons=>rw [hdm1] at i6;cases i6
    | ret=>
     have i3:fY μ1 e1.t fn.ntmps a2.tmps:=by
      rcases i3 with h | ⟨v,bad,h,_⟩
      ·exact h
      ·cases h
     cases hdm1:e1.dm with
     | nil=>rw [hdm1] at i6;exact fin i3 hdm1 i6
     | cons=>rw [hdm1] at i6;cases i6
    | exit i=>cases hdm1:e1.dm<;>rw [hdm1] at i6<;>cases i6
    | pan v y bad h=>cases hdm1:e1.dm<;>rw [hdm1] at i6<;>cases i6
   ·cases hk
  ·cases hk
 ·cases hk
theorem sg {ih:Evs} (h1:gP P G ih.code) {fn:Func} {tmps:Array Value} {R:Ending->World->Prop} {k:Option AV->Hp->Bool}:∀{dm:List Dm} {pv:Option AV} {H:Hp},mf P G ih dm pv H k=true->
  ∀(μ:Mu) (w:World) (ds:List Deferred) (u:FrameMode),HR G μ H w->DmR μ dm ds->MdR μ pv false u->
   (∀μ' H' w' pv' u',HR G μ' H' w'->Ext μ H w μ' H' w'->MdR μ' pv' false u'->k pv' H'=true->LeavesInM Fence.wide 0 P fn tmps R [] u' w')->LeavesInM Fence.wide 0 P fn tmps R ds u w:=by
 intro dm
 induction dm with
 | nil=>
  intro pv H h μ w ds u hh hd hu hq
  have:ds=[]:=hd
  subst this
  exact hq _ _ _ _ _ hh .refl hu h
 | cons d dm ihd=>
  intro pv H h μ w ds u hh hd hu hq
  have hur:u≠ .run:=by
   cases pv with
   | none=>rw [show u= .returning from hu];simp
   | some v=>obtain⟨y,_,hu⟩:=hu;rw [hu];simp
  cases d with
  | mark d=>
   simp only [mf] at h
   split at h
   ·rename_i hb
    obtain⟨hb',h⟩:=dD h
    obtain⟨p,r,hp,hds,hr⟩:=hd
    subst hds
    have hobj:w.heap[p.blk]? =some (.deferred (some [])):=hh.at hb hp
    have hput:=hh.put (y:= .dfr false) (o:= .deferred none) hb rfl hp hb' rfl
    have hext:=gS (y:= .dfr false) hh hb rfl hp hb' (.deferred none)
    exact⟨hur,.inl ⟨p.blk,_,rfl,run_takeDeferred hobj,ihd h μ _ r u hput hr hu fun μ' H' w' pv' u' g1 g2 g3 g4=>hq _ _ _ _ _ g1 (hext.trans g2) g3 g4⟩⟩
   ·cases h
  | call f args=>
   simp only [mf] at h
   split at h
   ·rename_i hen
    obtain⟨cap,as,r,hds,hvs,hr⟩:=hd
    subst hds
    refine⟨hur,.inr ⟨fun h=>by simp [Fence.wide] at h,.func f,cap,f,as++cap,rfl,nT hen,fun g _=>aW, ?_⟩⟩
    refine wy h1 h hh hvs hu fun v rc μ' H' w' u' g1 g2 g3 g4=> ?_
    have hu':MdR μ' (if rc then none else pv) false (settle u'):=by
     cases pv with
     | none=>
      rw [show u'= .returning from g3]
      cases rc<;>rfl
     | some x=>
      obtain⟨y,hy,hu'⟩:=g3
      subst hu'
      cases rc with
      | true=>rfl
      | false=>exact⟨y,hy,rfl⟩
    have h':mf P G ih dm (if rc then none else pv) H' k=true:=by
     cases rc with
     | true=>exact g4
     | false=>exact g4
    exact ihd h' μ' w' r _ g1 (hr.mono g2.mu) hu' fun μ2 H2 w2 pv2 u2 j1 j2 j3 j4=>hq _ _ _ _ _ j1 (g2.trans j2) j3 j4
   ·cases h
theorem nK {ih:Evs} (h1:gP P G ih.code) {f:FuncId} {args:List AV} {H:Hp} {k:fk->Hp->Bool} (hk:iZ P G ih f args H k=true) {μ:Mu} {w:World} {vs:Array Value} (hh:HR G μ H w)
  (hvs:VRs μ args vs.toList):CallsIn Fence.wide 0 P f vs w (pq G μ H w k):=by
 unfold iZ at hk
 unfold Ms at hk
 split at hk
 ·rename_i fn hf
  split at hk
  ·rename_i c hc
   have hk:(ef fn.ntmps fun nt=>
    Bool.casesOn (Nat.ble args.length nt&&Nat.ble args.length 256) false<|
    qA args 0 E2.empty fun t=>
    ih.code nt c none ⟨t,[]⟩ H (lr P G fn ih k))=true:=hk
   rw [bA] at hk
   cases hb:(Nat.ble args.length fn.ntmps&&Nat.ble args.length 256) with
   | false=>rw [hb] at hk;cases hk
   | true=>
    rw [hb] at hk
    simp only [bX] at hb
    obtain⟨t,hk,ht⟩:=zS (t:=E2.empty) hk (dK hb.1) (dK hb.2)
    have hcode:=h1 _ _ _ _ _ _ hk μ {tmps:=vs++Array.replicate (fn.ntmps - vs.size) undef,defers:=[]} w none rfl hh (ht μ vs hvs) rfl
    refine callsIn_of_wp_marks hf hc aW (Go.wpIn_mono hcode fun e' a' w' hp=> ?_)
    obtain⟨x,e1,μ1,H1,i1,i2,i3,i4,i5,i6⟩:=hp
    have fin:∀(bad:List Nat) {pv:Option AV} {u:FrameMode},uK μ1 bad e1.t a'.tmps->MdR μ1 pv false u->mf P G ih e1.dm pv H1 (fun pv H=>match pv with
      | some v=>k (.pan v) H
      | none=>match rf bad fn.results.toList with
       | true=>ta P G fn.results.toList e1 H fun vs=>k (.ret (rA vs)) H
       | false=>false)=true->LeavesInM Fence.wide 0 P fn a'.tmps (pq G μ H w k) a'.defers u w':=by
     intro bad pv u j1 j2 j3
     refine sg h1 j3 μ1 w' _ u i1 i4 j2 fun μ2 H2 w2 pv2 u2 q1 q2 q3 q4=> ?_
     cases pv2 with
     | some v=>
      obtain⟨y,hy,hu⟩:=q3
      subst hu
      exact⟨_,μ2,H2,q1,i2.trans q2,.pan v y hy,q4⟩
     | none=>
      rw [show u2= .returning from q3]
      dsimp only at q4
      split at q4
      ·rename_i hok
       obtain⟨rs,k3,s3⟩:=ng q4 hok
       obtain⟨x,r1,r2⟩:=s3 μ2 w2 a' q1 (fun t ht hb=>(j1 t ht hb).mono q2.mu)
       exact⟨x,r1,_,μ2,H2,q1,i2.trans q2,.ret _ _ r2,k3⟩
      ·cases q4
    have fin0:fY μ1 e1.t fn.ntmps a'.tmps->mf P G ih e1.dm none H1 (fun pv H=>match pv with
      | some _=>false
      | none=>ta P G fn.results.toList e1 H fun vs=>k (.ret (rA vs)) H)=true->LeavesInM Fence.wide 0 P fn a'.tmps (pq G μ H w k) a'.defers .returning w':=by
     intro j1 j3
     refine sg h1 j3 μ1 w' _ .returning i1 i4 rfl fun μ2 H2 w2 pv2 u2 q1 q2 q3 q4=> ?_
     cases pv2 with
     | some v=>cases q4
     | none=>
      rw [show u2= .returning from q3]
      obtain⟨rs,k3,s3⟩:=ng (bad:=[]) q4 (pX _)
      obtain⟨x,r1,r2⟩:=s3 μ2 w2 a' q1 (fun t ht hb=>(j1.get t ht).mono q2.mu)
      exact⟨x,r1,_,μ2,H2,q1,i2.trans q2,.ret _ _ r2,k3⟩
    unfold lr at i6
    cases i5 with
    | normal=>
     rcases i3 with h | ⟨v,bad,h,_⟩
     ·exact fin0 h i6
     ·cases h
    | ret=>
     rcases i3 with h | ⟨v,bad,h,_⟩
     ·exact fin0 h i6
     ·cases h
    | exit i=>cases i6
    | pan v y bad hv=>
     have hb:uK μ1 bad e1.t a'.tmps:=by
      rcases i3 with h | ⟨v',bad',h,h'⟩
      ·exact h.bad bad
      ·cases h;exact h'
     exact fin bad (pv:=some v) hb ⟨y,hv,rfl⟩ i6
  ·cases hk
 ·cases hk
def oQ (P:Program) (G:bg) (pr:nv):Prop:=∀f g,pr f=some g->∀args H ds d,rds 1000 H args=some ds->g ds=some d->
 ∀k:fk->Hp->Bool,al false 1000 d H (fun v H=>k (.ret v) H)=true->∀(μ:Mu) (w:World) (vs:Array Value),HR G μ H w->VRs μ args vs.toList->CallsIn Fence.wide 0 P f vs w (pq G μ H w k)
theorem QS (hdraw:Bx P G) {pr:nv} (hpr:oQ P G pr):∀N,gP P G (evs P G pr N).code/\BJ P G N (evs P G pr N).code/\gI P G (evs P G pr N).call:=by
 intro N
 induction N with
 | zero=>
  refine⟨?_, ?_, ?_⟩
  ·intro nt c ro e H k h;cases h
  ·intro nt c ro e H k h;cases h
  ·intro f a H k h;cases h
 | succ N ih=>
  obtain⟨h1,hl,h2⟩:=ih
  have hloop:BJ P G (N+1) (evs P G pr (N+1)).code:=fun nt b ro e H k hk μ a w r hro hh he hd=>By h1 hl (b:=b) hk hro hh he hd
  refine⟨fun nt c ro e H k hk μ a w r hro hh he hd=> ?_,hloop,fun f args H k hk μ w vs hh hvs=> ?_⟩
  ·by_cases hc:∃b,c= .loop b
   ·obtain⟨b,rfl⟩:=hc
    exact wpIn_loop_rounds _ (hloop nt b ro e H k hk μ a w r hro hh he hd)
   ·obtain⟨f,hf,hs⟩:=wO (P:=P) (G:=G) hdraw nt c
    have hk:(Box.casesOn (mO P G nt c) fun f=>f (evs P G pr N) ro e H k:Bool)=true:=hk
    rw [hf] at hk
    exact hs h1 h2 ro e H k hk μ a w r hro hh he hd (fun b h=>hc ⟨b,h⟩)
  ·have hk:vZ P G pr (evs P G pr N) f args H k=true:=hk
   unfold vZ at hk
   split at hk
   ·exact nK h1 hk hh hvs
   ·rename_i g hg
    split at hk
    ·rename_i ds hds
     split at hk
     ·rename_i d hd
      exact hpr f g hg args H ds d hds hd k hk μ w vs hh hvs
     ·exact nK h1 hk hh hvs
    ·exact nK h1 hk hh hvs
end
theorem sH {m s:Nat} (h:HL m s=true):∀j,m.testBit j=true->s.testBit j=true:=by
 intro j hj
 have h:=cw h
 have h:m&&& s=m:=h
 rw [←h,Nat.testBit_and] at hj
 simp at hj
 exact hj.2
theorem ig {i j:Nat}:(qK i).testBit j=true↔i=j:=by
 show (2 ^i).testBit j=true↔_
 rw [Nat.testBit_two_pow];simp
theorem fO {a b j:Nat}:(Nat.lor a b).testBit j=true↔a.testBit j=true∨b.testBit j=true:=by
 show (a||| b).testBit j=true↔_
 rw [Nat.testBit_or];simp
theorem rp {n j:Nat}:(Nat.sub (qK n) 1).testBit j=true↔j<n:=by
 show (2 ^n - 1).testBit j=true↔_
 rw [Nat.testBit_two_pow_sub_one];simp
section
variable {P : Program} {G : bg}
theorem E1 {os:List Oper} {as:List Nat} {k:Nat} {it:It} (h:it∈xz os as k):∃j,os[j]? =some it.o/\it.i=k+j:=by
 induction os generalizing as k with
 | nil=>simp [xz] at h
 | cons o os ih=>
  cases as with
  | nil=>simp [xz] at h
  | cons a as=>
   simp only [xz,cy] at h
   rcases h with rfl | h
   ·exact⟨0,by simp,rfl⟩
   ·obtain⟨j,h1,h2⟩:=ih h
    exact⟨j+1,by simpa using h1,by omega⟩
theorem pJ {ops:Array Oper} {it:It} (h:it∈its ops):ops[it.i]? =some it.o:=by
 obtain⟨j,h1,h2⟩:=E1 h
 rw [h2,ca]
 simpa using h1
theorem Fv {l:List It} {it:It} {b:Bool} (h:(it,b)∈zL P G l):it∈l:=by
 induction l with
 | nil=>cases h
 | cons x l ih=>
  simp only [zL,cy] at h
  rcases h with h | h
  ·injection h with h _;subst h;exact cE
  ·exact co _ (ih h)
theorem HZ {mm d:Nat} {l:List (It×Bool)} {it:It} (h:it∈A9 mm d l):∃b,(it,b)∈l:=by
 induction l with
 | nil=>cases h
 | cons x l ih=>
  obtain⟨y,b⟩:=x
  have up:it∈A9 mm d l->∃b',(it,b')∈(y,b)::l:=fun h=>let ⟨b',hb⟩:=ih h;⟨b',co _ hb⟩
  cases b with
  | true=>exact up h
  | false=>
   simp only [A9] at h
   split at h
   ·rcases cy.1 h with rfl | h
    ·exact⟨false,cE⟩
    ·exact up h
   ·exact up h
theorem xm {mm d:Nat} {l:List (It×Bool)} {x:It×Bool} (h:x∈vP mm d l):x∈l:=by
 induction l with
 | nil=>cases h
 | cons y l ih=>
  obtain⟨y,b⟩:=y
  cases b with
  | true=>
   rcases cy.1 h with rfl | h
   ·exact cE
   ·exact co _ (ih h)
  | false=>
   simp only [vP] at h
   split at h
   ·exact co _ (ih h)
   ·rcases cy.1 h with rfl | h
    ·exact cE
    ·exact co _ (ih h)
theorem Ef {mm d:Nat} {l:List (It×Bool)} {it:It} (h:AK mm d l=some it):∃b,(it,b)∈l:=by
 induction l with
 | nil=>cases h
 | cons y l ih=>
  obtain⟨y,b⟩:=y
  cases b with
  | true=>
   simp only [AK] at h
   split at h
   ·cases h;exact⟨true,cE⟩
   ·obtain⟨b',hb⟩:=ih h;exact⟨b',co _ hb⟩
  | false=>obtain⟨b',hb⟩:=ih h;exact⟨b',co _ hb⟩
theorem Bt {i:Nat} {l:List (It×Bool)} {x:It×Bool} (h:x∈vH i l):x∈l:=by
 induction l with
 | nil=>cases h
 | cons y l ih=>
  obtain⟨y,b⟩:=y
  simp only [vH] at h
  split at h
  ·exact co _ (ih h)
  ·rcases cy.1 h with rfl | h
   ·exact cE
   ·exact co _ (ih h)
theorem Bq {mm:Nat}:∀{f:Nat} {l:List (It×Bool)} {d:Nat} {it:It},it∈yF mm f l d->∃b,(it,b)∈l:=by
 intro f
 induction f with
 | zero=>intro l d it h;cases h
 | succ f ih=>
  intro l d it h
  simp only [yF,dF] at h
  rcases h with h | h
  ·exact HZ h
  ·split at h
   ·rename_i y hy
    rcases cy.1 h with rfl | h
    ·obtain⟨b,hb⟩:=Ef hy;exact⟨b,xm hb⟩
    ·obtain⟨b,hb⟩:=ih h;exact⟨b,xm (Bt hb)⟩
   ·cases h
theorem tr {ops:Array Oper} {it:It} (h:it∈canon P G ops):it∈its ops:=by
 obtain⟨b,hb⟩:=Bq h
 exact Fv hb
theorem io {n:Nat} {it:It} {C2:List It}:∀{C1:List It} {seen mm:Nat},lz P G n (C1++it::C2) seen mm=true->
  (∀j,it.anc.testBit j=true->seen.testBit j=true∨∃y∈C1,y.i=j)/\(seen.testBit it.i=false/\∀y∈C1,y.i≠it.i)/\
  (∀j,mm.testBit j=true->it.anc.testBit j=true)/\(∀h∈C1,itM P G h=true->it.anc.testBit h.i=true):=by
 intro C1
 induction C1 with
 | nil=>
  intro seen mm h
  simp only [gv,lz] at h
  split at h
  ·rename_i h1 h2 h3
   exact⟨fun j hj=>.inl (sH h1 j hj),⟨h2,fun y hy=>by cases hy⟩,fun j hj=>sH h3 j hj,fun y hy=>by cases hy⟩
  ·cases h
 | cons x C1 ih=>
  intro seen mm h
  simp only [lA,lz] at h
  split at h
  ·rename_i h1 h2 h3
   obtain⟨g1,g2,g3,g4⟩:=ih h
   refine⟨fun j hj=> ?_,⟨?_,fun y hy=> ?_⟩,fun j hj=> ?_,fun y hy hm=> ?_⟩
   ·rcases g1 j hj with h | ⟨y,hy,hyj⟩
    ·rw [fO,ig] at h
     rcases h with h | h
     ·exact .inl h
     ·exact .inr ⟨x,cE,h⟩
    ·exact .inr ⟨y,co _ hy,hyj⟩
   ·rw [←fW] at g2⊢
    intro hs
    exact g2.1 (fO.2 (.inl hs))
   ·rcases cy.1 hy with rfl | hy
    ·intro e
     have:=g2.1
     rw [←fW] at this
     exact this (fO.2 (.inr (ig.2 e)))
    ·exact g2.2 y hy
   ·refine g3 j ?_
    split
    ·exact fO.2 (.inl hj)
    ·exact hj
   ·rcases cy.1 hy with rfl | hy
    ·refine g3 _ ?_
     rw [hm]
     exact fO.2 (.inr (ig.2 rfl))
    ·exact g4 y hy hm
  ·cases h
theorem AO {n:Nat}:∀{C:List It} {seen mm:Nat},lz P G n C seen mm=true->∀j,j<n->seen.testBit j=true∨∃y∈C,y.i=j:=by
 intro C
 induction C with
 | nil=>
  intro seen mm h j hj
  simp only [lz] at h
  rw [cw h]
  exact .inl (rp.2 hj)
 | cons x C ih=>
  intro seen mm h j hj
  simp only [lz] at h
  split at h
  ·rcases ih h j hj with h | ⟨y,hy,hyj⟩
   ·rw [fO,ig] at h
    rcases h with h | h
    ·exact .inl h
    ·exact .inr ⟨x,cE,h⟩
   ·exact .inr ⟨y,co _ hy,hyj⟩
  ·cases h
theorem wB {all:List Oper} {it:It} {C2:List It}:∀{C1 pre:List It},pQ all pre (C1++it::C2)=true->∀t∈looks all it.o,
  (∀y∈pre++C1,y.o.dst=some t->it.anc.testBit y.i=true)/\(∀y∈C2,y.o.dst=some t->y.anc.testBit it.i=true):=by
 have hd:∀{t:Nat} {o:Oper},o.dst=some t->lg t o=true:=fun h=>by simp [lg,h,bW]
 intro C1
 induction C1 with
 | nil=>
  intro pre h t ht
  simp only [gv,pQ,bX,eI] at h
  obtain⟨h1,h2⟩:=h.1 t ht
  refine⟨fun y hy hyd=> ?_,fun y hy hyd=> ?_⟩
  ·have:=h1 y (by simpa using hy)
   rw [hd hyd] at this
   simpa using this
  ·have:=h2 y hy
   rw [hd hyd] at this
   simpa using this
 | cons x C1 ih=>
  intro pre h t ht
  simp only [lA,pQ,bX] at h
  obtain⟨g1,g2⟩:=ih h.2 t ht
  refine⟨fun y hy hyd=>g1 y ?_ hyd,g2⟩
  simp only [dF,cy] at hy⊢
  rcases hy with h | rfl | h
  ·exact .inl (.inr h)
  ·exact .inl (.inl rfl)
  ·exact .inr h
theorem qP {it:It} {C2:List It} {d:Nat} (hd:it.o.dst=some d):∀{C1:List It},sZ (C1++it::C2)=true->(∀y∈C1,y.o.dst≠some d)/\(∀y∈C2,y.o.dst≠some d):=by
 intro C1
 induction C1 with
 | nil=>
  intro h
  simp only [gv,sZ,hd,bX,eI] at h
  refine⟨fun y hy=>(by cases hy),fun y hy hyd=> ?_⟩
  have:=h.1 y hy
  simp [lg,hyd,bW] at this
 | cons x C1 ih=>
  intro h
  simp only [lA,sZ,bX] at h
  obtain⟨g1,g2⟩:=ih h.2
  refine⟨fun y hy=> ?_,g2⟩
  rcases cy.1 hy with rfl | hy
  ·intro hyd
   rw [hyd] at h
   have:=eI.1 h.1 it (by simp)
   simp [lg,hd,bW] at this
  ·exact g1 y hy
theorem EZ {j k:Nat} {l:List It} (h:(zE j l).testBit k=true):∃x∈l,x.i=j/\x.anc.testBit k=true:=by
 induction l with
 | nil=>simp [zE] at h
 | cons x l ih=>
  simp only [zE] at h
  split at h
  ·rename_i hx;exact⟨x,cE,cw hx,h⟩
  ·obtain⟨y,h1,h2⟩:=ih h;exact⟨y,co _ h1,h2⟩
theorem zW {l:List It} {k:Nat}:∀{es:List Edge} {s:Nat},(rN l es s).testBit k=true->
  s.testBit k=true∨∃e∈es,Region.binds .any e=true/\(e.on=k∨∃x∈l,x.i=e.on/\x.anc.testBit k=true):=by
 intro es
 induction es with
 | nil=>intro s h;exact .inl h
 | cons e es ih=>
  intro s h
  simp only [rN] at h
  split at h
  ·rename_i hb
   rcases ih h with h | ⟨e',h1,h2⟩
   ·rw [fO,fO,ig] at h
    rcases h with h | h | h
    ·exact .inl h
    ·exact .inr ⟨e,cE,hb,.inl h⟩
    ·exact .inr ⟨e,cE,hb,.inr (EZ h)⟩
   ·exact .inr ⟨e',co _ h1,h2⟩
  ·rcases ih h with h | ⟨e',h1,h2⟩
   ·exact .inl h
   ·exact .inr ⟨e',co _ h1,h2⟩
theorem BZ {md:Region.Mode} {k:Nat}:∀{es:List Edge} {s:Nat},((qG md es s).testBit k=true↔s.testBit k=true∨∃e∈es,Region.binds md e=true/\e.on=k):=by
 intro es
 induction es with
 | nil=>intro s;simp [qG]
 | cons e es ih=>
  intro s
  simp only [qG]
  split
  ·rename_i hb
   rw [ih,fO,ig]
   constructor
   ·rintro ((h | h)| ⟨e',h1,h2⟩)
    ·exact .inl h
    ·exact .inr ⟨e,cE,hb,h⟩
    ·exact .inr ⟨e',co _ h1,h2⟩
   ·rintro (h | ⟨e',h1,h2,h3⟩)
    ·exact .inl (.inl h)
    ·rcases cy.1 h1 with rfl | h1
     ·exact .inl (.inr h3)
     ·exact .inr ⟨e',h1,h2,h3⟩
  ·rename_i hb
   rw [ih]
   constructor
   ·rintro (h | ⟨e',h1,h2⟩)
    ·exact .inl h
    ·exact .inr ⟨e',co _ h1,h2⟩
   ·rintro (h | ⟨e',h1,h2,h3⟩)
    ·exact .inl h
    ·rcases cy.1 h1 with rfl | h1
     ·rw [h2] at hb;cases hb
     ·exact .inr ⟨e',h1,h2,h3⟩
theorem wI {T:Nat->Prop}:∀{l:List (Nat×Nat)} {s:Nat},(∀j,s.testBit j=true->T j)->(∀j,(o6 l s).testBit j=true->T j)∨∃x∈l,¬T x.1/\∀j,x.2.testBit j=true->T j:=by
 intro l
 induction l with
 | nil=>intro s h;exact .inl h
 | cons x l ih=>
  intro s h
  obtain⟨i,m⟩:=x
  simp only [o6]
  split
  ·rename_i hm
   by_cases hT:T i
   ·have h':∀j,(Nat.lor s (qK i)).testBit j=true->T j:=fun j hj=>by
     rw [fO,ig] at hj
     rcases hj with hj | rfl
     ·exact h j hj
     ·exact hT
    rcases ih h' with h | ⟨x,h1,h2⟩
    ·exact .inl h
    ·exact .inr ⟨x,co _ h1,h2⟩
   ·exact .inr ⟨(i,m),cE,hT,fun j hj=>h j (sH hm j hj)⟩
  ·rcases ih h with h | ⟨x,h1,h2⟩
   ·exact .inl h
   ·exact .inr ⟨x,co _ h1,h2⟩
theorem zK {T:Nat->Prop} {full:Nat} {l:List (Nat×Nat)} (hT:∃j,full.testBit j=true/\¬T j):∀{f s:Nat},oL full l f s=true->(∀j,s.testBit j=true->T j)->∃x∈l,¬T x.1/\∀j,x.2.testBit j=true->T j:=by
 intro f
 induction f with
 | zero=>
  intro s h hs
  simp only [oL] at h
  have h:=cw h
  subst h
  obtain⟨j,h1,h2⟩:=hT
  exact absurd (hs j h1) h2
 | succ f ih=>
  intro s h hs
  simp only [oL] at h
  split at h
  ·rename_i hq
   have hq:=cw hq
   subst hq
   obtain⟨j,h1,h2⟩:=hT
   exact absurd (hs j h1) h2
  ·rw [bA] at h
   rcases wI hs with h' | h'
   ·exact ih h h'
   ·exact h'
theorem Es {md:Region.Mode} {l:List It} {x:Nat×Nat} (h:x∈xu md l):∃it∈l,x=(it.i,qG md it.o.after.toList 0):=by
 induction l with
 | nil=>cases h
 | cons y l ih=>
  rcases cy.1 h with rfl | h
  ·exact⟨y,cE,rfl⟩
  ·obtain⟨it,h1,h2⟩:=ih h;exact⟨it,co _ h1,h2⟩
def Rj (md:Region.Mode) (ops:Array Oper):Prop:=∀listed:Array Bool,listed.size=ops.size->(∃j,j<ops.size/\listed.getD j false=false)->Region.ready md ops listed≠[]
theorem uH {md md':Region.Mode} {ops:Array Oper} (hmd:∀e,Region.binds md' e=true->Region.binds md e=true) (h:oL (Nat.sub (qK ops.size) 1) (xu md (its ops)) (ops.size+1) 0=true):Rj md' ops:=by
 intro listed hsz ⟨j,hj,hjl⟩
 obtain⟨x,h1,h2,h3⟩:=zK (T:=fun i=>listed.getD i false=true) ⟨j,rp.2 hj,by rw [hjl];simp⟩ h (fun j hj=>by simp at hj)
 obtain⟨it,h4,rfl⟩:=Es h1
 have ho:=pJ h4
 have hlt:it.i<ops.size:=(ir.1 ho).1
 have:it.i∈Region.ready md' ops listed:=by
  rw [mem_ready]
  refine⟨?_,it.o,ho,fun e he hb=>h3 e.on ?_⟩
  ·have h2:listed.getD it.i false≠true:=h2
   have hlt':it.i<listed.size:=by omega
   simp [Array.getD,hlt'] at h2⊢
   exact h2
  ·exact BZ.2 (.inr ⟨e,by simpa using he,hmd e hb,rfl⟩)
 intro hn
 rw [hn] at this
 cases this
theorem wU {md:Region.Mode} {e:Edge} (h:Region.binds .any e=true):Region.binds md e=true:=by
 unfold Region.binds at h⊢
 split at h
 ·cases h
 ·cases h
 ·rfl
end
def unb {α:Type} (b:Box α):α:=Box.casesOn b fun a=>a
theorem DW {α β:Type} (b:Box α) (F:α->β):(Box.casesOn b F:β)=F (unb b):=by cases b;rfl
section
variable {P : Program} {G : bg}
noncomputable def Dn (P:Program) (G:bg) (nt:Nat) (all:List Oper) (l:List It):uL:=unb (wd P G (gL all) nt all l)
theorem Qk {nt:Nat} {all:List Oper} {ih:Evs} {e:En} {H:Hp} {L:fR} {Q:fT} {k:AEx->En->Hp->Bool}:Dn P G nt all [] ih e H L Q k=cG Q H fun H=>k .normal e H:=rfl
theorem Dg {nt:Nat} {all:List Oper} {it:It} {l:List It}:Dn P G nt all (it::l)=unb (pg P G (gL all) nt all it (Dn P G nt all l)):=by
 unfold Dn
 have:wd P G (gL all) nt all (it::l)=(Box.casesOn (wd P G (gL all) nt all l) fun r=>pg P G (gL all) nt all it r:Box uL):=rfl
 rw [this,DW]
theorem Dw {nt:Nat} {all:List Oper} {it:It} {l:List It} (hg:it.o.guard=none):Dn P G nt all (it::l)=qO (gL all) it.i it.anc (unb (oN nt it.o.dst)) (Dn P G nt all l) (opK P G it.o):=by
 rw [Dg]
 unfold pg
 cases hp:oN nt it.o.dst with
 | mk put=>simp only [hg];rfl
theorem Db {nt:Nat} {all:List Oper} {it:It} {l:List It} {j:Nat} {wt:Bool} (hg:it.o.guard=some (j,wt)) {ih:Evs} {e:En} {H:Hp} {L:fR} {Q:fT} {k:AEx->En->Hp->Bool}
  (h:Dn P G nt all (it::l) ih e H L Q k=true):nX all (some (j,wt))=true/\
   ((unb (ry all j wt) e=false/\(unb (oN nt it.o.dst) e (.tup []) fun e=>Dn P G nt all l ih e H L Q k)=true)∨
       (unb (ry all j wt) e=true/\qO (gL all) it.i it.anc (unb (oN nt it.o.dst)) (Dn P G nt all l) (opK P G it.o) ih e H L Q k=true)):=by
 rw [Dg] at h
 unfold pg at h
 cases hp:oN nt it.o.dst with
 | mk put=>
 simp only [hp,hg] at h
 cases hok:nX all (some (j,wt)) with
 | false=>rw [hok] at h;cases h
 | true=>
  rw [hok] at h
  cases hwb:ry all j wt with
  | mk want=>
  simp only [hwb] at h
  refine⟨rfl, ?_⟩
  have h:(Bool.casesOn (want e) (put e (.tup []) fun e=>Dn P G nt all l ih e H L Q k)
   (qO (gL all) it.i it.anc put (Dn P G nt all l) (opK P G it.o) ih e H L Q k):Bool)=true:=h
  show (want e=false/\(put e (.tup []) fun e=>Dn P G nt all l ih e H L Q k)=true)∨(want e=true/\qO (gL all) it.i it.anc put (Dn P G nt all l) (opK P G it.o) ih e H L Q k=true)
  cases hw:want e with
  | false=>rw [hw] at h;exact .inl ⟨rfl,h⟩
  | true=>rw [hw] at h;exact .inr ⟨rfl,h⟩
theorem pI {nt:Nat} {dst:Option Tmp} {e:En} {v:AV} {k:En->Bool} (h:unb (oN nt dst) e v k=true):
  ∃e',k e'=true/\e'.dm=e.dm/\(∀t,t<256->e'.t t=if dst=some t then v else e.t t)/\(∀d,dst=some d->d<nt/\d<256):=by
 unfold oN at h
 cases dst with
 | none=>exact⟨e,h,rfl,fun t ht=>by simp,fun d hd=>by cases hd⟩
 | some d=>
  simp only at h
  split at h
  ·rename_i h1 h2
   rw [cT] at h1 h2
   obtain⟨t0,dm⟩:=e
   have he:(Box.casesOn (oz d) fun g=>g t0 v fun t=>k ⟨t,dm⟩:Bool)=true:=by
    cases hb:oz d with
    | mk g=>rw [hb] at h;exact h
   rw [gH _ _ _ _ h2] at he
   refine⟨_,he,rfl,fun t ht=> ?_,fun d' hd=>by cases hd;exact⟨h1,h2⟩⟩
   by_cases e1:d=t
   ·subst e1
    show (E2.set t0 d v) d=_
    rw [cY _ _ _ h2];simp
   ·show (E2.set t0 d v) t=_
    rw [cM _ _ _ _ h2 ht (Ne.symm e1),if_neg (by simpa using e1)]
  ·cases h
def sx (μ:Mu) (e:En) (a:Act) (o:Oper) (all:List Oper):Prop:=∀t∈looks all o,t<256->VR μ (e.t t) (a.tmps.getD t undef)
theorem sx.opd {μ:Mu} {e:En} {a:Act} {o:Oper} {all:List Oper} (h:sx μ e a o all) (ho:∀x∈o.op.operands.toList,mz x=true):mF μ e a o:=by
 intro x hx
 have hok:=ho x hx
 cases x with
 | tmp t=>
  rw [pd]
  refine h t ?_ (by simpa [mz,cT] using hok)
  unfold looks
  exact gR _ (List.mem_filterMap.2 ⟨.tmp t,hx,rfl⟩)
 | const v=>exact G0 hok
 | global g=>exact .gptr g 0
 | func f=>exact .fn _ _ _ _ _ .nil .nil
theorem tm {ops:Array Oper} {o:Oper} {j:Nat} {w:Bool} (hg:o.guard=some (j,w)) (hok:nX ops.toList (some (j,w))=true) {μ:Mu} {e:En} {a:Act} (h:sx μ e a o ops.toList):
  unb (ry ops.toList j w) e=Region.wanted o (yielded ops a.tmps):=by
 unfold ry
 unfold nX at hok
 simp only [Region.wanted,hg,yielded]
 simp only [Array.getElem?_toList] at hok⊢
 cases hj:ops[j]? with
 | none=>simp [unb]
 | some oj=>
  simp only [hj] at hok⊢
  cases hd:oj.dst with
  | none=>simp [hd,unb]
  | some d=>
   simp only [hd] at hok⊢
   simp only [hok,aQ]
   rw [cT] at hok
   have h1:=h d (by
    unfold looks
    refine kz _ ?_
    simp [hg,hj,hd]) hok
   show gD w (opd e (.tmp d))=_
   rw [pd]
   simp only [uA,hd]
   cases hx:a.tmps[d]? with
   | none=>
    have:a.tmps.getD d undef=undef:=by simp [mV,hx]
    rw [this] at h1
    generalize e.t d=v at h1
    cases v with
    | dat d=>rcases h1.dat_inv with⟨_,h⟩| ⟨_,_,_,h⟩| ⟨_,h⟩<;>cases h
    | _=>simp [gD]<;>cases h1
   | some x=>
    have:a.tmps.getD d undef=x:=by simp [mV,hx]
    rw [this] at h1
    generalize e.t d=v at h1
    cases v with
    | dat d=>rcases h1.dat_inv with⟨_,rfl⟩| ⟨_,_,_,rfl⟩| ⟨_,rfl⟩<;>simp [gD]
    | bool b=>cases h1;cases b<;>cases w<;>rfl
    | _=>cases h1<;>simp [gD]
def wi (P:Program) (G:bg) (ops:Array Oper) (it:It) (e:En) (H:Hp) (v:AV):Prop:=
 ∀(μ:Mu) (a:Act) (w:World),sx μ e a it.o ops.toList->HRg G μ H w->
  (Region.wanted it.o (yielded ops a.tmps)=false/\v= .tup [])∨
  (Region.wanted it.o (yielded ops a.tmps)=true/\(∀c,it.o.op≠ .defer c)/\∃x,(execOp a.eval it.o).run P w= .ok (.value x) w/\VR μ v x)
def Cm (P:Program) (ops:Array Oper) (it:It) (e:En) (v:AV) (blk:Blk) (b:Nat):Prop:=
 ∀(μ:Mu) (a:Act) (w:World),sx μ e a it.o ops.toList->
  Region.wanted it.o (yielded ops a.tmps)=true/\(∀c,it.o.op≠ .defer c)/\∃(obj:Obj) (x:Value) (tot:Nat),(execOp a.eval it.o).run P w= .ok (.value x) (w.alloc obj)/\
   (μ b=none->BR (μ.upd b ⟨w.heap.size,0,tot⟩) ⟨w.heap.size,0,tot⟩ blk (some obj)/\VR (μ.upd b ⟨w.heap.size,0,tot⟩) v x)
inductive Lays:fT->Hp->Hp->Prop where
 | nil (H):Lays [] H H
 | cons (i b blk Q H H') (hb:True) (h:Lays Q ⟨H.t.set b (some blk),H.nx⟩ H'):Lays ((i,b,blk)::Q) H H'
theorem Bc {Q:fT} {H:Hp} {k:Hp->Bool} (h:cG Q H k=true):∃H',Lays Q H H'/\k H'=true:=by
 induction Q generalizing H with
 | nil=>exact⟨H,.nil H,h⟩
 | cons x Q ih=>
  obtain⟨i,b,blk⟩:=x
  have h:(H.put b (some blk) fun H=>cG Q H k)=true:=h
  obtain⟨hb,h⟩:=dD h
  obtain⟨H',h1,h2⟩:=ih h
  exact⟨H',.cons _ _ _ _ _ _ hb h1,h2⟩
theorem BG {anc:Nat} {Q:fT} {H:Hp} {k:fT->Hp->Bool} (h:bF anc Q H k=true):
  ∃H',Lays (Q.filter fun x=>anc.testBit x.1) H H'/\k (Q.filter fun x=> !anc.testBit x.1) H'=true:=by
 induction Q generalizing H k with
 | nil=>exact⟨H,.nil H,h⟩
 | cons x Q ih=>
  obtain⟨i,b,blk⟩:=x
  simp only [bF] at h
  split at h
  ·rename_i hi
   obtain⟨hb,h⟩:=dD h
   obtain⟨H',h1,h2⟩:=ih h
   refine⟨H', ?_, ?_⟩
   ·rw [rT (by simpa using hi)];exact .cons _ _ _ _ _ _ hb h1
   ·rw [sj (by simpa using hi)];exact h2
  ·rename_i hi
   obtain⟨H',h1,h2⟩:=ih h
   refine⟨H', ?_, ?_⟩
   ·rw [sj (by simpa using hi)];exact h1
   ·rw [rT (by simpa using hi)];exact h2
def EY (G:bg) (μ:Mu) (H:Hp) (w0 w:World) (b:Nat) (blk:Blk):Prop:=
 ∃p,μ b=some p/\BR μ p blk w.heap[p.blk]? /\w0.heap.size<=p.blk/\(∀c z q,H.get c=some z->μ c=some q->q.blk≠p.blk)/\((∀g cs,G g=some cs->p.blk≠g)/\μ.z p.blk=none)
theorem vd {μ μ0:Mu} {H0:Hp} {w0 w:World}:∀{Q:fT} {H H':Hp},Lays Q H H'->HR G μ H w->Ext μ0 H0 w0 μ H w->(∀x∈Q,H0.nx<=x.2.1/\x.2.1<H.nx/\H.get x.2.1=none/\EY G μ H w0 w x.2.1 x.2.2)->
  (Q.map (·.2.1)).Nodup->(∀x∈Q,∀y∈Q,∀p q,μ x.2.1=some p->μ y.2.1=some q->p.blk=q.blk->x.2.1=y.2.1)->
  HR G μ H' w/\Ext μ0 H0 w0 μ H' w/\H'.nx=H.nx/\(∀c,(∀x∈Q,x.2.1≠c)->H'.get c=H.get c)/\(∀c z,H'.get c=some z->H.get c=some z∨∃x∈Q,x.2.1=c):=by
 intro Q
 induction Q with
 | nil=>intro H H' hl hh hx _ _ _;cases hl;exact⟨hh,hx,rfl,fun _ _=>rfl,fun c z h=>.inl h⟩
 | cons x Q ih=>
  intro H H' hl hh hx hq hn hs
  cases hl with
  | cons i b blk _ _ _ hb hl=>
   obtain⟨q1,q2,q3,p,q4,q5,q6,q7,q8⟩:=hq (i,b,blk) cE
   simp only [kG,jL,lF] at hn
   have hne:∀y∈Q,y.2.1≠b:=fun y hy e=>hn.1 ⟨y,hy,e⟩
   have hh':=hh.lay hb q4 q5 q7 q8.1 fun _=>q8.2
   have hget:∀c,c≠b->(⟨H.t.set b (some blk),H.nx⟩:Hp).get c=H.get c:=fun c hc=>cu (nx':=H.nx) hb hc
   have hx':Ext μ0 H0 w0 μ ⟨H.t.set b (some blk),H.nx⟩ w:=by
    refine⟨hx.mu,hx.below,fun c hc hg=> ?_,hx.nx,hx.size,hx.keep,fun c z r hc hr=> ?_,hx.os,hx.out,hx.zgrow⟩
    ·rw [hget c (by simp only at q1;omega)];exact hx.gone c hc hg
    ·by_cases e:c=b
     ·subst e
      obtain rfl:p=r:=by rw [q4] at hr;exact fc hr
      exact .inl q6
     ·rw [hget c e] at hc
      exact hx.grow c z r hc hr
   obtain⟨g1,g2,g3,g4,g5⟩:=ih hl hh' hx' (fun y hy=>by
    obtain⟨r1,r2,r3,p',r4,r5,r6,r7,r8⟩:=hq y (co _ hy)
    refine⟨r1,r2,by rw [hget _ (hne y hy)];exact r3,p',r4,r5,r6,fun c z q hc hq'=> ?_,r8⟩
    by_cases e:c=b
    ·subst e
     obtain rfl:p=q:=by rw [q4] at hq';exact fc hq'
     intro e2
     exact hne y hy (hs _ (co _ hy) (i,c,blk) cE p' p r4 q4 e2.symm)
    ·rw [hget c e] at hc
     exact r7 c z q hc hq') hn.2 (fun y hy z hz=>hs y (co _ hy) z (co _ hz))
   refine⟨g1,g2,g3,fun c hc=> ?_,fun c z hc=> ?_⟩
   ·rw [g4 c (fun y hy=>hc y (co _ hy)),hget c (fun e=>hc _ cE e.symm)]
   ·rcases g5 c z hc with h | ⟨y,hy,hyc⟩
    ·by_cases e:c=b
     ·exact .inr ⟨_,cE,e.symm⟩
     ·rw [hget c e] at h;exact .inl h
    ·exact .inr ⟨y,co _ hy,hyc⟩
theorem xZ {anc:Nat} {L:fR} {H:Hp} (h:bf anc L H=true):∀i c,(i,c)∈L->anc.testBit i=false->c H=true:=by
 induction L with
 | nil=>intro i c hi;cases hi
 | cons x L ih=>
  obtain⟨j,d⟩:=x
  simp only [bf] at h
  intro i c hi ha
  split at h
  ·rename_i hj
   rcases cy.1 hi with e | hi
   ·injection e with e1 e2;subst e1;rw [ha] at hj;cases hj
   ·exact ih h i c hi ha
  ·split at h
   ·rename_i hc
    rcases cy.1 hi with e | hi
    ·injection e with e1 e2;subst e2;exact hc
    ·exact ih h i c hi ha
   ·cases h
end
mutual
theorem sT:∀(n:Nat) (x y:AV),av n x y=true->x=y
 | 0,_,_,h=>by simp [av] at h
 | n+1,x,y,h=>by
  cases x<;>cases y<;>simp only [av] at h<;>first
   | rfl
   | (cases h;done)
   | skip
  case bool.bool a b=>cases a<;>cases b<;>first | rfl | cases h
  case int.int k a l b=>
   simp only [bX] at h
   have h1:=pK h.1
   have h2:=h.2
   rw [o5] at h2
   have h2:a=b:=by simpa using h2
   rw [h1,h2]
  case str.str a b=>
   rw [oO] at h
   have h:a=b:=by simpa using h
   rw [h]
  case ptr.ptr a i b j=>
   simp only [bX,i7] at h
   rw [h.1,h.2]
  case gptr.gptr a i b j=>
   simp only [bX,i7] at h
   rw [h.1,h.2]
  case sl.sl a i l z c b j m y d=>
   simp only [bX,i7] at h
   obtain⟨h1,h2,h3,h4,h5⟩:=h
   have h6:c=d:=by
    cases c<;>cases d<;>first | rfl | (simp only [i7] at h5;rw [h5])| cases h5
   rw [h1,h2,h3,h4,h6]
  case map.map a b=>rw [cw h]
  case yld.yld a b=>rw [cw h]
  case fn.fn f a b g c d=>
   simp only [bX] at h
   rw [cw h.1,lW n _ _ h.2.1,lW n _ _ h.2.2]
  case ifc.ifc t a u b=>
   simp only [bX] at h
   rw [cw h.1,sT n _ _ h.2]
  case agg.agg a b=>rw [lW n _ _ h]
  case tup.tup a b=>rw [lW n _ _ h]
  case dat.dat a b=>rw [@of_decide_eq_true _ (Classical.propDecidable _) h]
theorem lW:∀(n:Nat) (x y:List AV),ja n x y=true->x=y
 | 0,_,_,h=>by simp [ja] at h
 | n+1,x,y,h=>by
  cases x<;>cases y<;>simp only [ja,bX] at h<;>first
   | rfl
   | (cases h;done)
   | rw [sT n _ _ h.1,lW n _ _ h.2]
end
abbrev CV:=List (It×AV)
def rO (pre:CV) (e0:En) (t:Nat):AV:=
 match pre.find? (fun y=>lg t y.1.o) with
 | some y=>y.2
 | none=>e0.t t
theorem nn {t:Nat} {o:Oper}:lg t o=true↔o.dst=some t:=by
 unfold lg
 cases o.dst with
 | none=>simp
 | some d=>
  simp only [Option.some.injEq]
  constructor
  ·exact cw
  ·rintro rfl;exact bW _
theorem oJ (pre:CV) (e0:En) (t:Nat):(∃x∈pre,x.1.o.dst=some t/\rO pre e0 t=x.2)∨((∀x∈pre,x.1.o.dst≠some t)/\rO pre e0 t=e0.t t):=by
 unfold rO
 cases hf:pre.find? (fun y=>lg t y.1.o) with
 | some y=>
  have h1:(fun y:It×AV=>lg t y.1.o) y=true:=List.find?_some (p:=fun y:It×AV=>lg t y.1.o) hf
  exact .inl ⟨y,List.mem_of_find?_eq_some hf,nn.1 h1,rfl⟩
 | none=>
  refine .inr ⟨fun x hx h=> ?_,rfl⟩
  have:=List.find?_eq_none.1 hf x hx
  exact this (nn.2 h)
theorem ve {pre:CV} {y:It×AV} {e0:En} {t:Nat} (hd:y.1.o.dst=some t->∀x∈pre,x.1.o.dst≠some t):
  rO (pre++[y]) e0 t=if y.1.o.dst=some t then y.2 else rO pre e0 t:=by
 unfold rO
 rw [List.find?_append]
 by_cases h:y.1.o.dst=some t
 ·have h1:pre.find? (fun y=>lg t y.1.o)=none:=List.find?_eq_none.2 fun x hx h'=>hd h x hx (nn.1 h')
  rw [h1,if_pos h]
  simp [nn.2 h]
 ·have h2:lg t y.1.o=false:=by
   cases hq:lg t y.1.o with
   | false=>rfl
   | true=>exact absurd (nn.1 hq) h
  rw [if_neg h]
  simp [h2]
structure Chk (P:Program) (G:bg) (ops:Array Oper):Prop where
 dsts:sZ (canon P G ops)=true
 looks:pQ ops.toList [] (canon P G ops)=true
 canon:lz P G ops.size (canon P G ops) 0 0=true
 anc:Ox (its ops)=true
structure Inv (P:Program) (G:bg) (nt:Nat) (ops:Array Oper) (e0:En) (μ0:Mu) (H0:Hp) (w0:World) (C1:CV) (C2:List It) (S:Nat->Prop) (e:En) (H:Hp) (L:fR) (Q:fT)
  (μ:Mu) (a:Act) (w:World):Prop where
 split:canon P G ops=C1.map (·.1)++C2
 env:∀t,t<256->e.t t=rO C1 e0 t
 dm:e.dm=e0.dm
 sub:∀it∈C2,¬S it.i
 closed:∀it∈its ops,S it.i->∀j,it.anc.testBit j=true->S j
 ms:∀y∈C1,itM P G y.1=true->S y.1.i
 dlt:∀y∈C1,∀d,y.1.o.dst=some d->d<nt/\d<256
 size:a.tmps.size=nt
 done:∀t,t<256->∀y∈C1,S y.1.i->y.1.o.dst=some t->VR μ y.2 (a.tmps.getD t undef)
 rest:∀t,t<256->(∀y∈C1,S y.1.i->y.1.o.dst≠some t)->VR μ (e0.t t) (a.tmps.getD t undef)
 dms:DmR μ e0.dm a.defers
 hr:HR G μ H w
 ext:Ext μ0 H0 w0 μ H w
 late:∀pre y post,C1=pre++y::post->¬S y.1.i->∃e',(∀t,t<256->e'.t t=rO pre e0 t)/\
  ((wi P G ops y.1 e' H y.2/\(∀H',(∀c,(y.1.i,c)∈L->c H'=true)->wi P G ops y.1 e' H' y.2)/\∀b blk,(y.1.i,b,blk)∉Q)∨∃b blk,(y.1.i,b,blk)∈Q/\Cm P ops y.1 e' y.2 blk b)
 pend:∀i b blk,(i,b,blk)∈Q->H0.nx<=b/\b<H.nx/\H.get b=none/\(∃y∈C1,y.1.i=i)/\(S i->EY G μ H w0 w b blk)/\(¬S i->μ b=none)
 pnod:(Q.map (·.2.1)).Nodup
 pinod:(Q.map (·.1)).Nodup
 pids:∀x∈Q,∀y∈Q,∀p q,μ x.2.1=some p->μ y.2.1=some q->p.blk=q.blk->x.2.1=y.2.1
theorem pP {α β:Type} {f:α->β}:∀{l:List α},(l.map f).Nodup->∀x∈l,∀y∈l,f x=f y->x=y:=by
 intro l
 induction l with
 | nil=>intro _ x hx;cases hx
 | cons z l ih=>
  intro h x hx y hy e
  simp only [kG,jL,lF] at h
  rcases cy.1 hx with hx' | hx'<;>rcases cy.1 hy with hy' | hy'
  ·rw [hx',hy']
  ·exact (h.1 ⟨y,hy',by rw [←e,hx']⟩).elim
  ·exact (h.1 ⟨x,hx',by rw [e,hy']⟩).elim
  ·exact ih h.2 x hx' y hy' e
section
variable {P : Program} {G : bg} {nt : Nat} {ops : Array Oper} {e0 : En} {μ0 : Mu} {H0 : Hp} {w0 : World} {C1 : CV} {C2 : List It} {S : Nat -> Prop} {e : En} {H : Hp} {L : fR} {Q : fT} {μ : Mu} {a : Act} {w : World}
theorem AW (ck:Chk P G ops) {x y:It} (hx:x∈its ops) (hy:y∈its ops) (h:x.i=y.i):x=y:=by
 have h1:=pJ hx
 have h2:=pJ hy
 rw [h,h2] at h1
 injection h1 with h1
 have a1:=cw (eI.1 ck.anc x hx)
 have a2:=cw (eI.1 ck.anc y hy)
 obtain⟨xi,xo,xa⟩:=x
 obtain⟨yi,yo,ya⟩:=y
 simp only at h h1 a1 a2
 subst h
 subst h1
 rw [←a2] at a1
 subst a1
 rfl
theorem Inv.mem (I:Inv P G nt ops e0 μ0 H0 w0 C1 C2 S e H L Q μ a w) {y:It×AV} (hy:y∈C1):y.1∈its ops:=tr (P:=P) (G:=G) (by
 rw [I.split];exact gR _ (lK hy))
theorem Inv.mem2 (I:Inv P G nt ops e0 μ0 H0 w0 C1 C2 S e H L Q μ a w) {y:It} (hy:y∈C2):y∈its ops:=tr (P:=P) (G:=G) (by
 rw [I.split];exact kz _ hy)
theorem sC (hc:canon P G ops=C1.map (·.1)++C2) {pre post:CV} {y:It×AV} (h:C1=pre++y::post):canon P G ops=pre.map (·.1)++y.1::(post.map (·.1)++C2):=by
 rw [hc,h];simp
theorem RR (ck:Chk P G ops) (hc:canon P G ops=C1.map (·.1)++C2) {y z:It×AV} (hy:y∈C1) (hz:z∈C1) (h:y.1.i=z.1.i):y=z:=by
 obtain⟨pre,post,hs⟩:=od hy
 have h1:=sC hc hs
 have ck1:=ck.canon
 rw [h1] at ck1
 have g:=(io ck1).2.1.2
 rw [hs] at hz
 rcases dF.1 hz with hz | hz
 ·exact absurd h.symm (g z.1 (lK hz))
 ·rcases cy.1 hz with rfl | hz
  ·rfl
  ·obtain⟨p2,q2,hs2⟩:=od hz
   have h2:C1=(pre++y::p2)++z::q2:=by rw [hs,hs2];simp
   have h3:=sC hc h2
   have ck2:=ck.canon
   rw [h3] at ck2
   have g2:=(io ck2).2.1.2
   exact absurd h (g2 y.1 (lK (by simp)))
theorem SL (ck:Chk P G ops) (hc:canon P G ops=C1.map (·.1)++C2) {y z:It×AV} (hy:y∈C1) (hz:z∈C1) {t:Nat} (h1:y.1.o.dst=some t) (h2:z.1.o.dst=some t):y=z:=by
 obtain⟨pre,post,hs⟩:=od hy
 have h3:=sC hc hs
 have ck1:=ck.dsts
 rw [h3] at ck1
 obtain⟨g1,g2⟩:=qP h1 ck1
 rw [hs] at hz
 rcases dF.1 hz with hz | hz
 ·exact absurd h2 (g1 z.1 (lK hz))
 ·rcases cy.1 hz with rfl | hz
  ·rfl
  ·exact absurd h2 (g2 z.1 (gR _ (lK hz)))
theorem rS (ck:Chk P G ops) {it:It} (hc:canon P G ops=C1.map (·.1)++it::C2) {y:It×AV} (hy:y∈C1):y.1.i≠it.i:=by
 have ck1:=ck.canon
 rw [hc] at ck1
 exact (io ck1).2.1.2 y.1 (lK hy)
theorem wb (ck:Chk P G ops) {it:It} (hc:canon P G ops=C1.map (·.1)++it::C2) {y:It×AV} (hy:y∈C1) {t:Nat} (h:it.o.dst=some t):y.1.o.dst≠some t:=by
 have ck1:=ck.dsts
 rw [hc] at ck1
 exact (qP h ck1).1 y.1 (lK hy)
theorem A2 (ck:Chk P G ops) (I:Inv P G nt ops e0 μ0 H0 w0 C1 C2 S e H L Q μ a w) {it:It} {pre:CV} {post:List It} (hc:canon P G ops=pre.map (·.1)++it::post) (hpre:∀x∈pre,x∈C1)
  (hC1:∀z∈C1,z∈pre∨z.1.i=it.i∨z.1∈post) (hS:¬S it.i) (hanc:∀j,it.anc.testBit j=true->S j) {e':En} (he:∀t,t<256->e'.t t=rO pre e0 t):sx μ e' a it.o ops.toList:=by
 intro t ht hlt
 rw [he t hlt]
 have lk:=ck.looks
 rw [hc] at lk
 obtain⟨g1,g2⟩:=wB lk t ht
 rcases oJ pre e0 t with⟨x,hx,hxd,hxe⟩| ⟨hno,hxe⟩
 ·rw [hxe]
  exact I.done t hlt x (hpre x hx) (hanc _ (g1 x.1 (by simpa using ⟨x.2,hx⟩) hxd)) hxd
 ·rw [hxe]
  refine I.rest t hlt fun z hz hSz hzd=> ?_
  rcases hC1 z hz with h | h | h
  ·exact hno z h hzd
  ·exact hS (h▸hSz)
  ·exact hS (I.closed z.1 (I.mem hz) hSz _ (g2 z.1 h hzd))
theorem uy (ck:Chk P G ops) {it:It} (I:Inv P G nt ops e0 μ0 H0 w0 C1 (it::C2) S e H L Q μ a w) (hm:itM P G it=false) {v:AV} {e':En} (hdm:e'.dm=e.dm)
  (henv:∀t,t<256->e'.t t=if it.o.dst=some t then v else e.t t) (hdlt:∀d,it.o.dst=some d->d<nt/\d<256) {n':Nat} (hnx:H.nx<=n') {L':fR} {Q':fT} (hL:∀x∈L,x∈L') (hQ:∀x∈Q,x∈Q')
  (hnew:(wi P G ops it e ⟨H.t,n'⟩ v/\(∀H',(∀c,(it.i,c)∈L'->c H'=true)->wi P G ops it e H' v)/\∀b blk,(it.i,b,blk)∉Q')∨∃b blk,(it.i,b,blk)∈Q'/\Cm P ops it e v blk b)
  (hpend:∀i b blk,(i,b,blk)∈Q'->(i,b,blk)∈Q∨(i=it.i/\b=H.nx/\b<n')) (h1:(Q'.map (·.2.1)).Nodup) (h2:(Q'.map (·.1)).Nodup):
  Inv P G nt ops e0 μ0 H0 w0 (C1++[(it,v)]) C2 S e' ⟨H.t,n'⟩ L' Q' μ a w:=by
 have hSit:¬S it.i:=I.sub it cE
 have hcell:∀c,(⟨H.t,n'⟩:Hp).get c=H.get c:=fun c=>rfl
 obtain⟨hm0,hg0⟩:=I.hr.none (bh _)
 have hhr:HR G μ ⟨H.t,n'⟩ w:=⟨I.hr.toHRg.nx,fun b p hb=>gY (I.hr.dom b p hb) hnx⟩
 refine⟨?_,fun t ht=> ?_,hdm.trans I.dm,fun x hx=>I.sub x (co _ hx),I.closed,fun y hy hmy=> ?_,fun y hy d hd=> ?_,I.size,fun t ht y hy hSy hyd=> ?_,fun t ht hno=> ?_,I.dms,hhr, ?_,fun pre y post hs hSy=> ?_,
  fun i b blk hb=> ?_,h1,h2,fun x hx y hy p q hp hq he=> ?_⟩
 ·rw [I.split];simp
 ·rw [henv t ht,ve (fun hd x hx=>wb ck I.split hx hd),I.env t ht]
 ·rcases dF.1 hy with hy | hy
  ·exact I.ms y hy hmy
  ·obtain rfl:=je.1 hy
   rw [hm] at hmy;cases hmy
 ·rcases dF.1 hy with hy | hy
  ·exact I.dlt y hy d hd
  ·obtain rfl:=je.1 hy
   exact hdlt d hd
 ·rcases dF.1 hy with hy | hy
  ·exact I.done t ht y hy hSy hyd
  ·obtain rfl:=je.1 hy
   exact absurd hSy hSit
 ·exact I.rest t ht fun y hy=>hno y (gR _ hy)
 ·exact⟨I.ext.mu,I.ext.below,I.ext.gone,fC I.ext.nx hnx,I.ext.size,I.ext.keep,I.ext.grow,I.ext.os,I.ext.out,I.ext.zgrow⟩
 ·rcases List.eq_nil_or_concat post with rfl | ⟨post',z,rfl⟩
  ·obtain⟨e1,e2⟩:=List.append_inj' hs (by simp)
   injection e2 with e2 _
   subst e1
   subst e2
   exact⟨e,I.env,hnew⟩
  ·have:C1++[(it,v)]=(pre++y::post')++[z]:=by rw [hs];simp
   obtain⟨e1,e2⟩:=List.append_inj' this (by simp)
   obtain⟨e',h3,h4⟩:=I.late pre y post' e1 hSy
   refine⟨e',h3, ?_⟩
   have hyC:y∈C1:=by rw [e1];simp
   rcases h4 with⟨h4,h5,h6⟩| ⟨b,blk,h4,h5⟩
   ·exact .inl ⟨fun μ a w hl hh=>h4 μ a w hl hh.nx,fun H' hc=>h5 H' fun c hcm=>hc c (hL _ hcm),fun b blk hb=>by
     rcases hpend _ _ _ hb with hb | ⟨hb,_⟩
     ·exact h6 b blk hb
     ·exact rS ck I.split hyC hb⟩
   ·exact .inr ⟨b,blk,hQ _ h4,h5⟩
 ·rcases hpend i b blk hb with hb | ⟨rfl,rfl,hlt⟩
  ·obtain⟨q1,q2,q3,⟨y,q4,q5⟩,q6,q7⟩:=I.pend i b blk hb
   exact⟨q1,gY q2 hnx,q3,⟨y,gR _ q4,q5⟩,q6,q7⟩
  ·exact⟨I.ext.nx,hlt,hg0,⟨(it,v),kz _ (je.2 rfl),rfl⟩,fun hs=>absurd hs hSit,fun _=>hm0⟩
 ·obtain⟨xi,xb,xk⟩:=x
  obtain⟨yi,yb,yk⟩:=y
  rcases hpend _ _ _ hx with hx | ⟨_,rfl,_⟩
  ·rcases hpend _ _ _ hy with hy | ⟨_,rfl,_⟩
   ·exact I.pids _ hx _ hy p q hp hq he
   ·simp only at hq;rw [hm0] at hq;cases hq
  ·simp only at hp;rw [hm0] at hp;cases hp
theorem EO (ck:Chk P G ops) {it:It} {ih:Evs} {k:AEx->En->Hp->Bool} (I:Inv P G nt ops e0 μ0 H0 w0 C1 (it::C2) S e H L Q μ a w) (hm:itM P G it=false) (hD:Dn P G nt ops.toList (it::C2) ih e H L Q k=true):
  ∃v e' H' L' Q',Inv P G nt ops e0 μ0 H0 w0 (C1++[(it,v)]) C2 S e' H' L' Q' μ a w/\Dn P G nt ops.toList C2 ih e' H' L' Q' k=true:=by
 have hnd:∀{c:Cls},opC P G it.o=c->(∀f:OpF,c≠ .m f)->∀d,it.o.op≠ .defer d:=by
  intro c hc hm d hd
  have:opC P G it.o=no:=by unfold opC;rw [hd]
  rw [this] at hc
  exact hm _ hc.symm
 have hnq:∀b blk,(it.i,b,blk)∉Q:=fun b blk hb=>by
  obtain⟨_,_,_,⟨y,hy,hyi⟩,_⟩:=I.pend _ _ _ hb
  exact rS ck I.split hy hyi
 have go:(∀(μ:Mu) (a:Act),sx μ e a it.o ops.toList->Region.wanted it.o (yielded ops a.tmps)=true)->qO (gL ops.toList) it.i it.anc (unb (oN nt it.o.dst)) (Dn P G nt ops.toList C2) (opK P G it.o) ih e H L Q k=true->
   ∃v e' H' L' Q',Inv P G nt ops e0 μ0 H0 w0 (C1++[(it,v)]) C2 S e' H' L' Q' μ a w/\Dn P G nt ops.toList C2 ih e' H' L' Q' k=true:=by
  intro hw hk
  cases hc:opK P G it.o with
  | p f=>
   rw [hc] at hk
   obtain⟨h1,h2⟩:=lB hc (fun f h=>by cases h)
   obtain⟨v,hv,hk⟩:=Gq h1 hk
   obtain⟨e',g1,g2,g3,g4⟩:=pI hk
   have hq:∀H',wi P G ops it e H' v:=fun H' μ a w hl hh=>.inr ⟨hw μ a hl,hnd h1 (fun f h=>by cases h),hv μ a w (hl.opd h2)⟩
   exact⟨v,e',H,L,Q,uy ck I hm g2 g3 g4 (bh _) (fun x h=>h) (fun x h=>h) (.inl ⟨hq _,fun H' _=>hq H',hnq⟩) (fun i b blk h=>.inl h) I.pnod I.pinod,g1⟩
  | l f=>
   rw [hc] at hk
   obtain⟨h1,h2⟩:=lB hc (fun f h=>by cases h)
   obtain⟨v,hv,hk⟩:=GF h1 hk
   obtain⟨e',g1,g2,g3,g4⟩:=pI hk
   have hq:∀H',qh P G it.o e H' v->wi P G ops it e H' v:=fun H' hs μ a w hl hh=>.inr ⟨hw μ a hl,hnd h1 (fun f h=>by cases h),hs μ a w (hl.opd h2) hh⟩
   refine⟨v,e',H,_,Q,uy ck I hm g2 g3 g4 (bh _) (fun x h=>co _ h) (fun x h=>h) (.inl ⟨fun μ a w hl hh=>hq H hv μ a w hl hh,fun H' hcH=> ?_,hnq⟩) (fun i b blk h=>.inl h) I.pnod I.pinod,g1⟩
   have:=hcH _ cE
   obtain⟨v',hv',heq⟩:=GF h1 this
   have:v=v':=sT 1000 v v' heq
   subst this
   exact hq H' hv'
  | a f=>
   rw [hc] at hk
   obtain⟨h1,h2⟩:=lB hc (fun f h=>by cases h)
   obtain⟨blk,mk,hv,hk⟩:=Ot h1 hk
   rw [jV] at hk
   obtain⟨e',g1,g2,g3,g4⟩:=pI hk
   have hmk:Cm P ops it e (mk H.nx) blk H.nx:=fun μ a w hl=>by
    obtain⟨obj,x,tot,hx,hb⟩:=hv μ a w (hl.opd h2)
    exact⟨hw μ a hl,hnd h1 (fun f h=>by cases h),obj,x,tot,hx,fun hn=>hb H.nx hn⟩
   refine⟨mk H.nx,e',⟨H.t,H.nx+1⟩,L,(it.i,H.nx,blk)::Q,uy ck I hm g2 g3 g4 (Nat.le_succ _) (fun x h=>h) (fun x h=>co _ h) (.inr ⟨H.nx,blk,cE,hmk⟩) (fun i b b' h=> ?_) ?_ ?_,g1⟩
   ·rcases cy.1 h with h | h
    ·injection h with h3 h4;injection h4 with h4 h5
     exact .inr ⟨h3,h4,by rw [h4];exact nM _⟩
    ·exact .inl h
   ·simp only [kG,jL,lF]
    refine⟨fun⟨x,hx,hxe⟩=> ?_,I.pnod⟩
    obtain⟨xi,xb,xk⟩:=x
    have:=(I.pend _ _ _ hx).2.1
    simp only at hxe
    omega
   ·simp only [kG,jL,lF]
    refine⟨fun⟨x,hx,hxe⟩=> ?_,I.pinod⟩
    obtain⟨xi,xb,xk⟩:=x
    obtain⟨_,_,_,⟨y,hy,hyi⟩,_⟩:=I.pend _ _ _ hx
    simp only at hxe
    exact rS ck I.split hy (by rw [hyi,hxe])
  | m f=>unfold itM at hm;rw [hc] at hm;cases hm
 cases hg:it.o.guard with
 | none=>
  rw [Dw hg] at hD
  exact go (fun μ a hl=>by simp [Region.wanted,hg]) hD
 | some jw=>
  obtain⟨j,wt⟩:=jw
  obtain⟨hok,hD⟩:=Db hg hD
  rcases hD with⟨hw,hD⟩| ⟨hw,hD⟩
  ·obtain⟨e',g1,g2,g3,g4⟩:=pI hD
   have hq:∀H',wi P G ops it e H' (.tup []):=fun H' μ a w hl hh=>.inl ⟨by rw [←tm hg hok hl];exact hw,rfl⟩
   exact⟨.tup [],e',H,L,Q,uy ck I hm g2 g3 g4 (bh _) (fun x h=>h) (fun x h=>h) (.inl ⟨hq _,fun H' _=>hq H',hnq⟩) (fun i b blk h=>.inl h) I.pnod I.pinod,g1⟩
  ·exact go (fun μ a hl=>by rw [←tm hg hok hl];exact hw) hD
end
theorem zT {a:Act} {dst:Option Tmp} {t:Nat} {x:Value} (h:dst=some t) (ht:t<a.tmps.size):(a.put dst x).tmps.getD t undef=x:=by
 subst h;simp [Act.put,Array.getD,ht]
theorem pG {a:Act} {dst:Option Tmp} {t:Nat} {x:Value} (h:dst≠some t):(a.put dst x).tmps.getD t undef=a.tmps.getD t undef:=by
 cases dst with
 | none=>rfl
 | some d=>
  have hne:d≠t:=fun e=>h (by rw [e])
  simp [Act.put,mV,Array.getElem?_setIfInBounds_ne hne]
theorem AU {a:Act} {dst:Option Tmp} {x:Value}:(a.put dst x).tmps.size=a.tmps.size:=by cases dst<;>simp [Act.put]
section
variable {P : Program} {G : bg} {nt : Nat} {ops : Array Oper} {e0 : En} {μ0 : Mu} {H0 : Hp} {w0 : World} {C1 : CV} {C2 : List It} {S : Nat -> Prop} {e : En} {H : Hp} {L : fR} {Q : fT} {μ : Mu} {a : Act} {w : World}
theorem mq {G:bg} {b:Nat} {blk:Blk} {p:Pl} {w:World} {μ:Mu} (h:BR μ p blk w.heap[p.blk]?):p.blk<w.heap.size:=by
 obtain⟨y,hy⟩:=h.some
 exact (ir.1 hy).1
theorem uP (ck:Chk P G ops) (I:Inv P G nt ops e0 μ0 H0 w0 C1 C2 S e H L Q μ a w) {y:It×AV} (hy:y∈C1) (hanc:∀j,y.1.anc.testBit j=true->S j) {μ':Mu} {w':World} {x:Value} (hmu:μ.le μ')
  (hr:HR G μ' H w') (hx:Ext μ0 H0 w0 μ' H w') (hv:VR μ' y.2 x)
  (hpend:∀i b blk,(i,b,blk)∈Q->(S i∨i=y.1.i->EY G μ' H w0 w' b blk)/\(¬(S i∨i=y.1.i)->μ' b=none))
  (hpids:∀x∈Q,∀y∈Q,∀p q,μ' x.2.1=some p->μ' y.2.1=some q->p.blk=q.blk->x.2.1=y.2.1):
  Inv P G nt ops e0 μ0 H0 w0 C1 C2 (fun j=>S j∨j=y.1.i) e H L Q μ' (a.put y.1.o.dst x) w':=by
 refine⟨I.split,I.env,I.dm,fun it hit hs=> ?_,fun it hit hs j hj=> ?_,fun z hz hm=>.inl (I.ms z hz hm),I.dlt,by rw [AU];exact I.size,fun t ht z hz hs hzd=> ?_,fun t ht hno=> ?_, ?_,hr,hx,
  fun pre z post hs hS=>I.late pre z post hs (fun h=>hS (.inl h)),fun i b blk hb=> ?_,I.pnod,I.pinod,hpids⟩
 ·rcases hs with hs | hs
  ·exact I.sub it hit hs
  ·obtain⟨p1,p2,hp⟩:=od hit
   have hc:=I.split
   rw [hp,←ki] at hc
   have ck1:=ck.canon
   rw [hc] at ck1
   exact (io ck1).2.1.2 y.1 (gR _ (lK hy)) hs.symm
 ·rcases hs with hs | hs
  ·exact .inl (I.closed it hit hs j hj)
  ·have:=AW ck hit (I.mem hy) hs
   subst this
   exact .inl (hanc j hj)
 ·by_cases hzy:z.1.i=y.1.i
  ·have:=RR ck I.split hz hy hzy
   subst this
   rw [zT hzd (by rw [I.size];exact (I.dlt z hz t hzd).1)]
   exact hv
  ·have hsz:S z.1.i:=by
    rcases hs with hs | hs
    ·exact hs
    ·exact absurd hs hzy
   rw [pG (fun e=>hzy (by rw [SL ck I.split hz hy hzd e]))]
   exact (I.done t ht z hz hsz hzd).mono hmu
 ·rw [pG (hno y hy (.inr rfl))]
  exact (I.rest t ht fun z hz hsz=>hno z hz (.inl hsz)).mono hmu
 ·rw [jj];exact I.dms.mono hmu
 ·obtain⟨q1,q2,q3,q4,q5,q6⟩:=I.pend i b blk hb
  exact⟨q1,q2,q3,q4,(hpend i b blk hb).1,(hpend i b blk hb).2⟩
theorem Iv (ck:Chk P G ops) (I:Inv P G nt ops e0 μ0 H0 w0 C1 C2 S e H L Q μ a w) {y:It×AV} (hy:y∈C1) (hS:¬S y.1.i) (hanc:∀j,y.1.anc.testBit j=true->S j) {r:Option Nat} {K:Act->World->Prop}
  {QQ:Exit->Act->World->Prop} (hK:∀μ' a' w',Inv P G nt ops e0 μ0 H0 w0 C1 C2 (fun j=>S j∨j=y.1.i) e H L Q μ' a' w'->K a' w'):
  if Region.wanted y.1.o (yielded ops a.tmps) then y.1.o.wpIn (Fen r) 0 P a w K QQ else (∀f,y.1.o.about P w a.eval=some f->(Fen r).fn f)/\K (a.put y.1.o.dst undef) w:=by
 obtain⟨pre,post,hs⟩:=od hy
 obtain⟨e',he,hlate⟩:=I.late pre y post hs hS
 have hc:=sC I.split hs
 have hlook:sx μ e' a y.1.o ops.toList:=A2 ck I hc (fun x hx=>by rw [hs];exact gR _ hx) (fun z hz=>by
  rw [hs] at hz
  rcases dF.1 hz with h | h
  ·exact .inl h
  ·rcases cy.1 h with rfl | h
   ·exact .inr (.inl rfl)
   ·exact .inr (.inr (gR _ (lK h)))) hS hanc he
 rcases hlate with⟨hq,_,hnq⟩| ⟨b,blk,hb,hmk⟩
 ·
  have hpend:∀i b blk,(i,b,blk)∈Q->(S i∨i=y.1.i->EY G μ H w0 w b blk)/\(¬(S i∨i=y.1.i)->μ b=none):=fun i b blk hb=>by
   obtain⟨_,_,_,_,q5,q6⟩:=I.pend i b blk hb
   have hne:i≠y.1.i:=fun e=>hnq b blk (e▸hb)
   exact⟨fun h=>q5 (h.resolve_right hne),fun h=>q6 fun hs=>h (.inl hs)⟩
  rcases hq μ a w hlook I.hr.toHRg with⟨hw,hv⟩| ⟨hw,hnd,x,hx,hv⟩
  ·rw [if_neg (by rw [hw];simp)]
   exact⟨fun f _=>dj r f,hK _ _ _ (uP ck I hy hanc (Mu.le_refl _) I.hr I.ext (hv▸kT) hpend I.pids)⟩
  ·rw [if_pos hw]
   refine⟨fun f _=>dj r f, ?_⟩
   rw [Oper.semAt_eq _ _ _ hnd,hx]
   exact hK _ _ _ (uP ck I hy hanc (Mu.le_refl _) I.hr I.ext hv hpend I.pids)
 ·
  obtain⟨hw,hnd,obj,x,tot,hx,hbr⟩:=hmk μ a w hlook
  obtain⟨q1,q2,q3,_,q5,q6⟩:=I.pend _ _ _ hb
  have hm0:=q6 hS
  obtain⟨g1,g2⟩:=hbr hm0
  have hle:=dU ⟨w.heap.size,0,tot⟩ hm0
  have hold:∀k,k<w.heap.size->(w.alloc obj).heap[k]? =w.heap[k]? :=fun k hk=>by
   show (w.heap.push obj)[k]? =_
   rw [Array.getElem?_push_lt hk,oe hk]
  have hr1:HR G μ H (w.alloc obj):=I.hr.world (fun c z q hc hq=>hold _ (I.hr.lt hc hq)) (fun g cs hG=>hold _ (I.hr.globlt hG)) fun j o hj=>hold _ (I.hr.frolt hj)
  have hr2:=hr1.place ⟨w.heap.size,0,tot⟩ q2 hm0
  have hcb:∀c z,H.get c=some z->c≠b:=fun c z hc e=>by subst e;rw [q3] at hc;cases hc
  have hx2:Ext μ0 H0 w0 (μ.upd b ⟨w.heap.size,0,tot⟩) H (w.alloc obj):=by
   refine⟨Mu.le_trans I.ext.mu hle,fun c hc=> ?_,I.ext.gone,I.ext.nx, ?_,fun k hk hno=> ?_,fun c z q hc hq=> ?_,I.ext.os,I.ext.out,I.ext.zgrow⟩
   ·rw [cq _ _ (by omega)];exact I.ext.below c hc
   ·show w0.heap.size<=(w.heap.push obj).size
    have:=I.ext.size
    simp;omega
   ·rw [hold k (gY hk I.ext.size)];exact I.ext.keep k hk hno
   ·rw [cq _ _ (hcb c z hc)] at hq
    exact I.ext.grow c z q hc hq
  rw [if_pos hw]
  refine⟨fun f _=>dj r f, ?_⟩
  rw [Oper.semAt_eq _ _ _ hnd,hx]
  refine hK _ _ _ (uP ck I hy hanc hle hr2 hx2 g2 (fun i b' blk' hb'=> ?_) (fun u hu v hv p q hp hq he=> ?_))
  ·by_cases hi:i=y.1.i
   ·have he:(i,b',blk')=(y.1.i,b,blk):=pP (f:=(·.1)) I.pinod _ hb' _ hb hi
    injection he with _ he
    injection he with he1 he2
    subst he1
    subst he2
    refine⟨fun _=>⟨⟨w.heap.size,0,tot⟩,bT _ _ _, ?_,I.ext.size,fun c z q hc hq=> ?_,fun g cs hG=> ?_, ?_⟩,fun h=>absurd (.inr hi) h⟩
    ·rw [World.alloc_heap_new];exact g1
    ·rw [cq _ _ (hcb c z hc)] at hq
     exact kR (I.hr.lt hc hq)
    ·exact Nat.ne_of_gt (I.hr.globlt hG)
    ·cases hz:μ.z w.heap.size with
     | none=>exact hz
     | some o'=>exact absurd (I.hr.frolt hz) (Nat.lt_irrefl _)
   ·have hbb:b'≠b:=fun e=>by
     have he:(i,b',blk')=(y.1.i,b,blk):=pP (f:=(·.2.1)) I.pnod _ hb' _ hb e
     injection he with he _
     exact hi he
    obtain⟨_,_,_,_,r5,r6⟩:=I.pend _ _ _ hb'
    refine⟨fun h=> ?_,fun h=> ?_⟩
    ·obtain⟨p,s1,s2,s3,s4,s5⟩:=r5 (h.resolve_right hi)
     refine⟨p,by rw [cq _ _ hbb];exact s1,by rw [hold _ (mq (G:=G) (b:=b') s2)];exact s2.mono hle,s3,fun c z q hc hq=> ?_,s5⟩
     rw [cq _ _ (hcb c z hc)] at hq
     exact s4 c z q hc hq
    ·rw [cq _ _ hbb];exact r6 fun hs=>h (.inl hs)
  ·
   have hlt:∀z∈Q,z.2.1≠b->∀p,μ z.2.1=some p->p.blk<w.heap.size:=fun z hz hzb p hp=>by
    obtain⟨zi,zb,zk⟩:=z
    obtain⟨_,_,_,_,r5,r6⟩:=I.pend _ _ _ hz
    by_cases hsz:S zi
    ·obtain⟨p',s1,s2,_⟩:=r5 hsz
     obtain rfl:p=p':=by rw [hp] at s1;exact fc s1
     exact mq (G:=G) (b:=zb) s2
    ·rw [show μ zb=none from r6 hsz] at hp;cases hp
   by_cases hub:u.2.1=b
   ·by_cases hvb:v.2.1=b
    ·rw [hub,hvb]
    ·rw [hub,bT] at hp
     rw [cq _ _ hvb] at hq
     obtain rfl:=fc hp
     have:=hlt v hv hvb q hq
     simp only at he
     omega
   ·rw [cq _ _ hub] at hp
    by_cases hvb:v.2.1=b
    ·rw [hvb,bT] at hq
     obtain rfl:=fc hq
     have:=hlt u hu hub p hp
     simp only at he
     omega
    ·rw [cq _ _ hvb] at hq
     exact I.pids u hu v hv p q hp hq he
end
section
variable {P : Program} {G : bg} {nt : Nat} {ops : Array Oper} {e0 : En} {μ0 : Mu} {H0 : Hp} {w0 : World} {C1 : CV} {C2 : List It} {S : Nat -> Prop} {e : En} {H : Hp} {L : fR} {Q : fT} {μ : Mu} {a : Act} {w : World}
theorem xj (ck:Chk P G ops) {it:It} (I:Inv P G nt ops e0 μ0 H0 w0 C1 (it::C2) S e H L Q μ a w) (hanc:∀j,it.anc.testBit j=true->S j) {v:AV} {e':En} (hdm:e'.dm=e.dm)
  (henv:∀t,t<256->e'.t t=if it.o.dst=some t then v else e.t t) (hdlt:∀d,it.o.dst=some d->d<nt/\d<256) {μ':Mu} {H':Hp} {w':World} {x:Value} {Q':fT} (hmu:μ.le μ') (hr:HR G μ' H' w')
  (hx:Ext μ0 H0 w0 μ' H' w') (hv:VR μ' v x) (hL:H'=H∨∀i c,(i,c)∈L->it.anc.testBit i=false->c H'=true) (hsub:∀z∈Q',z∈Q) (hkeep:∀z∈Q,¬S z.1->z∈Q')
  (hpend:∀i b blk,(i,b,blk)∈Q'->b<H'.nx/\H'.get b=none/\(S i->EY G μ' H' w0 w' b blk)/\(¬S i->μ' b=none)) (hn1:(Q'.map (·.2.1)).Nodup) (hn2:(Q'.map (·.1)).Nodup)
  (hpids:∀x∈Q',∀y∈Q',∀p q,μ' x.2.1=some p->μ' y.2.1=some q->p.blk=q.blk->x.2.1=y.2.1):
  Inv P G nt ops e0 μ0 H0 w0 (C1++[(it,v)]) C2 (fun j=>S j∨j=it.i) e' H' L Q' μ' (a.put it.o.dst x) w':=by
 have hSit:¬S it.i:=I.sub it cE
 have hc2:canon P G ops=(C1.map (·.1)++[it])++C2:=by rw [I.split];simp
 refine⟨by rw [I.split];simp,fun t ht=> ?_,hdm.trans I.dm,fun z hz hs=> ?_,fun z hz hs j hj=> ?_,fun y hy hmy=> ?_,fun y hy d hd=> ?_,by rw [AU];exact I.size,fun t ht y hy hSy hyd=> ?_,fun t ht hno=> ?_, ?_,hr,hx,
  fun pre y post hs hSy=> ?_,fun i b blk hb=> ?_,hn1,hn2,hpids⟩
 ·rw [henv t ht,ve (fun hd x hx=>wb ck I.split hx hd),I.env t ht]
 ·rcases hs with hs | hs
  ·exact I.sub z (co _ hz) hs
  ·obtain⟨p1,p2,hp⟩:=od hz
   have hc:=hc2
   rw [hp,←ki] at hc
   have ck1:=ck.canon
   rw [hc] at ck1
   exact (io ck1).2.1.2 it (by simp) hs.symm
 ·rcases hs with hs | hs
  ·exact .inl (I.closed z hz hs j hj)
  ·have:=AW ck hz (I.mem2 cE) hs
   subst this
   exact .inl (hanc j hj)
 ·rcases dF.1 hy with hy | hy
  ·exact .inl (I.ms y hy hmy)
  ·obtain rfl:=je.1 hy
   exact .inr rfl
 ·rcases dF.1 hy with hy | hy
  ·exact I.dlt y hy d hd
  ·obtain rfl:=je.1 hy
   exact hdlt d hd
 ·rcases dF.1 hy with hy | hy
  ·have hne:=rS ck I.split hy
   rw [pG (fun e=>wb ck I.split hy e hyd)]
   exact (I.done t ht y hy (hSy.resolve_right hne) hyd).mono hmu
  ·obtain rfl:=je.1 hy
   rw [zT hyd (by rw [I.size];exact (hdlt t hyd).1)]
   exact hv
 ·rw [pG (hno (it,v) (by simp) (.inr rfl))]
  exact (I.rest t ht fun y hy hS=>hno y (gR _ hy) (.inl hS)).mono hmu
 ·rw [jj];exact I.dms.mono hmu
 ·rcases List.eq_nil_or_concat post with rfl | ⟨post',z,rfl⟩
  ·obtain⟨e1,e2⟩:=List.append_inj' hs (by simp)
   injection e2 with e2 _
   subst e2
   exact absurd (.inr rfl) hSy
  ·have:C1++[(it,v)]=(pre++y::post')++[z]:=by rw [hs];simp
   obtain⟨e1,e2⟩:=List.append_inj' this (by simp)
   have hSy':¬S y.1.i:=fun h=>hSy (.inl h)
   obtain⟨e'',h3,h4⟩:=I.late pre y post' e1 hSy'
   refine⟨e'',h3, ?_⟩
   rcases h4 with⟨h4,h5,h6⟩| ⟨b,blk,h4,h5⟩
   ·refine .inl ⟨?_,h5,fun b blk hb=>h6 b blk (hsub _ hb)⟩
    rcases hL with rfl | hL
    ·exact h4
    ·refine h5 H' fun c hc=>hL _ c hc ?_
     cases ha:it.anc.testBit y.1.i with
     | false=>rfl
     | true=>exact absurd (hanc _ ha) hSy'
   ·exact .inr ⟨b,blk,hkeep _ h4 hSy',h5⟩
 ·obtain⟨q1,_,_,⟨y,q4,q5⟩,_,_⟩:=I.pend i b blk (hsub _ hb)
  obtain⟨r1,r2,r3,r4⟩:=hpend i b blk hb
  have hne:i≠it.i:=fun e=>rS ck I.split q4 (q5.trans e)
  exact⟨q1,r1,r2,⟨y,gR _ q4,q5⟩,fun h=>r3 (h.resolve_right hne),fun h=>r4 fun hs=>h (.inl hs)⟩
theorem oq {α β:Type} {f:α->β} {p:α->Bool} {l:List α} (h:(l.map f).Nodup):((l.filter p).map f).Nodup:=h.sublist (List.filter_sublist.map f)
theorem qw:∀{l:List Oper} {t:Nat},qx t (gL l)=false->∀o∈l,o.dst≠some t
 | [],_,_,o,ho=>by cases ho
 | p::l,t,h,o,ho=>by
  unfold gL at h
  rcases cy.1 ho with rfl | ho
  ·split at h
   ·rename_i d hd
    simp only [qx] at h
    split at h
    ·cases h
    ·rename_i hne
     intro he
     rw [hd] at he
     cases he
     simp [bW] at hne
   ·rename_i hd
    rw [hd];simp
  ·split at h
   ·simp only [qx] at h
    split at h
    ·cases h
    ·exact qw h o ho
   ·exact qw h o ho
theorem uK.mono {μ μ':Mu} (hm:μ.le μ') {bad:List Nat} {e:E2} {tmps:Array Value} (h:uK μ bad e tmps):uK μ' bad e tmps:=fun t ht hb=>(h t ht hb).mono hm
theorem Inv.bad (I:Inv P G nt ops e0 μ0 H0 w0 C1 C2 S e H L Q μ a w):uK μ (gL ops.toList) e.t a.tmps:=by
 intro t ht hb
 have hno:∀y∈C1,y.1.o.dst≠some t:=fun y hy=>qw hb _ (by
  have:=pJ (I.mem hy)
  exact Array.mem_toList_iff.2 (Array.mem_of_getElem? this))
 rw [I.env t ht]
 rcases oJ C1 e0 t with⟨x,hx,hxd,hxe⟩| ⟨_,hxe⟩
 ·exact absurd hxd (hno x hx)
 ·rw [hxe];exact I.rest t ht fun y hy _=>hno y hy
theorem Xw (ck:Chk P G ops) {ih:Evs} (h1:gP P G ih.code) (h2:gI P G ih.call) {k:AEx->En->Hp->Bool} {it:It} (I:Inv P G nt ops e0 μ0 H0 w0 C1 (it::C2) S e H L Q μ a w) (hm:itM P G it=true)
  (hD:Dn P G nt ops.toList (it::C2) ih e H L Q k=true) (hanc:∀j,it.anc.testBit j=true->S j) {r:Option Nat} {K:Act->World->Prop} {QQ:Exit->Act->World->Prop}
  (hK:∀v e' H' Q' μ' a' w',Inv P G nt ops e0 μ0 H0 w0 (C1++[(it,v)]) C2 (fun j=>S j∨j=it.i) e' H' L Q' μ' a' w'->Dn P G nt ops.toList C2 ih e' H' L Q' k=true->K a' w')
  (hQQ:∀v y μ' H' w',HR G μ' H' w'->Ext μ0 H0 w0 μ' H' w'->VR μ' v y->DmR μ' e.dm a.defers->k (.pan v (gL ops.toList)) e H'=true->uK μ' (gL ops.toList) e.t a.tmps->QQ (.panic [{v:=y,recovered:=false}]) a w'):
  if Region.wanted it.o (yielded ops a.tmps) then it.o.wpIn (Fen r) 0 P a w K QQ else (∀f,it.o.about P w a.eval=some f->(Fen r).fn f)/\K (a.put it.o.dst undef) w:=by
 have hSit:¬S it.i:=I.sub it cE
 have hlook:sx μ e a it.o ops.toList:=A2 ck I I.split (fun x hx=>hx) (fun z hz=>.inl hz) hSit hanc I.env
 cases hc:opK P G it.o with
 | p f=>unfold itM at hm;rw [hc] at hm;cases hm
 | l f=>unfold itM at hm;rw [hc] at hm;cases hm
 | a f=>unfold itM at hm;rw [hc] at hm;cases hm
 | m f=>
  have go:Region.wanted it.o (yielded ops a.tmps)=true->qO (gL ops.toList) it.i it.anc (unb (oN nt it.o.dst)) (Dn P G nt ops.toList C2) (opK P G it.o) ih e H L Q k=true->it.o.wpIn (Fen r) 0 P a w K QQ:=by
   intro hw hk
   rw [hc] at hk
   obtain⟨H1,hl,hk⟩:=BG hk
   have hnof:¬f=(fun _ _ _ _ _=>false):=fun hf=>by subst hf;cases hk
   obtain⟨c1,c2⟩:=lB hc (fun f' h hf'=>by injection h with h;subst h;exact hnof hf')
   have hq1:∀z∈Q.filter (fun x=>it.anc.testBit x.1),H0.nx<=z.2.1/\z.2.1<H.nx/\H.get z.2.1=none/\EY G μ H w0 w z.2.1 z.2.2:=fun z hz=>by
    obtain⟨hz1,hz2⟩:=mL.1 hz
    obtain⟨i,b,blk⟩:=z
    obtain⟨r1,r2,r3,_,r5,_⟩:=I.pend i b blk hz1
    exact⟨r1,r2,r3,r5 (hanc _ hz2)⟩
   obtain⟨l1,l2,l3,l4,l5⟩:=vd hl I.hr I.ext hq1 (oq I.pnod) (fun x hx y hy=>I.pids x (mL.1 hx).1 y (mL.1 hy).1)
   have hop:=Ny c1 h1 h2 hk
   refine hop r μ a w K QQ (hlook.opd c2) l1 (fun v x μ' H' w' hv hh' hx hk'=> ?_) (fun v y μ' H' w' hv hh' hx hk'=>hQQ v y μ' H' w' hh' (l2.trans hx) hv (by rw [I.dm];exact I.dms.mono hx.mu) hk' (I.bad.mono hx.mu))
   have hk':(Bool.casesOn (bf it.anc L H') false
     (unb (oN nt it.o.dst) e v fun e=>Dn P G nt ops.toList C2 ih e H' L (Q.filter fun x=> !it.anc.testBit x.1) k):Bool)=true:=hk'
   cases hrc:bf it.anc L H' with
   | false=>rw [hrc] at hk';cases hk'
   | true=>
    rw [hrc] at hk'
    obtain⟨e',g1,g2,g3,g4⟩:=pI hk'
    have hmem:∀z,z∈Q.filter (fun x=> !it.anc.testBit x.1)->z∈Q/\it.anc.testBit z.1=false:=fun z hz=>by
     obtain⟨hz1,hz2⟩:=mL.1 hz
     exact⟨hz1,by simpa using hz2⟩
    have hsepH1:∀i b blk,(i,b,blk)∈Q->it.anc.testBit i=false->∀p,μ b=some p->(∀c z q,H.get c=some z->μ c=some q->q.blk≠p.blk)->∀c z q,H1.get c=some z->μ c=some q->q.blk≠p.blk:=by
     intro i b blk hb hi p hp hsep c z q hcz hq he
     rcases l5 c z hcz with h | ⟨x,hx,hxc⟩
     ·exact hsep c z q h hq he
     ·obtain⟨hx1,hx2⟩:=mL.1 hx
      have hbx:x.2.1=b:=I.pids x hx1 (i,b,blk) hb q p (by rw [hxc];exact hq) hp he
      have:=pP (f:=(·.2.1)) I.pnod x hx1 (i,b,blk) hb hbx
      rw [this] at hx2
      simp only at hx2
      rw [hi] at hx2;cases hx2
    refine hK v e' H' _ μ' _ w' (xj ck I hanc g2 g3 g4 hx.mu hh' (l2.trans hx) hv (.inr (xZ hrc)) (fun z hz=>(hmem z hz).1) (fun z hz hS=> ?_) (fun i b blk hb=> ?_) (oq I.pnod) (oq I.pinod)
     (fun u hu v hv p q hp hq he=> ?_)) g1
    ·refine mL.2 ⟨hz, ?_⟩
     cases ha:it.anc.testBit z.1 with
     | false=>rfl
     | true=>exact absurd (hanc _ ha) hS
    ·obtain⟨hb1,hb2⟩:=hmem _ hb
     obtain⟨r1,r2,r3,_,r5,r6⟩:=I.pend i b blk hb1
     have hbnx:b<H1.nx:=by rw [l3];exact r2
     have hbH1:H1.get b=none:=by
      rw [l4 b (fun x hx e=> ?_)]
      ·exact r3
      ·obtain⟨hx1,hx2⟩:=mL.1 hx
       have:=pP (f:=(·.2.1)) I.pnod x hx1 (i,b,blk) hb1 e
       rw [this] at hx2
       simp only at hx2 hb2
       rw [hb2] at hx2;cases hx2
     refine⟨gY hbnx hx.nx,hx.gone b hbnx hbH1,fun hS=> ?_,fun hS=>by rw [hx.below b hbnx];exact r6 hS⟩
     obtain⟨p,s1,s2,s3,s4,s5⟩:=r5 hS
     have hlt:=mq (G:=G) (b:=b) s2
     have hs1:=hsepH1 i b blk hb1 hb2 p s1 s4
     refine⟨p,hx.mu.1 _ _ s1, ?_,s3,fun c z q hcz hq he=> ?_,s5.1, ?_⟩
     ·rw [hx.keep p.blk hlt (fun c z q hcz hz hq=>hs1 c z q hcz hq)]
      exact s2.mono hx.mu
     ·rcases hx.grow c z q hcz hq with hge | ⟨c',z',q',hc',hq',hqe,_⟩
      ·omega
      ·exact hs1 c' z' q' hc' hq' (hqe.trans he)
     ·cases hz:μ'.z p.blk with
      | none=>rfl
      | some o=>
       rcases hx.zgrow _ _ hz with h | h | ⟨c',z',q',hc',hq',hqe⟩
       ·rw [s5.2] at h;cases h
       ·omega
       ·exact absurd hqe (hs1 c' z' q' hc' hq')
    ·obtain⟨ui,ub,uk⟩:=u
     obtain⟨vi,vb,vk⟩:=v
     have b1:=(I.pend _ _ _ (hmem _ hu).1).2.1
     have b2:=(I.pend _ _ _ (hmem _ hv).1).2.1
     rw [hx.below _ (by rw [l3];exact b1)] at hp
     rw [hx.below _ (by rw [l3];exact b2)] at hq
     exact I.pids _ (hmem _ hu).1 _ (hmem _ hv).1 p q hp hq he
  cases hg:it.o.guard with
  | none=>
   have hw:Region.wanted it.o (yielded ops a.tmps)=true:=by simp [Region.wanted,hg]
   rw [if_pos hw]
   rw [Dw hg] at hD
   exact go hw hD
  | some jw=>
   obtain⟨j,wt⟩:=jw
   obtain⟨hok,hD⟩:=Db hg hD
   have hwl:=tm hg hok hlook
   rcases hD with⟨hw,hD⟩| ⟨hw,hD⟩
   ·rw [hw] at hwl
    rw [if_neg (by rw [←hwl];simp)]
    obtain⟨e',g1,g2,g3,g4⟩:=pI hD
    refine⟨fun f _=>dj r f,hK _ e' H Q μ _ w (xj ck I hanc g2 g3 g4 (Mu.le_refl _) I.hr I.ext kT (.inl rfl) (fun z hz=>hz) (fun z hz _=>hz) (fun i b blk hb=> ?_) I.pnod I.pinod I.pids) g1⟩
    obtain⟨_,r2,r3,_,r5,r6⟩:=I.pend i b blk hb
    exact⟨r2,r3,r5,r6⟩
   ·rw [hw] at hwl
    rw [if_pos hwl.symm]
    exact go hwl.symm hD
end
section
variable {P : Program} {G : bg} {nt : Nat} {ops : Array Oper} {e0 : En} {μ0 : Mu} {H0 : Hp} {w0 : World} {C1 : CV} {C2 : List It} {S : Nat -> Prop} {e : En} {H : Hp} {L : fR} {Q : fT} {μ : Mu} {a : Act} {w : World}
theorem Inv.congr {S':Nat->Prop} (h:∀j,S j↔S' j) (I:Inv P G nt ops e0 μ0 H0 w0 C1 C2 S e H L Q μ a w):Inv P G nt ops e0 μ0 H0 w0 C1 C2 S' e H L Q μ a w:=by
 have:S=S':=funext fun j=>propext (h j)
 exact this▸I
theorem JU (ck:Chk P G ops) {ih:Evs} {k:AEx->En->Hp->Bool}:∀{C2:List It} {C1:CV} {e:En} {H:Hp} {L:fR} {Q:fT},Inv P G nt ops e0 μ0 H0 w0 C1 C2 S e H L Q μ a w->Dn P G nt ops.toList C2 ih e H L Q k=true->
  ∃C1' C2' e' H' L' Q',Inv P G nt ops e0 μ0 H0 w0 C1' C2' S e' H' L' Q' μ a w/\Dn P G nt ops.toList C2' ih e' H' L' Q' k=true/\(C2'=[]∨∃it rest,C2'=it::rest/\itM P G it=true):=by
 intro C2
 induction C2 with
 | nil=>intro C1 e H L Q I hD;exact⟨_,_,_,_,_,_,I,hD,.inl rfl⟩
 | cons it C2 ih2=>
  intro C1 e H L Q I hD
  cases hm:itM P G it with
  | true=>exact⟨_,_,_,_,_,_,I,hD,.inr ⟨it,C2,rfl,hm⟩⟩
  | false=>
   obtain⟨v,e',H',L',Q',I',hD'⟩:=EO ck I hm hD
   exact ih2 I' hD'
theorem Inv.done_all (I:Inv P G nt ops e0 μ0 H0 w0 C1 C2 S e H L Q μ a w) (hall:∀j,j<ops.size->S j) {ih:Evs} {k:AEx->En->Hp->Bool} (hD:Dn P G nt ops.toList C2 ih e H L Q k=true):gN G μ0 H0 w0 nt k .normal a w:=by
 have hlt:∀it∈its ops,it.i<ops.size:=fun it hit=>(ir.1 (pJ hit)).1
 cases C2 with
 | cons it C2=>exact absurd (hall _ (hlt it (I.mem2 cE))) (I.sub it cE)
 | nil=>
  rw [Qk] at hD
  obtain⟨H',hl,hk⟩:=Bc hD
  obtain⟨l1,l2,l3,l4,l5⟩:=vd hl I.hr I.ext (fun z hz=>by
   obtain⟨i,b,blk⟩:=z
   obtain⟨r1,r2,r3,⟨y,hy,hyi⟩,r5,_⟩:=I.pend i b blk hz
   exact⟨r1,r2,r3,r5 (hyi▸hall _ (hlt y.1 (I.mem hy)))⟩) I.pnod I.pids
  refine⟨.normal,e,μ,H',l1,l2,.inl ⟨I.size,fun t ht=> ?_⟩,by rw [I.dm];exact I.dms,.normal,hk⟩
  rw [I.env t ht]
  rcases oJ C1 e0 t with⟨x,hx,hxd,hxe⟩| ⟨hno,hxe⟩
  ·rw [hxe];exact I.done t ht x hx (hall _ (hlt x.1 (I.mem hx))) hxd
  ·rw [hxe];exact I.rest t ht fun y hy _=>hno y hy
theorem Jy {listed:Array Bool} {i:Nat} (hi:i<listed.size) (hf:listed.getD i false=false):(listed.setIfInBounds i true).toList.countP (fun b=> !b)+1=listed.toList.countP (fun b=> !b):=by
 rw [Array.toList_setIfInBounds,List.countP_set (by simpa using hi)]
 have h1:listed.toList[i]'(by simpa using hi)=false:=by
  have:listed[i]=false:=by simpa [Array.getD,hi] using hf
  simpa using this
 rw [h1]
 have:0<listed.toList.countP (fun b=> !b):=by
  rw [List.countP_pos_iff]
  exact⟨_,cO (by simpa using hi),by rw [h1];rfl⟩
 have e1:(if (!false)=true then 1 else 0)=1:=rfl
 have e2:(if (!true)=true then 1 else 0)=0:=rfl
 rw [e1,e2]
 omega
theorem FX {listed:Array Bool} (h:listed.toList.countP (fun b=> !b)=0) {i:Nat} (hi:i<listed.size):listed.getD i false=true:=by
 rw [List.countP_eq_zero] at h
 have:=h listed[i] (Array.getElem_mem_toList hi)
 simpa [Array.getD,hi] using this
theorem Hz (ck:Chk P G ops) {md:Region.Mode} (hp:Rj md ops) {ih:Evs} (h1:gP P G ih.code) (h2:gI P G ih.call) {k:AEx->En->Hp->Bool} {r:Option Nat} {QQ:Exit->Act->World->Prop}
  (hQQ:∀e' a' w',gN G μ0 H0 w0 nt k e' a' w'->QQ e' a' w'):∀(fuel:Nat) (listed:Array Bool) (C1:CV) (C2:List It) (e:En) (H:Hp) (L:fR) (Q:fT) (μ:Mu) (a:Act) (w:World),listed.size=ops.size->
   listed.toList.countP (fun b=> !b)<=fuel->Inv P G nt ops e0 μ0 H0 w0 C1 C2 (fun j=>listed.getD j false=true) e H L Q μ a w->Dn P G nt ops.toList C2 ih e H L Q k=true->
   wpAnyIn (Fen r) 0 P md ops QQ fuel listed a w:=by
 intro fuel
 induction fuel with
 | zero=>
  intro listed C1 C2 e H L Q μ a w hsz hcnt I hD
  have hall:∀j,j<ops.size->listed.getD j false=true:=fun j hj=>FX (by omega) (by omega)
  refine⟨?_,hQQ _ _ _ (I.done_all hall hD)⟩
  cases hr:Region.ready md ops listed with
  | nil=>rfl
  | cons i rs=>
   have hi:i∈Region.ready md ops listed:=by rw [hr];exact cE
   obtain⟨g1,o,g2,_⟩:=mem_ready.1 hi
   have hlt:i<ops.size:=(ir.1 g2).1
   have:=hall i hlt
   have hlt':i<listed.size:=by omega
   simp [Array.getD,hlt'] at g1 this
   rw [g1] at this;cases this
 | succ fuel ihf=>
  intro listed C1 C2 e H L Q μ a w hsz hcnt I hD
  refine⟨fun hnil=> ?_,fun i hi=> ?_⟩
  ·refine hQQ _ _ _ (I.done_all (fun j hj=> ?_) hD)
   cases hl:listed.getD j false with
   | true=>rfl
   | false=>exact absurd hnil (hp listed hsz ⟨j,hj,hl⟩)
  ·obtain⟨g1,o,g2,g3⟩:=mem_ready.1 hi
   have hlt:i<ops.size:=(ir.1 g2).1
   have hlt':i<listed.size:=by omega
   have hnS:listed.getD i false=false:=by simpa [Array.getD,hlt'] using g1
   obtain⟨C1',C2',e',H',L',Q',I',hD',hhead⟩:=JU ck I hD
   have hy0:=AO ck.canon i hlt
   obtain⟨y,hy,hyi⟩:∃y∈canon P G ops,y.i=i:=hy0.resolve_left (by simp)
   have hyits:=tr hy
   have hyo:y.o=o:=by
    have:=pJ hyits
    rw [hyi,g2] at this
    exact (fc this).symm
   have hanc:∀j,y.anc.testBit j=true->listed.getD j false=true:=by
    intro j hj
    have ha:=cw (eI.1 ck.anc y hyits)
    rw [ha] at hj
    rcases zW hj with h | ⟨ed,he1,he2,he3⟩
    ·simp at h
    ·have hon:=g3 ed (by rw [←hyo];simpa using he1) (wU he2)
     rcases he3 with rfl | ⟨x,hx1,hx2,hx3⟩
     ·exact hon
     ·exact I'.closed x hx1 (by rw [hx2];exact hon) j hx3
   have hset:∀(C1:CV) (C2:List It) (e:En) (H:Hp) (L:fR) (Q:fT) (μ:Mu) (a:Act) (w:World),Inv P G nt ops e0 μ0 H0 w0 C1 C2 (fun j=>listed.getD j false=true∨j=y.i) e H L Q μ a w->
     Dn P G nt ops.toList C2 ih e H L Q k=true->wpAnyIn (Fen r) 0 P md ops QQ fuel (listed.setIfInBounds i true) a w:=by
    intro C1 C2 e H L Q μ a w I hD
    refine ihf _ C1 C2 e H L Q μ a w (by simpa using hsz) ?_ (I.congr fun j=> ?_) hD
    ·have:=Jy hlt' hnS
     omega
    ·rw [hyi]
     constructor
     ·rintro (h | h)
      ·exact getD_set_true h
      ·subst h;simp [Array.getD,hlt']
     ·intro h
      by_cases hij:i=j
      ·exact .inr hij.symm
      ·rw [getD_set_ne false hij] at h;exact .inl h
   unfold wpOpIn
   rw [g2]
   simp only
   rw [←hyo]
   have hsp:=I'.split
   rw [hsp] at hy
   rcases dF.1 hy with hy | hy
   ·obtain⟨z,hz,hzy⟩:=lF.1 hy
    subst hzy
    exact Iv ck I' hz (by rw [hyi,hnS];simp) hanc fun μ' a' w' I2=>hset _ _ _ _ _ _ _ _ _ I2 hD'
   ·rcases hhead with hnil | ⟨it,rest,hcons,hm⟩
    ·rw [hnil] at hy;cases hy
    ·subst hcons
     rcases cy.1 hy with hy | hy
     ·subst hy
      refine Xw ck h1 h2 I' hm hD' hanc (fun v e2 H2 Q2 μ2 a2 w2 I2 hD2=>hset _ _ _ _ _ _ _ _ _ I2 hD2) (fun v yv μ2 H2 w2 hh hx hv hd hk hb=>hQQ _ _ _ ⟨.pan v _,e',μ2,H2,hh,hx,.inr ⟨v,_,rfl,hb⟩,hd,.pan v yv _ hv,hk⟩)
     ·obtain⟨p1,p2,hpp⟩:=od hy
      have hc:=hsp
      rw [hpp] at hc
      have hc2:canon P G ops=(C1'.map (·.1)++it::p1)++y::p2:=by rw [hc];simp
      have ck1:=ck.canon
      rw [hc2] at ck1
      have hbit:=(io ck1).2.2.2 it (by simp) hm
      exact absurd (hanc _ hbit) (I'.sub it cE)
theorem DB:Bx P G:=by
 intro nt id ops
 unfold Im
 split
 ·rename_i hok
  rw [bH,bH] at hok
  unfold G7 at hok
  simp only [bX] at hok
  obtain⟨k1,k2,k3,k4,k5,k6⟩:=hok
  have ck:Chk P G ops:=⟨k1,k2,k4,k5⟩
  cases hb:wd P G (gL ops.toList) nt ops.toList (canon P G ops) with
  | mk f=>
  have hDn:Dn P G nt ops.toList (canon P G ops)=f:=by unfold Dn;rw [hb];rfl
  refine⟨_,rfl,fun h1 h2 e H k hk μ a w r hh he hd=> ?_⟩
  rw [←hDn] at hk
  have hprog:(∀md,(Region.departs ops=false->md= .any)->Rj md ops):=by
   intro md hmd
   unfold CI at k6
   split at k6
   ·rename_i hdep
    rw [hmd hdep]
    exact uH (fun e h=>h) k6
   ·simp only [bX] at k6
    cases md with
    | text=>exact uH (fun e h=>h) k6.1
    | gc=>exact uH (fun e h=>h) k6.2
    | any=>exact uH (fun e h=>wU h) k6.1
  have any:∀md,(Region.departs ops=false->md= .any)->∀t,wpOpsIn (Fen r) 0 P ops (gN G μ H w nt k) (Region.linearise md ops t) a {w with drawn:=w.drawn+1}:=by
   intro md hmd t
   refine wpAnyIn_sound ops.size t _ a _ (Hz ck (hprog md hmd) h1 h2 (e0:=e) (μ0:=μ) (H0:=H) (w0:=w) (nt:=nt) (k:=k) (fun _ _ _ h=>h) ops.size _ [] (canon P G ops) e H [] [] μ a _ (by simp) ?_ ?_ hk)
   ·refine fC (List.countP_le_length) (by simp)
   ·have hS:∀j,¬(Array.replicate ops.size false).getD j false=true:=fun j=>by
     by_cases h:j<ops.size
     ·simp [Array.getD,h]
     ·simp [Array.getD,h]
    exact⟨by simp,fun t ht=>rfl,rfl,fun it hit=>hS _,fun it hit hs=>absurd hs (hS _),fun y hy=>(by cases hy),fun y hy=>(by cases hy),he.size,fun t ht y hy=>(by cases hy),fun t ht _=>he.get t ht,hd,hh.heap rfl,Ext.heap rfl rfl rfl,
     fun pre y post hs=>(by cases pre<;>cases hs),fun i b blk hb=>(by cases hb),by simp,by simp,fun x hx=>(by cases hx)⟩
  refine wpIn_region_draw fun t=> ?_
  unfold Region.schedule
  split
  ·exact any .any (fun _=>rfl) t
  ·rename_i hcond
   have hdep:Region.departs ops=true:=by
    cases hq:Region.departs ops with
    | true=>rfl
    | false=>simp [hq] at hcond
   split
   ·exact any .text (fun h=>by rw [hdep] at h;cases h) _
   ·exact any .gc (fun h=>by rw [hdep] at h;cases h) _
 ·exact⟨_,rfl,fun _ _ e H k hk=>by cases hk⟩
end
inductive sF (μ:Mu) (H:Hp) (own:Bool):List Nat->List Nat->Prop where
 | nil:sF μ H own [] []
 | cons {b k:Nat} {I L:List Nat} (h:∃p z,μ b=some p/\p.blk=k/\H.get b=some z/\(own=true->z.own=true)) (hs:sF μ H own I L):sF μ H own (b::I) (k::L)
theorem sF.append {μ:Mu} {H:Hp} {own:Bool} {I J L M:List Nat} (h:sF μ H own I L) (h':sF μ H own J M):sF μ H own (I++J) (L++M):=by
 induction h with
 | nil=>exact h'
 | cons h _ ih=>exact .cons h ih
theorem sF.mem {μ:Mu} {H:Hp} {own:Bool} {I L:List Nat} (h:sF μ H own I L) {k:Nat} (hk:k∈L):∃b∈I,∃p z,μ b=some p/\p.blk=k/\H.get b=some z/\(own=true->z.own=true):=by
 induction h with
 | nil=>cases hk
 | cons h _ ih=>
  rcases cy.1 hk with rfl | hk
  ·exact⟨_,cE,h⟩
  ·obtain⟨b,hb,h⟩:=ih hk
   exact⟨b,co _ hb,h⟩
theorem sF.nodup {G:bg} {μ:Mu} {H:Hp} {w:World} {I L:List Nat} (h:sF μ H true I L) (hh:HRg G μ H w) (hI:I.Nodup):L.Nodup:=by
 induction h with
 | nil=>exact .nil
 | cons h hs ih=>
  rw [jL] at hI⊢
  refine⟨fun hk=> ?_,ih hI.2⟩
  obtain⟨p,z,h1,h2,h3,h4⟩:=h
  obtain⟨b',hb',p',z',g1,g2,g3,g4⟩:=hs.mem hk
  exact hI.1 (hh.own _ _ _ _ _ _ h3 h1 (h4 rfl) g3 g1 (h2.trans g2.symm)▸hb')
theorem re:∀{es:List (AV×AV×Nat)} {j:Nat},mn es j=true->∀(i:Nat) y v s,es[i]? =some (y,v,s)->s=j+i:=by
 intro es
 induction es with
 | nil=>intro j _ i y v s h;simp at h
 | cons e es ih=>
  intro j h i y v s hs
  obtain⟨a,b,c⟩:=e
  simp only [mn] at h
  split at h
  ·rename_i hc
   have hc:=cw hc
   cases i with
   | zero=>simp at hs;rw [←hs.2.2,hc];rfl
   | succ i=>
    have:=ih h i y v s (by simpa using hs)
    omega
  ·cases h
section
variable {G : bg} {μ : Mu} {H : Hp} {w : World} {own : Bool}
theorem Hx:∀(n:Nat),(∀{v:AV} {d:D} {I:List Nat} {x:Value},rdx own n H v=some (d,I)->HRg G μ H w->VR μ v x->∃L,DV (hpz w) (!own) d x L/\sF μ H own I L)/\
  (∀{vs:List AV} {ds:List D} {I:List Nat} {xs:List Value},sv own n H vs=some (ds,I)->HRg G μ H w->VRs μ vs xs->∃L,DVs (hpz w) (!own) ds xs L/\sF μ H own I L):=by
 intro n
 induction n with
 | zero=>exact⟨fun h=>by simp [rdx] at h,fun h=>by simp [sv] at h⟩
 | succ n ih=>
  obtain⟨ih1,ih2⟩:=ih
  constructor
  ·intro v d I x h hh hv
   simp only [rdx] at h
   split at h
   ·cases h;cases hv;exact⟨_,.bool _,.nil⟩
   ·cases h;cases hv;exact⟨_,.int _ _,.nil⟩
   ·cases h;cases hv with | str s _ hs=>exact⟨_,.str _ _ hs,.nil⟩
   ·cases h;cases hv;exact⟨_,.nilp,.nil⟩
   ·cases h;cases hv;exact⟨_,.nils,.nil⟩
   ·cases h;cases hv;exact⟨_,.nilm,.nil⟩
   ·cases h;cases hv;exact⟨_,.nilf,.nil⟩
   ·cases h;cases hv;exact⟨_,.nili,.nil⟩
   ·rename_i b off
    split at h
    ·rename_i _ ro cs hb
     split at h
     ·rename_i ds J hro hrd
      cases h
      cases hv with | ptr _ _ p hp=>
      obtain⟨arr,el,fz,g1,g2,g3,g4,g5⟩:=hh.at hb hp
      obtain⟨xs,k1,k2,k3⟩:=hJ (n:=cs.length) g5 (bh _)
      rw [lE] at k2
      obtain⟨L,l1,l2⟩:=ih2 hrd hh k2
      have hlen:=l1.length
      refine⟨p.blk::L,.ptr ds off p arr el fz xs L g1 g2 (by omega) (fun ho=>(g4 ?_).1) k3 l1,.cons ⟨p,_,hp,rfl,hb,fun ho=> ?_⟩ l2⟩
      ·cases own<;>simp at ho hro;exact hro
      ·subst ho;simp at hro;subst hro;rfl
     ·cases h
    ·cases h
   ·rename_i b off len sz c
    split at h
    ·rename_i _ ro cs hb
     split at h
     ·rename_i cs' hro htk
      split at h
      ·rename_i ds J hrd
       cases h
       obtain⟨rfl,hlen⟩:=lS htk
       cases hv with | sl _ _ _ _ _ p cap a hp hl ht hc hn ha=>
       obtain⟨arr,el,fz,g1,g2,g3,g4,g5⟩:=hh.at hb hp
       obtain⟨xs,k1,k2,k3⟩:=hJ (n:=len * sz) (cs:=cs.drop off) (arr:=arr) (base:=p.base+off) (μ:=μ) (fun i c' hc'=>by
        rw [kB] at hc'
        rw [fm]
        exact g5 _ _ hc') hlen
       obtain⟨L,l1,l2⟩:=ih2 hrd hh k2
       have hl1:=l1.length
       have hmul:len * sz<=cap * sz:=lu _ hl
       refine⟨p.blk::L,.sl sz ds len a cap ⟨p.blk,p.base+off,cap * sz⟩ arr el fz xs L g1 hl rfl (by simp only;omega) (by simp only;omega) (fun ho=>(g4 ?_).1) k3 ha l1,.cons ⟨p,_,hp,rfl,hb,fun ho=> ?_⟩ l2⟩
       ·cases own<;>simp at ho hro;exact hro
       ·subst ho;simp at hro;subst hro;rfl
      ·cases h
     ·cases h
    ·cases h
   ·rename_i b
    split at h
    ·rename_i ro es cl hb
     split at h
     ·rename_i hro hst
      split at h
      ·rename_i ks I1 vs I2 hk1 hk2
       cases h
       simp only [bX] at hst
       have hcl:=cw hst.1
       cases hv with | map _ p hp=>
       obtain⟨ents,g1,g2,g3⟩:=hh.at hb hp
       have hkeys:VRs μ (es.map (·.1)) (ents.toList.map (·.key)):=iV (by simp [g2]) fun i v hv=>by
        simp only [gO,lw] at hv
        obtain⟨⟨y,v',s⟩,hv1,rfl⟩:=hv
        obtain⟨x,hx,hy,_⟩:=g3 i _ _ _ hv1
        exact⟨x.key,by simp [hx],hy⟩
       have hvals:VRs μ (es.map (·.2.1)) (ents.toList.map (·.val)):=iV (by simp [g2]) fun i v hv=>by
        simp only [gO,lw] at hv
        obtain⟨⟨y,v',s⟩,hv1,rfl⟩:=hv
        obtain⟨x,hx,_,hy,_⟩:=g3 i _ _ _ hv1
        exact⟨x.val,by simp [hx],hy⟩
       obtain⟨L,l1,l2⟩:=ih2 hk1 hh hkeys
       obtain⟨M,m1,m2⟩:=ih2 hk2 hh hvals
       have e1:=l1.length
       have e2:=m1.length
       simp at e1 e2
       refine⟨p.blk::(L++M),.map ks vs p.blk ents _ _ L M (by show w.heap[p.blk]? =_;rw [g1,hcl];congr 2;omega) (by omega) (by omega) (fun i e he=> ?_) l1 m1,.cons ⟨p,_,hp,rfl,hb,fun ho=> ?_⟩ (l2.append m2)⟩
       ·refine⟨by simp [he],by simp [he], ?_⟩
        have hi:i<es.length:=by have:=(ir.1 he).1;omega
        have hes':es[i]? =some (es[i].1,es[i].2.1,es[i].2.2):=dW hi
        obtain⟨x,hx,_,_,hborn⟩:=g3 i _ _ _ hes'
        rw [he] at hx
        cases hx
        rw [hborn,re hst.2 i _ _ _ hes',ca]
       ·subst ho;simp at hro;subst hro;rfl
      ·cases h
     ·cases h
    ·cases h
   ·split at h
    ·rename_i a I1 c I2 h1 h2
     cases h
     cases hv with | fn _ _ _ a' c' ha hc=>
     obtain⟨L,l1,l2⟩:=ih2 h1 hh ha
     obtain⟨M,m1,m2⟩:=ih2 h2 hh hc
     exact⟨_,.fn _ _ _ _ _ _ _ l1 m1,l2.append m2⟩
    ·cases h
   ·split at h
    ·rename_i v' I1 h1
     cases h
     cases hv with | ifc _ _ y hy=>
     obtain⟨L,l1,l2⟩:=ih1 h1 hh hy
     exact⟨_,.ifc _ _ _ _ l1,l2⟩
    ·cases h
   ·split at h
    ·rename_i cs' I1 h1
     cases h
     cases hv with | agg _ y hy=>
     obtain⟨L,l1,l2⟩:=ih2 h1 hh hy
     exact⟨_,.agg _ _ _ l1,l2⟩
    ·cases h
   ·split at h
    ·rename_i cs' I1 h1
     cases h
     cases hv with | tup _ y hy=>
     obtain⟨L,l1,l2⟩:=ih2 h1 hh hy
     exact⟨_,.tup _ _ _ l1,l2⟩
    ·cases h
   ·cases h
   ·cases h
   ·cases h
  ·intro vs ds I xs h hh hv
   cases vs with
   | nil=>
    simp only [sv] at h
    cases h
    cases hv
    exact⟨[],.nil,.nil⟩
   | cons v vs=>
    simp only [sv] at h
    split at h
    ·rename_i d I1 ds' I2 h1 h2
     cases h
     cases hv with | cons _ x _ xs hx hxs=>
     obtain⟨L,l1,l2⟩:=ih1 h1 hh hx
     obtain⟨M,m1,m2⟩:=ih2 h2 hh hxs
     exact⟨_,.cons _ _ _ _ _ _ l1 m1,l2.append m2⟩
    ·cases h
structure wz (G:bg) (ro:Bool) (μ:Mu) (H:Hp) (w:World) (μ':Mu) (H':Hp) (L:List Nat):Prop where
 hr:HR G μ' H' w
 mu:μ.le μ'
 below:∀b,b<H.nx->μ' b=μ b
 keep:∀b,b<H.nx->H'.get b=H.get b
 nx:H.nx<=H'.nx
 new:∀b x p,H.nx<=b->H'.get b=some x->μ' b=some p->p.blk∈L/\x.own= !ro
 zeq:μ'.z=μ.z
def oH (G:bg) (ro:Bool) (μ:Mu) (H:Hp) (L:List Nat):Prop:=
 (ro=false->L.Nodup/\∀k∈L,(∀c z q,H.get c=some z->μ c=some q->q.blk≠k)/\(∀g cs,G g=some cs->k≠g)/\μ.z k=none)/\(ro=true->∀b x,H.get b=some x->x.own=false)
theorem wz.refl {ro:Bool} (h:HR G μ H w) {L:List Nat}:wz G ro μ H w μ H L:=
 ⟨h,Mu.le_refl _,fun _ _=>rfl,fun _ _=>rfl,bh _,fun b x p hb hx _=>(by rw [(h.none hb).2] at hx;cases hx),rfl⟩
theorem wz.trans {ro:Bool} {μ' μ'':Mu} {H' H'':Hp} {L M N:List Nat} (h:wz G ro μ H w μ' H' L) (h':wz G ro μ' H' w μ'' H'' M) (hN:∀k,k∈L∨k∈M->k∈N):wz G ro μ H w μ'' H'' N where
 hr:=h'.hr
 mu:=Mu.le_trans h.mu h'.mu
 below b hb:=(h'.below b (gY hb h.nx)).trans (h.below b hb)
 keep b hb:=(h'.keep b (gY hb h.nx)).trans (h.keep b hb)
 nx:=fC h.nx h'.nx
 new b x p hb hx hp:=by
  by_cases hb':b<H'.nx
  ·rw [h'.keep b hb'] at hx
   rw [h'.below b hb'] at hp
   obtain⟨h1,h2⟩:=h.new b x p hb hx hp
   exact⟨hN _ (.inl h1),h2⟩
  ·obtain⟨h1,h2⟩:=h'.new b x p (Nat.le_of_not_lt hb') hx hp
   exact⟨hN _ (.inr h1),h2⟩
 zeq:=h'.zeq.trans h.zeq
theorem oH.left {ro:Bool} {L M:List Nat} (h:oH G ro μ H (L++M)):oH G ro μ H L:=
 ⟨fun hr=>⟨((nW.1 (h.1 hr).1).1),fun k hk=>(h.1 hr).2 k (gR _ hk)⟩,h.2⟩
theorem oH.tail {ro:Bool} {k:Nat} {L:List Nat} (h:oH G ro μ H (k::L)):oH G ro μ H L:=
 ⟨fun hr=>⟨(jL.1 (h.1 hr).1).2,fun k hk=>(h.1 hr).2 k (co _ hk)⟩,h.2⟩
theorem oH.next {ro:Bool} {μ':Mu} {H':Hp} {L M:List Nat} (h:oH G ro μ H (L++M)) (hl:wz G ro μ H w μ' H' L):oH G ro μ' H' M:=by
 refine⟨fun hr=> ?_,fun hr b x hb=> ?_⟩
 ·obtain⟨h1,h2⟩:=h.1 hr
  obtain⟨n1,n2,n3⟩:=nW.1 h1
  refine⟨n2,fun k hk=>⟨fun c z q hc hq he=> ?_,(h2 k (kz _ hk)).2.1,by rw [hl.zeq];exact (h2 k (kz _ hk)).2.2⟩⟩
  by_cases hcn:c<H.nx
  ·rw [hl.keep c hcn] at hc
   rw [hl.below c hcn] at hq
   exact (h2 k (kz _ hk)).1 c z q hc hq he
  ·obtain⟨h3,_⟩:=hl.new c z q (Nat.le_of_not_lt hcn) hc hq
   exact n3 _ h3 _ hk he
 ·by_cases hbn:b<H.nx
  ·rw [hl.keep b hbn] at hb
   exact h.2 hr b x hb
  ·obtain⟨p,hp,_⟩:=hl.hr.get b x hb
   rw [(hl.new b x p (Nat.le_of_not_lt hbn) hb hp).2,hr];rfl
theorem yn {ro:Bool} {y:Blk} {p:Pl} (h:HR G μ H w) (hnx:True) (hy:BR (μ.upd H.nx p) p y w.heap[p.blk]?) (hown:y.own= !ro)
  (hfree:oH G ro μ H [p.blk]):wz G ro μ H w (μ.upd H.nx p) ⟨H.t.set H.nx (some y),H.nx+1⟩ [p.blk]:=by
 obtain⟨hm,hg⟩:=h.none (bh _)
 have hle:=dU p hm
 have hget:∀c,c≠H.nx->(⟨H.t.set H.nx (some y),H.nx+1⟩:Hp).get c=H.get c:=fun c hc=>cu (nx':=H.nx) hnx hc
 have hself:(⟨H.t.set H.nx (some y),H.nx+1⟩:Hp).get H.nx=some y:=dJ hnx
 have hhr:HR G (μ.upd H.nx p) ⟨H.t.set H.nx (some y),H.nx+1⟩ w:=by
  cases ro with
  | false=>
   obtain⟨_,h2⟩:=hfree.1 rfl
   obtain⟨h3,h4,h5⟩:=h2 p.blk (by simp)
   exact HR.add (H:=⟨H.t,H.nx+1⟩) h.reserve hnx (nM _) hm (by simpa [gp] using hg) hy
    (fun c z q hc hq=>h3 c z q (by simpa [gp] using hc) hq) (fun g cs hG=>h4 g cs hG) (fun _=>h5)
  | true=>
   have hall:=hfree.2 rfl
   have hno:∀c z,(⟨H.t.set H.nx (some y),H.nx+1⟩:Hp).get c=some z->z.own=false:=fun c z hc=>by
    by_cases e:c=H.nx
    ·subst e;rw [hself] at hc;cases hc;exact hown
    ·rw [hget c e] at hc;exact hall c z hc
   refine⟨⟨fun c z hc=> ?_,fun c z q d u r hc hq hz=>(by rw [hno c z hc] at hz;cases hz),fun g cs hG=> ?_,fun g cs c z q hG hc hz=>(by rw [hno c z hc] at hz;cases hz),h.froz,fun c z q hc hz=>(by rw [hno c z hc] at hz;cases hz)⟩,fun c q hc=> ?_⟩
   ·by_cases e:c=H.nx
    ·subst e;rw [hself] at hc;cases hc;exact⟨p,bT _ _ _,hy⟩
    ·rw [hget c e] at hc
     obtain⟨q,hq,hr⟩:=h.get c z hc
     exact⟨q,hle.1 _ _ hq,hr.mono hle⟩
   ·obtain⟨arr,el,fz,ha,hz,hv⟩:=h.glob g cs hG
    exact⟨arr,el,fz,ha,hz,fun i c hc=>let ⟨v,h1,h2⟩:=hv i c hc;⟨v,h1,h2.mono hle⟩⟩
   ·by_cases e:c=H.nx
    ·subst e;exact nM _
    ·rw [cq _ _ e] at hc;exact Nat.lt_succ_of_lt (h.dom c q hc)
 refine⟨hhr,hle,fun b hb=>cq _ _ (kR hb),fun b hb=>hget b (kR hb),Nat.le_succ _,fun b x q hb hx hq=> ?_,rfl⟩
 by_cases e:b=H.nx
 ·subst e
  rw [hself] at hx
  rw [bT] at hq
  cases hx;cases hq
  exact⟨by simp,hown⟩
 ·rw [hget b e] at hx
  rw [(h.none hb).2] at hx
  cases hx
theorem F3:∀{as bs:List AV} {j:Nat},as.length=bs.length->(xT as bs j).length=as.length/\∀(i:Nat) y v s,(xT as bs j)[i]? =some (y,v,s)->as[i]? =some y/\bs[i]? =some v/\s=j+i:=by
 intro as
 induction as with
 | nil=>intro bs j h;cases bs<;>simp at h;simp [xT]
 | cons a as ih=>
  intro bs j h
  cases bs with
  | nil=>simp at h
  | cons b bs=>
   obtain⟨h1,h2⟩:=ih (j:=j+1) (by simpa using h)
   refine⟨by simp [xT,h1],fun i y v s hs=> ?_⟩
   cases i with
   | zero=>simp [xT] at hs;simp [hs]
   | succ i=>
    simp only [xT,nS] at hs
    obtain⟨g1,g2,g3⟩:=h2 i y v s hs
    exact⟨by simpa using g1,by simpa using g2,by omega⟩
end
section
variable {G : bg} {w : World} {ro : Bool}
theorem Oa:∀(n:Nat),(∀{d:D} {H:Hp} {k:AV->Hp->Bool} {μ:Mu} {x:Value} {L:List Nat},al ro n d H k=true->HR G μ H w->DV (hpz w) ro d x L->oH G ro μ H L->
   ∃v H' μ',k v H'=true/\wz G ro μ H w μ' H' L/\VR μ' v x)/\
  (∀{ds:List D} {H:Hp} {k:List AV->Hp->Bool} {μ:Mu} {xs:List Value} {L:List Nat},als ro n ds H k=true->HR G μ H w->DVs (hpz w) ro ds xs L->oH G ro μ H L->
   ∃vs H' μ',k vs H'=true/\wz G ro μ H w μ' H' L/\VRs μ' vs xs):=by
 intro n
 induction n with
 | zero=>exact⟨fun h=>by simp [al] at h,fun h=>by simp [als] at h⟩
 | succ n ih=>
  obtain⟨ih1,ih2⟩:=ih
  constructor
  ·intro d H k μ x L h hh hd hf
   simp only [al] at h
   split at h
   ·cases hd;exact⟨_,H,μ,h,.refl hh,.bool _⟩
   ·cases hd;exact⟨_,H,μ,h,.refl hh,.int _ _⟩
   ·cases hd with | str s _ hs=>exact⟨_,H,μ,h,.refl hh,.str _ _ hs⟩
   ·cases hd;exact⟨_,H,μ,h,.refl hh,.nilp⟩
   ·cases hd;exact⟨_,H,μ,h,.refl hh,.nils⟩
   ·cases hd;exact⟨_,H,μ,h,.refl hh,.nilm⟩
   ·cases hd;exact⟨_,H,μ,h,.refl hh,.nilf⟩
   ·cases hd;exact⟨_,H,μ,h,.refl hh,.nili⟩
   ·rename_i ds off
    cases hd with | ptr _ _ p arr el fz xs L g1 g2 g3 g4 g5 hs=>
    obtain⟨vs,H1,μ1,h1,l1,v1⟩:=ih2 h hh hs hf.tail
    obtain⟨hnx,h1⟩:=dN h1
    have hf1:oH G ro μ1 H1 [p.blk]:=(oH.next (L:=L) (M:=[p.blk]) ⟨fun hr=>⟨by have:=(hf.1 hr).1;rw [jL] at this;rw [nW];exact⟨this.2,by simp,fun a ha b hb=>by simp at hb;subst hb;exact fun e=>this.1 (e▸ha)⟩,
     fun k hk=>(hf.1 hr).2 k (by simp at hk;rcases hk with h | h;exact co _ h;rw [h];exact cE)⟩,hf.2⟩ l1)
    have hlen:=v1.length
    have hlen2:=hs.length
    have hm1:=(l1.hr.none (bh _)).1
    have hle:=dU p hm1
    have l2:=yn (y:= .cells none ro vs) l1.hr hnx ⟨arr,el,fz,g1,g2,by omega,fun ho=>⟨g4 ho,.none⟩,fun i c hc=>by
     obtain⟨x,hx,hxv⟩:=v1.get i hc
     exact⟨x,g5 i x hx,hxv.mono hle⟩⟩ (by simp [Blk.own]) hf1
    exact⟨_,_,_,h1,l1.trans l2 (fun k hk=>by rcases hk with h | h;exact co _ h;simp at h;rw [h];exact cE),.ptr _ off p (bT _ _ _)⟩
   ·rename_i sz ds len
    cases hd with | sl _ _ _ a cap p arr el fz xs L g1 glc gc g2 g3 g4 g5 ga hs=>
    obtain⟨vs,H1,μ1,h1,l1,v1⟩:=ih2 h hh hs hf.tail
    obtain⟨hnx,h1⟩:=dN h1
    have hf1:oH G ro μ1 H1 [p.blk]:=(oH.next (L:=L) (M:=[p.blk]) ⟨fun hr=>⟨by have:=(hf.1 hr).1;rw [jL] at this;rw [nW];exact⟨this.2,by simp,fun a ha b hb=>by simp at hb;subst hb;exact fun e=>this.1 (e▸ha)⟩,
     fun k hk=>(hf.1 hr).2 k (by simp at hk;rcases hk with h | h;exact co _ h;rw [h];exact cE)⟩,hf.2⟩ l1)
    have hlen:=v1.length
    have hlen2:=hs.length
    have hm1:=(l1.hr.none (bh _)).1
    have hle:=dU p hm1
    have l2:=yn (y:= .cells none ro vs) l1.hr hnx ⟨arr,el,fz,g1,g2,by omega,fun ho=>⟨g4 ho,.none⟩,fun i c hc=>by
     obtain⟨x,hx,hxv⟩:=v1.get i hc
     exact⟨x,g5 i x hx,hxv.mono hle⟩⟩ (by simp [Blk.own]) hf1
    exact⟨_,_,_,h1,l1.trans l2 (fun k hk=>by rcases hk with h | h;exact co _ h;simp at h;rw [h];exact cE),
     .sl _ 0 len sz none p cap a (bT _ _ _) glc (by omega) (fun n hn=>by cases hn) (fun _=>by omega) (fun hpos=>by simpa using ga hpos)⟩
   ·rename_i ks vs
    cases hd with | map _ _ r ents xs ys L M g1 gsz glen ge hk hv=>
    obtain⟨as,H1,μ1,h1,l1,v1⟩:=ih2 h hh hk hf.tail.left
    obtain⟨bs,H2,μ2,h2,l2,v2⟩:=ih2 h1 l1.hr hv (hf.tail.next l1)
    rw [bH] at h2
    obtain⟨hnx,h2⟩:=dN h2
    have l12:=l1.trans l2 (N:=L++M) (fun k hk=>dF.2 hk)
    have hf2:oH G ro μ2 H2 [r]:=(oH.next (L:=L++M) (M:=[r]) ⟨fun hr=>⟨by have:=(hf.1 hr).1;rw [jL] at this;rw [nW];exact⟨this.2,by simp,fun a ha b hb=>by simp at hb;subst hb;exact fun e=>this.1 (e▸ha)⟩,
     fun k hk=>(hf.1 hr).2 k (by rcases dF.1 hk with h | h;exact co _ h;simp at h;rw [h];exact cE)⟩,hf.2⟩ l12)
    have e1:=v1.length
    have e2:=v2.length
    have e3:=hk.length
    have e4:=hv.length
    have hm2:=(l2.hr.none (bh _)).1
    have hle:=dU ⟨r,0,0⟩ hm2
    obtain⟨q1,q2⟩:=F3 (as:=as) (bs:=bs) (j:=0) (by omega)
    have l3:=yn (y:= .map ro (xT as bs 0) ks.length) (p:=⟨r,0,0⟩) l2.hr hnx ⟨ents,g1,by omega,fun i y v s hs=>by
     obtain⟨p1,p2,p3⟩:=q2 i y v s hs
     obtain⟨kx,k1,k2⟩:=v1.get i p1
     obtain⟨vx,k3,k4⟩:=v2.get i p2
     have hi:i<ents.size:=by
      have:=(jb.1 k1).1
      omega
     obtain⟨r1,r2,r3⟩:=ge i ents[i] (oe hi)
     rw [r1] at k1
     rw [r2] at k3
     cases k1;cases k3
     exact⟨ents[i],oe hi,k2.mono (Mu.le_trans l2.mu hle),k4.mono hle,by omega⟩⟩ (by simp [Blk.own]) hf2
    exact⟨_,_,_,h2,l12.trans l3 (fun k hk=>by rcases hk with h | h;exact co _ h;simp at h;rw [h];exact cE),.map _ ⟨r,0,0⟩ (bT _ _ _)⟩
   ·cases hd with | fn _ _ _ a' c' L M ha hc=>
    obtain⟨as,H1,μ1,h1,l1,v1⟩:=ih2 h hh ha hf.left
    obtain⟨cs,H2,μ2,h2,l2,v2⟩:=ih2 h1 l1.hr hc (hf.next l1)
    exact⟨_,_,_,h2,l1.trans l2 (fun k hk=>dF.2 hk),.fn _ _ _ _ _ (v1.mono l2.mu) v2⟩
   ·cases hd with | ifc _ _ v' _ hv=>
    obtain⟨v,H1,μ1,h1,l1,v1⟩:=ih1 h hh hv hf
    exact⟨_,_,_,h1,l1,.ifc _ _ _ v1⟩
   ·cases hd with | agg _ cs' _ hv=>
    obtain⟨v,H1,μ1,h1,l1,v1⟩:=ih2 h hh hv hf
    exact⟨_,_,_,h1,l1,.agg _ _ v1⟩
   ·cases hd with | tup _ cs' _ hv=>
    obtain⟨v,H1,μ1,h1,l1,v1⟩:=ih2 h hh hv hf
    exact⟨_,_,_,h1,l1,.tup _ _ v1⟩
  ·intro ds H k μ xs L h hh hd hf
   cases ds with
   | nil=>
    simp only [als] at h
    cases hd
    exact⟨_,H,μ,h,.refl hh,.nil⟩
   | cons d ds=>
    simp only [als] at h
    cases hd with | cons _ v L _ vs M hv hvs=>
    obtain⟨a,H1,μ1,h1,l1,v1⟩:=ih1 h hh hv hf.left
    obtain⟨as,H2,μ2,h2,l2,v2⟩:=ih2 h1 l1.hr hvs (hf.next l1)
    exact⟨_,_,_,h2,l1.trans l2 (fun k hk=>dF.2 hk),.cons _ _ _ _ (v1.mono l2.mu) v2⟩
end
mutual
def xD:Nat->D->D->Bool
 | 0,_,_=>false
 | n+1,x,y=>
  match x,y with
  | .bool true,.bool b=>b
  | .bool false,.bool b=> !b
  | .int k a,.int l b=>Nat.beq (oB k) (oB l)&&ieq a b
  | .str a,.str b=>mM a b
  | .nilp,.nilp=>true
  | .ptr a i,.ptr b j=>Nat.beq i j&&jK n a b
  | .nils,.nils=>true
  | .sl z a l,.sl y b m=>Nat.beq z y&&(Nat.beq l m&&jK n a b)
  | .nilm,.nilm=>true
  | .map a b,.map c d=>jK n a c&&jK n b d
  | .fn f a b,.fn g c d=>Nat.beq f g&&(jK n a c&&jK n b d)
  | .nilf,.nilf=>true
  | .ifc t a,.ifc u b=>Nat.beq t u&&xD n a b
  | .nili,.nili=>true
  | .agg a,.agg b=>jK n a b
  | .tup a,.tup b=>jK n a b
  | _,_=>false
def jK:Nat->List D->List D->Bool
 | 0,_,_=>false
 | _+1,[],[]=>true
 | n+1,a::x,b::y=>xD n a b&&jK n x y
 | _+1,_,_=>false
end
theorem zJ:∀(n:Nat),(∀{x y:D},xD n x y=true->x=y)/\(∀{x y:List D},jK n x y=true->x=y):=by
 intro n
 induction n with
 | zero=>exact⟨fun h=>by simp [xD] at h,fun h=>by simp [jK] at h⟩
 | succ n ih=>
  obtain⟨ih1,ih2⟩:=ih
  constructor
  ·intro x y h
   unfold xD at h
   split at h
   ·subst h;rfl
   ·simp at h;subst h;rfl
   ·simp only [bX] at h
    have h2:=h.2
    rw [o5] at h2
    rw [pK h.1,eq_of_beq h2]
   ·rw [oO] at h;simp at h;rw [h]
   ·rfl
   ·simp only [bX] at h;rw [cw h.1,ih2 h.2]
   ·rfl
   ·simp only [bX] at h;rw [cw h.1,cw h.2.1,ih2 h.2.2]
   ·rfl
   ·simp only [bX] at h;rw [ih2 h.1,ih2 h.2]
   ·simp only [bX] at h;rw [cw h.1,ih2 h.2.1,ih2 h.2.2]
   ·rfl
   ·simp only [bX] at h;rw [cw h.1,ih1 h.2]
   ·rfl
   ·rw [ih2 h]
   ·rw [ih2 h]
   ·cases h
  ·intro x y h
   unfold jK at h
   split at h
   ·cases ‹_›
   ·rfl
   ·rename_i n' _ _ _ _ hn;cases hn;simp only [bX] at h;rw [ih1 h.1,ih2 h.2]
   ·cases h
def C8 (P:Program) (G:bg) (f:FuncId) (ds:List D) (d:D):Prop:=∀args H,rds 1000 H args=some ds->
 ∀k:fk->Hp->Bool,al false 1000 d H (fun v H=>k (.ret v) H)=true->∀(μ:Mu) (w:World) (vs:Array Value),HR G μ H w->VRs μ args vs.toList->CallsIn Fence.wide 0 P f vs w (pq G μ H w k)
def yd:List Nat->Bool
 | []=>true
 | n::l=>match qx n l with
  | true=>false
  | false=>yd l
theorem ze {n:Nat}:∀{l:List Nat},qx n l=false->n∉l
 | [],_,h=>by cases h
 | m::l,h,hm=>by
  simp only [qx] at h
  split at h
  ·cases h
  ·rename_i hne
   rcases cy.1 hm with rfl | hm
   ·simp [bW] at hne
   ·exact ze h hm
theorem xg:∀{l:List Nat},yd l=true->l.Nodup
 | [],_=>.nil
 | n::l,h=>by
  simp only [yd] at h
  split at h
  ·cases h
  ·rename_i hn
   exact jL.2 ⟨ze hn,xg h⟩
def Mz (d:D) (e:fk) (H:Hp):Bool:=
 match e with
 | .ret v=>match rdx true 1000 H v with
  | some (d',I)=>xD 1000 d' d&&yd I
  | none=>false
 | .pan _=>false
noncomputable section
def xW (P:Program) (G:bg) (pr:nv) (fuel:Nat) (f:FuncId) (ds:List D) (d:D):Bool:=
 als true 1000 ds Hp.empty fun args H=>(evs P G pr fuel).call f args H (Mz d)
end
def QX:AV->Bool
 | .bool _=>true
 | .int _ _=>true
 | .str _=>true
 | _=>false
def mX (G:bg):Prop:=∀g cs,G g=some cs->cs.all QX=true
theorem vT {μ μ':Mu} {c:AV} {v:Value} (h:QX c=true) (hv:VR μ c v):VR μ' c v:=by
 cases hv<;>simp [QX] at h
 ·exact .bool _
 ·exact .int _ _
 ·rename_i hs;exact .str _ _ hs
def oa:Mu:=⟨fun _=>Option.none,fun _=>Option.none⟩
section
variable {P : Program} {G : bg}
theorem HR.empty (hG:mX G) {μ:Mu} {H:Hp} {w:World} (h:HRg G μ H w):HR G oa Hp.empty w where
 get b x hb:=by rw [cz] at hb;cases hb
 own b x p c y q hb:=by rw [cz] at hb;cases hb
 glob g cs hg:=by
  obtain⟨arr,el,fz,ha,hz,hv⟩:=h.glob g cs hg
  exact⟨arr,el,fz,ha,hz,fun i c hc=>let ⟨v,h1,h2⟩:=hv i c hc;⟨v,h1,vT (eI.1 (hG g cs hg) c (ku hc)) h2⟩⟩
 globf g cs b x p _ hb:=by rw [cz] at hb;cases hb
 froz j o hj:=by cases hj
 frof b x p hb:=by rw [cz] at hb;cases hb
 dom b p hb:=by cases hb
theorem KF (hG:mX G) {pr:nv} {fuel:Nat} (hc:gI P G (evs P G pr fuel).call) {f:FuncId} {ds:List D} {d:D} (h:xW P G pr fuel f ds d=true):C8 P G f ds d:=by
 intro args H hrd k hk μ w vs hh hvs
 unfold rds at hrd
 split at hrd
 ·rename_i ds' I hrx
  cases hrd
  obtain⟨L,hL,_⟩:=(Hx (own:=false) 1000).2 hrx hh.toHRg hvs
  unfold xW at h
  have h0:=HR.empty hG hh.toHRg
  obtain⟨args0,H0,μ0,hrun,laid0,hv0⟩:=(Oa (w:=w) (ro:=true) 1000).2 h h0 hL ⟨fun hr=>(by cases hr),fun _ b x hb=>(by rw [cz] at hb;cases hb)⟩
  have hro:∀b x,H0.get b=some x->x.own=false:=fun b x hb=>by
   obtain⟨p,hp,_⟩:=laid0.hr.get b x hb
   exact (laid0.new b x p (bN _) hb hp).2
  refine CallsIn.mono (hc f args0 H0 _ hrun μ0 w vs laid0.hr hv0) fun en w' ⟨x,μ1,H1,h1,h2,h3,h4⟩=> ?_
  cases h3 with
  | pan v y hv=>cases h4
  | ret v y hv=>
   unfold Mz at h4
   dsimp only at h4
   split at h4
   ·rename_i d' I' hrx'
    simp only [bX] at h4
    have hd:=(zJ 1000).1 h4.1
    subst hd
    obtain⟨L',hL',hcorr⟩:=(Hx (own:=true) 1000).1 hrx' h1.toHRg hv
    have hnd:=hcorr.nodup h1.toHRg (xg h4.2)
    have hfresh:∀j∈L',w.heap.size<=j:=fun j hj=>by
     obtain⟨b,_,p,z,g1,g2,g3,g4⟩:=hcorr.mem hj
     rcases h2.grow b z p g3 g1 with hlt | ⟨c,y',q,g5,g6,g7,g8⟩
     ·omega
     ·have:=hro c y' g5
      rw [g8 (g4 rfl)] at this
      cases this
    have hsame:∀j,j<w.heap.size->w'.heap[j]? =w.heap[j]? :=fun j hj=>h2.keep j hj fun b x p hb hx _=>by
     rw [hro b x hb] at hx;cases hx
    have hh':HR G μ H w':=hh.world (fun b x p hb hp=>hsame _ (hh.lt hb hp)) (fun g cs hg=>hsame _ (hh.globlt hg)) fun j o hj=>hsame _ (hh.frolt hj)
    obtain⟨v',H',μ',k1,laid,hv'⟩:=(Oa (w:=w') (ro:=false) 1000).1 hk hh' hL' ⟨fun _=>⟨hnd,fun j hj=>⟨fun c z q hc hq he=>by
      have:=hh.lt hc hq
      have:=hfresh j hj
      omega,fun g cs hg he=>by
      have:=hh.globlt hg
      have:=hfresh j hj
      omega,by
      cases hz:μ.z j with
      | none=>rfl
      | some o=>have:=hh.frolt hz;have:=hfresh j hj;omega⟩⟩,fun hr=>(by cases hr)⟩
    refine⟨.ret v',μ',H',laid.hr,⟨laid.mu,laid.below,fun b hb hg=>by rw [laid.keep b hb];exact hg,laid.nx,h2.size,fun j hj _=>hsame j hj,fun b x p hb hp=> ?_,h2.os,h2.out,fun j o hj=>.inl (by rw [←laid.zeq];exact hj)⟩,.ret _ _ hv',k1⟩
    by_cases hbn:b<H.nx
    ·rw [laid.keep b hbn] at hb
     rw [laid.below b hbn] at hp
     exact .inr ⟨b,x,p,hb,hp,rfl,id⟩
    ·exact .inl (hfresh _ (laid.new b x p (Nat.le_of_not_lt hbn) hb hp).1)
   ·cases h4
 ·cases hrd
abbrev Tab:=List (FuncId×List D×D)
def pT (f:FuncId) (ds:List D):Tab->Option D
 | []=>none
 | e::t=>Prod.casesOn e fun g e=>Prod.casesOn e fun as d=>match Nat.beq g f with
  | true=>match jK 1000 as ds with
   | true=>some d
   | false=>pT f ds t
  | false=>pT f ds t
def Nz (f:FuncId):Tab->Bool
 | []=>false
 | e::t=>Prod.casesOn e fun g _=>match Nat.beq g f with
  | true=>true
  | false=>Nz f t
def Lv (base:nv) (T:Tab):nv:=fun f=>
 match base f with
 | some g=>some g
 | none=>match Nz f T with
  | true=>some fun ds=>pT f ds T
  | false=>none
def bM (P:Program) (G:bg) (T:Tab):Prop:=∀e∈T,C8 P G e.1 e.2.1 e.2.2
theorem bM.nil:bM P G []:=fun e h=>by cases h
theorem pC {f:FuncId} {ds:List D} {d:D}:∀{T:Tab},pT f ds T=some d->(f,ds,d)∈T
 | [],h=>by cases h
 | (g,as,d')::T,h=>by
  have h:(match Nat.beq g f with
   | true=>match jK 1000 as ds with
    | true=>some d'
    | false=>pT f ds T
   | false=>pT f ds T)=some d:=h
  split at h
  ·rename_i hf
   split at h
   ·rename_i hs
    cases h
    rw [←cw hf,←(zJ 1000).2 hs]
    exact cE
   ·exact co _ (pC h)
  ·exact co _ (pC h)
theorem C9 {base:nv} (hb:oQ P G base) {T:Tab} (hT:bM P G T):oQ P G (Lv base T):=by
 intro f g hg args H ds d hrd hgd k hk μ w vs hh hvs
 unfold Lv at hg
 split at hg
 ·rename_i g' hbf
  cases hg
  exact hb f g hbf args H ds d hrd hgd k hk μ w vs hh hvs
 ·split at hg
  ·cases hg
   exact hT _ (pC hgd) args H hrd k hk μ w vs hh hvs
  ·cases hg
theorem Bw:oQ P G (fun _=>none):=fun f g h=>by cases h
theorem zx {pr:nv} (hpr:oQ P G pr) (N:Nat):gI P G (evs P G pr N).call:=(QS DB hpr N).2.2
theorem bM.cons (hG:mX G) {base:nv} (hb:oQ P G base) {T:Tab} (hT:bM P G T) (fuel:Nat) {f:FuncId} {ds:List D} {d:D} (h:xW P G (Lv base T) fuel f ds d=true):bM P G ((f,ds,d)::T):=by
 intro e he
 rcases cy.1 he with rfl | he
 ·exact KF hG (zx (C9 hb hT) fuel) h
 ·exact hT e he
end
end Go.Ev
namespace Go.Ev
open Go.RowKit
def qL (G:bg) (w:World):Prop:=∀g cs,G g=some cs->∃arr el fz,w.heap[g]? =some (.cells arr el fz)/\arr.size=cs.length/\∀(i:Nat) (c:AV),cs[i]? =some c->∃v,arr[i]? =some v/\VR oa c v
def B5 (e:fk) (_:Hp):Bool:=
 match e with
 | .ret (.bool b)=>b
 | _=>false
section
variable {P : Program} {G : bg}
theorem zZ {w:World} (h:qL G w):HR G oa Hp.empty w where
 get b x hb:=by rw [cz] at hb;cases hb
 own b x p c y q hb:=by rw [cz] at hb;cases hb
 glob:=h
 globf g cs b x p _ hb:=by rw [cz] at hb;cases hb
 froz j o hj:=by cases hj
 frof b x p hb:=by rw [cz] at hb;cases hb
 dom b p hb:=by cases hb
theorem Ext.isBelow' {μ μ':Mu} {H H':Hp} {w w':World} (h:Ext μ H w μ' H' w') (he:∀b,H.get b=none):Below w.heap.size w w':=
 ⟨h.os,(Prod.mk.inj h.out).2,(Prod.mk.inj h.out).1,h.size,fun k hk=>h.keep k hk fun b x p hb=>by rw [he] at hb;cases hb⟩
theorem Ext.isBelow {μ:Mu} {w w':World} {H':Hp} {μ':Mu} (h:Ext μ Hp.empty w μ' H' w'):Below w.heap.size w w':=
 ⟨h.os,(Prod.mk.inj h.out).2,(Prod.mk.inj h.out).1,h.size,fun k hk=>h.keep k hk fun b x p hb=>by rw [cz] at hb;cases hb⟩
theorem Cp {base:nv} (hb:oQ P G base) {T:Tab} (hT:bM P G T) (fuel:Nat) {f:FuncId} (h:(evs P G (Lv base T) fuel).call f [] Hp.empty B5=true) (w:World) (hw:qL G w):
  Calls P f #[] w fun e w'=>e= .returned (.bool true)/\Below w.heap.size w w':=by
 have hc:=zx (C9 hb hT) fuel f [] Hp.empty B5 h oa w #[] (zZ hw) .nil
 refine callsIn_wide.1 (CallsIn.mono hc fun e w' ⟨x,μ',H',h1,h2,h3,h4⟩=> ?_)
 cases h3 with
 | pan=>cases h4
 | ret v x hv=>
  cases hv<;>simp [B5] at h4
  subst h4
  exact⟨rfl,h2.isBelow⟩
end
end Go.Ev
namespace Go.Ev
open Go.RowKit
noncomputable section
section
variable (P : Program) (G : bg)
def M7 (nt:Nat) (c:Code) (ro:Option Nat) (e:En) (H:Hp) (k:AEx->En->Hp->Bool):Prop:=
 ∀(μ:Mu) (a:Act) (w:World) (r:Option Nat),RoR μ ro r->HR G μ H w->fY μ e.t nt a.tmps->DmR μ e.dm a.defers->c.wpIn (Fen r) 0 P (gN G μ H w nt k) a w
def N9 (f:FuncId) (args:List AV) (H:Hp) (k:fk->Hp->Bool):Prop:=
 ∀(μ:Mu) (w:World) (vs:Array Value),HR G μ H w->VRs μ args vs.toList->CallsIn Fence.wide 0 P f vs w (pq G μ H w k)
def oE (nt:Nat) (c:Code) (ro:Option Nat) (e:En) (H:Hp) (k:AEx->En->Hp->Bool):Bool:= @decide (M7 P G nt c ro e H k) (Classical.propDecidable _)
def AP (f:FuncId) (args:List AV) (H:Hp) (k:fk->Hp->Bool):Bool:= @decide (N9 P G f args H k) (Classical.propDecidable _)
def ff (f:FuncId) (args:List AV) (H:Hp) (k:fk->Hp->Bool):Bool:=AP P G f args H fun e H=>fk.casesOn e (fun v=>k (.ret v) H) (fun _=>false)
def M' (k:AEx->En->Hp->Bool) (x:AEx) (e:En) (H:Hp):Bool:=AEx.casesOn x (k .normal e H) (fun i=>k (.exit i) e H) (k .ret e H) (fun _ _=>false)
def cd:Nat->Nat->Code->Option Nat->En->Hp->(AEx->En->Hp->Bool)->Bool
 | 0,nt,c,ro,e,H,k=>oE P G nt c ro e H k
 | n+1,nt,c,ro,e,H,k=>match c with
  | .loop b=>oE P G nt (.loop b) ro e H k
  | .region i ops d=>Box.casesOn (mO P G nt (.region i ops d)) fun f=>f ⟨cd n,ff P G⟩ ro e H (M' k)
  | c=>Box.casesOn (mO P G nt c) fun f=>f ⟨cd n,ff P G⟩ ro e H k
end
variable {P : Program} {G : bg}
theorem uz:gP P G (oE P G):=fun nt c ro e H k h=> @of_decide_eq_true _ (Classical.propDecidable _) h
theorem yT {nt:Nat} {c:Code} {ro:Option Nat} {e:En} {H:Hp} {k:AEx->En->Hp->Bool} (h:M7 P G nt c ro e H k):oE P G nt c ro e H k=true:= @decide_eq_true _ (Classical.propDecidable _) h
theorem xV:gI P G (AP P G):=fun f args H k h=> @of_decide_eq_true _ (Classical.propDecidable _) h
theorem sA {f:FuncId} {args:List AV} {H:Hp} {k:fk->Hp->Bool} (h:N9 P G f args H k):AP P G f args H k=true:= @decide_eq_true _ (Classical.propDecidable _) h
theorem wF {μ:Mu} {H:Hp} {w:World} {k k':fk->Hp->Bool} (hk:∀x H,k x H=true->k' x H=true) {en:Ending} {w':World} (h:pq G μ H w k en w'):pq G μ H w k' en w':=by
 obtain⟨x,μ',H',h1,h2,h3,h4⟩:=h
 exact⟨x,μ',H',h1,h2,h3,hk _ _ h4⟩
theorem qb {μ:Mu} {H:Hp} {w:World} {nt:Nat} {k k':AEx->En->Hp->Bool} (hk:∀x e H,k x e H=true->k' x e H=true) {en:Exit} {a:Act} {w':World} (h:gN G μ H w nt k en a w'):gN G μ H w nt k' en a w':=by
 obtain⟨x,e,μ',H',h1,h2,h3,h4,h5,h6⟩:=h
 exact⟨x,e,μ',H',h1,h2,h3,h4,h5,hk _ _ _ h6⟩
theorem xK {nt:Nat} {c:Code} {ro:Option Nat} {e:En} {H:Hp} {k k':AEx->En->Hp->Bool} (hk:∀x e H,k x e H=true->k' x e H=true) (h:oE P G nt c ro e H k=true):oE P G nt c ro e H k'=true:=
 yT fun μ a w r h1 h2 h3 h4=>Go.wpIn_mono (uz _ _ _ _ _ _ h μ a w r h1 h2 h3 h4) fun _ _ _=>qb hk
theorem Fo {f:FuncId} {args:List AV} {H:Hp} {k k':fk->Hp->Bool} (hk:∀x H,k x H=true->k' x H=true) (h:AP P G f args H k=true):AP P G f args H k'=true:=
 sA fun μ w vs h1 h2=>CallsIn.mono (xV _ _ _ _ h μ w vs h1 h2) fun _ _=>wF hk
theorem Au:gI P G (ff P G):=fun f args H k h=>xV f args H k (Fo (fun x H hx=>by cases x with
 | ret v=>exact hx
 | pan v=>cases hx) h)
theorem CS:∀n,gP P G (cd P G n)
 | 0=>fun nt c ro e H k h=>uz nt c ro e H k (by unfold cd at h;exact h)
 | n+1=>fun nt c ro e H k h=>by
  by_cases hl:∃b,c= .loop b
  ·obtain⟨b,rfl⟩:=hl
   exact uz nt _ ro e H k (by unfold cd at h;exact h)
  ·obtain⟨f,hf,hs⟩:=wO (P:=P) (G:=G) DB nt c
   have hnl:∀b,c≠ .loop b:=fun b hb=>hl ⟨b,hb⟩
   by_cases hr:∃i ops d,c= .region i ops d
   ·obtain⟨i,ops,d,rfl⟩:=hr
    have h:(Box.casesOn (mO P G nt (.region i ops d)) fun f=>f ⟨cd P G n,ff P G⟩ ro e H (M' k):Bool)=true:=by unfold cd at h;exact h
    rw [hf] at h
    intro μ a w r h1 h2 h3 h4
    refine Go.wpIn_mono (hs (ih:=⟨cd P G n,ff P G⟩) (CS n) Au ro e H _ h μ a w r h1 h2 h3 h4 hnl) fun _ _ _=>qb fun x e H hx=> ?_
    cases x<;>first | exact hx | cases hx
   ·have h:(Box.casesOn (mO P G nt c) fun f=>f ⟨cd P G n,ff P G⟩ ro e H k:Bool)=true:=by
     unfold cd at h
     cases c<;>first | exact absurd ⟨_,rfl⟩ hl | exact absurd ⟨_,_,_,rfl⟩ hr | exact h
    rw [hf] at h
    exact fun μ a w r h1 h2 h3 h4=>hs (ih:=⟨cd P G n,ff P G⟩) (CS n) Au ro e H k h μ a w r h1 h2 h3 h4 hnl
theorem aV (n:Nat) {nt:Nat} {c:Code} {ro:Option Nat} {e:En} {H:Hp} {k:AEx->En->Hp->Bool} (h:cd P G n nt c ro e H k=true):oE P G nt c ro e H k=true:=
 yT (CS n _ _ _ _ _ _ h)
theorem vB (n:Nat) {f:FuncId} {args:List AV} {H:Hp} {k:fk->Hp->Bool} (h:iZ P G ⟨cd P G n,ff P G⟩ f args H k=true):AP P G f args H k=true:=
 sA fun μ w vs h1 h2=>nK (ih:=⟨cd P G n,ff P G⟩) (CS n) h h1 h2
theorem zC {F:Fence} {n:Nat} {c:Code} {Q:Exit->Act->World->Prop}:∀{m m':Nat},m<=m'->∀{a:Act} {w:World},Code.roundsIn F n P c Q m a w->Code.roundsIn F n P c Q m' a w:=by
 intro m
 induction m with
 | zero=>intro m' _ a w h;cases h
 | succ m ih=>
  intro m' hm a w h
  cases m' with
  | zero=>omega
  | succ m'=>
   refine Go.wpIn_mono (Q:=Exit.then (Code.roundsIn F n P c Q m) Q) h fun e a w h=> ?_
   cases e with
   | normal=>exact ih (Nat.le_of_succ_le_succ hm) h
   | _=>exact h
def uS (Inv:Nat->En->Hp->Prop) (m:Nat) (e:En) (H:Hp):Bool:= @decide (∃m',m'<m/\Inv m' e H) (Classical.propDecidable _)
theorem bd {Inv:Nat->En->Hp->Prop} {m m':Nat} {e:En} {H:Hp} (hm:m'<m) (h:Inv m' e H):uS Inv m e H=true:= @decide_eq_true _ (Classical.propDecidable _) ⟨m',hm,h⟩
theorem aZ {nt:Nat} {b:Code} {ro:Option Nat} {k:AEx->En->Hp->Bool} (Inv:Nat->En->Hp->Prop)
  (h:∀m e H,Inv m e H->oE P G nt b ro e H (fun x e' H'=>aY x (fun _=>uS Inv m e' H') (fun x=>k x e' H'))=true)
  {m:Nat} {e:En} {H:Hp} (h0:Inv m e H):oE P G nt (.loop b) ro e H k=true:=by
 have key:∀m e H,Inv m e H->∀(μ:Mu) (a:Act) (w:World) (r:Option Nat),RoR μ ro r->HR G μ H w->fY μ e.t nt a.tmps->DmR μ e.dm a.defers->Code.roundsIn (Fen r) 0 P b (gN G μ H w nt k) (m+1) a w:=by
  intro m
  induction m using Nat.strongRecOn with
  | ind m ih=>
   intro e H hi μ a w r h1 h2 h3 h4
   refine Go.wpIn_mono (uz _ _ _ _ _ _ (h m e H hi) μ a w r h1 h2 h3 h4)
    (qC (ih:=⟨fun _ _ _ e' H' _=>uS Inv m e' H',fun _ _ _ _=>false⟩) (b:=b) h1 fun e1 H1 hk1 μ1 a1 w1 hro1 hh1 he1 hd1 hx=> ?_)
   obtain⟨m',hm,hi'⟩:= @of_decide_eq_true _ (Classical.propDecidable _) hk1
   exact zC hm (qe (fun _ _ _ h=>h.after hx) _ _ _ (ih m' hm e1 H1 hi' μ1 a1 w1 r hro1 hh1 he1 hd1))
 exact yT fun μ a w r h1 h2 h3 h4=>wpIn_loop_rounds _ (key m e H h0 μ a w r h1 h2 h3 h4)
end
end Go.Ev
namespace Go.Ev
open Go.RowKit
section
mutual
theorem DV.loc {z z':Nat->Option Obj} {ro:Bool} {d:D} {v:Value} {L:List Nat} (h:DV z ro d v L) (hz:∀j∈L,z' j=z j):DV z' ro d v L:=by
 cases h with
 | bool=>exact .bool _
 | int=>exact .int _ _
 | str _ _ h=>exact .str _ _ h
 | nilp=>exact .nilp
 | ptr _ _ p arr el fz xs L h ht hl hf hx hs=>exact .ptr _ _ p arr el fz xs L (by rw [hz _ cE];exact h) ht hl hf hx (DVs.loc hs fun j hj=>hz j (co _ hj))
 | nils=>exact .nils
 | sl _ _ _ a cap p arr el fz xs L h hlc hc ht hl hf hx ha hs=>exact .sl _ _ _ a cap p arr el fz xs L (by rw [hz _ cE];exact h) hlc hc ht hl hf hx ha (DVs.loc hs fun j hj=>hz j (co _ hj))
 | nilm=>exact .nilm
 | map _ _ r ents xs ys L M h hsz hlen he hk hv=>exact .map _ _ r ents xs ys L M (by rw [hz _ cE];exact h) hsz hlen he (DVs.loc hk fun j hj=>hz j (co _ (gR _ hj))) (DVs.loc hv fun j hj=>hz j (co _ (kz _ hj)))
 | fn _ _ _ _ _ L M ha hc=>exact .fn _ _ _ _ _ L M (DVs.loc ha fun j hj=>hz j (gR _ hj)) (DVs.loc hc fun j hj=>hz j (kz _ hj))
 | nilf=>exact .nilf
 | ifc _ _ _ _ h=>exact .ifc _ _ _ _ (DV.loc h hz)
 | nili=>exact .nili
 | agg _ _ _ h=>exact .agg _ _ _ (DVs.loc h hz)
 | tup _ _ _ h=>exact .tup _ _ _ (DVs.loc h hz)
theorem DVs.loc {z z':Nat->Option Obj} {ro:Bool} {d:List D} {v:List Value} {L:List Nat} (h:DVs z ro d v L) (hz:∀j∈L,z' j=z j):DVs z' ro d v L:=by
 cases h with
 | nil=>exact .nil
 | cons _ _ _ _ _ _ h hs=>exact .cons _ _ _ _ _ _ (DV.loc h fun j hj=>hz j (gR _ hj)) (DVs.loc hs fun j hj=>hz j (kz _ hj))
end
mutual
theorem DV.dom {z:Nat->Option Obj} {ro:Bool} {d:D} {v:Value} {L:List Nat} (h:DV z ro d v L):∀j∈L,∃o,z j=some o:=by
 cases h with
 | ptr _ _ p arr el fz xs L h ht hl hf hx hs=>intro j hj;rcases cy.1 hj with rfl | hj<;>first | exact⟨_,h⟩| exact ib hs j hj
 | sl _ _ _ a cap p arr el fz xs L h hlc hc ht hl hf hx ha hs=>intro j hj;rcases cy.1 hj with rfl | hj<;>first | exact⟨_,h⟩| exact ib hs j hj
 | map _ _ r ents xs ys L M h hsz hlen he hk hv=>
  intro j hj;rcases cy.1 hj with rfl | hj
  ·exact⟨_,h⟩
  ·rcases dF.1 hj with hj | hj<;>first | exact ib hk j hj | exact ib hv j hj
 | fn _ _ _ _ _ L M ha hc=>intro j hj;rcases dF.1 hj with hj | hj<;>first | exact ib ha j hj | exact ib hc j hj
 | ifc _ _ _ _ h=>exact DV.dom h
 | agg _ _ _ h=>exact ib h
 | tup _ _ _ h=>exact ib h
 | _=>intro j hj;cases hj
theorem ib {z:Nat->Option Obj} {ro:Bool} {d:List D} {v:List Value} {L:List Nat} (h:DVs z ro d v L):∀j∈L,∃o,z j=some o:=by
 cases h with
 | nil=>intro j hj;cases hj
 | cons _ _ _ _ _ _ h hs=>intro j hj;rcases dF.1 hj with hj | hj<;>first | exact DV.dom h j hj | exact ib hs j hj
end
mutual
theorem uZ {μ:Mu}:∀(d:D) {v:Value},VR μ (ofD d) v->∃L,DV μ.z true d v L
 | .bool _,_,h=>by cases h;exact⟨_,.bool _⟩
 | .int _ _,_,h=>by cases h;exact⟨_,.int _ _⟩
 | .str _,_,h=>by cases h with | str _ _ h=>exact⟨_,.str _ _ h⟩
 | .nilp,_,h=>by cases h;exact⟨_,.nilp⟩
 | .ptr _ _,_,h=>by cases h with | dat _ _ L _ h=>exact⟨L,h⟩
 | .nils,_,h=>by cases h;exact⟨_,.nils⟩
 | .sl _ _ _,_,h=>by cases h with | dat _ _ L _ h=>exact⟨L,h⟩
 | .nilm,_,h=>by cases h;exact⟨_,.nilm⟩
 | .map _ _,_,h=>by cases h with | dat _ _ L _ h=>exact⟨L,h⟩
 | .fn _ a c,_,h=>by
  cases h with | fn _ _ _ _ _ ha hc=>
  obtain⟨L,h1⟩:=nB a ha
  obtain⟨M,h2⟩:=nB c hc
  exact⟨_,.fn _ _ _ _ _ _ _ h1 h2⟩
 | .nilf,_,h=>by cases h;exact⟨_,.nilf⟩
 | .ifc _ d,_,h=>by
  cases h with | ifc _ _ _ h=>
  obtain⟨L,h1⟩:=uZ d h
  exact⟨_,.ifc _ _ _ _ h1⟩
 | .nili,_,h=>by cases h;exact⟨_,.nili⟩
 | .agg cs,_,h=>by
  cases h with | agg _ _ h=>
  obtain⟨L,h1⟩:=nB cs h
  exact⟨_,.agg _ _ _ h1⟩
 | .tup cs,_,h=>by
  cases h with | tup _ _ h=>
  obtain⟨L,h1⟩:=nB cs h
  exact⟨_,.tup _ _ _ h1⟩
theorem nB {μ:Mu}:∀(ds:List D) {v:List Value},VRs μ (aq ds) v->∃L,DVs μ.z true ds v L
 | [],_,h=>by cases h;exact⟨_,.nil⟩
 | d::ds,_,h=>by
  cases h with | cons _ _ _ _ h hs=>
  obtain⟨L,h1⟩:=uZ d h
  obtain⟨M,h2⟩:=nB ds hs
  exact⟨_,.cons _ _ _ _ _ _ h1 h2⟩
end
mutual
inductive Rd (H:Hp):AV->D->List Nat->Prop where
 | fro (d):Rd H (ofD d) d []
 | ptr (b off el ro cs ds I) (h:H.get b=some (.cells el ro cs)) (hs:Rds H cs ds I):Rd H (.ptr b off) (.ptr ds off) (b::I)
 | sl (b off len sz c el ro cs ys ds I) (h:H.get b=some (.cells el ro cs)) (ht:ew (len * sz) (cs.drop off)=some ys) (hs:Rds H ys ds I):Rd H (.sl b off len sz c) (.sl sz ds len) (b::I)
 | map (b ro es ks vs I J) (h:H.get b=some (.map ro es es.length)) (hst:mn es 0=true) (hk:Rds H (es.map (·.1)) ks I) (hv:Rds H (es.map (·.2.1)) vs J):Rd H (.map b) (.map ks vs) (b::(I++J))
 | fn (f a c as cs I J) (ha:Rds H a as I) (hc:Rds H c cs J):Rd H (.fn f a c) (.fn f as cs) (I++J)
 | ifc (t v d I) (h:Rd H v d I):Rd H (.ifc t v) (.ifc t d) I
 | agg (vs ds I) (h:Rds H vs ds I):Rd H (.agg vs) (.agg ds) I
 | tup (vs ds I) (h:Rds H vs ds I):Rd H (.tup vs) (.tup ds) I
inductive Rds (H:Hp):List AV->List D->List Nat->Prop where
 | nil:Rds H [] [] []
 | cons (v d I vs ds J) (h:Rd H v d I) (hs:Rds H vs ds J):Rds H (v::vs) (d::ds) (I++J)
end
theorem Rds.fro {H:Hp}:∀(ds:List D),Rds H (aq ds) ds []
 | []=>.nil
 | d::ds=>.cons _ _ [] _ _ [] (.fro d) (Rds.fro ds)
def xX (μ:Mu) (H:Hp) (I:List Nat) (L:List Nat):Prop:=∀j∈L,(∃o,μ.z j=some o)∨∃b∈I,∃p y,μ b=some p/\p.blk=j/\H.get b=some y
theorem xX.app {μ:Mu} {H:Hp} {I J L M:List Nat} (h:xX μ H I L) (h':xX μ H J M):xX μ H (I++J) (L++M):=fun j hj=>by
 rcases dF.1 hj with hj | hj
 ·rcases h j hj with h | ⟨b,hb,h⟩<;>first | exact .inl h | exact .inr ⟨b,gR _ hb,h⟩
 ·rcases h' j hj with h | ⟨b,hb,h⟩<;>first | exact .inl h | exact .inr ⟨b,kz _ hb,h⟩
theorem xX.head {μ:Mu} {H:Hp} {I L:List Nat} {b:Nat} {p:Pl} {y:Blk} (hp:μ b=some p) (hb:H.get b=some y) (h:xX μ H I L):xX μ H (b::I) (p.blk::L):=fun j hj=>by
 rcases cy.1 hj with rfl | hj
 ·exact .inr ⟨b,cE,p,y,hp,rfl,hb⟩
 ·rcases h j hj with h | ⟨c,hc,h⟩<;>first | exact .inl h | exact .inr ⟨c,co _ hc,h⟩
variable {G : bg} {μ : Mu} {H : Hp} {w : World}
mutual
theorem Rd.ok {v:AV} {d:D} {I:List Nat} {x:Value} (h:Rd H v d I) (hh:HRg G μ H w) (hv:VR μ v x):∃L,DV (hpz w) true d x L/\xX μ H I L:=by
 cases h with
 | fro d=>
  obtain⟨L,h⟩:=uZ d hv
  exact⟨L,h.le hh.froz,fun j hj=>.inl (h.dom j hj)⟩
 | ptr b off el ro cs ds I hb hs=>
  cases hv with | ptr _ _ p hp=>
  obtain⟨arr,el,fz,g1,g2,g3,g4,g5⟩:=hh.at hb hp
  obtain⟨xs,k1,k2,k3⟩:=hJ (n:=cs.length) g5 (bh _)
  rw [lE] at k2
  obtain⟨L,l1,l2⟩:=Rds.ok hs hh k2
  have hlen:=l1.length
  exact⟨p.blk::L,.ptr ds off p arr el fz xs L g1 g2 (by omega) (fun h=>by cases h) k3 l1,l2.head hp hb⟩
 | sl b off len sz c el ro cs ys ds I hb htk hs=>
  obtain⟨rfl,hlen⟩:=lS htk
  cases hv with | sl _ _ _ _ _ p cap a hp hl ht hc hn ha=>
  obtain⟨arr,el,fz,g1,g2,g3,g4,g5⟩:=hh.at hb hp
  obtain⟨xs,k1,k2,k3⟩:=hJ (n:=len * sz) (cs:=cs.drop off) (arr:=arr) (base:=p.base+off) (μ:=μ) (fun i c' hc'=>by
   rw [kB] at hc'
   rw [fm]
   exact g5 _ _ hc') hlen
  obtain⟨L,l1,l2⟩:=Rds.ok hs hh k2
  have hl1:=l1.length
  have hmul:len * sz<=cap * sz:=lu _ hl
  exact⟨p.blk::L,.sl sz ds len a cap ⟨p.blk,p.base+off,cap * sz⟩ arr el fz xs L g1 hl rfl (by simp only;omega) (by simp only;omega) (fun h=>by cases h) k3 ha l1,l2.head hp hb⟩
 | map b ro es ks vs I J hb hst hk1 hk2=>
  cases hv with | map _ p hp=>
  obtain⟨ents,g1,g2,g3⟩:=hh.at hb hp
  have hkeys:VRs μ (es.map (·.1)) (ents.toList.map (·.key)):=iV (by simp [g2]) fun i v hv=>by
   simp only [gO,lw] at hv
   obtain⟨⟨y,v',s⟩,hv1,rfl⟩:=hv
   obtain⟨x,hx,hy,_⟩:=g3 i _ _ _ hv1
   exact⟨x.key,by simp [hx],hy⟩
  have hvals:VRs μ (es.map (·.2.1)) (ents.toList.map (·.val)):=iV (by simp [g2]) fun i v hv=>by
   simp only [gO,lw] at hv
   obtain⟨⟨y,v',s⟩,hv1,rfl⟩:=hv
   obtain⟨x,hx,_,hy,_⟩:=g3 i _ _ _ hv1
   exact⟨x.val,by simp [hx],hy⟩
  obtain⟨L,l1,l2⟩:=Rds.ok hk1 hh hkeys
  obtain⟨M,m1,m2⟩:=Rds.ok hk2 hh hvals
  have e1:=l1.length
  have e2:=m1.length
  simp at e1 e2
  refine⟨p.blk::(L++M),.map ks vs p.blk ents _ _ L M (by show w.heap[p.blk]? =_;rw [g1];congr 2;omega) (by omega) (by omega) (fun i e he=> ?_) l1 m1,(l2.app m2).head hp hb⟩
  refine⟨by simp [he],by simp [he], ?_⟩
  have hi:i<es.length:=by have:=(ir.1 he).1;omega
  have hes':es[i]? =some (es[i].1,es[i].2.1,es[i].2.2):=dW hi
  obtain⟨x,hx,_,_,hborn⟩:=g3 i _ _ _ hes'
  rw [he] at hx
  cases hx
  rw [hborn,re hst i _ _ _ hes',ca]
 | fn f a c as cs I J ha hc=>
  cases hv with | fn _ _ _ a' c' va vc=>
  obtain⟨L,l1,l2⟩:=Rds.ok ha hh va
  obtain⟨M,m1,m2⟩:=Rds.ok hc hh vc
  exact⟨_,.fn _ _ _ _ _ _ _ l1 m1,l2.app m2⟩
 | ifc t v d I h=>
  cases hv with | ifc _ _ y hy=>
  obtain⟨L,l1,l2⟩:=Rd.ok h hh hy
  exact⟨_,.ifc _ _ _ _ l1,l2⟩
 | agg vs ds I h=>
  cases hv with | agg _ y hy=>
  obtain⟨L,l1,l2⟩:=Rds.ok h hh hy
  exact⟨_,.agg _ _ _ l1,l2⟩
 | tup vs ds I h=>
  cases hv with | tup _ y hy=>
  obtain⟨L,l1,l2⟩:=Rds.ok h hh hy
  exact⟨_,.tup _ _ _ l1,l2⟩
theorem Rds.ok {vs:List AV} {ds:List D} {I:List Nat} {xs:List Value} (h:Rds H vs ds I) (hh:HRg G μ H w) (hv:VRs μ vs xs):∃L,DVs (hpz w) true ds xs L/\xX μ H I L:=by
 cases h with
 | nil=>cases hv;exact⟨[],.nil,fun j hj=>by cases hj⟩
 | cons v d I vs ds J h hs=>
  cases hv with | cons _ x _ xs hx hxs=>
  obtain⟨L,l1,l2⟩:=Rd.ok h hh hx
  obtain⟨M,m1,m2⟩:=Rds.ok hs hh hxs
  exact⟨_,.cons _ _ _ _ _ _ l1 m1,l2.app m2⟩
end
end
def CQ (P:Program) (G:bg) (f:FuncId) (ds:List D) (Q:D->Prop):Prop:=∀(w:World) (vs:Array Value) (L:List Nat),qL G w->DVs (hpz w) true ds vs.toList L->
 CallsIn Fence.wide 0 P f vs w fun en w'=>∃v d M,en= .returned v/\Q d/\DV (hpz w') true d v M/\(∀j∈M,w.heap.size<=j∨j∈L)/\Below w.heap.size w w'
mutual
def D.flatB:D->Bool
 | .ptr _ _=>false
 | .sl _ _ _=>false
 | .map _ _=>false
 | .fn _ a c=>qD a&&qD c
 | .ifc _ d=>d.flatB
 | .agg cs=>qD cs
 | .tup cs=>qD cs
 | _=>true
def qD:List D->Bool
 | []=>true
 | d::ds=>d.flatB&&qD ds
end
mutual
theorem DV.flat {z:Nat->Option Obj} {ro:Bool} {d:D} {v:Value} {L:List Nat} (h:DV z ro d v L) (hd:d.flatB=true):L=[]:=by
 cases h with
 | ptr=>cases hd
 | sl=>cases hd
 | map=>cases hd
 | fn _ _ _ _ _ L M ha hc=>simp only [D.flatB,bX] at hd;rw [kK ha hd.1,kK hc hd.2];rfl
 | ifc _ _ _ _ h=>exact DV.flat h hd
 | agg _ _ _ h=>exact kK h hd
 | tup _ _ _ h=>exact kK h hd
 | _=>rfl
theorem kK {z:Nat->Option Obj} {ro:Bool} {d:List D} {v:List Value} {L:List Nat} (h:DVs z ro d v L) (hd:qD d=true):L=[]:=by
 cases h with
 | nil=>rfl
 | cons _ _ _ _ _ _ h hs=>simp only [qD,bX] at hd;rw [DV.flat h hd.1,kK hs hd.2];rfl
end
section
variable {P : Program} {G : bg}
theorem CQ.mono {f:FuncId} {ds:List D} {Q Q':D->Prop} (h:CQ P G f ds Q) (hq:∀d,Q d->Q' d):CQ P G f ds Q':=fun w vs L hg hd=>
 CallsIn.mono (h w vs L hg hd) fun en w' ⟨v,d,M,h1,h2,h3⟩=>⟨v,d,M,h1,hq d h2,h3⟩
theorem HR.globOK (hG:mX G) {μ:Mu} {H:Hp} {w:World} (h:HR G μ H w):qL G w:=fun g cs hg=>by
 obtain⟨arr,el,fz,ha,hz,hv⟩:=h.glob g cs hg
 exact⟨arr,el,fz,ha,hz,fun i c hc=>let ⟨v,h1,h2⟩:=hv i c hc;⟨v,h1,vT (eI.1 (hG g cs hg) c (ku hc)) h2⟩⟩
theorem IX (hG:mX G) {f:FuncId} {args:List AV} {H:Hp} {k:fk->Hp->Bool} {ds:List D} {I:List Nat} {Q:D->Prop} (hct:CQ P G f ds Q) (hr:Rds H args ds I)
  (hk:∀d,Q d->(I=[]∨d.flatB=true)/\k (.ret (ofD d)) H=true):ff P G f args H k=true:=by
 refine sA fun μ w vs hh hvs=> ?_
 obtain⟨L,hL,hlies⟩:=hr.ok hh.toHRg hvs
 refine CallsIn.mono (hct w vs L (hh.globOK hG) hL) fun en w' ⟨v,d,M,he,hq,hd,hM,hb⟩=> ?_
 subst he
 obtain⟨hI,hk⟩:=hk d hq
 have hsame:∀j,j<w.heap.size->w'.heap[j]? =w.heap[j]? :=hb.block
 have hMz:∀j∈M,w.heap.size<=j∨∃o,μ.z j=some o:=fun j hj=>by
  rcases hI with rfl | hfl
  ·rcases hM j hj with h | h
   ·exact .inl h
   ·rcases hlies j h with h | ⟨b,hb,_⟩
    ·exact .inr h
    ·cases hb
  ·rw [hd.flat hfl] at hj;cases hj
 have hh':HR G μ H w':=hh.world (fun b x p hb hp=>hsame _ (hh.lt hb hp)) (fun g cs hg=>hsame _ (hh.globlt hg)) fun j o hj=>hsame _ (hh.frolt hj)
 classical
 let z':Nat->Option Obj:=fun j=>if j∈M then w'.heap[j]? else μ.z j
 have hz:∀j o,z' j=some o->w'.heap[j]? =some o:=fun j o hj=>by
  simp only [z'] at hj
  split at hj
  ·exact hj
  ·exact hh'.froz j o hj
 have hle:∀j o,μ.z j=some o->z' j=some o:=fun j o hj=>by
  simp only [z']
  split
  ·exact hh'.froz j o hj
  ·exact hj
 have hfr:∀b x p,H.get b=some x->x.own=true->μ b=some p->z' p.blk=none:=fun b x p hb hx hp=>by
  have h0:=hh.frof b x p hb hx hp
  simp only [z']
  split
  ·rename_i hm
   rcases hMz _ hm with h | ⟨o,h⟩
   ·have:=hh.lt hb hp;omega
   ·rw [h0] at h;cases h
  ·exact h0
 have hmu:μ.le ⟨μ.f,z'⟩:=⟨fun _ _ h=>h,hle⟩
 have hhr:HR G ⟨μ.f,z'⟩ H w':=⟨⟨fun b x hb=>let ⟨p,hp,hr⟩:=hh'.get b x hb;⟨p,hp,hr.mono hmu⟩,hh'.own,fun g cs hg=>let ⟨arr,el,fz,ha,hs,hv⟩:=hh'.glob g cs hg;⟨arr,el,fz,ha,hs,fun i c hc=>let ⟨v,h1,h2⟩:=hv i c hc;⟨v,h1,h2.mono hmu⟩⟩,
  hh'.globf,hz,hfr⟩,hh'.dom⟩
 refine⟨.ret (ofD d),⟨μ.f,z'⟩,H,hhr,⟨hmu,fun _ _=>rfl,fun _ _ h=>h,bh _,hb.size,fun j hj _=>hsame j hj,fun b x p hb hp=>.inr ⟨b,x,p,hb,hp,rfl,id⟩,hb.os, ?_,fun j o hj=> ?_⟩,.ret _ _ (Cw (hd.loc fun j hj=> ?_)),hk⟩
 ·show (w'.output,w'.tape)=(w.output,w.tape)
  rw [hb.output,hb.tape]
 ·simp only [z'] at hj
  split at hj
  ·rename_i hm
   rcases hMz _ hm with h | ⟨o',h⟩
   ·exact .inr (.inl h)
   ·refine .inl ?_
    rw [←hj]
    rw [hsame j (hh.frolt h),hh.froz j o' h,h]
  ·exact .inl hj
 ·show z' j=w'.heap[j]?
  simp only [z']
  rw [if_pos hj]
open Classical in
noncomputable def mG (Q:D->Prop) (en:fk) (H:Hp):Bool:=decide (∃v d I,en= .ret v/\Q d/\Rd H v d I)
theorem CQ.run (hG:mX G) {f:FuncId} {ds:List D} {Q:D->Prop} (h:AP P G f (aq ds) Hp.empty (mG Q)=true):CQ P G f ds Q:=by
 intro w vs L hg hd
 classical
 let μ:Mu:=⟨fun _=>none,fun j=>if j∈L then w.heap[j]? else none⟩
 have hh:HR G μ Hp.empty w:={
  get:=fun b x hb=>by rw [cz] at hb;cases hb
  own:=fun b x p c y q hb=>by rw [cz] at hb;cases hb
  glob:=fun g cs hc=>by
   obtain⟨arr,el,fz,ha,hz,hv⟩:=hg g cs hc
   exact⟨arr,el,fz,ha,hz,fun i c hi=>let ⟨v,h1,h2⟩:=hv i c hi;⟨v,h1,vT (eI.1 (hG g cs hc) c (ku hi)) h2⟩⟩
  globf:=fun g cs b x p _ hb=>by rw [cz] at hb;cases hb
  froz:=fun j o hj=>by
   simp only [μ] at hj
   split at hj
   ·exact hj
   ·cases hj
  frof:=fun b x p hb=>by rw [cz] at hb;cases hb
  dom:=fun b p hb=>by cases hb}
 have hvs:VRs μ (aq ds) vs.toList:=lx (L:=L) (hd.loc fun j hj=>by
  show (if j∈L then w.heap[j]? else none)=w.heap[j]?
  rw [if_pos hj])
 refine CallsIn.mono (xV _ _ _ _ h μ w vs hh hvs) fun en w' ⟨x,μ',H',h1,h2,h3,h4⟩=> ?_
 obtain⟨v,d,I,rfl,hq,hr⟩:=nF h4
 cases h3 with
 | ret _ y hy=>
  obtain⟨M,m1,m2⟩:=hr.ok h1.toHRg hy
  refine⟨y,d,M,rfl,hq,m1,fun j hj=> ?_,h2.isBelow' ?_⟩
  ·rcases m2 j hj with⟨o,hz⟩| ⟨b,_,p,y',hb,rfl,hg⟩
   ·rcases h2.zgrow j o hz with hz | hlt | ⟨c,y,q,hc,_⟩
    ·simp only [μ] at hz
     split at hz
     ·exact .inr ‹_›
     ·cases hz
    ·exact .inl hlt
    ·rw [cz] at hc;cases hc
   ·rcases h2.grow b y' p hg hb with hlt | ⟨c,y,q,hc,_⟩
    ·exact .inl hlt
    ·rw [cz] at hc;cases hc
  ·exact fun b=>cz b
end
end Go.Ev
namespace Go.Ev
noncomputable section
def kg:Code->List Nat->Code
 | .loop b,[]=>b
 | c,[]=>c
 | .seq a _,0::p=>kg a p
 | .seq _ b,_::p=>kg b p
 | .cond _ a _,0::p=>kg a p
 | .cond _ _ b,_::p=>kg b p
 | .block _ b,_::p=>kg b p
 | .loop b,_::p=>kg b p
 | .scope b,_::p=>kg b p
 | .rangeFunc _ _ a _,0::p=>kg a p
 | .rangeFunc _ _ _ b,_::p=>kg b p
 | _,_::_=>.skip
def Za (P:Program) (f:Nat) (p:List Nat):Code:=
 match P.funcs[f]? with
 | some fn=>match fn.body with
  | some c=>kg c p
  | none=>.skip
 | none=>.skip
def es:E2->List (Nat×AV)->E2
 | t,[]=>t
 | t,(i,v)::l=>es (bif Nat.blt i 256 then E2.set t i v else t) l
def ka {α:Type} (g:Nat->α):R α:=⟨g 0,g 1,g 2,g 3,g 4,g 5,g 6,g 7,g 8,g 9,g 10,g 11,g 12,g 13,g 14,g 15⟩
def o8 (f:Nat->AV):E2:=ka fun i=>ka fun j=>f (16 * i+j)
theorem oU {α:Type} (r:R α):ka (R.get r)=r:=by cases r;rfl
theorem nz {α:Type} {g g':Nat->α} (h:∀i,i<16->g i=g' i):ka g=ka g':=by
 unfold ka
 rw [h 0 (by decide),h 1 (by decide),h 2 (by decide),h 3 (by decide),h 4 (by decide),h 5 (by decide),h 6 (by decide),h 7 (by decide),h 8 (by decide),h 9 (by decide),h 10 (by decide),h 11 (by decide),h 12 (by decide),h 13 (by decide),h 14 (by decide),h 15 (by decide)]
theorem uh (t:E2):o8 (t)=t:=by
 refine Eq.trans (nz fun i hi=>Eq.trans (nz fun j hj=> ?_) (oU (R.get t i))) (oU t)
 unfold E2.get
 rw [show (16 * i+j)/16=i from by omega,show (16 * i+j)%16=j from by omega]
theorem aj {F F':E2->Bool} (h:∀f:Nat->AV,F (o8 f)=F' (o8 f)) (t:E2):F t=F' t:=by
 have:=h (t)
 rwa [uh] at this
def cl (P:Program) (G:bg) (g:FuncId) (args:List AV) (H:Hp) (k:AV->Hp->Bool):Bool:=AP P G g args H fun en H=>fk.casesOn en (fun v=>k v H) (fun _=>false)
def clv (P:Program) (G:bg) (n:Nat) (f:AV) (args:List AV) (H:Hp) (k:AV->Hp->Bool):Bool:=Di P f args ⟨cd P G n,ff P G⟩ H k (fun _ _=>false)
def inv (P:Program) (G:bg) (n:Nat) (m:String) (r:AV) (args:List AV) (H:Hp) (k:AV->Hp->Bool):Bool:=uG P m r args ⟨cd P G n,ff P G⟩ H k (fun _ _=>false)
def gF (v:AV) (F:AV->Hp->Bool) (r:(AV->Hp->Bool)->Bool) (H:Hp):Bool:=lh (gD false v) F r H
def gT (v:AV) (F:AV->Hp->Bool) (r:(AV->Hp->Bool)->Bool) (H:Hp):Bool:=lh (gD true v) F r H
def gDF (v:AV) (F:DJ) (r:DJ->Bool) (H:Hp) (L:fR) (Q:fT):Bool:=jC (gD false v) F r H L Q
def gDT (v:AV) (F:DJ) (r:DJ->Bool) (H:Hp) (L:fR) (Q:fT):Bool:=jC (gD true v) F r H L Q
end
end Go.Ev
