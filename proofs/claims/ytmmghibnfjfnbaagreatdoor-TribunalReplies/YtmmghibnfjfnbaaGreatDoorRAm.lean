/- A part of the proof of TribunalReplies. -/
import Derived.Test.YtmmghibnfjfnbaaGreatDoorRAj
import Derived.Sort.Grow
set_option linter.unusedVariables false
set_option linter.unusedSimpArgs false
namespace Go.S9
open Go.Ev Go.Proofs
set_option maxRecDepth 100000
set_option linter.unusedVariables false
set_option linter.unusedSimpArgs false
variable {K : Int} {H : Hp} {k : AV → Bool}
def eB (c:Nat):List D:=[.int .u8 (c:Int)]
theorem eB_len (c:Nat):(eB c).length=1:=rfl
theorem eB_one (c:Nat):(ofDs (eB c)).all one=true:=rfl
def bys (s:Str):List AV:=ofDs (rows eB s)
theorem bys_cons (c:Nat) (s:Str):bys (c::s)= .int .u8 (c:Int)::bys s:=rfl
theorem bys_map (s:Str):bys s=s.map fun c=>AV.int .u8 (.ofNat c):=by
 induction s with
 | nil=>rfl
 | cons c s ih=>rw [bys_cons,ih];rfl
theorem bys_len (s:Str):(bys s).length=s.length:=by rw [bys_map,List.length_map]
theorem bytes_bys:∀{s:Str},(∀c∈s,c<256)→bytesOfCells s.length (bys s)=some s
 | [],_=>rfl
 | c::s,h=>by
  have h1:Nat.blt c 256=true:=by simpa [Nat.blt_eq] using h c List.mem_cons_self
  have h2:=bytes_bys (s:=s) fun d hd=>h d (List.mem_cons_of_mem _ hd)
  rw [bys_cons]
  show (match Nat.blt c 256,bytesOfCells s.length (bys s) with
   | true,some l=>some (c::l)
   | _,_=>none)=_
  rw [h1,h2]
theorem cells_str9 (s:Str) (kk:Nat→List AV→Bool):cellsOfK H 1 (.str s) kk=kk s.length (ofDs (rows eB s)):=by
 unfold cellsOfK
 simp only [Nat.beq_refl]
 rw [forceL_eq,forceN_eq]
 show kk _ _=kk _ (bys s)
 rw [bys_map]
theorem ne_mem {X:List Nat} {b c:Nat} (h:b∉X) (hc:c∈X):c≠b:=fun e=>by subst e;exact h hc
structure Bld (H:Hp) (b:Nat) (el:TypeId) (X:List Nat) (s:Str):Prop where
 ty:el=78∨el=171
 nx:b<H.nx
 xs:∀c∈X,c<H.nx
 by_:∀c∈s,c<256
 ex:∃a v,H.get b=some (.cells (some el) false [a,v])∧(a= .nilp∨a= .ptr b 0)∧((v= .nils∧s=[])∨∃c,v= .sl c 0 s.length 1 none∧s≠[]∧c<H.nx∧c≠b∧c∉X∧H.get c=some (.cells (some 5) false (bys s)))
structure Wr (H H':Hp) (X:List Nat):Prop where
 nx:H.nx≤H'.nx
 get:∀c∈X,H'.get c=H.get c
theorem Wr.trans {H H1 H2:Hp} {X:List Nat} (h:Wr H H1 X) (h':Wr H1 H2 X):Wr H H2 X:=⟨Nat.le_trans h.nx h'.nx,fun c hc=>by rw [h'.get c hc,h.get c hc]⟩
theorem Bld.push {b:Nat} {el:TypeId} {X:List Nat} {s:Str} (h:Bld H b el X s) (hX:b∉X) (x:Blk):Bld (H.push x) b el (H.nx::X) s:=by
 obtain⟨h1,h2,h3,h4,a,v,h5,h6,h7⟩:=h
 refine⟨h1,by rw [Hp.nx_push];omega,fun c hc=> ?_,h4,a,v, ?_,h6, ?_⟩
 ·rw [Hp.nx_push]
  rcases List.mem_cons.1 hc with rfl | hc
  ·omega
  ·have:=h3 c hc;omega
 ·rw [Hp.get_push,if_neg (by omega),h5]
 ·rcases h7 with h7 | ⟨c,h7,h8,h9,h10,h11,h12⟩
  ·exact .inl h7
  ·refine .inr ⟨c,h7,h8,by rw [Hp.nx_push];omega,h10, ?_,by rw [Hp.get_push,if_neg (by omega),h12]⟩
   simp only [List.mem_cons,not_or]
   exact⟨by omega,h11⟩
theorem lies_el {el:TypeId} (h:el=78∨el=171):liesAt P P.depth el (Nat.div 2 (P.cellsOf el)) 0 76 1=true:=by
 rcases h with rfl | rfl<;>kernel_rfl
theorem pc1 {b:Nat} {el:Option TypeId} {ro:Bool} {x y:AV} (h:H.get b=some (.cells el ro [x,y])):ptrConvK P 73 216 (.ptr b 0) H k=k (.ptr b 0):=by
 have h1:P.underlying 216=some .unsafePointer:=by kernel_rfl
 unfold ptrConvK
 rw [un73,h1]
 dsimp only
 rw [h]
 dsimp only
 rw [in76,ce76]
 rfl
theorem pc2 {b:Nat} {el:TypeId} {x y:AV} (h:H.get b=some (.cells (some el) false [x,y])) (he:el=78∨el=171):ptrConvK P 216 73 (.ptr b 0) H k=k (.ptr b 0):=by
 have h1:P.underlying 216=some .unsafePointer:=by kernel_rfl
 unfold ptrConvK
 rw [un73,h1]
 dsimp only
 rw [h]
 dsimp only
 rw [in76,show Nat.div [x,y].length (P.cellsOf el)=Nat.div 2 (P.cellsOf el) from rfl,lies_el he]
theorem eq73n:binK P .eql 73 true .nilp .nilp k=k (.bool true):=by kernel_rfl
theorem eq73p (b:Nat):binK P .eql 73 true (.ptr b 0) .nilp k=k (.bool false):=by kernel_rfl
theorem neq73p (b:Nat):binK P .neq 73 false (.ptr b 0) (.ptr b 0) k=k (.bool false):=by
 have:eqV P 73 false (.ptr b 0) (.ptr b 0)=some true:=by
  unfold eqV
  rw [un73]
  dsimp only
  rw [Nat.beq_refl,Nat.beq_refl,in76]
  rfl
 show eqBin P .neq 73 false (.ptr b 0) (.ptr b 0) k=_
 unfold eqBin
 rw [this]
 exact forceB_eq _ _
theorem nilCk (b o:Nat):nilCheckV (.ptr b o) k=k (.ptr b o):=rfl
theorem cc80 {b:Nat} {el:TypeId} {X:List Nat} {s:Str} {kk:AV→Hp→Bool} (h:Bld H b el X s) (hX:b∉X) (hk:∀H',Bld H' b el X s→Wr H H' X→kk (.tup []) H'=true):cl P (G K) 80 [.ptr b 0] H kk=true:=by
 have h0:=h
 obtain⟨h1,h2,h3,h4,a,v,h5,h6,h7⟩:=h
 refine cl_enter 200 ?_
 rw [h80]
 rcases h6 with rfl | rfl
 ·have hv:Ev.one v=true:=by rcases h7 with⟨rfl,_⟩| ⟨c,rfl,_⟩<;>rfl
  simp (disch:=first|exact bk rfl|omega|(simp only [ln];omega)|(simp only [go_sem];done)|decide) only [go_sem,Nat.reduceAdd,Nat.reduceMul,Nat.reduceEqDiff,Nat.reduceLT,Nat.reduceLeDiff,reduceIte,nilCk,h5,eq73n,pc1 h5,pc2 h5 h1]
  refine hk _ ⟨h1,h2,h3,h4, .ptr b 0,v,by rw [Hp.get_setb,if_pos rfl], .inr rfl, ?_⟩ ⟨Nat.le_refl _,fun c hc=>by
   have:c≠b:=fun e=>hX (e▸hc)
   rw [Hp.get_setb,if_neg this]⟩
  rcases h7 with h7 | ⟨c,h7,h8,h9,h10,h11,h12⟩
  ·exact .inl h7
  ·exact .inr ⟨c,h7,h8,h9,h10,h11,by rw [Hp.get_setb,if_neg h10,h12]⟩
 ·simp (disch:=first|exact bk rfl|omega|(simp only [ln];omega)|(simp only [go_sem];done)|decide) only [go_sem,Nat.reduceAdd,Nat.reduceMul,Nat.reduceEqDiff,Nat.reduceLT,Nat.reduceLeDiff,reduceIte,nilCk,h5,eq73p,neq73p]
  exact hk _ h0 ⟨Nat.le_refl _,fun _ _=>rfl⟩
theorem ap74:ApT P 74 5 1:=⟨by kernel_rfl,by kernel_rfl,by kernel_rfl,by kernel_rfl,by kernel_rfl,by kernel_rfl⟩
theorem app74 {b:Nat} {el:TypeId} {X:List Nat} {s zs:Str} {tx:TypeId} {a v x:AV} {kk:AV→Hp→Bool} (h:Bld H b el X s) (hX:b∉X) (hg:H.get b=some (.cells (some el) false [a,v])) (htx:isIntT P tx=false)
  (hcells:∀kk:Nat→List AV→Bool,cellsOfK H 1 x kk=kk zs.length (ofDs (rows eB zs))) (hlen:s.length+zs.length≤1048576) (hz:∀c∈zs,c<256)
  (hk:∀v' H',Ev.one v'=true→AV.cells v'=[v']→H'.get b=some (.cells (some el) false [a,v])→Bld (H'.setb b (some (.cells (some el) false [a,v']))) b el X (s++zs)→Wr H H' X→kk v' H'=true):appendK P H 74 tx v x kk=true:=by
 have h0:=h
 obtain⟨h1,h2,h3,h4,a',v',h5,h6,h7⟩:=h
 rw [hg] at h5
 cases h5
 have hall:(ofDs (rows eB zs)).all Ev.one=true:=all_one_rows eB_one _
 have hby:∀c∈s++zs,c<256:=fun c hc=>by
  rcases List.mem_append.1 hc with hc | hc
  ·exact h4 c hc
  ·exact hz c hc
 unfold appendK
 rw [ap74.h1]
 dsimp only
 rw [htx,ap74.h3,ap74.h4,ap74.h5]
 dsimp only
 rw [ap74.h6,hcells,hall]
 dsimp only
 cases zs with
 | nil=>
  rcases h7 with⟨rfl,rfl⟩| ⟨c,rfl,h8,h9,h10,h11,h12⟩
  ·exact hk _ _ rfl rfl hg ⟨h1,h2,h3,hby,a, .nils,by rw [Hp.get_setb,if_pos rfl],h6, .inl ⟨rfl,rfl⟩⟩ ⟨Nat.le_refl _,fun _ _=>rfl⟩
  ·exact hk _ _ rfl rfl hg ⟨h1,h2,h3,hby,a,_,by rw [Hp.get_setb,if_pos rfl],h6, .inr ⟨c,by rw [List.append_nil],by rw [List.append_nil];exact h8,h9,h10,h11,by rw [Hp.get_setb,if_neg h10,h12,List.append_nil]⟩⟩ ⟨Nat.le_refl _,fun _ _=>rfl⟩
 | cons z zs=>
  simp only [List.length_cons] at hlen⊢
  rcases h7 with⟨rfl,rfl⟩| ⟨c,rfl,h8,h9,h10,h11,h12⟩
  ·dsimp only
   rw [show Nat.ble (zs.length+1) 1048576=true from by simp at hlen⊢;omega]
   dsimp only
   rw [Hp.new_r]
   refine hk (.sl H.nx 0 (([]:Str)++z::zs).length 1 none) _ rfl rfl (by rw [Hp.get_push,if_neg (by omega),hg]) ⟨h1,by show b<H.nx+1;omega,fun c hc=>by have:=h3 c hc;show c<H.nx+1;omega,hby,a,_,(by rw [Hp.get_setb,if_pos rfl]),h6, .inr ⟨H.nx,rfl,by simp,by show H.nx<H.nx+1;omega,by omega,fun hc=>by have:=h3 _ hc;omega, ?_⟩⟩ ⟨by show H.nx≤H.nx+1;omega,fun c hc=>by rw [Hp.get_push,if_neg (by have:=h3 c hc;omega)]⟩
   rw [Hp.get_setb,if_neg (by omega),Hp.get_push,if_pos rfl]
   rfl
  ·dsimp only
   have hlen2:(bys s).length=s.length * 1:=by rw [bys_len];omega
   rw [show Nat.beq 1 1=true from rfl,show Nat.ble (s.length+(zs.length+1)) 1048576=true from by simpa using hlen,h12]
   dsimp only
   rw [List.drop_zero,takeN_take _ _ (by omega),List.take_of_length_le (by omega)]
   dsimp only [capLt]
   rw [show Nat.ble (0+(s.length+(zs.length+1)) * 1) (bys s).length=false from by
    rw [hlen2]
    cases hb:Nat.ble (0+(s.length+(zs.length+1)) * 1) (s.length * 1) with
    | false=>rfl
    | true=>have:=Nat.le_of_ble_eq_true hb;omega]
   dsimp only
   rw [forceL_eq,Hp.put_r,Hp.new_r,forceN_eq]
   have hel:appEl 0 none (some 5) 5=some 5:=rfl
   rw [hel]
   have hbn:b≠H.nx:=by omega
   refine hk _ _ rfl rfl (by rw [Hp.get_push,Hp.nx_setb,if_neg hbn,Hp.get_setb,if_neg (fun e=>h10 e.symm),hg]) ⟨h1,by show b<H.nx+1;omega,fun c hc=>by have:=h3 c hc;show c<H.nx+1;omega,hby,a,_,by rw [Hp.get_setb,if_pos rfl],h6, .inr ⟨H.nx,by rw [List.length_append];rfl,by simp,by show H.nx<H.nx+1;omega,by omega,fun hc=>by have:=h3 _ hc;omega, ?_⟩⟩ ⟨by show H.nx≤H.nx+1;omega,fun d hd=>by
    have:=h3 d hd
    rw [Hp.get_push,Hp.nx_setb,if_neg (by omega),Hp.get_setb,if_neg (ne_mem h11 hd)]⟩
   rw [Hp.get_setb,if_neg (by omega),Hp.get_push,Hp.nx_setb,if_pos rfl]
   unfold bys
   rw [rows_app,ofDs_append]
theorem ws46 {b:Nat} {el:TypeId} {X:List Nat} {s x:Str} {kk:AV→Hp→Bool} (h:Bld H b el X s) (hX:b∉X) (hlen:s.length+x.length≤1048576) (hz:∀c∈x,c<256)
  (hk:∀H',Bld H' b el X (s++x)→Wr H H' X→kk (.tup [.int .i64 (x.length:Int), .nili]) H'=true):cl P (G K) 46 [.ptr b 0, .str x] H kk=true:=by
 refine cl_enter 200 ?_
 rw [h46]
 refine cc80 h hX fun H1 hb1 hw1=> ?_
 obtain⟨a,v,hg, -,hv⟩:=hb1.ex
 simp (disch:=first|exact bk rfl|omega|(simp only [ln];omega)|(simp only [go_sem];done)|decide) only [go_sem,Nat.reduceAdd,Nat.reduceMul,Nat.reduceEqDiff,Nat.reduceLT,Nat.reduceLeDiff,reduceIte,nilCk,hg]
 refine app74 hb1 hX hg (by kernel_rfl) (fun kk=>cells_str9 x kk) hlen hz fun v' H2 ho hc hg2 hb2 hw2=> ?_
 simp (disch:=first|exact bk rfl|omega|(simp only [ln];omega)|(simp only [go_sem];done)|decide) only [go_sem,Nat.reduceAdd,Nat.reduceMul,Nat.reduceEqDiff,Nat.reduceLT,Nat.reduceLeDiff,reduceIte,nilCk,hg2,ho,hc,len_str un9]
 exact hk _ hb2 ⟨Nat.le_trans hw1.nx hw2.nx,fun c hc=>by rw [Hp.get_setb,if_neg (ne_mem hX hc),hw2.get c hc,hw1.get c hc]⟩
theorem wb109 {b:Nat} {el:TypeId} {X:List Nat} {s:Str} {x:Nat} {kk:AV→Hp→Bool} (h:Bld H b el X s) (hX:b∉X) (hlen:s.length+1≤1048576) (hz:x<256)
  (hk:∀H',Bld H' b el X (s++[x])→Wr H H' X→kk .nili H'=true):cl P (G K) 109 [.ptr b 0, .int .u8 (x:Int)] H kk=true:=by
 refine cl_enter 200 ?_
 rw [h109]
 refine cc80 h hX fun H1 hb1 hw1=> ?_
 have hp:=hb1.push hX (.cells (some 5) false [.int .u8 (x:Int)])
 obtain⟨a,v,hg, -,hv⟩:=hb1.ex
 have hbn:(b=H1.nx)=False:=by have:=hb1.nx;simp;omega
 simp (disch:=first|exact bk rfl|omega|(simp only [ln];omega)|(simp only [go_sem];done)|decide) only [go_sem,Nat.reduceAdd,Nat.reduceMul,Nat.reduceEqDiff,Nat.reduceLT,Nat.reduceLeDiff,reduceIte,nilCk,hg]
 refine app74 (zs:=[x]) hp (by simp only [List.mem_cons,not_or];exact⟨by have:=hb1.nx;omega,hX⟩) (a:=a) (v:=v) (by simp (disch:=first|exact bk rfl|omega|(simp only [ln];omega)|(simp only [go_sem];done)|decide) only [go_sem,Nat.reduceAdd,Nat.reduceMul,Nat.reduceEqDiff,Nat.reduceLT,Nat.reduceLeDiff,reduceIte,hbn,hg]) (by kernel_rfl) (fun kk=> ?_) hlen (fun c hc=>by simp at hc;omega) fun v' H2 ho hc hg2 hb2 hw2=> ?_
 ·have:=cells_wn (H:=H1.push (.cells (some 5) false [.int .u8 (x:Int)])) (b1:=H1.nx) (m:=1) (j:=0) (c1:=some 1) (el1:=some 5) (ro1:=false) (ys:=[x]) (kk:=kk) eB_len (by simp (disch:=first|exact bk rfl|omega|(simp only [ln];omega)|(simp only [go_sem];done)|decide) only [go_sem,Nat.reduceAdd,Nat.reduceMul,Nat.reduceEqDiff,Nat.reduceLT,Nat.reduceLeDiff,reduceIte];rfl) (by simp)
  simpa using this
 ·simp (disch:=first|exact bk rfl|omega|(simp only [ln];omega)|(simp only [go_sem];done)|decide) only [go_sem,Nat.reduceAdd,Nat.reduceMul,Nat.reduceEqDiff,Nat.reduceLT,Nat.reduceLeDiff,reduceIte,nilCk,hg2,ho,hc]
  refine hk _ ⟨hb2.ty,hb2.nx,fun c hc=>hb2.xs c (List.mem_cons_of_mem _ hc),hb2.by_, ?_⟩ ⟨?_,fun c hc=> ?_⟩
  ·obtain⟨a,v,q1,q2,q3⟩:=hb2.ex
   refine⟨a,v,q1,q2, ?_⟩
   rcases q3 with q3 | ⟨c,q3,q4,q5,q6,q7,q8⟩
   ·exact .inl q3
   ·exact .inr ⟨c,q3,q4,q5,q6,fun hc=>q7 (List.mem_cons_of_mem _ hc),q8⟩
  ·have:=hw2.nx
   rw [Hp.nx_push] at this
   exact Nat.le_trans hw1.nx (by show H1.nx≤H2.nx;omega)
  ·rw [Hp.get_setb,if_neg (ne_mem hX hc),hw2.get c (List.mem_cons_of_mem _ hc),Hp.get_push,if_neg (by have:=hb1.xs c hc;omega),hw1.get c hc]
end Go.S9
namespace Go.S9
open Go.Ev Go.Proofs
set_option maxRecDepth 100000
set_option linter.unusedVariables false
set_option linter.unusedSimpArgs false
variable {K : Int} {H : Hp} {k : AV → Bool}
theorem Bld.new {b:Nat} {el:TypeId} {X:List Nat} (ty:el=78∨el=171) (h:H.get b=some (.cells (some el) false [.nilp, .nils])) (nx:b<H.nx) (xs:∀c∈X,c<H.nx):Bld H b el X []:=
 ⟨ty,nx,xs,(fun c hc=>by cases hc), .nilp, .nils,h, .inl rfl, .inl ⟨rfl,rfl⟩⟩
theorem Bld.less {b:Nat} {el:TypeId} {X Y:List Nat} {s:Str} (h:Bld H b el X s) (hY:∀c∈Y,c∈X):Bld H b el Y s:=by
 obtain⟨h1,h2,h3,h4,a,v,h5,h6,h7⟩:=h
 refine⟨h1,h2,fun c hc=>h3 c (hY c hc),h4,a,v,h5,h6, ?_⟩
 rcases h7 with h7 | ⟨c,h7,h8,h9,h10,h11,h12⟩
 ·exact .inl h7
 ·exact .inr ⟨c,h7,h8,h9,h10,fun hc=>h11 (hY c hc),h12⟩
theorem Bld.setX {b:Nat} {el:TypeId} {X:List Nat} {s:Str} (h:Bld H b el X s) (hX:b∉X) {c:Nat} (hc:c∈X) (x:Option Blk):Bld (H.setb c x) b el X s:=by
 obtain⟨h1,h2,h3,h4,a,v,h5,h6,h7⟩:=h
 have hn:b≠c:=fun e=>by subst e;exact hX hc
 refine⟨h1,h2,h3,h4,a,v,by rw [Hp.get_setb,if_neg hn,h5],h6, ?_⟩
 rcases h7 with h7 | ⟨d,h7,h8,h9,h10,h11,h12⟩
 ·exact .inl h7
 ·have hd:d≠c:=fun e=>by subst e;exact h11 hc
  exact .inr ⟨d,h7,h8,h9,h10,h11,by rw [Hp.get_setb,if_neg hd,h12]⟩
theorem us1 {c:Nat} {s:Str} {kk:AV→Hp→Bool} (hg:H.get c=some (.cells (some 5) false (bys s))) (hs:s≠[]) (hb:∀c∈s,c<256) (hl:s.length≤1048576):ustrK P H 168 (.ptr c 0) (.int .i64 (s.length:Int)) kk=kk (.str s) (H.setb c (some (.cells (some 5) true (bys s)))):=by
 have h1:P.underlying 168=some (.pointer 5):=by kernel_rfl
 have h2:=bytes_bys hb
 cases hm:s.length with
 | zero=>exact absurd (List.length_eq_zero_iff.1 hm) hs
 | succ m=>
  rw [hm] at h2
  show ustrK P H 168 (.ptr c 0) (.int .i64 (.ofNat (m+1))) kk=_
  unfold ustrK
  try dsimp only
  rw [hg]
  try dsimp only
  rw [h1]
  show (match Nat.beq 5 5,Nat.beq (P.cellsOf 5) 1,Nat.ble (m+1) 16777216,bytesOfCells (m+1) (bys s) with
   | true,true,true,some l=>forceL l fun l=>H.put c (some (.cells (some 5) true (bys s))) fun H=>kk (.str l) H
   | _,_,_,_=>false)=_
  rw [Nat.beq_refl,ce5,Nat.beq_refl,show Nat.ble (m+1) 16777216=true from by simp;omega,h2]
  try dsimp only
  rw [forceL_eq,Hp.put_r]
theorem us0 {kk:AV→Hp→Bool}:ustrK P H 168 .nilp (.int .i64 0) kk=kk (.str []) H:=rfl
theorem usd1 {c m:Nat} {s:Str} (hs:s≠[]):usdV (.sl c 0 s.length 1 none) k=k (.ptr c 0):=by
 cases hm:s.length with
 | zero=>exact absurd (List.length_eq_zero_iff.1 hm) hs
 | succ m=>rfl
theorem str43 {b:Nat} {el:TypeId} {X:List Nat} {s:Str} {kk:AV→Hp→Bool} (h:Bld H b el X s) (hl:s.length≤1048576) (hk:∀H',kk (.str s) H'=true):cl P (G K) 43 [.ptr b 0] H kk=true:=by
 obtain⟨h1,h2,h3,h4,a,v,h5,h6,h7⟩:=h
 refine cl_enter 200 ?_
 rw [h43]
 rcases h7 with⟨rfl,rfl⟩| ⟨c,rfl,h8,h9,h10,h11,h12⟩
 ·have e1:∀k,usdV .nils k=k .nilp:=fun k=>rfl
  have e2:∀(k:AV→Bool),lenK P 74 .nils H k=k (.int .i64 0):=fun k=>by unfold lenK;rw [un74];rfl
  simp (disch:=first|exact bk rfl|omega|(simp only [ln];omega)|(simp only [go_sem];done)|decide) only [go_sem,Nat.reduceAdd,Nat.reduceMul,Nat.reduceEqDiff,Nat.reduceLT,Nat.reduceLeDiff,reduceIte,nilCk,h5,e1,e2,us0]
  exact hk _
 ·have e2:∀(k:AV→Bool),lenK P 74 (.sl c 0 s.length 1 none) H k=k (.int .i64 (s.length:Int)):=fun k=>by unfold lenK;rw [un74];rfl
  have e1:∀k,usdV (.sl c 0 s.length 1 none) k=k (.ptr c 0):=fun k=>usd1 (m:=0) h8
  have e3:=fun kk=>us1 (kk:=kk) h12 h8 h4 hl
  simp (disch:=first|exact bk rfl|omega|(simp only [ln];omega)|(simp only [go_sem];done)|decide) only [go_sem,Nat.reduceAdd,Nat.reduceMul,Nat.reduceEqDiff,Nat.reduceLT,Nat.reduceLeDiff,reduceIte,nilCk,h5,e1,e2,e3]
  exact hk _
def LV (H:Hp) (X:List Nat) (lv:AV) (xs:List Int):Prop:=(∃d,lv=ofD d∧Sl 1 eInt xs d)∨∃c q ro el,lv= .sl c 0 xs.length 1 q∧c∈X∧H.get c=some (.cells el ro (ofDs (rows eInt xs)))
theorem LV.len {X:List Nat} {lv:AV} {xs:List Int} (h:LV H X lv xs) (H':Hp) (k:AV→Bool):lenK P 42 lv H' k=k (.int .i64 (xs.length:Int)):=by
 rcases h with⟨d,rfl,h⟩| ⟨c,q,ro,el,rfl,_,_⟩
 ·exact len_sl h un42
 ·unfold lenK;rw [un42];rfl
theorem LV.at {X:List Nat} {lv:AV} {xs:List Int} (h:LV H X lv xs) {n:Nat} (hn:n<xs.length):∃p,(∀k,indexAtK P 42 lv (.int .i64 (n:Int)) k=k p)∧∀H',Wr H H' X→∀k,loadK P (G K) H' 3 p k=k (.int .i64 xs[n]):=by
 rcases h with⟨d,rfl,h⟩| ⟨c,q,ro,el,rfl,hc,hg⟩
 ·refine⟨_,fun k=>idx_sl h un42 in3 ce3 hn,fun H' _ k=> ?_⟩
  simp (disch:=first|exact bk rfl|omega|(simp only [ln];omega)|(simp only [go_sem];done)|decide) only [go_sem,Nat.reduceAdd,Nat.reduceMul,Nat.reduceEqDiff,Nat.reduceLT,Nat.reduceLeDiff,reduceIte,rows_get0 eInt_len hn (by decide:0<1),eInt]
 ·refine⟨.ptr c (0+n * 1),fun k=>idx_own un42 in3 ce3 hn,fun H' hw k=> ?_⟩
  have h1:H'.get c=some (.cells el ro (ofDs (rows eInt xs))):=by rw [hw.get c hc,hg]
  have h2:(ofDs (rows eInt xs))[0+n * 1]? =some (.int .i64 xs[n]):=by rw [Nat.zero_add,rows_get0 eInt_len hn (by decide)];rfl
  rw [load_ptr,h1,loadB_cells,ag3,partB_f,h2,oneB_s]
def linS (xs:List Int):Str:=(xs.map fun n=>32::itS n).flatten
theorem linS_len:∀{xs:List Int},(∀y∈xs,inR y)→(linS xs).length≤21 * xs.length
 | [],_=>by simp [linS]
 | x::xs,h=>by
  have h1:=itS_len (h x List.mem_cons_self)
  have h2:=linS_len (xs:=xs) fun y hy=>h y (List.mem_cons_of_mem _ hy)
  simp only [linS,List.map_cons,List.flatten_cons,List.length_append,List.length_cons] at h2⊢
  omega
theorem linS_snoc {xs:List Int} {n:Nat} (h:n<xs.length):linS (xs.take (n+1))=linS (xs.take n)++(32::itS xs[n]):=by
 rw [List.take_succ_eq_append_getElem h]
 unfold linS
 rw [List.map_append,List.flatten_append]
 simp only [List.map_cons,List.map_nil,List.flatten_cons,List.flatten_nil,List.append_nil]
theorem s42 (t:E2) (H:Hp) (k:AEnd→Hp→Bool) (i:Evs):bodyEnd P (G K) Tryz.f42 i k .normal ⟨t,[]⟩ H=k (.ret (.tup [])) H:=by kernel_rfl
theorem s79 (t:E2) (H:Hp) (k:AEnd→Hp→Bool) (i:Evs):bodyEnd P (G K) Tryz.f79 i k .normal ⟨t,[]⟩ H=k (.ret (.tup [])) H:=by kernel_rfl
theorem byte10:∀c∈([10]:Str),c<256:=by decide
theorem byte32 {s:Str} (h:∀c∈s,c<256):∀c∈32::s,c<256:=fun c hc=>by
 rcases List.mem_cons.1 hc with rfl | hc
 ·decide
 ·exact h c hc
def I42 (H0:Hp) (b:Nat) (el:TypeId) (X:List Nat) (lv:AV) (xs:List Int) (s:Str) (m:Nat) (e:En) (H:Hp):Prop:=∃n,n≤xs.length∧m=xs.length - n∧e.dm=[]∧E2.get e.t 0= .ptr b 0∧E2.get e.t 13=lv∧E2.get e.t 14= .int .i64 (xs.length:Int)∧E2.get e.t 15= .int .i64 (n:Int)∧Bld H b el X (s++linS (xs.take n))∧Wr H0 H X
theorem line42 {b:Nat} {el:TypeId} {X:List Nat} {s w:Str} {lv:AV} {xs:List Int} {kk:AV→Hp→Bool} (h:Bld H b el X s) (hX:b∉X) (hlv:LV H X lv xs) (hr:∀y∈xs,inR y) (hw:∀c∈w,c<256) (hlen:s.length+w.length+21 * xs.length+1≤1048576)
  (hk:∀H',Bld H' b el X (s++w++linS xs++[10])→Wr H H' X→kk (.tup []) H'=true):cl P (G K) 42 [.ptr b 0, .str w,lv] H kk=true:=by
 have hL:=linS_len hr
 refine cl_enter 200 ?_
 rw [h42]
 simp (disch:=first|exact bk rfl|omega|(simp only [ln];omega)|(simp only [go_sem];done)|decide) only [go_sem,Nat.reduceAdd,Nat.reduceMul,Nat.reduceEqDiff,Nat.reduceLT,Nat.reduceLeDiff,reduceIte,nilCk]
 refine ws46 h hX (by omega) hw fun H1 hb1 hw1=> ?_
 simp (disch:=first|exact bk rfl|omega|(simp only [ln];omega)|(simp only [go_sem];done)|decide) only [go_sem,Nat.reduceAdd,Nat.reduceMul,Nat.reduceEqDiff,Nat.reduceLT,Nat.reduceLeDiff,reduceIte,hlv.len]
 refine loop_rule (I42 H b el X lv xs (s++w)) (fun m e H' hi=> ?_) (m:=xs.length) ?_
 rotate_left
 ·refine⟨0,Nat.zero_le _,rfl,rfl, ?_, ?_, ?_, ?_,by simpa [linS] using hb1,hw1⟩<;>((simp (disch:=first|exact bk rfl|omega|(simp only [ln];omega)|(simp only [go_sem];done)|decide) only [go_sem,Nat.reduceAdd,Nat.reduceMul,Nat.reduceEqDiff,Nat.reduceLT,Nat.reduceLeDiff,reduceIte]<;>first|rfl|omega))
 obtain⟨n,hn1,rfl,hdm,g0,g13,g14,g15,hb2,hw2⟩:=hi
 obtain⟨t,dm⟩:=e
 dsimp only at hdm g0 g13 g14 g15
 subst hdm
 refine semC_run 200 ?_
 rw [h42_1]
 have hLn:(linS (xs.take n)).length≤21 * n:=by
  have:=linS_len (xs:=xs.take n) fun y hy=>hr y (List.mem_of_mem_take hy)
  rw [List.length_take] at this
  omega
 by_cases hlt:n<xs.length
 ·have e2:((n:Int)<(xs.length:Int))=True:=by simp;omega
  obtain⟨p,p1,p2⟩:=hlv.at (K:=K) hlt
  have p3:=p2 _ hw2
  have r1:=hr _ (List.getElem_mem hlt)
  have r2:=itS_len r1
  simp (disch:=first|exact bk rfl|omega|(simp only [ln];omega)|(simp only [go_sem];done)|decide) only [go_sem,Nat.reduceAdd,Nat.reduceMul,Nat.reduceEqDiff,Nat.reduceLT,Nat.reduceLeDiff,reduceIte,g0,g13,g14,g15,e2,nilCk,p1,p3]
  refine cl_eq (hG K) [.int .i64 xs[n]] (itoa27_c r1) rfl ?_
  simp (disch:=first|exact bk rfl|omega|(simp only [ln];omega)|(simp only [go_sem];done)|decide) only [go_sem,Nat.reduceAdd,Nat.reduceMul,Nat.reduceEqDiff,Nat.reduceLT,Nat.reduceLeDiff,reduceIte,g0,g13,g14,g15,List.length_cons,List.length_nil,List.cons_append,List.nil_append]
  refine ws46 hb2 hX (by simp only [List.length_append,List.length_cons];omega) (byte32 (itS_byte _)) fun H3 hb3 hw3=> ?_
  simp (disch:=first|exact bk rfl|omega|(simp only [ln];omega)|(simp only [go_sem];done)|decide) only [go_sem,Nat.reduceAdd,Nat.reduceMul,Nat.reduceEqDiff,Nat.reduceLT,Nat.reduceLeDiff,reduceIte,g0,g13,g14,g15]
  refine again_mk (m':=xs.length - (n+1)) (by omega) ⟨n+1,hlt,rfl,rfl, ?_, ?_, ?_, ?_,by rw [linS_snoc hlt,←List.append_assoc];exact hb3,hw2.trans hw3⟩<;>((simp (disch:=first|exact bk rfl|omega|(simp only [ln];omega)|(simp only [go_sem];done)|decide) only [go_sem,Nat.reduceAdd,Nat.reduceMul,Nat.reduceEqDiff,Nat.reduceLT,Nat.reduceLeDiff,reduceIte,g0,g13,g14,g15]<;>first|rfl|omega))
 ·have e2:((n:Int)<(xs.length:Int))=False:=by simp;omega
  have hn:xs.take n=xs:=List.take_of_length_le (by omega)
  rw [hn] at hb2
  simp (disch:=first|exact bk rfl|omega|(simp only [ln];omega)|(simp only [go_sem];done)|decide) only [go_sem,Nat.reduceAdd,Nat.reduceMul,Nat.reduceEqDiff,Nat.reduceLT,Nat.reduceLeDiff,reduceIte,g0,g13,g14,g15,e2,h42_0,nilCk]
  refine ws46 hb2 hX (by simp only [List.length_append,List.length_cons,List.length_nil];omega) byte10 fun H3 hb3 hw3=> ?_
  simp (disch:=first|exact bk rfl|omega|(simp only [ln];omega)|(simp only [go_sem];done)|decide) only [go_sem,Nat.reduceAdd,Nat.reduceMul,Nat.reduceEqDiff,Nat.reduceLT,Nat.reduceLeDiff,reduceIte,s42]
  exact hk _ hb3 (hw2.trans hw3)
end Go.S9
namespace Go.S9
open Go.Ev Go.Proofs
set_option maxRecDepth 100000
set_option linter.unusedVariables false
set_option linter.unusedSimpArgs false
variable {K : Int} {H : Hp} {k : AV → Bool}
@[go_sem ↓] theorem bs42_1 (a:Int) (kk:Blk→(Nat→AV)→Bool):buildSliceK P 42 1 [(0, .int .i64 a)] kk=kk (.cells (some 3) false [.int .i64 a]) (retSl 1 1):=by kernel_rfl
@[go_sem ↓] theorem bs42_5 (a b c d e:Int) (kk:Blk→(Nat→AV)→Bool):buildSliceK P 42 5 [(0, .int .i64 a),(1, .int .i64 b),(2, .int .i64 c),(3, .int .i64 d),(4, .int .i64 e)] kk=kk (.cells (some 3) false [.int .i64 a, .int .i64 b, .int .i64 c, .int .i64 d, .int .i64 e]) (retSl 5 1):=by kernel_rfl
@[go_sem ↓] theorem bs42_6 (a b c d e f:Int) (kk:Blk→(Nat→AV)→Bool):buildSliceK P 42 6 [(0, .int .i64 a),(1, .int .i64 b),(2, .int .i64 c),(3, .int .i64 d),(4, .int .i64 e),(5, .int .i64 f)] kk=kk (.cells (some 3) false [.int .i64 a, .int .i64 b, .int .i64 c, .int .i64 d, .int .i64 e, .int .i64 f]) (retSl 6 1):=by kernel_rfl
theorem bs43_1 (p:Posting) (kk:Blk→(Nat→AV)→Bool):buildSliceK P 43 1 [(0, .agg (ofDs (ePost p)))] kk=kk (.cells (some 83) false (ofDs (ePost p))) (retSl 1 5):=by kernel_rfl
def jnS:List Int→Str
 | []=>[]
 | x::xs=>itS x++linS xs
theorem jnS_len {xs:List Int} (h:∀y∈xs,inR y):(jnS xs).length≤21 * xs.length:=by
 cases xs with
 | nil=>simp [jnS]
 | cons x xs=>
  have h1:=itS_len (h x List.mem_cons_self)
  have h2:=linS_len (xs:=xs) fun y hy=>h y (List.mem_cons_of_mem _ hy)
  simp only [jnS,List.length_append,List.length_cons]
  omega
theorem jnS_zero {xs:List Int} (h:0<xs.length):jnS (xs.take (0+1))=itS xs[0]:=by
 cases xs with
 | nil=>simp at h
 | cons x xs=>simp [jnS,linS]
theorem jnS_snoc {xs:List Int} {n:Nat} (h0:0<n) (h:n<xs.length):jnS (xs.take (n+1))=jnS (xs.take n)++[32]++itS xs[n]:=by
 cases xs with
 | nil=>simp at h
 | cons x xs=>
  cases n with
  | zero=>omega
  | succ n=>
   rw [List.take_succ_cons,List.take_succ_cons]
   show itS x++linS (xs.take (n+1))=itS x++linS (xs.take n)++[32]++itS (x::xs)[n+1]
   rw [linS_snoc (by simpa using h)]
   simp
def I79 (H0:Hp) (b:Nat) (el:TypeId) (X:List Nat) (lv:AV) (xs:List Int) (s:Str) (m:Nat) (e:En) (H:Hp):Prop:=∃n,n≤xs.length∧m=xs.length - n∧e.dm=[]∧E2.get e.t 0= .ptr b 0∧E2.get e.t 6=lv∧E2.get e.t 7= .int .i64 (xs.length:Int)∧E2.get e.t 8= .int .i64 (n:Int)∧Bld H b el X (s++jnS (xs.take n))∧Wr H0 H X
theorem mid79 {H0:Hp} {b:Nat} {el:TypeId} {X:List Nat} {s:Str} {y:Int} {t:E2} {kk:AEx→En→Hp→Bool} (h:Bld H b el X s) (hX:b∉X) (hr:inR y) (hl:s.length+20≤1048576) (g0:E2.get t 0= .ptr b 0) (g5:E2.get t 5= .int .i64 y)
  (hk:∀t' H',(∀i,i≠19→i≠20→i≠21→i≠22→i≠23→i≠24→i<256→E2.get t' i=E2.get t i)→Bld H' b el X (s++itS y)→Wr H H' X→kk .normal ⟨t',[]⟩ H'=true):cd P (G K) 194 30 (subC 79 [0,1,0,0,1,1,0,0,1,1]) none ⟨t,[]⟩ H kk=true:=by
 have r2:=itS_len hr
 simp (disch:=first|exact bk rfl|omega|(simp only [ln];omega)|(simp only [go_sem];done)|decide) only [go_sem,Nat.reduceAdd,Nat.reduceMul,Nat.reduceEqDiff,Nat.reduceLT,Nat.reduceLeDiff,reduceIte,h79_2,g0,g5,nilCk]
 refine cl_eq (hG K) [.int .i64 y] (itoa27_c hr) rfl ?_
 simp (disch:=first|exact bk rfl|omega|(simp only [ln];omega)|(simp only [go_sem];done)|decide) only [go_sem,Nat.reduceAdd,Nat.reduceMul,Nat.reduceEqDiff,Nat.reduceLT,Nat.reduceLeDiff,reduceIte,g0,g5]
 refine ws46 h hX (by omega) (itS_byte _) fun H3 hb3 hw3=> ?_
 try simp (disch:=first|exact bk rfl|omega|(simp only [ln];omega)|(simp only [go_sem];done)|decide) only [go_sem,Nat.reduceAdd,Nat.reduceMul,Nat.reduceEqDiff,Nat.reduceLT,Nat.reduceLeDiff,reduceIte]
 refine hk _ _ (fun i a1 a2 a3 a4 a5 a6 hi=> ?_) hb3 hw3
 rw [es_get _ _ _ hi rfl]
 simp only [lk_cons,lk_nil,if_neg a1,if_neg a2,if_neg a3,if_neg a4,if_neg a5,if_neg a6]
theorem line79 {b:Nat} {el:TypeId} {X:List Nat} {s:Str} {lv:AV} {xs:List Int} {kk:AV→Hp→Bool} (h:Bld H b el X s) (hX:b∉X) (hlv:LV H X lv xs) (hr:∀y∈xs,inR y) (hlen:s.length+21 * xs.length+1≤1048576)
  (hk:∀H',Bld H' b el X (s++jnS xs++[10])→Wr H H' X→kk (.tup []) H'=true):cl P (G K) 79 [.ptr b 0,lv] H kk=true:=by
 refine cl_enter 200 ?_
 rw [h79]
 simp (disch:=first|exact bk rfl|omega|(simp only [ln];omega)|(simp only [go_sem];done)|decide) only [go_sem,Nat.reduceAdd,Nat.reduceMul,Nat.reduceEqDiff,Nat.reduceLT,Nat.reduceLeDiff,reduceIte,nilCk,hlv.len]
 refine loop_rule (I79 H b el X lv xs s) (fun m e H' hi=> ?_) (m:=xs.length) ?_
 rotate_left
 ·refine⟨0,Nat.zero_le _,rfl,rfl, ?_, ?_, ?_, ?_,by simpa [jnS] using h,⟨Nat.le_refl _,fun _ _=>rfl⟩⟩<;>((simp (disch:=first|exact bk rfl|omega|(simp only [ln];omega)|(simp only [go_sem];done)|decide) only [go_sem,Nat.reduceAdd,Nat.reduceMul,Nat.reduceEqDiff,Nat.reduceLT,Nat.reduceLeDiff,reduceIte]<;>first|rfl|omega))
 obtain⟨n,hn1,rfl,hdm,g0,g6,g7,g8,hb2,hw2⟩:=hi
 obtain⟨t,dm⟩:=e
 dsimp only at hdm g0 g6 g7 g8
 subst hdm
 refine semC_run 200 ?_
 rw [h79_1]
 have hLn:(jnS (xs.take n)).length≤21 * n:=by
  have:=jnS_len (xs:=xs.take n) fun y hy=>hr y (List.mem_of_mem_take hy)
  rw [List.length_take] at this
  omega
 by_cases hlt:n<xs.length
 ·have e2:((n:Int)<(xs.length:Int))=True:=by simp;omega
  obtain⟨p,p1,p2⟩:=hlv.at (K:=K) hlt
  have p3:=p2 _ hw2
  have r1:=hr _ (List.getElem_mem hlt)
  rcases Nat.eq_zero_or_pos n with h0 | h0
  ·subst h0
   have e3:((0:Int)<((0:Nat):Int))=False:=by simp
   simp (disch:=first|exact bk rfl|omega|(simp only [ln];omega)|(simp only [go_sem];done)|decide) only [go_sem,Nat.reduceAdd,Nat.reduceMul,Nat.reduceEqDiff,Nat.reduceLT,Nat.reduceLeDiff,reduceIte,g0,g6,g7,g8,e2,e3,nilCk,p1,p3]
   refine mid79 (H0:=H) hb2 hX r1 (by simp only [List.length_append];omega) (by (simp (disch:=first|exact bk rfl|omega|(simp only [ln];omega)|(simp only [go_sem];done)|decide) only [go_sem,Nat.reduceAdd,Nat.reduceMul,Nat.reduceEqDiff,Nat.reduceLT,Nat.reduceLeDiff,reduceIte,g0]<;>first|rfl|omega)) (by (simp (disch:=first|exact bk rfl|omega|(simp only [ln];omega)|(simp only [go_sem];done)|decide) only [go_sem,Nat.reduceAdd,Nat.reduceMul,Nat.reduceEqDiff,Nat.reduceLT,Nat.reduceLeDiff,reduceIte]<;>first|rfl|omega)) fun t' H3 ht hb3 hw3=> ?_
   have u0:=ht 0 (by decide) (by decide) (by decide) (by decide) (by decide) (by decide) (by decide)
   have u6:=ht 6 (by decide) (by decide) (by decide) (by decide) (by decide) (by decide) (by decide)
   have u7:=ht 7 (by decide) (by decide) (by decide) (by decide) (by decide) (by decide) (by decide)
   have u8:=ht 8 (by decide) (by decide) (by decide) (by decide) (by decide) (by decide) (by decide)
   simp (disch:=first|exact bk rfl|omega|(simp only [ln];omega)|(simp only [go_sem];done)|decide) only [go_sem,Nat.reduceAdd,Nat.reduceMul,Nat.reduceEqDiff,Nat.reduceLT,Nat.reduceLeDiff,reduceIte,g0,g6,g7,g8] at u0 u6 u7 u8
   simp (disch:=first|exact bk rfl|omega|(simp only [ln];omega)|(simp only [go_sem];done)|decide) only [go_sem,Nat.reduceAdd,Nat.reduceMul,Nat.reduceEqDiff,Nat.reduceLT,Nat.reduceLeDiff,reduceIte,h79_3,u0,u6,u7,u8]
   refine again_mk (m':=xs.length - (0+1)) (by omega) ⟨0+1,hlt,rfl,rfl, ?_, ?_, ?_, ?_,by rw [jnS_zero hlt];simpa [jnS] using hb3,hw2.trans hw3⟩<;>((simp (disch:=first|exact bk rfl|omega|(simp only [ln];omega)|(simp only [go_sem];done)|decide) only [go_sem,Nat.reduceAdd,Nat.reduceMul,Nat.reduceEqDiff,Nat.reduceLT,Nat.reduceLeDiff,reduceIte,u0,u6,u7,u8]<;>first|rfl|omega))
  ·have e3:((0:Int)<(n:Int))=True:=by simp;omega
   simp (disch:=first|exact bk rfl|omega|(simp only [ln];omega)|(simp only [go_sem];done)|decide) only [go_sem,Nat.reduceAdd,Nat.reduceMul,Nat.reduceEqDiff,Nat.reduceLT,Nat.reduceLeDiff,reduceIte,g0,g6,g7,g8,e2,e3,nilCk,p1,p3]
   refine wb109 (x:=32) hb2 hX (by simp only [List.length_append];omega) (by decide) fun H1 hb1 hw1=> ?_
   try simp (disch:=first|exact bk rfl|omega|(simp only [ln];omega)|(simp only [go_sem];done)|decide) only [go_sem,Nat.reduceAdd,Nat.reduceMul,Nat.reduceEqDiff,Nat.reduceLT,Nat.reduceLeDiff,reduceIte]
   refine mid79 (H0:=H) hb1 hX r1 (by simp only [List.length_append,List.length_cons,List.length_nil];omega) (by (simp (disch:=first|exact bk rfl|omega|(simp only [ln];omega)|(simp only [go_sem];done)|decide) only [go_sem,Nat.reduceAdd,Nat.reduceMul,Nat.reduceEqDiff,Nat.reduceLT,Nat.reduceLeDiff,reduceIte,g0]<;>first|rfl|omega)) (by (simp (disch:=first|exact bk rfl|omega|(simp only [ln];omega)|(simp only [go_sem];done)|decide) only [go_sem,Nat.reduceAdd,Nat.reduceMul,Nat.reduceEqDiff,Nat.reduceLT,Nat.reduceLeDiff,reduceIte]<;>first|rfl|omega)) fun t' H3 ht hb3 hw3=> ?_
   have u0:=ht 0 (by decide) (by decide) (by decide) (by decide) (by decide) (by decide) (by decide)
   have u6:=ht 6 (by decide) (by decide) (by decide) (by decide) (by decide) (by decide) (by decide)
   have u7:=ht 7 (by decide) (by decide) (by decide) (by decide) (by decide) (by decide) (by decide)
   have u8:=ht 8 (by decide) (by decide) (by decide) (by decide) (by decide) (by decide) (by decide)
   simp (disch:=first|exact bk rfl|omega|(simp only [ln];omega)|(simp only [go_sem];done)|decide) only [go_sem,Nat.reduceAdd,Nat.reduceMul,Nat.reduceEqDiff,Nat.reduceLT,Nat.reduceLeDiff,reduceIte,g0,g6,g7,g8] at u0 u6 u7 u8
   simp (disch:=first|exact bk rfl|omega|(simp only [ln];omega)|(simp only [go_sem];done)|decide) only [go_sem,Nat.reduceAdd,Nat.reduceMul,Nat.reduceEqDiff,Nat.reduceLT,Nat.reduceLeDiff,reduceIte,h79_3,u0,u6,u7,u8]
   refine again_mk (m':=xs.length - (n+1)) (by omega) ⟨n+1,hlt,rfl,rfl, ?_, ?_, ?_, ?_,by rw [jnS_snoc h0 hlt,←List.append_assoc,←List.append_assoc];exact hb3,(hw2.trans hw1).trans hw3⟩<;>((simp (disch:=first|exact bk rfl|omega|(simp only [ln];omega)|(simp only [go_sem];done)|decide) only [go_sem,Nat.reduceAdd,Nat.reduceMul,Nat.reduceEqDiff,Nat.reduceLT,Nat.reduceLeDiff,reduceIte,u0,u6,u7,u8]<;>first|rfl|omega))
 ·have e2:((n:Int)<(xs.length:Int))=False:=by simp;omega
  have hn:xs.take n=xs:=List.take_of_length_le (by omega)
  rw [hn] at hb2 hLn
  simp (disch:=first|exact bk rfl|omega|(simp only [ln];omega)|(simp only [go_sem];done)|decide) only [go_sem,Nat.reduceAdd,Nat.reduceMul,Nat.reduceEqDiff,Nat.reduceLT,Nat.reduceLeDiff,reduceIte,g0,g6,g7,g8,e2,h79_0,nilCk]
  refine wb109 (x:=10) hb2 hX (by simp only [List.length_append];omega) (by decide) fun H3 hb3 hw3=> ?_
  simp (disch:=first|exact bk rfl|omega|(simp only [ln];omega)|(simp only [go_sem];done)|decide) only [go_sem,Nat.reduceAdd,Nat.reduceMul,Nat.reduceEqDiff,Nat.reduceLT,Nat.reduceLeDiff,reduceIte,s79]
  exact hk _ hb3 (hw2.trans hw3)
end Go.S9
namespace Go.S9
open Go.Ev Go.Proofs
set_option maxRecDepth 100000
set_option linter.unusedVariables false
set_option linter.unusedSimpArgs false
variable {K : Int} {H : Hp} {k : AV → Bool}
def fiveI (p:Posting):List Int:=[p.night,p.no,p.from_,p.to_,p.amount]
theorem fiveI_S (p:Posting):jnS (fiveI p)++[10]=lineS p:=by simp [fiveI,jnS,linS,lineS]
theorem fiveI_R {p:Posting} (h:postB p=true):∀y∈fiveI p,inR y:=by
 obtain⟨⟨a1,a2⟩,⟨b1,b2⟩,⟨c1,c2⟩,⟨d1,d2⟩,⟨e1,e2⟩⟩:=postB_in h
 intro y hy
 simp only [fiveI,List.mem_cons,List.not_mem_nil,or_false] at hy
 rcases hy with rfl | rfl | rfl | rfl | rfl<;>(constructor<;>omega)
def I45 (p:Posting) (d:D) (m:Nat) (e:En) (H:Hp):Prop:=e.dm=[]∧E2.get e.t 6= .ptr 0 0∧E2.get e.t 17=ofD d∧E2.get e.t 18= .int .i64 1∧
 ((m=1∧E2.get e.t 19= .int .i64 0∧H.nx=1∧H.get 0=some (.cells (some 171) false [.nilp, .nils]))∨(m=0∧E2.get e.t 19= .int .i64 1∧Bld H 0 171 [] (lineS p)))
theorem len1_43 {p:Posting} {d:D} (hs:Sl 5 ePost [p] d) (H:Hp) (k:AV→Bool):lenK P 43 (ofD d) H k=k (.int .i64 1):=by
 have:=len_sl (H:=H) (k:=k) hs un43
 simpa using this
theorem idx1_43 {p:Posting} {d:D} (hs:Sl 5 ePost [p] d) (k:AV→Bool):indexAtK P 43 (ofD d) (.int .i64 0) k=k (.dat (.ptr (rows ePost [p]) 0)):=by
 have:=idx_sl (k:=k) hs un43 in83 ce83 (n:=0) (by simp) (i:= .i64)
 simpa using this
theorem print45_c {p:Posting} {d:D} (hs:Sl 5 ePost [p] d) (hp:postB p=true):CQ P (G K) 45 [d] (·= .tup [.str (lineS p), .int .i64 0]):=by
 have hll:=lineS_len hp
 refine CQ.enter (hG K) ?_
 simp (disch:=first|exact bk rfl|omega|(simp only [ln];omega)|(simp only [go_sem];done)|decide) only [go_sem,Nat.reduceAdd,Nat.reduceMul,Nat.reduceEqDiff,Nat.reduceLT,Nat.reduceLeDiff,reduceIte,h45,r45]
 refine cl_any (hG K) [d] (check78_c hs (by simp)) rfl fun x hx=> ?_
 obtain⟨i,rfl⟩:=hx
 have ha:[p].all postB=true:=by simp [hp]
 rw [ha]
 simp (disch:=first|exact bk rfl|omega|(simp only [ln];omega)|(simp only [go_sem];done)|decide) only [go_sem,Nat.reduceAdd,Nat.reduceMul,Nat.reduceEqDiff,Nat.reduceLT,Nat.reduceLeDiff,reduceIte,len1_43 hs]
 refine loop_rule (I45 p d) (fun m e H hi=> ?_) (m:=1) ?_
 rotate_left
 ·refine⟨rfl, ?_, ?_, ?_, .inl ⟨rfl, ?_, ?_, ?_⟩⟩<;>((simp (disch:=first|exact bk rfl|omega|(simp only [ln];omega)|(simp only [go_sem];done)|decide) only [go_sem,Nat.reduceAdd,Nat.reduceMul,Nat.reduceEqDiff,Nat.reduceLT,Nat.reduceLeDiff,reduceIte]<;>first|rfl|omega))
 obtain⟨hdm,g6,g17,g18,hi⟩:=hi
 obtain⟨t,dm⟩:=e
 dsimp only at hdm g6 g17 g18 hi
 subst hdm
 refine semC_run 200 ?_
 rw [h45_1]
 rcases hi with⟨rfl,g19,hnx,hg⟩| ⟨rfl,g19,hb⟩
 ·have e1:((0:Int)<1)=True:=by simp
  have htk:takeN 5 ((ofDs (rows ePost [p])).drop 0)=some (ofDs (ePost p)):=rows_take (xs:=[p]) (n:=0) ePost_len (by simp)
  rw [List.drop_zero] at htk
  have z1:((0:Nat)=1)=False:=by simp
  have z2:((0:Nat)=2)=False:=by simp
  have z3:((1:Nat)=2)=False:=by simp
  simp (disch:=first|exact bk rfl|omega|(simp only [ln];omega)|(simp only [go_sem];done)|decide) only [go_sem,Nat.reduceAdd,Nat.reduceMul,Nat.reduceEqDiff,Nat.reduceLT,Nat.reduceLeDiff,reduceIte,g6,g17,g18,g19,e1,idx1_43 hs,htk,one83,set83,cells83,len83,ePost,hnx]
  refine line79 (X:=[2]) (s:=[]) (xs:=fiveI p) (Bld.new (.inr rfl) ?_ ?_ ?_) (by simp) (.inr ⟨2,some 5,false,some 3,rfl,by simp, ?_⟩) (fiveI_R hp) (by simp [fiveI]) fun H2 hb2 hw2=> ?_
  ·simp (disch:=first|exact bk rfl|omega|(simp only [ln];omega)|(simp only [go_sem];done)|decide) only [go_sem,Nat.reduceAdd,Nat.reduceMul,Nat.reduceEqDiff,Nat.reduceLT,Nat.reduceLeDiff,reduceIte,hnx,hg,z1,z2]
  ·simp (disch:=first|exact bk rfl|omega|(simp only [ln];omega)|(simp only [go_sem];done)|decide) only [go_sem,Nat.reduceAdd,Nat.reduceMul,Nat.reduceEqDiff,Nat.reduceLT,Nat.reduceLeDiff,reduceIte,hnx]
  ·intro c hc
   simp only [List.mem_cons,List.not_mem_nil,or_false] at hc
   subst hc
   simp (disch:=first|exact bk rfl|omega|(simp only [ln];omega)|(simp only [go_sem];done)|decide) only [go_sem,Nat.reduceAdd,Nat.reduceMul,Nat.reduceEqDiff,Nat.reduceLT,Nat.reduceLeDiff,reduceIte,hnx]
  ·simp (disch:=first|exact bk rfl|omega|(simp only [ln];omega)|(simp only [go_sem];done)|decide) only [go_sem,Nat.reduceAdd,Nat.reduceMul,Nat.reduceEqDiff,Nat.reduceLT,Nat.reduceLeDiff,reduceIte,hnx];rfl
  ·rw [List.nil_append,fiveI_S] at hb2
   simp (disch:=first|exact bk rfl|omega|(simp only [ln];omega)|(simp only [go_sem];done)|decide) only [go_sem,Nat.reduceAdd,Nat.reduceMul,Nat.reduceEqDiff,Nat.reduceLT,Nat.reduceLeDiff,reduceIte,g19]
   refine again_mk (m':=0) (by omega) ⟨rfl, ?_, ?_, ?_, .inr ⟨rfl, ?_,hb2.less (fun c hc=>by cases hc)⟩⟩<;>((simp (disch:=first|exact bk rfl|omega|(simp only [ln];omega)|(simp only [go_sem];done)|decide) only [go_sem,Nat.reduceAdd,Nat.reduceMul,Nat.reduceEqDiff,Nat.reduceLT,Nat.reduceLeDiff,reduceIte,g6,g17,g18,g19]<;>first|rfl|omega))
 ·have e1:((1:Int)<1)=False:=by simp
  simp (disch:=first|exact bk rfl|omega|(simp only [ln];omega)|(simp only [go_sem];done)|decide) only [go_sem,Nat.reduceAdd,Nat.reduceMul,Nat.reduceEqDiff,Nat.reduceLT,Nat.reduceLeDiff,reduceIte,g6,g17,g18,g19,e1,h45_0]
  refine str43 hb (by omega) fun H2=> ?_
  simp (disch:=first|exact bk rfl|omega|(simp only [ln];omega)|(simp only [go_sem];done)|decide) only [go_sem,Nat.reduceAdd,Nat.reduceMul,Nat.reduceEqDiff,Nat.reduceLT,Nat.reduceLeDiff,reduceIte,r45]
  exact endQ_fro (.tup [.str (lineS p), .int .i64 0]) rfl
end Go.S9
namespace Go.S9
open Go.Ev Go.Proofs
set_option maxRecDepth 100000
set_option linter.unusedVariables false
set_option linter.unusedSimpArgs false
variable {K : Int} {H : Hp} {k : AV → Bool}
def pJ (r:Reply):Str:=if r.j0=0 then [] else [106,117,100,103,101,100]++linS [r.j0,r.j1,r.j2,r.j3,r.j4,r.j5]++[10]
def pSp (r:Reply):Str:=if r.lo=0∧r.hi=0 then [] else [115,112,97,110,32]++spS r.lo r.hi++[10]
def pPe (r:Reply):Str:=if r.pence=0 then [] else [112,101,110,99,101]++linS [r.pence]++[10]
def pLi (r:Reply):Str:=if r.list=[] then [] else [108,105,115,116]++linS r.list++[10]
def poS (p:Posting):Str:=[112,111,115,116,105,110,103,32]++lineS p
def pPo (ps:List Posting):Str:=(ps.map poS).flatten
def rdI (a:Read) (t:Int):Str:=[32]++itS a.mark++[58]++itS a.station++[64]++itS t
def rdS:List Read→List Int→Str
 | a::as_,t::ts=>rdI a t++rdS as_ ts
 | _,_=>[]
def rgS (x:Reading):Str:=[114,101,97,100,105,110,103]++rdS x.reads x.times++[10]
def pRd (xs:List Reading):Str:=(xs.map rgS).flatten
def pfS (x:Proof):Str:=[112,114,111,111,102]++linS [(x.raises.length:Int)]++[10]
def pPf (xs:List Proof):Str:=(xs.map pfS).flatten
theorem flat_snoc {α:Type} {f:α→Str} {xs:List α} {n:Nat} (h:n<xs.length):((xs.take (n+1)).map f).flatten=((xs.take n).map f).flatten++f xs[n]:=by
 rw [List.take_succ_eq_append_getElem h,List.map_append,List.flatten_append]
 simp only [List.map_cons,List.map_nil,List.flatten_cons,List.flatten_nil,List.append_nil]
theorem flat_len {α:Type} {f:α→Str} {c:Nat}:∀{xs:List α},(∀x∈xs,(f x).length≤c)→((xs.map f).flatten).length≤c * xs.length
 | [],_=>by simp
 | x::xs,h=>by
  have h1:=h x List.mem_cons_self
  have h2:=flat_len (xs:=xs) fun y hy=>h y (List.mem_cons_of_mem _ hy)
  simp only [List.map_cons,List.flatten_cons,List.length_append,List.length_cons]
  rw [Nat.mul_add]
  omega
theorem rdI_len {a:Read} {t:Int} (h1:inR a.mark) (h2:inR a.station) (h3:inR t):(rdI a t).length≤63:=by
 have:=itS_len h1
 have:=itS_len h2
 have:=itS_len h3
 simp [rdI];omega
theorem rdS_len:∀{as_:List Read} {ts:List Int},(∀y∈as_,inR y.mark∧inR y.station)→(∀y∈ts,inR y)→(rdS as_ ts).length≤63 * as_.length
 | [],_,_,_=>by simp [rdS]
 | _::_,[],_,_=>by simp [rdS]
 | a::as_,t::ts,h,h'=>by
  have h1:=rdI_len (h a List.mem_cons_self).1 (h a List.mem_cons_self).2 (h' t List.mem_cons_self)
  have h2:=rdS_len (as_:=as_) (ts:=ts) (fun y hy=>h y (List.mem_cons_of_mem _ hy)) (fun y hy=>h' y (List.mem_cons_of_mem _ hy))
  simp only [rdS,List.length_append,List.length_cons]
  omega
theorem rdS_snoc:∀{as_:List Read} {ts:List Int} {n:Nat} (h:n<as_.length) (h':n<ts.length),rdS (as_.take (n+1)) (ts.take (n+1))=rdS (as_.take n) (ts.take n)++rdI as_[n] ts[n]
 | [],_,_,h,_=>by simp at h
 | _::_,[],_,_,h=>by simp at h
 | a::as_,t::ts,0,_,_=>by simp [rdS]
 | a::as_,t::ts,n+1,h,h'=>by
  have:=rdS_snoc (as_:=as_) (ts:=ts) (n:=n) (by simpa using h) (by simpa using h')
  simp only [List.take_succ_cons,rdS,List.getElem_cons_succ]
  rw [this,List.append_assoc]
theorem pfS_len {x:Proof} (h:PfOK x):(pfS x).length≤27:=by
 have h1:=h.l
 have:=itS_len (n:=(x.raises.length:Int)) ⟨by omega,by omega⟩
 simp [pfS,linS];omega
theorem poS_len {p:Posting} (h:postB p=true):(poS p).length≤113:=by
 have:=lineS_len h
 simp [poS];omega
theorem rgS_len {x:Reading} (h:RdOK x) (hl:x.reads.length≤40):(rgS x).length≤2528:=by
 have:=rdS_len h.rr h.tr
 simp [rgS];omega
structure St (r:Reply) (t:E2) (H:Hp) (s:Str):Prop where
 g1:E2.get t 1= .ptr 0 0
 g4:E2.get t 4= .ptr 1 0
 h0:H.get 0=some (.cells (some 47) false (ofDs (eReply r)))
 bl:Bld H 1 78 [0] s
theorem n01:(1:Nat)∉[0]:=by decide
theorem lineN {r:Reply} {t:E2} {s w:Str} {xs:List Int} {q:Option Nat} {kk:AV→Hp→Bool} (st:St r t H s) (hr:∀y∈xs,inR y) (hw:∀c∈w,c<256) (hlen:s.length+w.length+21 * xs.length+1≤1048576)
  (hk:∀H',St r t H' (s++w++linS xs++[10])→H.nx≤H'.nx→kk (.tup []) H'=true):cl P (G K) 42 [.ptr 1 0, .str w, .sl H.nx 0 xs.length 1 q] (H.push (.cells (some 3) false (ofDs (rows eInt xs)))) kk=true:=by
 have hn:=st.bl.nx
 refine line42 (X:=[H.nx,0]) (st.bl.push n01 _) (by simp;omega) (.inr ⟨H.nx,q,false,some 3,rfl,by simp,by rw [Hp.get_push,if_pos rfl]⟩) hr hw hlen fun H' hb hw'=> ?_
 have h1:=hw'.get 0 (by simp)
 rw [Hp.get_push,if_neg (by omega),st.h0] at h1
 have h2:=hw'.nx
 rw [Hp.nx_push] at h2
 exact hk H' ⟨st.g1,st.g4,h1,hb.less (by simp)⟩ (by omega)
theorem lineD {r:Reply} {t:E2} {s w:Str} {xs:List Int} {d:D} {kk:AV→Hp→Bool} (st:St r t H s) (hd:Sl 1 eInt xs d) (hr:∀y∈xs,inR y) (hw:∀c∈w,c<256) (hlen:s.length+w.length+21 * xs.length+1≤1048576)
  (hk:∀H',St r t H' (s++w++linS xs++[10])→kk (.tup []) H'=true):cl P (G K) 42 [.ptr 1 0, .str w,ofD d] H kk=true:=by
 refine line42 (X:=[0]) st.bl n01 (.inl ⟨d,rfl,hd⟩) hr hw hlen fun H' hb hw'=> ?_
 have h1:=hw'.get 0 (by simp)
 rw [st.h0] at h1
 exact hk H' ⟨st.g1,st.g4,h1,hb⟩
theorem St.env {r:Reply} {t t':E2} {s:Str} (st:St r t H s) (h1:E2.get t' 1=E2.get t 1) (h4:E2.get t' 4=E2.get t 4):St r t' H s:=⟨by rw [h1,st.g1],by rw [h4,st.g4],st.h0,st.bl⟩
theorem rowsI1 (a:Int):ofDs (rows eInt [a])=[.int .i64 a]:=rfl
theorem rowsI6 (a b c d e f:Int):ofDs (rows eInt [a,b,c,d,e,f])=[.int .i64 a, .int .i64 b, .int .i64 c, .int .i64 d, .int .i64 e, .int .i64 f]:=rfl
theorem inR0:inR 0:=⟨by decide,by decide⟩
theorem fin14 {r:Reply} (hr:ReplyOK r) (hb:Brief r) (hp:∀p∈r.postings,postB p=true) (hm:∀x∈r.readings,x.times.length=x.reads.length) {t:E2} {H:Hp} {s:Str} {Q:D→Prop} {kk:AEx→En→Hp→Bool} (hk:∀t H,kk .ret ⟨t,[]⟩ H=endQ Q (.ret (.tup [E2.get t 2,E2.get t 3])) H) (st:St r t H s) (hs:s.length≤1000000)
  (hq:Q (.tup [.str s, .int .i64 0])):cd P (G K) 188 147 (subC 14 [1,1,1,1,1,1,1,1,1,1,1,1]) none ⟨t,[]⟩ H kk=true:=by
 simp (disch:=first|exact bk rfl|omega|(simp only [ln];omega)|(simp only [go_sem];done)|decide) only [go_sem,Nat.reduceAdd,Nat.reduceMul,Nat.reduceEqDiff,Nat.reduceLT,Nat.reduceLeDiff,reduceIte,h14_13,st.g4]
 refine str43 st.bl (by omega) fun H2=> ?_
 simp (disch:=first|exact bk rfl|omega|(simp only [ln];omega)|(simp only [go_sem];done)|decide) only [go_sem,Nat.reduceAdd,Nat.reduceMul,Nat.reduceEqDiff,Nat.reduceLT,Nat.reduceLeDiff,reduceIte,hk]
 exact endQ_fro (.tup [.str s, .int .i64 0]) hq
def I14p (r:Reply) (s:Str) (m:Nat) (e:En) (H:Hp):Prop:=∃n,n≤r.proofs.length∧m=r.proofs.length - n∧e.dm=[]∧St r e.t H (s++pPf (r.proofs.take n))∧E2.get e.t 134=ofD r.df∧E2.get e.t 135= .int .i64 (r.proofs.length:Int)∧E2.get e.t 136= .int .i64 (n:Int)
theorem pf14 {r:Reply} (hr:ReplyOK r) (hb:Brief r) (hp:∀p∈r.postings,postB p=true) (hm:∀x∈r.readings,x.times.length=x.reads.length) {t:E2} {H:Hp} {s:Str} {Q:D→Prop} {kk:AEx→En→Hp→Bool} (hk:∀t H,kk .ret ⟨t,[]⟩ H=endQ Q (.ret (.tup [E2.get t 2,E2.get t 3])) H) (st:St r t H s) (hs:s.length≤100000)
  (hq:Q (.tup [.str (s++pPf r.proofs), .int .i64 0])):cd P (G K) 189 147 (subC 14 [1,1,1,1,1,1,1,1,1,1,1]) none ⟨t,[]⟩ H kk=true:=by
 have b1:=hb.f
 have hL:∀n,(pPf (r.proofs.take n)).length≤27 * 40:=fun n=>by
  have:=flat_len (f:=pfS) (xs:=r.proofs.take n) fun x hx=>pfS_len (hr.fo x (List.mem_of_mem_take hx))
  have h2:(r.proofs.take n).length≤40:=by rw [List.length_take];omega
  exact Nat.le_trans this (Nat.mul_le_mul_left _ h2)
 have g1:=st.g1
 have h0:=st.h0
 simp (disch:=first|exact bk rfl|omega|(simp only [ln];omega)|(simp only [go_sem];done)|decide) only [go_sem,Nat.reduceAdd,Nat.reduceMul,Nat.reduceEqDiff,Nat.reduceLT,Nat.reduceLeDiff,reduceIte,h14_12,g1,h0,eReply,len_sl hr.f un45]
 refine loop_rule (I14p r s) (fun m e H hi=> ?_) (m:=r.proofs.length) ?_
 rotate_left
 ·refine⟨0,Nat.zero_le _,rfl,rfl,(St.env (s:=s++pPf (r.proofs.take 0)) (by simpa [pPf] using st) ?_ ?_), ?_, ?_, ?_⟩<;>((simp (disch:=first|exact bk rfl|omega|(simp only [ln];omega)|(simp only [go_sem];done)|decide) only [go_sem,Nat.reduceAdd,Nat.reduceMul,Nat.reduceEqDiff,Nat.reduceLT,Nat.reduceLeDiff,reduceIte]<;>first|rfl|omega))
 obtain⟨n,hn1,rfl,hdm,st,g134,g135,g136⟩:=hi
 obtain⟨t,dm⟩:=e
 dsimp only at hdm st g134 g135 g136
 subst hdm
 refine semC_run 200 ?_
 rw [h14_4]
 have g4:=st.g4
 by_cases hlt:n<r.proofs.length
 ·have e2:((n:Int)<(r.proofs.length:Int))=True:=by simp;omega
  have o1:=hr.fo _ (List.getElem_mem hlt)
  have o2:=o1.l
  simp (disch:=first|exact bk rfl|omega|(simp only [ln];omega)|(simp only [go_sem];done)|decide) only [go_sem,Nat.reduceAdd,Nat.reduceMul,Nat.reduceEqDiff,Nat.reduceLT,Nat.reduceLeDiff,reduceIte,g4,g134,g135,g136,e2,idx_sl hr.f un45 in91 ce91 hlt,rows_get0 eProof_len hlt (by decide:0<1),eProof,len_sl o1.s un91]
  refine lineN (xs:=[(r.proofs[n].raises.length:Int)]) st (fun y hy=>by simp only [List.mem_cons,List.not_mem_nil,or_false] at hy;subst hy;constructor<;>omega) (by decide) (by have:=hL n;simp only [List.length_append,List.length_cons,List.length_nil];omega) fun H' st' _=> ?_
  simp (disch:=first|exact bk rfl|omega|(simp only [ln];omega)|(simp only [go_sem];done)|decide) only [go_sem,Nat.reduceAdd,Nat.reduceMul,Nat.reduceEqDiff,Nat.reduceLT,Nat.reduceLeDiff,reduceIte,g136]
  refine again_mk (m':=r.proofs.length - (n+1)) (by omega) ⟨n+1,hlt,rfl,rfl,(St.env (by rw [show pPf (r.proofs.take (n+1))=pPf (r.proofs.take n)++pfS r.proofs[n] from flat_snoc hlt];simpa [pfS] using st') ?_ ?_), ?_, ?_, ?_⟩<;>((simp (disch:=first|exact bk rfl|omega|(simp only [ln];omega)|(simp only [go_sem];done)|decide) only [go_sem,Nat.reduceAdd,Nat.reduceMul,Nat.reduceEqDiff,Nat.reduceLT,Nat.reduceLeDiff,reduceIte,g134,g135,g136]<;>first|rfl|omega))
 ·have e2:((n:Int)<(r.proofs.length:Int))=False:=by simp;omega
  simp (disch:=first|exact bk rfl|omega|(simp only [ln];omega)|(simp only [go_sem];done)|decide) only [go_sem,Nat.reduceAdd,Nat.reduceMul,Nat.reduceEqDiff,Nat.reduceLT,Nat.reduceLeDiff,reduceIte,g4,g134,g135,g136,e2]
  rw [List.take_of_length_le (by omega:r.proofs.length≤n)] at st
  refine fin14 hr hb hp hm hk (st.env ?_ ?_) (by have:=hL r.proofs.length;rw [List.take_length] at this;simp only [List.length_append];omega) hq<;>((simp (disch:=first|exact bk rfl|omega|(simp only [ln];omega)|(simp only [go_sem];done)|decide) only [go_sem,Nat.reduceAdd,Nat.reduceMul,Nat.reduceEqDiff,Nat.reduceLT,Nat.reduceLeDiff,reduceIte]<;>first|rfl|omega))
end Go.S9
namespace Go.S9
open Go.Ev Go.Proofs
set_option maxRecDepth 100000
set_option linter.unusedVariables false
set_option linter.unusedSimpArgs false
variable {K : Int} {H : Hp} {k : AV → Bool}
theorem takeN2 (a:Read):takeN 2 (ofDs (eRead a))=some (ofDs (eRead a)):=rfl
def I14r (r:Reply) (x:Reading) (b:Nat) (s:Str) (t0:E2) (m:Nat) (e:En) (H:Hp):Prop:=∃n,n≤x.reads.length∧m=x.reads.length - n∧e.dm=[]∧St r e.t H s∧b<H.nx∧H.get b=some (.cells (some 72) false [ofD x.dr,ofD x.dt])∧E2.get e.t 12= .ptr b 0∧E2.get e.t 13= .str ([114,101,97,100,105,110,103]++rdS (x.reads.take n) (x.times.take n))∧E2.get e.t 103=ofD x.dr∧E2.get e.t 104= .int .i64 (x.reads.length:Int)∧E2.get e.t 105= .int .i64 (n:Int)∧
 E2.get e.t 96=E2.get t0 96∧E2.get e.t 97=E2.get t0 97∧E2.get e.t 98=E2.get t0 98
set_option maxHeartbeats 2000000 in
theorem inner14 {r:Reply} {x:Reading} (hx:RdOK x) (hl:x.reads.length≤40) (hm:x.times.length=x.reads.length) {t t0:E2} {H:Hp} {s:Str} {b:Nat} {kk:AEx→En→Hp→Bool}
  (h0:I14r r x b s t0 x.reads.length ⟨t,[]⟩ H)
  (hk:∀t' H',St r t' H' s→E2.get t' 13= .str ([114,101,97,100,105,110,103]++rdS x.reads x.times)→E2.get t' 96=E2.get t0 96→E2.get t' 97=E2.get t0 97→E2.get t' 98=E2.get t0 98→kk (.exit 4) ⟨t',[]⟩ H'=true):
  semC P (G K) 147 (.loop (subC 14 [1,1,1,1,1,1,1,1,1,1,0,1,0,0,1,1,0,0,1,1,0,1,0])) none ⟨t,[]⟩ H kk=true:=by
 refine loop_rule (I14r r x b s t0) (fun m e H hi=> ?_) (m:=x.reads.length) h0
 obtain⟨n,hn1,rfl,hdm,st,hbn,hg,g12,g13,g103,g104,g105,g96,g97,g98⟩:=hi
 obtain⟨t,dm⟩:=e
 dsimp only at hdm st g12 g13 g103 g104 g105 g96 g97 g98
 subst hdm
 refine semC_run 200 ?_
 rw [h14_3]
 by_cases hlt:n<x.reads.length
 ·have hlt':n<x.times.length:=by omega
  have e2:((n:Int)<(x.reads.length:Int))=True:=by simp;omega
  have r1:=hx.rr _ (List.getElem_mem hlt)
  have r3:=hx.tr _ (List.getElem_mem hlt')
  have l1:=itS_len r1.1
  have l2:=itS_len r1.2
  have l3:=itS_len r3
  have hR:(rdS (x.reads.take n) (x.times.take n)).length≤63 * 40:=by
   have:=rdS_len (as_:=x.reads.take n) (ts:=x.times.take n) (fun y hy=>hx.rr y (List.mem_of_mem_take hy)) (fun y hy=>hx.tr y (List.mem_of_mem_take hy))
   have h2:(x.reads.take n).length≤40:=by rw [List.length_take];omega
   exact Nat.le_trans this (Nat.mul_le_mul_left _ h2)
  have hR2:([114,101,97,100,105,110,103]++rdS (x.reads.take n) (x.times.take n)).length≤3000:=by simp;omega
  have zb:(b=H.nx)=False:=by simp;omega
  have f1:=avs_of hx.r
  have f2:=avs_of hx.t
  (try simp (disch:=first|exact bk rfl|omega|(simp only [ln];omega)|(simp only [go_sem];done)|decide) only [go_sem,Nat.reduceAdd,Nat.reduceMul,Nat.reduceEqDiff,Nat.reduceLT,Nat.reduceLeDiff,reduceIte,g12,g13,g103,g104,g105,e2,hg,zb,eRead,idx_sl hx.r un70 in90 ce90 hlt,rows_take eRead_len hlt,idx_sl hx.t un42 in3 ce3 hlt',rows_get0 eInt_len hlt' (by decide:0<1),eInt,f1,f2]);repeat' first|((with_reducible first|apply gJoin_split|apply cond_split|apply gJoinD_split)<;>intro h<;>(try simp only [spl] at h)<;>try simp (disch:=first|exact bk rfl|omega|(simp only [ln];omega)|(simp only [go_sem];done)|decide) only [go_sem,Nat.reduceAdd,Nat.reduceMul,Nat.reduceEqDiff,Nat.reduceLT,Nat.reduceLeDiff,reduceIte,g12,g13,g103,g104,g105,e2,hg,zb,eRead,idx_sl hx.r un70 in90 ce90 hlt,rows_take eRead_len hlt,idx_sl hx.t un42 in3 ce3 hlt',rows_get0 eInt_len hlt' (by decide:0<1),eInt,f1,f2,h])|((with_reducible refine cl_guard ?_;first|refine cl_eq (hG K) _ (itoa27_c r1.1) rfl ?_|refine cl_eq (hG K) _ (itoa27_c r1.2) rfl ?_|refine cl_eq (hG K) _ (itoa27_c r3) rfl ?_)<;>try simp (disch:=first|exact bk rfl|omega|(simp only [ln];omega)|(simp only [go_sem];done)|decide) only [go_sem,Nat.reduceAdd,Nat.reduceMul,Nat.reduceEqDiff,Nat.reduceLT,Nat.reduceLeDiff,reduceIte,g12,g13,g103,g104,g105,e2,hg,zb,eRead,idx_sl hx.r un70 in90 ce90 hlt,rows_take eRead_len hlt,idx_sl hx.t un42 in3 ce3 hlt',rows_get0 eInt_len hlt' (by decide:0<1),eInt,f1,f2])
  have hp1:=st.bl.push n01 (.cells (some 90) false [.int .i64 0, .int .i64 0])
  have hn:=st.bl.nx
  have hp2:=hp1.setX (c:=H.nx) (by simp;omega) (by simp) (some (.cells (some 90) false [.int .i64 x.reads[n].mark, .int .i64 x.reads[n].station]))
  have hp3:=hp2.less (Y:=[0]) (by simp)
  have z0:(0=H.nx)=False:=by simp;omega
  refine again_mk (m':=x.reads.length - (n+1)) (by omega) ⟨n+1,hlt,rfl,rfl,⟨?_, ?_, ?_,hp3⟩, ?_, ?_, ?_, ?_, ?_, ?_, ?_, ?_, ?_, ?_⟩
  ·(simp (disch:=first|exact bk rfl|omega|(simp only [ln];omega)|(simp only [go_sem];done)|decide) only [go_sem,Nat.reduceAdd,Nat.reduceMul,Nat.reduceEqDiff,Nat.reduceLT,Nat.reduceLeDiff,reduceIte,st.g1]<;>first|rfl|omega)
  ·(simp (disch:=first|exact bk rfl|omega|(simp only [ln];omega)|(simp only [go_sem];done)|decide) only [go_sem,Nat.reduceAdd,Nat.reduceMul,Nat.reduceEqDiff,Nat.reduceLT,Nat.reduceLeDiff,reduceIte,st.g4]<;>first|rfl|omega)
  ·(simp (disch:=first|exact bk rfl|omega|(simp only [ln];omega)|(simp only [go_sem];done)|decide) only [go_sem,Nat.reduceAdd,Nat.reduceMul,Nat.reduceEqDiff,Nat.reduceLT,Nat.reduceLeDiff,reduceIte,st.h0,z0]<;>first|rfl|omega)
  ·(simp (disch:=first|exact bk rfl|omega|(simp only [ln];omega)|(simp only [go_sem];done)|decide) only [go_sem,Nat.reduceAdd,Nat.reduceMul,Nat.reduceEqDiff,Nat.reduceLT,Nat.reduceLeDiff,reduceIte]<;>first|rfl|omega)
  ·(simp (disch:=first|exact bk rfl|omega|(simp only [ln];omega)|(simp only [go_sem];done)|decide) only [go_sem,Nat.reduceAdd,Nat.reduceMul,Nat.reduceEqDiff,Nat.reduceLT,Nat.reduceLeDiff,reduceIte,hg,zb]<;>first|rfl|omega)
  ·(simp (disch:=first|exact bk rfl|omega|(simp only [ln];omega)|(simp only [go_sem];done)|decide) only [go_sem,Nat.reduceAdd,Nat.reduceMul,Nat.reduceEqDiff,Nat.reduceLT,Nat.reduceLeDiff,reduceIte,g12]<;>first|rfl|omega)
  ·rw [rdS_snoc hlt hlt']
   simp (disch:=first|exact bk rfl|omega|(simp only [ln];omega)|(simp only [go_sem];done)|decide) only [go_sem,Nat.reduceAdd,Nat.reduceMul,Nat.reduceEqDiff,Nat.reduceLT,Nat.reduceLeDiff,reduceIte]
   simp [rdI]
  ·(simp (disch:=first|exact bk rfl|omega|(simp only [ln];omega)|(simp only [go_sem];done)|decide) only [go_sem,Nat.reduceAdd,Nat.reduceMul,Nat.reduceEqDiff,Nat.reduceLT,Nat.reduceLeDiff,reduceIte,g103]<;>first|rfl|omega)
  ·(simp (disch:=first|exact bk rfl|omega|(simp only [ln];omega)|(simp only [go_sem];done)|decide) only [go_sem,Nat.reduceAdd,Nat.reduceMul,Nat.reduceEqDiff,Nat.reduceLT,Nat.reduceLeDiff,reduceIte,g104]<;>first|rfl|omega)
  ·(simp (disch:=first|exact bk rfl|omega|(simp only [ln];omega)|(simp only [go_sem];done)|decide) only [go_sem,Nat.reduceAdd,Nat.reduceMul,Nat.reduceEqDiff,Nat.reduceLT,Nat.reduceLeDiff,reduceIte,g105]<;>first|rfl|omega)
  ·(simp (disch:=first|exact bk rfl|omega|(simp only [ln];omega)|(simp only [go_sem];done)|decide) only [go_sem,Nat.reduceAdd,Nat.reduceMul,Nat.reduceEqDiff,Nat.reduceLT,Nat.reduceLeDiff,reduceIte,g96]<;>first|rfl|omega)
  ·(simp (disch:=first|exact bk rfl|omega|(simp only [ln];omega)|(simp only [go_sem];done)|decide) only [go_sem,Nat.reduceAdd,Nat.reduceMul,Nat.reduceEqDiff,Nat.reduceLT,Nat.reduceLeDiff,reduceIte,g97]<;>first|rfl|omega)
  ·(simp (disch:=first|exact bk rfl|omega|(simp only [ln];omega)|(simp only [go_sem];done)|decide) only [go_sem,Nat.reduceAdd,Nat.reduceMul,Nat.reduceEqDiff,Nat.reduceLT,Nat.reduceLeDiff,reduceIte,g98]<;>first|rfl|omega)
 ·have e2:((n:Int)<(x.reads.length:Int))=False:=by simp;omega
  simp (disch:=first|exact bk rfl|omega|(simp only [ln];omega)|(simp only [go_sem];done)|decide) only [go_sem,Nat.reduceAdd,Nat.reduceMul,Nat.reduceEqDiff,Nat.reduceLT,Nat.reduceLeDiff,reduceIte,g104,g105,e2]
  rw [List.take_of_length_le (by omega:x.reads.length≤n),List.take_of_length_le (by omega:x.times.length≤n)] at g13
  refine hk _ _ (st.env ?_ ?_) ?_ ?_ ?_ ?_<;>((simp (disch:=first|exact bk rfl|omega|(simp only [ln];omega)|(simp only [go_sem];done)|decide) only [go_sem,Nat.reduceAdd,Nat.reduceMul,Nat.reduceEqDiff,Nat.reduceLT,Nat.reduceLeDiff,reduceIte,g13,g96,g97,g98]<;>first|rfl|omega))
end Go.S9
namespace Go.S9
open Go.Ev Go.Proofs
set_option maxRecDepth 100000
set_option linter.unusedVariables false
set_option linter.unusedSimpArgs false
variable {K : Int} {H : Hp} {k : AV → Bool}
theorem byteRd {as_:List Read} {ts:List Int}:∀c∈([114,101,97,100,105,110,103]:Str)++rdS as_ ts,c<256:=by
 have hI:∀(a:Read) (t:Int),∀c∈rdI a t,c<256:=fun a t c hc=>by
  simp only [rdI,List.mem_append,List.mem_cons,List.not_mem_nil,or_false] at hc
  rcases hc with ((((hc | hc)| hc)| hc)| hc)| hc
  ·omega
  ·exact itS_byte _ c hc
  ·omega
  ·exact itS_byte _ c hc
  ·omega
  ·exact itS_byte _ c hc
 have hS:∀(as_:List Read) (ts:List Int),∀c∈rdS as_ ts,c<256:=by
  intro as_
  induction as_ with
  | nil=>intro ts c hc;simp [rdS] at hc
  | cons a as_ ih=>
   intro ts c hc
   cases ts with
   | nil=>simp [rdS] at hc
   | cons t ts=>
    rcases List.mem_append.1 hc with hc | hc
    ·exact hI _ _ c hc
    ·exact ih _ c hc
 intro c hc
 rcases List.mem_append.1 hc with hc | hc
 ·simp only [List.mem_cons,List.not_mem_nil,or_false] at hc
  omega
 ·exact hS _ _ c hc
theorem byteLn (p:Posting):∀c∈poS p,c<256:=by
 intro c hc
 simp only [poS,lineS,List.mem_append,List.mem_cons,List.not_mem_nil,or_false] at hc
 repeat' (rcases hc with hc | hc)
 all_goals first | omega | exact itS_byte _ c hc
theorem byteSp {lo hi:Int}:∀c∈([115,112,97,110,32]:Str)++spS lo hi,c<256:=by
 intro c hc
 simp only [spS,List.mem_append,List.mem_cons,List.not_mem_nil,or_false] at hc
 repeat' (rcases hc with hc | hc)
 all_goals first | omega | exact itS_byte _ c hc
def J14r (r:Reply) (s:Str) (m:Nat) (e:En) (H:Hp):Prop:=∃n,n≤r.readings.length∧m=r.readings.length - n∧e.dm=[]∧St r e.t H (s++pRd (r.readings.take n))∧E2.get e.t 96=ofD r.dg∧E2.get e.t 97= .int .i64 (r.readings.length:Int)∧E2.get e.t 98= .int .i64 (n:Int)
set_option maxHeartbeats 2000000 in
theorem rd14 {r:Reply} (hr:ReplyOK r) (hb:Brief r) (hp:∀p∈r.postings,postB p=true) (hm:∀x∈r.readings,x.times.length=x.reads.length) {t:E2} {H:Hp} {s:Str} {Q:D→Prop} {kk:AEx→En→Hp→Bool} (hk:∀t H,kk .ret ⟨t,[]⟩ H=endQ Q (.ret (.tup [E2.get t 2,E2.get t 3])) H) (st:St r t H s) (hs:s.length≤50000)
  (hq:Q (.tup [.str (s++pRd r.readings++pPf r.proofs), .int .i64 0])):cd P (G K) 190 147 (subC 14 [1,1,1,1,1,1,1,1,1,1]) none ⟨t,[]⟩ H kk=true:=by
 have b1:=hb.g
 have hL:∀n,(pRd (r.readings.take n)).length≤2528 * 4:=fun n=>by
  have:=flat_len (f:=rgS) (xs:=r.readings.take n) fun x hx=>rgS_len (hr.go x (List.mem_of_mem_take hx)) (hb.s x (List.mem_of_mem_take hx)).1
  have h2:(r.readings.take n).length≤4:=by rw [List.length_take];omega
  exact Nat.le_trans this (Nat.mul_le_mul_left _ h2)
 have g1:=st.g1
 have h0:=st.h0
 simp (disch:=first|exact bk rfl|omega|(simp only [ln];omega)|(simp only [go_sem];done)|decide) only [go_sem,Nat.reduceAdd,Nat.reduceMul,Nat.reduceEqDiff,Nat.reduceLT,Nat.reduceLeDiff,reduceIte,h14_11,g1,h0,eReply,len_sl hr.g un44]
 refine loop_rule (J14r r s) (fun m e H hi=> ?_) (m:=r.readings.length) ?_
 rotate_left
 ·refine⟨0,Nat.zero_le _,rfl,rfl,(St.env (s:=s++pRd (r.readings.take 0)) (by simpa [pRd] using st) ?_ ?_), ?_, ?_, ?_⟩<;>((simp (disch:=first|exact bk rfl|omega|(simp only [ln];omega)|(simp only [go_sem];done)|decide) only [go_sem,Nat.reduceAdd,Nat.reduceMul,Nat.reduceEqDiff,Nat.reduceLT,Nat.reduceLeDiff,reduceIte]<;>first|rfl|omega))
 obtain⟨n,hn1,rfl,hdm,st,g96,g97,g98⟩:=hi
 obtain⟨t,dm⟩:=e
 dsimp only at hdm st g96 g97 g98
 subst hdm
 refine semC_run 200 ?_
 rw [h14_2]
 have g4:=st.g4
 by_cases hlt:n<r.readings.length
 ·have e2:((n:Int)<(r.readings.length:Int))=True:=by simp;omega
  have o1:=hr.go _ (List.getElem_mem hlt)
  have o2:=(hb.s _ (List.getElem_mem hlt)).1
  have o3:=hm _ (List.getElem_mem hlt)
  simp (disch:=first|exact bk rfl|omega|(simp only [ln];omega)|(simp only [go_sem];done)|decide) only [go_sem,Nat.reduceAdd,Nat.reduceMul,Nat.reduceEqDiff,Nat.reduceLT,Nat.reduceLeDiff,reduceIte,g4,g96,g97,g98,e2,idx_sl hr.g un44 in72 ce72 hlt,rows_take eReading_len hlt,eReading,one_of o1.r,one_of o1.t,len_sl o1.r un70]
  have hp1:=st.bl.push n01 (.cells (some 72) false [.nils, .nils])
  have hn:=st.bl.nx
  have hp2:=hp1.setX (c:=H.nx) (by simp;omega) (by simp) (some (.cells (some 72) false [ofD r.readings[n].dr,ofD r.readings[n].dt]))
  have hp3:=hp2.less (Y:=[0]) (by simp)
  have z0:(0=H.nx)=False:=by simp;omega
  refine inner14 (r:=r) (t0:=t) (s:=s++pRd (r.readings.take n)) (b:=H.nx) o1 o2 o3 ⟨0,Nat.zero_le _,rfl,rfl,⟨?_, ?_, ?_,hp3⟩, ?_, ?_, ?_, ?_, ?_, ?_, ?_, ?_, ?_, ?_⟩ fun t' H' st' u13 u96 u97 u98=> ?_
  ·(simp (disch:=first|exact bk rfl|omega|(simp only [ln];omega)|(simp only [go_sem];done)|decide) only [go_sem,Nat.reduceAdd,Nat.reduceMul,Nat.reduceEqDiff,Nat.reduceLT,Nat.reduceLeDiff,reduceIte,g1,st.g1]<;>first|rfl|omega)
  ·(simp (disch:=first|exact bk rfl|omega|(simp only [ln];omega)|(simp only [go_sem];done)|decide) only [go_sem,Nat.reduceAdd,Nat.reduceMul,Nat.reduceEqDiff,Nat.reduceLT,Nat.reduceLeDiff,reduceIte,g4]<;>first|rfl|omega)
  ·(simp (disch:=first|exact bk rfl|omega|(simp only [ln];omega)|(simp only [go_sem];done)|decide) only [go_sem,Nat.reduceAdd,Nat.reduceMul,Nat.reduceEqDiff,Nat.reduceLT,Nat.reduceLeDiff,reduceIte,st.h0,z0]<;>first|rfl|omega)
  ·(simp (disch:=first|exact bk rfl|omega|(simp only [ln];omega)|(simp only [go_sem];done)|decide) only [go_sem,Nat.reduceAdd,Nat.reduceMul,Nat.reduceEqDiff,Nat.reduceLT,Nat.reduceLeDiff,reduceIte]<;>first|rfl|omega)
  ·(simp (disch:=first|exact bk rfl|omega|(simp only [ln];omega)|(simp only [go_sem];done)|decide) only [go_sem,Nat.reduceAdd,Nat.reduceMul,Nat.reduceEqDiff,Nat.reduceLT,Nat.reduceLeDiff,reduceIte]<;>first|rfl|omega)
  ·(simp (disch:=first|exact bk rfl|omega|(simp only [ln];omega)|(simp only [go_sem];done)|decide) only [go_sem,Nat.reduceAdd,Nat.reduceMul,Nat.reduceEqDiff,Nat.reduceLT,Nat.reduceLeDiff,reduceIte]<;>first|rfl|omega)
  ·simp (disch:=first|exact bk rfl|omega|(simp only [ln];omega)|(simp only [go_sem];done)|decide) only [go_sem,Nat.reduceAdd,Nat.reduceMul,Nat.reduceEqDiff,Nat.reduceLT,Nat.reduceLeDiff,reduceIte]
   simp [rdS]
  ·(simp (disch:=first|exact bk rfl|omega|(simp only [ln];omega)|(simp only [go_sem];done)|decide) only [go_sem,Nat.reduceAdd,Nat.reduceMul,Nat.reduceEqDiff,Nat.reduceLT,Nat.reduceLeDiff,reduceIte]<;>first|rfl|omega)
  ·(simp (disch:=first|exact bk rfl|omega|(simp only [ln];omega)|(simp only [go_sem];done)|decide) only [go_sem,Nat.reduceAdd,Nat.reduceMul,Nat.reduceEqDiff,Nat.reduceLT,Nat.reduceLeDiff,reduceIte]<;>first|rfl|omega)
  ·(simp (disch:=first|exact bk rfl|omega|(simp only [ln];omega)|(simp only [go_sem];done)|decide) only [go_sem,Nat.reduceAdd,Nat.reduceMul,Nat.reduceEqDiff,Nat.reduceLT,Nat.reduceLeDiff,reduceIte]<;>first|rfl|omega)
  ·(simp (disch:=first|exact bk rfl|omega|(simp only [ln];omega)|(simp only [go_sem];done)|decide) only [go_sem,Nat.reduceAdd,Nat.reduceMul,Nat.reduceEqDiff,Nat.reduceLT,Nat.reduceLeDiff,reduceIte]<;>first|rfl|omega)
  ·(simp (disch:=first|exact bk rfl|omega|(simp only [ln];omega)|(simp only [go_sem];done)|decide) only [go_sem,Nat.reduceAdd,Nat.reduceMul,Nat.reduceEqDiff,Nat.reduceLT,Nat.reduceLeDiff,reduceIte]<;>first|rfl|omega)
  ·(simp (disch:=first|exact bk rfl|omega|(simp only [ln];omega)|(simp only [go_sem];done)|decide) only [go_sem,Nat.reduceAdd,Nat.reduceMul,Nat.reduceEqDiff,Nat.reduceLT,Nat.reduceLeDiff,reduceIte]<;>first|rfl|omega)
  ·simp (disch:=first|exact bk rfl|omega|(simp only [ln];omega)|(simp only [go_sem];done)|decide) only [go_sem,Nat.reduceAdd,Nat.reduceMul,Nat.reduceEqDiff,Nat.reduceLT,Nat.reduceLeDiff,reduceIte,h14_7,st'.g4,u13]
   have lR:=rdS_len (as_:=r.readings[n].reads) (ts:=r.readings[n].times) o1.rr o1.tr
   refine lineD (xs:=[]) (d:= .nils) st' (.inl ⟨rfl,rfl⟩) (fun y hy=>by cases hy) byteRd (by have:=hL n;simp only [List.length_append,List.length_cons,List.length_nil];omega) fun H2 st2=> ?_
   simp (disch:=first|exact bk rfl|omega|(simp only [ln];omega)|(simp only [go_sem];done)|decide) only [go_sem,Nat.reduceAdd,Nat.reduceMul,Nat.reduceEqDiff,Nat.reduceLT,Nat.reduceLeDiff,reduceIte,h14_6,u96,u97,u98,g96,g97,g98]
   refine again_mk (m':=r.readings.length - (n+1)) (by omega) ⟨n+1,hlt,rfl,rfl,(St.env (by rw [show pRd (r.readings.take (n+1))=pRd (r.readings.take n)++rgS r.readings[n] from flat_snoc hlt];simpa [rgS,linS] using st2) ?_ ?_), ?_, ?_, ?_⟩<;>((simp (disch:=first|exact bk rfl|omega|(simp only [ln];omega)|(simp only [go_sem];done)|decide) only [go_sem,Nat.reduceAdd,Nat.reduceMul,Nat.reduceEqDiff,Nat.reduceLT,Nat.reduceLeDiff,reduceIte,u96,u97,u98,g96,g97,g98]<;>first|rfl|omega))
 ·have e2:((n:Int)<(r.readings.length:Int))=False:=by simp;omega
  simp (disch:=first|exact bk rfl|omega|(simp only [ln];omega)|(simp only [go_sem];done)|decide) only [go_sem,Nat.reduceAdd,Nat.reduceMul,Nat.reduceEqDiff,Nat.reduceLT,Nat.reduceLeDiff,reduceIte,g4,g96,g97,g98,e2]
  rw [List.take_of_length_le (by omega:r.readings.length≤n)] at st
  refine pf14 hr hb hp hm hk (st.env ?_ ?_) (by have:=hL r.readings.length;rw [List.take_length] at this;simp only [List.length_append];omega) hq<;>((simp (disch:=first|exact bk rfl|omega|(simp only [ln];omega)|(simp only [go_sem];done)|decide) only [go_sem,Nat.reduceAdd,Nat.reduceMul,Nat.reduceEqDiff,Nat.reduceLT,Nat.reduceLeDiff,reduceIte]<;>first|rfl|omega))
def J14p (r:Reply) (s:Str) (m:Nat) (e:En) (H:Hp):Prop:=∃n,n≤r.postings.length∧m=r.postings.length - n∧e.dm=[]∧St r e.t H (s++pPo (r.postings.take n))∧E2.get e.t 78=ofD r.dp∧E2.get e.t 79= .int .i64 (r.postings.length:Int)∧E2.get e.t 80= .int .i64 (n:Int)
set_option maxHeartbeats 2000000 in
theorem po14 {r:Reply} (hr:ReplyOK r) (hb:Brief r) (hp:∀p∈r.postings,postB p=true) (hm:∀x∈r.readings,x.times.length=x.reads.length) {t:E2} {H:Hp} {s:Str} {Q:D→Prop} {kk:AEx→En→Hp→Bool} (hk:∀t H,kk .ret ⟨t,[]⟩ H=endQ Q (.ret (.tup [E2.get t 2,E2.get t 3])) H) (st:St r t H s) (hs:s.length≤20000)
  (hq:Q (.tup [.str (s++pPo r.postings++pRd r.readings++pPf r.proofs), .int .i64 0])):cd P (G K) 191 147 (subC 14 [1,1,1,1,1,1,1,1,1]) none ⟨t,[]⟩ H kk=true:=by
 have b1:=hb.p
 have hL:∀n,(pPo (r.postings.take n)).length≤113 * 100:=fun n=>by
  have:=flat_len (f:=poS) (xs:=r.postings.take n) fun x hx=>poS_len (hp x (List.mem_of_mem_take hx))
  have h2:(r.postings.take n).length≤100:=by rw [List.length_take];omega
  exact Nat.le_trans this (Nat.mul_le_mul_left _ h2)
 have g1:=st.g1
 have h0:=st.h0
 simp (disch:=first|exact bk rfl|omega|(simp only [ln];omega)|(simp only [go_sem];done)|decide) only [go_sem,Nat.reduceAdd,Nat.reduceMul,Nat.reduceEqDiff,Nat.reduceLT,Nat.reduceLeDiff,reduceIte,h14_10,g1,h0,eReply,len_sl hr.p un43]
 refine loop_rule (J14p r s) (fun m e H hi=> ?_) (m:=r.postings.length) ?_
 rotate_left
 ·refine⟨0,Nat.zero_le _,rfl,rfl,(St.env (s:=s++pPo (r.postings.take 0)) (by simpa [pPo] using st) ?_ ?_), ?_, ?_, ?_⟩<;>((simp (disch:=first|exact bk rfl|omega|(simp only [ln];omega)|(simp only [go_sem];done)|decide) only [go_sem,Nat.reduceAdd,Nat.reduceMul,Nat.reduceEqDiff,Nat.reduceLT,Nat.reduceLeDiff,reduceIte]<;>first|rfl|omega))
 obtain⟨n,hn1,rfl,hdm,st,g78,g79,g80⟩:=hi
 obtain⟨t,dm⟩:=e
 dsimp only at hdm st g78 g79 g80
 subst hdm
 refine semC_run 200 ?_
 rw [h14_1]
 have g4:=st.g4
 by_cases hlt:n<r.postings.length
 ·have e2:((n:Int)<(r.postings.length:Int))=True:=by simp;omega
  have o1:=hp _ (List.getElem_mem hlt)
  have l1:=lineS_len o1
  have l2:=poS_len o1
  have t5:takeN 5 (ofDs (ePost r.postings[n]))=some (ofDs (ePost r.postings[n])):=rfl
  simp (disch:=first|exact bk rfl|omega|(simp only [ln];omega)|(simp only [go_sem];done)|decide) only [go_sem,Nat.reduceAdd,Nat.reduceMul,Nat.reduceEqDiff,Nat.reduceLT,Nat.reduceLeDiff,reduceIte,g4,g78,g79,g80,e2,idx_sl hr.p un43 in83 ce83 hlt,rows_take ePost_len hlt,one83,set83,cells83,len83,t5,bs43_1]
  refine cl_cq (hG K) (print45_c (p:=r.postings[n]) (d:= .sl 5 (rows ePost [r.postings[n]]) 1) (.inr rfl) o1) (.cons _ _ [H.nx+1] _ _ [] (.sl (H.nx+1) 0 1 5 (some 1) (some 83) false (ofDs (ePost r.postings[n])) (ofDs (ePost r.postings[n])) (rows ePost [r.postings[n]]) [] ?_ t5 (.fro (ePost r.postings[n]))) .nil) (fun d hd=>⟨.inr (by rw [hd];rfl), ?_⟩)
  ·simp (disch:=first|exact bk rfl|omega|(simp only [ln];omega)|(simp only [go_sem];done)|decide) only [go_sem,Nat.reduceAdd,Nat.reduceMul,Nat.reduceEqDiff,Nat.reduceLT,Nat.reduceLeDiff,reduceIte]
  subst hd
  simp (disch:=first|exact bk rfl|omega|(simp only [ln];omega)|(simp only [go_sem];done)|decide) only [go_sem,Nat.reduceAdd,Nat.reduceMul,Nat.reduceEqDiff,Nat.reduceLT,Nat.reduceLeDiff,reduceIte,g4,List.length_cons,List.length_nil]
  have hn:=st.bl.nx
  have hp1:=st.bl.push n01 (.cells (some 83) false [.int .i64 0, .int .i64 0, .int .i64 0, .int .i64 0, .int .i64 0])
  have hp2:=hp1.setX (c:=H.nx) (by simp;omega) (by simp) (some (.cells (some 83) false (ofDs (ePost r.postings[n]))))
  have hp3:=(hp2.less (Y:=[0]) (by simp)).push n01 (.cells (some 83) false (ofDs (ePost r.postings[n])))
  have hp4:=hp3.less (Y:=[0]) (by simp)
  have z0:(0=H.nx)=False:=by simp;omega
  have z1:(0=H.nx+1)=False:=by simp
  refine ws46 (X:=[0]) hp4 n01 (by have:=hL n;simp only [List.length_append,List.length_cons,List.length_nil];omega) (byteLn r.postings[n]) fun H2 hb2 hw2=> ?_
  have q0:=hw2.get 0 (by simp)
  simp (disch:=first|exact bk rfl|omega|(simp only [ln];omega)|(simp only [go_sem];done)|decide) only [go_sem,Nat.reduceAdd,Nat.reduceMul,Nat.reduceEqDiff,Nat.reduceLT,Nat.reduceLeDiff,reduceIte,st.h0,z0,z1] at q0
  have st2:St r t H2 (s++pPo (r.postings.take n)++poS r.postings[n]):=⟨st.g1,st.g4,q0,hb2⟩
  simp (disch:=first|exact bk rfl|omega|(simp only [ln];omega)|(simp only [go_sem];done)|decide) only [go_sem,Nat.reduceAdd,Nat.reduceMul,Nat.reduceEqDiff,Nat.reduceLT,Nat.reduceLeDiff,reduceIte,g80]
  refine again_mk (m':=r.postings.length - (n+1)) (by omega) ⟨n+1,hlt,rfl,rfl,(St.env (by rw [show pPo (r.postings.take (n+1))=pPo (r.postings.take n)++poS r.postings[n] from flat_snoc hlt,←List.append_assoc];exact st2) ?_ ?_), ?_, ?_, ?_⟩<;>((simp (disch:=first|exact bk rfl|omega|(simp only [ln];omega)|(simp only [go_sem];done)|decide) only [go_sem,Nat.reduceAdd,Nat.reduceMul,Nat.reduceEqDiff,Nat.reduceLT,Nat.reduceLeDiff,reduceIte,g78,g79,g80]<;>first|rfl|omega))
 ·have e2:((n:Int)<(r.postings.length:Int))=False:=by simp;omega
  simp (disch:=first|exact bk rfl|omega|(simp only [ln];omega)|(simp only [go_sem];done)|decide) only [go_sem,Nat.reduceAdd,Nat.reduceMul,Nat.reduceEqDiff,Nat.reduceLT,Nat.reduceLeDiff,reduceIte,g4,g78,g79,g80,e2]
  rw [List.take_of_length_le (by omega:r.postings.length≤n)] at st
  refine rd14 hr hb hp hm hk (st.env ?_ ?_) (by have:=hL r.postings.length;rw [List.take_length] at this;simp only [List.length_append];omega) hq<;>((simp (disch:=first|exact bk rfl|omega|(simp only [ln];omega)|(simp only [go_sem];done)|decide) only [go_sem,Nat.reduceAdd,Nat.reduceMul,Nat.reduceEqDiff,Nat.reduceLT,Nat.reduceLeDiff,reduceIte]<;>first|rfl|omega))
end Go.S9
namespace Go.S9
open Go.Ev Go.Proofs
set_option maxRecDepth 100000
set_option linter.unusedVariables false
set_option linter.unusedSimpArgs false
variable {K : Int} {H : Hp} {k : AV → Bool}
theorem bk23:buildK P 23 [] k=k (.agg [.int .i64 0, .int .i64 0]):=by kernel_rfl
theorem eq2_0 (lo hi:Int):eq2 lo hi 0 0=decide (lo=0∧hi=0):=by
 unfold eq2
 by_cases h1:lo=0<;>by_cases h2:hi=0<;>simp [h1,h2]
theorem li14 {r:Reply} (hr:ReplyOK r) (hb:Brief r) (hp:∀p∈r.postings,postB p=true) (hm:∀x∈r.readings,x.times.length=x.reads.length) {t:E2} {H:Hp} {s:Str} {Q:D→Prop} {kk:AEx→En→Hp→Bool} (hk:∀t H,kk .ret ⟨t,[]⟩ H=endQ Q (.ret (.tup [E2.get t 2,E2.get t 3])) H) (st:St r t H s) (hs:s.length≤10000)
  (hq:Q (.tup [.str (s++pLi r++pPo r.postings++pRd r.readings++pPf r.proofs), .int .i64 0])):cd P (G K) 192 147 (subC 14 [1,1,1,1,1,1,1,1]) none ⟨t,[]⟩ H kk=true:=by
 have b1:=hb.l
 have g1:=st.g1
 have g4:=st.g4
 have h0:=st.h0
 by_cases hl:r.list=[]
 ·have e2:((0:Int)<(r.list.length:Int))=False:=by rw [hl];simp
  simp (disch:=first|exact bk rfl|omega|(simp only [ln];omega)|(simp only [go_sem];done)|decide) only [go_sem,Nat.reduceAdd,Nat.reduceMul,Nat.reduceEqDiff,Nat.reduceLT,Nat.reduceLeDiff,reduceIte,h14_9,g1,h0,eReply,len_sl hr.l un42,e2]
  rw [show pLi r=[] from if_pos hl,List.append_nil] at hq
  refine po14 hr hb hp hm hk (st.env ?_ ?_) (by omega) hq<;>((simp (disch:=first|exact bk rfl|omega|(simp only [ln];omega)|(simp only [go_sem];done)|decide) only [go_sem,Nat.reduceAdd,Nat.reduceMul,Nat.reduceEqDiff,Nat.reduceLT,Nat.reduceLeDiff,reduceIte]<;>first|rfl|omega))
 ·have e2:((0:Int)<(r.list.length:Int))=True:=by
   have:=List.length_pos_iff.2 hl
   simp;omega
  simp (disch:=first|exact bk rfl|omega|(simp only [ln];omega)|(simp only [go_sem];done)|decide) only [go_sem,Nat.reduceAdd,Nat.reduceMul,Nat.reduceEqDiff,Nat.reduceLT,Nat.reduceLeDiff,reduceIte,h14_9,g1,g4,h0,eReply,len_sl hr.l un42,e2]
  have hL:=linS_len hr.lr
  refine lineD st hr.l hr.lr (by decide) (by simp only [List.length_cons,List.length_nil];omega) fun H' st'=> ?_
  simp (disch:=first|exact bk rfl|omega|(simp only [ln];omega)|(simp only [go_sem];done)|decide) only [go_sem,Nat.reduceAdd,Nat.reduceMul,Nat.reduceEqDiff,Nat.reduceLT,Nat.reduceLeDiff,reduceIte]
  rw [show pLi r=[108,105,115,116]++linS r.list++[10] from if_neg hl] at hq
  refine po14 hr hb hp hm hk (st'.env ?_ ?_) (by simp only [List.length_append,List.length_cons,List.length_nil];omega) (by simpa using hq)<;>((simp (disch:=first|exact bk rfl|omega|(simp only [ln];omega)|(simp only [go_sem];done)|decide) only [go_sem,Nat.reduceAdd,Nat.reduceMul,Nat.reduceEqDiff,Nat.reduceLT,Nat.reduceLeDiff,reduceIte]<;>first|rfl|omega))
theorem pe14 {r:Reply} (hr:ReplyOK r) (hb:Brief r) (hp:∀p∈r.postings,postB p=true) (hm:∀x∈r.readings,x.times.length=x.reads.length) {t:E2} {H:Hp} {s:Str} {Q:D→Prop} {kk:AEx→En→Hp→Bool} (hk:∀t H,kk .ret ⟨t,[]⟩ H=endQ Q (.ret (.tup [E2.get t 2,E2.get t 3])) H) (st:St r t H s) (hs:s.length≤5000)
  (hq:Q (.tup [.str (s++pPe r++pLi r++pPo r.postings++pRd r.readings++pPf r.proofs), .int .i64 0])):cd P (G K) 193 147 (subC 14 [1,1,1,1,1,1,1]) none ⟨t,[]⟩ H kk=true:=by
 have g1:=st.g1
 have g4:=st.g4
 have h0:=st.h0
 by_cases hl:r.pence=0
 ·have e2:(r.pence=0)=True:=eq_true hl
  simp (disch:=first|exact bk rfl|omega|(simp only [ln];omega)|(simp only [go_sem];done)|decide) only [go_sem,Nat.reduceAdd,Nat.reduceMul,Nat.reduceEqDiff,Nat.reduceLT,Nat.reduceLeDiff,reduceIte,h14_8,g1,h0,eReply,e2]
  rw [show pPe r=[] from if_pos hl,List.append_nil] at hq
  refine li14 hr hb hp hm hk (st.env ?_ ?_) (by omega) hq<;>((simp (disch:=first|exact bk rfl|omega|(simp only [ln];omega)|(simp only [go_sem];done)|decide) only [go_sem,Nat.reduceAdd,Nat.reduceMul,Nat.reduceEqDiff,Nat.reduceLT,Nat.reduceLeDiff,reduceIte]<;>first|rfl|omega))
 ·have e2:(r.pence=0)=False:=eq_false hl
  simp (disch:=first|exact bk rfl|omega|(simp only [ln];omega)|(simp only [go_sem];done)|decide) only [go_sem,Nat.reduceAdd,Nat.reduceMul,Nat.reduceEqDiff,Nat.reduceLT,Nat.reduceLeDiff,reduceIte,h14_8,g1,g4,h0,eReply,e2]
  have hR:∀y∈[r.pence],inR y:=fun y hy=>by simp only [List.mem_cons,List.not_mem_nil,or_false] at hy;subst hy;exact hr.e9
  have hL:=linS_len hR
  refine lineN (xs:=[r.pence]) st hR (by decide) (by simp only [List.length_cons,List.length_nil] at *;omega) fun H' st' _=> ?_
  simp (disch:=first|exact bk rfl|omega|(simp only [ln];omega)|(simp only [go_sem];done)|decide) only [go_sem,Nat.reduceAdd,Nat.reduceMul,Nat.reduceEqDiff,Nat.reduceLT,Nat.reduceLeDiff,reduceIte]
  rw [show pPe r=[112,101,110,99,101]++linS [r.pence]++[10] from if_neg hl] at hq
  refine li14 hr hb hp hm hk (st'.env ?_ ?_) (by simp only [List.length_append,List.length_cons,List.length_nil] at *;omega) (by simpa using hq)<;>((simp (disch:=first|exact bk rfl|omega|(simp only [ln];omega)|(simp only [go_sem];done)|decide) only [go_sem,Nat.reduceAdd,Nat.reduceMul,Nat.reduceEqDiff,Nat.reduceLT,Nat.reduceLeDiff,reduceIte]<;>first|rfl|omega))
theorem sp14 {r:Reply} (hr:ReplyOK r) (hb:Brief r) (hp:∀p∈r.postings,postB p=true) (hm:∀x∈r.readings,x.times.length=x.reads.length) {t:E2} {H:Hp} {s:Str} {Q:D→Prop} {kk:AEx→En→Hp→Bool} (hk:∀t H,kk .ret ⟨t,[]⟩ H=endQ Q (.ret (.tup [E2.get t 2,E2.get t 3])) H) (st:St r t H s) (hs:s.length≤2000)
  (hq:Q (.tup [.str (s++pSp r++pPe r++pLi r++pPo r.postings++pRd r.readings++pPf r.proofs), .int .i64 0])):cd P (G K) 194 147 (subC 14 [1,1,1,1,1,1]) none ⟨t,[]⟩ H kk=true:=by
 have g1:=st.g1
 have g4:=st.g4
 have h0:=st.h0
 by_cases hl:r.lo=0∧r.hi=0
 ·have e2:(r.lo=0∧r.hi=0)=True:=eq_true hl
  simp (disch:=first|exact bk rfl|omega|(simp only [ln];omega)|(simp only [go_sem];done)|decide) only [go_sem,Nat.reduceAdd,Nat.reduceMul,Nat.reduceEqDiff,Nat.reduceLT,Nat.reduceLeDiff,reduceIte,h14_5,g1,h0,eReply,bk23,neq23,eq2_0,e2]
  rw [show pSp r=[] from if_pos hl,List.append_nil] at hq
  refine pe14 hr hb hp hm hk (st.env ?_ ?_) (by omega) hq<;>((simp (disch:=first|exact bk rfl|omega|(simp only [ln];omega)|(simp only [go_sem];done)|decide) only [go_sem,Nat.reduceAdd,Nat.reduceMul,Nat.reduceEqDiff,Nat.reduceLT,Nat.reduceLeDiff,reduceIte]<;>first|rfl|omega))
 ·have e2:(r.lo=0∧r.hi=0)=False:=eq_false hl
  simp (disch:=first|exact bk rfl|omega|(simp only [ln];omega)|(simp only [go_sem];done)|decide) only [go_sem,Nat.reduceAdd,Nat.reduceMul,Nat.reduceEqDiff,Nat.reduceLT,Nat.reduceLeDiff,reduceIte,h14_5,g1,g4,h0,eReply,bk23,neq23,eq2_0,e2]
  have l1:=spS_len hr.e7 hr.e8
  refine cl_eq (hG K) [.agg [.int .i64 r.lo, .int .i64 r.hi]] (span28_c hr.e7 hr.e8) rfl ?_
  simp (disch:=first|exact bk rfl|omega|(simp only [ln];omega)|(simp only [go_sem];done)|decide) only [go_sem,Nat.reduceAdd,Nat.reduceMul,Nat.reduceEqDiff,Nat.reduceLT,Nat.reduceLeDiff,reduceIte,g4]
  refine lineD (xs:=[]) (d:= .nils) st (.inl ⟨rfl,rfl⟩) (fun y hy=>by cases hy) byteSp (by simp only [List.length_append,List.length_cons,List.length_nil];omega) fun H' st'=> ?_
  simp (disch:=first|exact bk rfl|omega|(simp only [ln];omega)|(simp only [go_sem];done)|decide) only [go_sem,Nat.reduceAdd,Nat.reduceMul,Nat.reduceEqDiff,Nat.reduceLT,Nat.reduceLeDiff,reduceIte]
  rw [show pSp r=[115,112,97,110,32]++spS r.lo r.hi++[10] from if_neg hl] at hq
  refine pe14 (s:=s++([115,112,97,110,32]++spS r.lo r.hi)++linS []++[10]) hr hb hp hm hk (st'.env ?_ ?_) (by simp only [linS,List.map_nil,List.flatten_nil,List.length_append,List.length_cons,List.length_nil] at *;omega) (by simpa [linS] using hq)<;>((simp (disch:=first|exact bk rfl|omega|(simp only [ln];omega)|(simp only [go_sem];done)|decide) only [go_sem,Nat.reduceAdd,Nat.reduceMul,Nat.reduceEqDiff,Nat.reduceLT,Nat.reduceLeDiff,reduceIte]<;>first|rfl|omega))
set_option maxHeartbeats 2000000 in
theorem ju14 {r:Reply} (hr:ReplyOK r) (hb:Brief r) (hp:∀p∈r.postings,postB p=true) (hm:∀x∈r.readings,x.times.length=x.reads.length) {t:E2} {H:Hp} {s:Str} {Q:D→Prop} {kk:AEx→En→Hp→Bool} (hk:∀t H,kk .ret ⟨t,[]⟩ H=endQ Q (.ret (.tup [E2.get t 2,E2.get t 3])) H) (st:St r t H s) (hs:s.length≤100)
  (hq:Q (.tup [.str (s++pJ r++pSp r++pPe r++pLi r++pPo r.postings++pRd r.readings++pPf r.proofs), .int .i64 0])):cd P (G K) 195 147 (subC 14 [1,1,1,1,1]) none ⟨t,[]⟩ H kk=true:=by
 have g1:=st.g1
 have g4:=st.g4
 have h0:=st.h0
 have hn:=st.bl.nx
 have z0:(0=H.nx)=False:=by simp;omega
 have hp1:=st.bl.push n01 (.cells (some 41) false [.int .i64 0, .int .i64 0, .int .i64 0, .int .i64 0, .int .i64 0, .int .i64 0])
 have hp2:=hp1.setX (c:=H.nx) (by simp;omega) (by simp) (some (.cells (some 41) false [.int .i64 r.j0, .int .i64 r.j1, .int .i64 r.j2, .int .i64 r.j3, .int .i64 r.j4, .int .i64 r.j5]))
 have hp3:=hp2.less (Y:=[0]) (by simp)
 have st2:St r t (((H.push (.cells (some 41) false [.int .i64 0, .int .i64 0, .int .i64 0, .int .i64 0, .int .i64 0, .int .i64 0])).setb H.nx (some (.cells (some 41) false [.int .i64 r.j0, .int .i64 r.j1, .int .i64 r.j2, .int .i64 r.j3, .int .i64 r.j4, .int .i64 r.j5])))) s:=⟨g1,g4,by simp (disch:=first|exact bk rfl|omega|(simp only [ln];omega)|(simp only [go_sem];done)|decide) only [go_sem,Nat.reduceAdd,Nat.reduceMul,Nat.reduceEqDiff,Nat.reduceLT,Nat.reduceLeDiff,reduceIte,h0,z0],hp3⟩
 by_cases hl:r.j0=0
 ·have e2:(r.j0=0)=True:=eq_true hl
  simp (disch:=first|exact bk rfl|omega|(simp only [ln];omega)|(simp only [go_sem];done)|decide) only [go_sem,Nat.reduceAdd,Nat.reduceMul,Nat.reduceEqDiff,Nat.reduceLT,Nat.reduceLeDiff,reduceIte,h14_0,g1,h0,eReply,e2]
  rw [show pJ r=[] from if_pos hl,List.append_nil] at hq
  refine sp14 hr hb hp hm hk (st2.env ?_ ?_) (by omega) hq<;>((simp (disch:=first|exact bk rfl|omega|(simp only [ln];omega)|(simp only [go_sem];done)|decide) only [go_sem,Nat.reduceAdd,Nat.reduceMul,Nat.reduceEqDiff,Nat.reduceLT,Nat.reduceLeDiff,reduceIte]<;>first|rfl|omega))
 ·have e2:(r.j0=0)=False:=eq_false hl
  simp (disch:=first|exact bk rfl|omega|(simp only [ln];omega)|(simp only [go_sem];done)|decide) only [go_sem,Nat.reduceAdd,Nat.reduceMul,Nat.reduceEqDiff,Nat.reduceLT,Nat.reduceLeDiff,reduceIte,h14_0,g1,g4,h0,eReply,e2]
  have hR:∀y∈[r.j0,r.j1,r.j2,r.j3,r.j4,r.j5],inR y:=fun y hy=>by
   simp only [List.mem_cons,List.not_mem_nil,or_false] at hy
   rcases hy with rfl | rfl | rfl | rfl | rfl | rfl
   ·exact hr.e1
   ·exact hr.e2
   ·exact hr.e3
   ·exact hr.e4
   ·exact hr.e5
   ·exact hr.e6
  have hL:=linS_len hR
  refine lineN (xs:=[r.j0,r.j1,r.j2,r.j3,r.j4,r.j5]) st2 hR (by decide) (by simp only [List.length_cons,List.length_nil] at *;omega) fun H' st' _=> ?_
  simp (disch:=first|exact bk rfl|omega|(simp only [ln];omega)|(simp only [go_sem];done)|decide) only [go_sem,Nat.reduceAdd,Nat.reduceMul,Nat.reduceEqDiff,Nat.reduceLT,Nat.reduceLeDiff,reduceIte]
  rw [show pJ r=[106,117,100,103,101,100]++linS [r.j0,r.j1,r.j2,r.j3,r.j4,r.j5]++[10] from if_neg hl] at hq
  refine sp14 hr hb hp hm hk (st'.env ?_ ?_) (by simp only [List.length_append,List.length_cons,List.length_nil] at *;omega) (by simpa using hq)<;>((simp (disch:=first|exact bk rfl|omega|(simp only [ln];omega)|(simp only [go_sem];done)|decide) only [go_sem,Nat.reduceAdd,Nat.reduceMul,Nat.reduceEqDiff,Nat.reduceLT,Nat.reduceLeDiff,reduceIte]<;>first|rfl|omega))
def tellS (r:Reply):Str:=(if r.yes then [121,101,115,10] else [])++pJ r++pSp r++pPe r++pLi r++pPo r.postings++pRd r.readings++pPf r.proofs
def tlD (r:Reply):D:=if r.errno≠0 then .tup [.str ([101,114,114,111,114]++linS [r.errno]++[10]), .int .i64 0] else if telE r≠0 then .tup [.str [], .int .i64 (telE r)] else .tup [.str (tellS r), .int .i64 0]
theorem telE_0 {r:Reply} (h:telE r=0):(∀p∈r.postings,postB p=true)∧(∀x∈r.readings,x.times.length=x.reads.length):=by
 unfold telE at h
 cases h1:r.readings.all matchR with
 | false=>rw [h1] at h;cases h
 | true=>
  cases h2:r.postings.all postB with
  | false=>rw [h1,h2] at h;cases h
  | true=>exact⟨List.all_eq_true.1 h2,fun x hx=>by simpa [matchR] using List.all_eq_true.1 h1 x hx⟩
set_option maxHeartbeats 2000000 in
theorem tell14_c {r:Reply} (hr:ReplyOK r) (hb:Brief r):CQ P (G K) 14 [.agg (eReply r)] (·=tlD r):=by
 refine CQ.enter (hG K) ?_
 have hB:∀(t:E2),E2.get t 1= .ptr 0 0→E2.get t 4= .ptr 1 0→St r t ((Hp.empty.push (.cells (some 47) false (ofDs (eReply r)))).push (.cells (some 78) false [.nilp, .nils])) []:=fun t g1 g4=>
  ⟨g1,g4,by simp (disch:=first|exact bk rfl|omega|(simp only [ln];omega)|(simp only [go_sem];done)|decide) only [go_sem,Nat.reduceAdd,Nat.reduceMul,Nat.reduceEqDiff,Nat.reduceLT,Nat.reduceLeDiff,reduceIte],Bld.new (.inl rfl) (by simp (disch:=first|exact bk rfl|omega|(simp only [ln];omega)|(simp only [go_sem];done)|decide) only [go_sem,Nat.reduceAdd,Nat.reduceMul,Nat.reduceEqDiff,Nat.reduceLT,Nat.reduceLeDiff,reduceIte]) (by simp (disch:=first|exact bk rfl|omega|(simp only [ln];omega)|(simp only [go_sem];done)|decide) only [go_sem,Nat.reduceAdd,Nat.reduceMul,Nat.reduceEqDiff,Nat.reduceLT,Nat.reduceLeDiff,reduceIte]) (fun c hc=>by simp only [List.mem_cons,List.not_mem_nil,or_false] at hc;subst hc;simp (disch:=first|exact bk rfl|omega|(simp only [ln];omega)|(simp only [go_sem];done)|decide) only [go_sem,Nat.reduceAdd,Nat.reduceMul,Nat.reduceEqDiff,Nat.reduceLT,Nat.reduceLeDiff,reduceIte])⟩
 by_cases h1:r.errno=0
 rotate_left
 ·have e1:(r.errno=0)=False:=eq_false h1
  have hR:∀y∈[r.errno],inR y:=fun y hy=>by simp only [List.mem_cons,List.not_mem_nil,or_false] at hy;subst hy;exact hr.e0
  have hL:=linS_len hR
  have st:=hB (E2.set (E2.set E2.empty 1 (.ptr 0 0)) 4 (.ptr 1 0)) rfl rfl
  simp (disch:=first|exact bk rfl|omega|(simp only [ln];omega)|(simp only [go_sem];done)|decide) only [go_sem,Nat.reduceAdd,Nat.reduceMul,Nat.reduceEqDiff,Nat.reduceLT,Nat.reduceLeDiff,reduceIte,eReply,h14,r14,e1]
  refine lineN (xs:=[r.errno]) st hR (by decide) (by simp) fun H' st' _=> ?_
  simp (disch:=first|exact bk rfl|omega|(simp only [ln];omega)|(simp only [go_sem];done)|decide) only [go_sem,Nat.reduceAdd,Nat.reduceMul,Nat.reduceEqDiff,Nat.reduceLT,Nat.reduceLeDiff,reduceIte]
  refine str43 st'.bl (by simp only [List.length_append,List.length_cons,List.length_nil] at *;omega) fun H2=> ?_
  simp (disch:=first|exact bk rfl|omega|(simp only [ln];omega)|(simp only [go_sem];done)|decide) only [go_sem,Nat.reduceAdd,Nat.reduceMul,Nat.reduceEqDiff,Nat.reduceLT,Nat.reduceLeDiff,reduceIte,r14]
  exact endQ_fro (.tup [.str _, .int .i64 0]) (by rw [tlD,if_pos h1];rfl)
 have e1:(r.errno=0)=True:=eq_true h1
 by_cases h2:telE r=0
 rotate_left
 ·have e2:(telE r=0)=False:=eq_false h2
  simp (disch:=first|exact bk rfl|omega|(simp only [ln];omega)|(simp only [go_sem];done)|decide) only [go_sem,Nat.reduceAdd,Nat.reduceMul,Nat.reduceEqDiff,Nat.reduceLT,Nat.reduceLeDiff,reduceIte,eReply,h14,r14,e1]
  refine cl_eq (hG K) [.agg (eReply r)] (tellable44_c hr hb) rfl ?_
  simp (disch:=first|exact bk rfl|omega|(simp only [ln];omega)|(simp only [go_sem];done)|decide) only [go_sem,Nat.reduceAdd,Nat.reduceMul,Nat.reduceEqDiff,Nat.reduceLT,Nat.reduceLeDiff,reduceIte,r14,e2]
  exact endQ_fro (.tup [.str [], .int .i64 (telE r)]) (by rw [tlD,if_neg (by simpa using h1),if_pos h2])
 have e2:(telE r=0)=True:=eq_true h2
 obtain⟨hp,hm⟩:=telE_0 h2
 have hD:tlD r= .tup [.str (tellS r), .int .i64 0]:=by rw [tlD,if_neg (by simpa using h1),if_neg (by simpa using h2)]
 simp (disch:=first|exact bk rfl|omega|(simp only [ln];omega)|(simp only [go_sem];done)|decide) only [go_sem,Nat.reduceAdd,Nat.reduceMul,Nat.reduceEqDiff,Nat.reduceLT,Nat.reduceLeDiff,reduceIte,eReply,h14,r14,e1]
 refine cl_eq (hG K) [.agg (eReply r)] (tellable44_c hr hb) rfl ?_
 rcases Bool.eq_false_or_eq_true r.yes with hy | hy
 rotate_left
 ·
  have hyc:∀(a b:Unit→Bool),condV (.bool r.yes) a b=b ():=fun a b=>by rw [hy];rfl
  simp (disch:=first|exact bk rfl|omega|(simp only [ln];omega)|(simp only [go_sem];done)|decide) only [go_sem,Nat.reduceAdd,Nat.reduceMul,Nat.reduceEqDiff,Nat.reduceLT,Nat.reduceLeDiff,reduceIte,r14,e2,hyc]
  refine ju14 (s:=[]) (Q:=(·=tlD r)) hr hb hp hm (fun t H=>by simp (disch:=first|exact bk rfl|omega|(simp only [ln];omega)|(simp only [go_sem];done)|decide) only [go_sem,Nat.reduceAdd,Nat.reduceMul,Nat.reduceEqDiff,Nat.reduceLT,Nat.reduceLeDiff,reduceIte,r14]) ((hB _ ?_ ?_)) (by simp) ?_
  ·(simp (disch:=first|exact bk rfl|omega|(simp only [ln];omega)|(simp only [go_sem];done)|decide) only [go_sem,Nat.reduceAdd,Nat.reduceMul,Nat.reduceEqDiff,Nat.reduceLT,Nat.reduceLeDiff,reduceIte]<;>first|rfl|omega)
  ·(simp (disch:=first|exact bk rfl|omega|(simp only [ln];omega)|(simp only [go_sem];done)|decide) only [go_sem,Nat.reduceAdd,Nat.reduceMul,Nat.reduceEqDiff,Nat.reduceLT,Nat.reduceLeDiff,reduceIte]<;>first|rfl|omega)
  ·rw [hD,tellS,hy];rfl
 ·
  have hyc:∀(a b:Unit→Bool),condV (.bool r.yes) a b=a ():=fun a b=>by rw [hy];rfl
  simp (disch:=first|exact bk rfl|omega|(simp only [ln];omega)|(simp only [go_sem];done)|decide) only [go_sem,Nat.reduceAdd,Nat.reduceMul,Nat.reduceEqDiff,Nat.reduceLT,Nat.reduceLeDiff,reduceIte,r14,e2,hyc]
  have st:=hB (E2.set (E2.set E2.empty 1 (.ptr 0 0)) 4 (.ptr 1 0)) rfl rfl
  refine lineD (xs:=[]) (d:= .nils) st (.inl ⟨rfl,rfl⟩) (fun y hy=>by cases hy) (by decide) (by simp) fun H' st'=> ?_
  simp (disch:=first|exact bk rfl|omega|(simp only [ln];omega)|(simp only [go_sem];done)|decide) only [go_sem,Nat.reduceAdd,Nat.reduceMul,Nat.reduceEqDiff,Nat.reduceLT,Nat.reduceLeDiff,reduceIte]
  refine ju14 (Q:=(·=tlD r)) hr hb hp hm (fun t H=>by simp (disch:=first|exact bk rfl|omega|(simp only [ln];omega)|(simp only [go_sem];done)|decide) only [go_sem,Nat.reduceAdd,Nat.reduceMul,Nat.reduceEqDiff,Nat.reduceLT,Nat.reduceLeDiff,reduceIte,r14]) (st'.env ?_ ?_) (by simp [linS]) ?_
  ·(simp (disch:=first|exact bk rfl|omega|(simp only [ln];omega)|(simp only [go_sem];done)|decide) only [go_sem,Nat.reduceAdd,Nat.reduceMul,Nat.reduceEqDiff,Nat.reduceLT,Nat.reduceLeDiff,reduceIte]<;>first|rfl|omega)
  ·(simp (disch:=first|exact bk rfl|omega|(simp only [ln];omega)|(simp only [go_sem];done)|decide) only [go_sem,Nat.reduceAdd,Nat.reduceMul,Nat.reduceEqDiff,Nat.reduceLT,Nat.reduceLeDiff,reduceIte]<;>first|rfl|omega)
  ·rw [hD,tellS,hy];rfl
end Go.S9
namespace Go.S9
open Go.Ev Go.Proofs
set_option maxRecDepth 100000
set_option linter.unusedVariables false
set_option linter.unusedSimpArgs false
variable {K : Int} {H : Hp} {k : AV → Bool}
theorem rows_one {α:Type} {sz:Nat} {enc:α→List D} (hs:∀x,(enc x).length=sz) {xs:List α} {n:Nat} (h:n<xs.length):((rows enc xs).drop (n * sz)).take (1 * sz)=rows enc [xs[n]]:=by
 have h1:xs=xs.take n++(xs[n]::xs.drop (n+1)):=by rw [←drop_at h,List.take_append_drop]
 have h2:(rows enc (xs.take n)).length=n * sz:=by rw [rows_length hs,List.length_take];congr 1;omega
 have h3:rows enc xs=rows enc (xs.take n)++(rows enc [xs[n]]++rows enc (xs.drop (n+1))):=by
  conv=>lhs;rw [h1]
  rw [rows_app]
  congr 1
  rw [←rows_app];rfl
 have h4:(rows enc [xs[n]]).length=1 * sz:=by rw [rows_length hs];rfl
 rw [h3,←h2,List.drop_left,←h4,List.take_left]
theorem slice_one {xs:List Posting} {d:D} (hs:Sl 5 ePost xs d) {n:Nat} (hn:n<xs.length) (k:AV→Bool):sliceAtK P H 43 (ofD d) (some (.int .i64 (n:Int))) (some (.int .i64 ((n+1:Nat):Int))) none k=k (ofD (.sl 5 (rows ePost [xs[n]]) 1)):=by
 rw [hs.pos hn]
 show sliceAtK P H 43 (.dat (.sl 5 (rows ePost xs) xs.length)) (some (.int .i64 (.ofNat n))) (some (.int .i64 (.ofNat (n+1)))) none k=_
 unfold sliceAtK
 simp only [el43,optNat,natOf]
 rw [ce83,Nat.beq_refl,show Nat.ble n (n+1)=true from by simp,show Nat.ble (n+1) xs.length=true from Nat.ble_eq_true_of_le hn]
 dsimp only
 rw [forceN_eq,show n+1 - n=1 from by omega,rows_one ePost_len hn]
 rfl
def I48 (p:Posting) (d:D) (m:Nat) (e:En) (H:Hp):Prop:=e.dm=[]∧E2.get e.t 0=ofD d∧((m=1∧E2.get e.t 4= .int .i64 0∧E2.get e.t 3= .str [])∨(m=0∧E2.get e.t 4= .int .i64 1∧E2.get e.t 3= .str (lineS p)))
theorem print48_c {p:Posting} {d:D} (hs:Sl 5 ePost [p] d) (hp:postB p=true):CQ P (G K) 48 [d] (·= .str (lineS p)):=by
 have hll:=lineS_len hp
 refine CQ.enter (hG K) ?_
 simp (disch:=first|exact bk rfl|omega|(simp only [ln];omega)|(simp only [go_sem];done)|decide) only [go_sem,Nat.reduceAdd,Nat.reduceMul,Nat.reduceEqDiff,Nat.reduceLT,Nat.reduceLeDiff,reduceIte,h48,r48]
 refine loop_rule (I48 p d) (fun m e H hi=> ?_) (m:=1) ?_
 rotate_left
 ·refine⟨rfl, ?_, .inl ⟨rfl, ?_, ?_⟩⟩<;>((simp (disch:=first|exact bk rfl|omega|(simp only [ln];omega)|(simp only [go_sem];done)|decide) only [go_sem,Nat.reduceAdd,Nat.reduceMul,Nat.reduceEqDiff,Nat.reduceLT,Nat.reduceLeDiff,reduceIte]<;>first|rfl|omega))
 obtain⟨hdm,g0,hi⟩:=hi
 obtain⟨t,dm⟩:=e
 dsimp only at hdm g0 hi
 subst hdm
 refine semC_run 200 ?_
 rw [h48_1]
 rcases hi with⟨rfl,g4,g3⟩| ⟨rfl,g4,g3⟩
 ·have e1:((0:Int)<1)=True:=by simp
  have htk:takeN 5 ((ofDs (rows ePost [p])).drop 0)=some (ofDs (ePost p)):=rows_take (xs:=[p]) (n:=0) ePost_len (by simp)
  rw [List.drop_zero] at htk
  simp (disch:=first|exact bk rfl|omega|(simp only [ln];omega)|(simp only [go_sem];done)|decide) only [go_sem,Nat.reduceAdd,Nat.reduceMul,Nat.reduceEqDiff,Nat.reduceLT,Nat.reduceLeDiff,reduceIte,g0,g4,g3,e1,len1_43 hs,idx1_43 hs,htk]
  refine cl_eq (hG K) [.agg (ePost p)] (line82_c hp) rfl ?_
  simp (disch:=first|exact bk rfl|omega|(simp only [ln];omega)|(simp only [go_sem];done)|decide) only [go_sem,Nat.reduceAdd,Nat.reduceMul,Nat.reduceEqDiff,Nat.reduceLT,Nat.reduceLeDiff,reduceIte,g0,g4,g3,List.nil_append,List.length_nil]
  refine again_mk (m':=0) (by omega) ⟨rfl, ?_, .inr ⟨rfl, ?_, ?_⟩⟩<;>((simp (disch:=first|exact bk rfl|omega|(simp only [ln];omega)|(simp only [go_sem];done)|decide) only [go_sem,Nat.reduceAdd,Nat.reduceMul,Nat.reduceEqDiff,Nat.reduceLT,Nat.reduceLeDiff,reduceIte,g0,g4,g3]<;>first|rfl|omega))
 ·have e1:((1:Int)<1)=False:=by simp
  simp (disch:=first|exact bk rfl|omega|(simp only [ln];omega)|(simp only [go_sem];done)|decide) only [go_sem,Nat.reduceAdd,Nat.reduceMul,Nat.reduceEqDiff,Nat.reduceLT,Nat.reduceLeDiff,reduceIte,g0,g4,g3,e1,len1_43 hs,h48_0,r48]
  exact endQ_fro (.str (lineS p)) rfl
structure Sr (r:Reply) (t:E2) (H:Hp) (s:Str):Prop where
 g1:E2.get t 1= .ptr 0 0
 g5:E2.get t 5= .str s
 h0:H.get 0=some (.cells (some 47) false (ofDs (eReply r)))
 nx:0<H.nx
theorem Sr.env {r:Reply} {t t':E2} {s:Str} (st:Sr r t H s) (h1:E2.get t' 1=E2.get t 1) (h5:E2.get t' 5=E2.get t 5):Sr r t' H s:=⟨by rw [h1,st.g1],by rw [h5,st.g5],st.h0,st.nx⟩
theorem castS (n:Nat):(n:Int)+1=((n+1:Nat):Int):=rfl
theorem fin15 {r:Reply} (hr:ReplyOK r) (hb:Brief r) (hp:∀p∈r.postings,postB p=true) (hm:∀x∈r.readings,x.times.length=x.reads.length) {t:E2} {H:Hp} {s:Str} {Q:D→Prop} {kk:AEx→En→Hp→Bool} (hk:∀t H,kk .ret ⟨t,[]⟩ H=endQ Q (.ret (.tup [E2.get t 2,E2.get t 3])) H) (st:Sr r t H s)
  (hq:Q (.tup [.str s, .int .i64 0])):cd P (G K) 186 200 (subC 15 [1,1,1,1,1,1,1,1,1,1,1,1,1,1]) none ⟨t,[]⟩ H kk=true:=by
 simp (disch:=first|exact bk rfl|omega|(simp only [ln];omega)|(simp only [go_sem];done)|decide) only [go_sem,Nat.reduceAdd,Nat.reduceMul,Nat.reduceEqDiff,Nat.reduceLT,Nat.reduceLeDiff,reduceIte,h15_16,st.g5,hk]
 exact endQ_fro (.tup [.str s, .int .i64 0]) hq
def I15f (r:Reply) (s:Str) (m:Nat) (e:En) (H:Hp):Prop:=∃n,n≤r.proofs.length∧m=r.proofs.length - n∧e.dm=[]∧Sr r e.t H (s++pPf (r.proofs.take n))∧E2.get e.t 12= .int .i64 (n:Int)
theorem pf15 {r:Reply} (hr:ReplyOK r) (hb:Brief r) (hp:∀p∈r.postings,postB p=true) (hm:∀x∈r.readings,x.times.length=x.reads.length) {t:E2} {H:Hp} {s:Str} {Q:D→Prop} {kk:AEx→En→Hp→Bool} (hk:∀t H,kk .ret ⟨t,[]⟩ H=endQ Q (.ret (.tup [E2.get t 2,E2.get t 3])) H) (st:Sr r t H s) (hs:s.length≤100000)
  (hq:Q (.tup [.str (s++pPf r.proofs), .int .i64 0])):cd P (G K) 187 200 (subC 15 [1,1,1,1,1,1,1,1,1,1,1,1,1]) none ⟨t,[]⟩ H kk=true:=by
 have b1:=hb.f
 have hL:∀n,(pPf (r.proofs.take n)).length≤27 * 40:=fun n=>by
  have:=flat_len (f:=pfS) (xs:=r.proofs.take n) fun x hx=>pfS_len (hr.fo x (List.mem_of_mem_take hx))
  have h2:(r.proofs.take n).length≤40:=by rw [List.length_take];omega
  exact Nat.le_trans this (Nat.mul_le_mul_left _ h2)
 simp (disch:=first|exact bk rfl|omega|(simp only [ln];omega)|(simp only [go_sem];done)|decide) only [go_sem,Nat.reduceAdd,Nat.reduceMul,Nat.reduceEqDiff,Nat.reduceLT,Nat.reduceLeDiff,reduceIte,h15_15]
 refine loop_rule (I15f r s) (fun m e H hi=> ?_) (m:=r.proofs.length) ?_
 rotate_left
 ·refine⟨0,Nat.zero_le _,rfl,rfl,(Sr.env (s:=s++pPf (r.proofs.take 0)) (by simpa [pPf] using st) ?_ ?_), ?_⟩<;>((simp (disch:=first|exact bk rfl|omega|(simp only [ln];omega)|(simp only [go_sem];done)|decide) only [go_sem,Nat.reduceAdd,Nat.reduceMul,Nat.reduceEqDiff,Nat.reduceLT,Nat.reduceLeDiff,reduceIte]<;>first|rfl|omega))
 obtain⟨n,hn1,rfl,hdm,st,g12⟩:=hi
 obtain⟨t,dm⟩:=e
 dsimp only at hdm st g12
 subst hdm
 refine semC_run 200 ?_
 rw [h15_5]
 have g1:=st.g1
 have g5:=st.g5
 have h0:=st.h0
 by_cases hlt:n<r.proofs.length
 ·have e2:((n:Int)<(r.proofs.length:Int))=True:=by simp;omega
  have o1:=hr.fo _ (List.getElem_mem hlt)
  have o2:=o1.l
  have hLn:=hL n
  have r1:inR (r.proofs[n].raises.length:Int):=⟨by omega,by omega⟩
  have l1:=itS_len r1
  have hs1:(s++pPf (r.proofs.take n)).length≤101080:=by simp only [List.length_append];omega
  (try simp (disch:=first|exact bk rfl|omega|(simp only [ln];omega)|(simp only [go_sem];done)|decide) only [go_sem,Nat.reduceAdd,Nat.reduceMul,Nat.reduceEqDiff,Nat.reduceLT,Nat.reduceLeDiff,reduceIte,eReply,g1,g5,h0,g12,e2,len_sl hr.f un45,idx_sl hr.f un45 in91 ce91 hlt,rows_get0 eProof_len hlt (by decide:0<1),eProof,len_sl o1.s un91]);repeat' first|((with_reducible first|apply gJoin_split|apply cond_split|apply gJoinD_split)<;>intro h<;>(try simp only [spl] at h)<;>try simp (disch:=first|exact bk rfl|omega|(simp only [ln];omega)|(simp only [go_sem];done)|decide) only [go_sem,Nat.reduceAdd,Nat.reduceMul,Nat.reduceEqDiff,Nat.reduceLT,Nat.reduceLeDiff,reduceIte,eReply,g1,g5,h0,g12,e2,len_sl hr.f un45,idx_sl hr.f un45 in91 ce91 hlt,rows_get0 eProof_len hlt (by decide:0<1),eProof,len_sl o1.s un91,h])|((with_reducible refine cl_guard ?_;refine cl_eq (hG K) _ (number40_c r1) rfl ?_)<;>try simp (disch:=first|exact bk rfl|omega|(simp only [ln];omega)|(simp only [go_sem];done)|decide) only [go_sem,Nat.reduceAdd,Nat.reduceMul,Nat.reduceEqDiff,Nat.reduceLT,Nat.reduceLeDiff,reduceIte,eReply,g1,g5,h0,g12,e2,len_sl hr.f un45,idx_sl hr.f un45 in91 ce91 hlt,rows_get0 eProof_len hlt (by decide:0<1),eProof,len_sl o1.s un91])
  refine again_mk (m':=r.proofs.length - (n+1)) (by omega) ⟨n+1,hlt,rfl,rfl,⟨?_, ?_,h0,st.nx⟩, ?_⟩
  ·(simp (disch:=first|exact bk rfl|omega|(simp only [ln];omega)|(simp only [go_sem];done)|decide) only [go_sem,Nat.reduceAdd,Nat.reduceMul,Nat.reduceEqDiff,Nat.reduceLT,Nat.reduceLeDiff,reduceIte,g1]<;>first|rfl|omega)
  ·rw [show pPf (r.proofs.take (n+1))=pPf (r.proofs.take n)++pfS r.proofs[n] from flat_snoc hlt]
   simp (disch:=first|exact bk rfl|omega|(simp only [ln];omega)|(simp only [go_sem];done)|decide) only [go_sem,Nat.reduceAdd,Nat.reduceMul,Nat.reduceEqDiff,Nat.reduceLT,Nat.reduceLeDiff,reduceIte]
   simp [pfS,linS]
  ·(simp (disch:=first|exact bk rfl|omega|(simp only [ln];omega)|(simp only [go_sem];done)|decide) only [go_sem,Nat.reduceAdd,Nat.reduceMul,Nat.reduceEqDiff,Nat.reduceLT,Nat.reduceLeDiff,reduceIte]<;>first|rfl|omega)
 ·have e2:((n:Int)<(r.proofs.length:Int))=False:=by simp;omega
  simp (disch:=first|exact bk rfl|omega|(simp only [ln];omega)|(simp only [go_sem];done)|decide) only [go_sem,Nat.reduceAdd,Nat.reduceMul,Nat.reduceEqDiff,Nat.reduceLT,Nat.reduceLeDiff,reduceIte,eReply,g1,h0,g12,e2,len_sl hr.f un45]
  rw [List.take_of_length_le (by omega:r.proofs.length≤n)] at st
  refine fin15 hr hb hp hm hk (st.env ?_ ?_) hq<;>((simp (disch:=first|exact bk rfl|omega|(simp only [ln];omega)|(simp only [go_sem];done)|decide) only [go_sem,Nat.reduceAdd,Nat.reduceMul,Nat.reduceEqDiff,Nat.reduceLT,Nat.reduceLeDiff,reduceIte]<;>first|rfl|omega))
end Go.S9
namespace Go.S9
open Go.Ev Go.Proofs
set_option maxRecDepth 100000
set_option linter.unusedVariables false
set_option linter.unusedSimpArgs false
variable {K : Int} {H : Hp} {k : AV → Bool}
theorem getR {xs:List Read} {n:Nat} (h:n<xs.length):(ofDs (rows eRead xs))[n * 2]? =some (.int .i64 xs[n].mark):=by rw [rows_get0 eRead_len h (by decide)];rfl
theorem getR' {xs:List Read} {n:Nat} (h:n<xs.length):(ofDs (rows eRead xs))[n * 2+1]? =some (.int .i64 xs[n].station):=by rw [rows_get eRead_len xs n 1 h (by decide)];rfl
theorem getI {xs:List Int} {n:Nat} (h:n<xs.length):(ofDs (rows eInt xs))[n * 1]? =some (.int .i64 xs[n]):=by rw [rows_get0 eInt_len h (by decide)];rfl
def I15i (r:Reply) (x:Reading) (b:Nat) (s:Str) (t0:E2) (m:Nat) (e:En) (H:Hp):Prop:=∃n,n≤x.reads.length∧m=x.reads.length - n∧e.dm=[]∧Sr r e.t H (s++rdS (x.reads.take n) (x.times.take n))∧H.get b=some (.cells (some 72) false [ofD x.dr,ofD x.dt])∧E2.get e.t 10= .ptr b 0∧E2.get e.t 11= .int .i64 (n:Int)∧E2.get e.t 9=E2.get t0 9
set_option maxHeartbeats 2000000 in
theorem inner15 {r:Reply} {x:Reading} (hx:RdOK x) (hl:x.reads.length≤40) (hm:x.times.length=x.reads.length) {t t0:E2} {H:Hp} {s:Str} {b:Nat} {kk:AEx→En→Hp→Bool} (hs:s.length≤200000)
  (h0:I15i r x b s t0 x.reads.length ⟨t,[]⟩ H)
  (hk:∀t' H',Sr r t' H' (s++rdS x.reads x.times)→E2.get t' 9=E2.get t0 9→kk (.exit 6) ⟨t',[]⟩ H'=true):
  semC P (G K) 200 (.loop (subC 15 [1,1,1,1,1,1,1,1,1,1,1,1,0,1,0,0,1,0,0,1,1,0,1,0])) none ⟨t,[]⟩ H kk=true:=by
 refine loop_rule (I15i r x b s t0) (fun m e H hi=> ?_) (m:=x.reads.length) h0
 obtain⟨n,hn1,rfl,hdm,st,hg,g10,g11,g9⟩:=hi
 obtain⟨t,dm⟩:=e
 dsimp only at hdm st g10 g11 g9
 subst hdm
 refine semC_run 200 ?_
 rw [h15_4]
 have g5:=st.g5
 by_cases hlt:n<x.reads.length
 ·have hlt':n<x.times.length:=by omega
  have e2:((n:Int)<(x.reads.length:Int))=True:=by simp;omega
  have r1:=hx.rr _ (List.getElem_mem hlt)
  have r3:=hx.tr _ (List.getElem_mem hlt')
  have l1:=itS_len r1.1
  have l2:=itS_len r1.2
  have l3:=itS_len r3
  have hR:(rdS (x.reads.take n) (x.times.take n)).length≤63 * 40:=by
   have:=rdS_len (as_:=x.reads.take n) (ts:=x.times.take n) (fun y hy=>hx.rr y (List.mem_of_mem_take hy)) (fun y hy=>hx.tr y (List.mem_of_mem_take hy))
   have h2:(x.reads.take n).length≤40:=by rw [List.length_take];omega
   exact Nat.le_trans this (Nat.mul_le_mul_left _ h2)
  have hR2:(s++rdS (x.reads.take n) (x.times.take n)).length≤202520:=by simp only [List.length_append];omega
  have f1:=avs_of hx.r
  have f2:=avs_of hx.t
  (try simp (disch:=first|exact bk rfl|omega|(simp only [ln];omega)|(simp only [go_sem];done)|decide) only [go_sem,Nat.reduceAdd,Nat.reduceMul,Nat.reduceEqDiff,Nat.reduceLT,Nat.reduceLeDiff,reduceIte,g5,g10,g11,e2,hg,len_sl hx.r un70,idx_sl hx.r un70 in90 ce90 hlt,getR hlt,getR' hlt,idx_sl hx.t un42 in3 ce3 hlt',getI hlt',f1,f2]);repeat' first|((with_reducible first|apply gJoin_split|apply cond_split|apply gJoinD_split)<;>intro h<;>(try simp only [spl] at h)<;>try simp (disch:=first|exact bk rfl|omega|(simp only [ln];omega)|(simp only [go_sem];done)|decide) only [go_sem,Nat.reduceAdd,Nat.reduceMul,Nat.reduceEqDiff,Nat.reduceLT,Nat.reduceLeDiff,reduceIte,g5,g10,g11,e2,hg,len_sl hx.r un70,idx_sl hx.r un70 in90 ce90 hlt,getR hlt,getR' hlt,idx_sl hx.t un42 in3 ce3 hlt',getI hlt',f1,f2,h])|((with_reducible refine cl_guard ?_;first|refine cl_eq (hG K) _ (number40_c r1.1) rfl ?_|refine cl_eq (hG K) _ (number40_c r1.2) rfl ?_|refine cl_eq (hG K) _ (number40_c r3) rfl ?_)<;>try simp (disch:=first|exact bk rfl|omega|(simp only [ln];omega)|(simp only [go_sem];done)|decide) only [go_sem,Nat.reduceAdd,Nat.reduceMul,Nat.reduceEqDiff,Nat.reduceLT,Nat.reduceLeDiff,reduceIte,g5,g10,g11,e2,hg,len_sl hx.r un70,idx_sl hx.r un70 in90 ce90 hlt,getR hlt,getR' hlt,idx_sl hx.t un42 in3 ce3 hlt',getI hlt',f1,f2])
  refine again_mk (m':=x.reads.length - (n+1)) (by omega) ⟨n+1,hlt,rfl,rfl,⟨?_, ?_,st.h0,st.nx⟩,hg, ?_, ?_, ?_⟩
  ·(simp (disch:=first|exact bk rfl|omega|(simp only [ln];omega)|(simp only [go_sem];done)|decide) only [go_sem,Nat.reduceAdd,Nat.reduceMul,Nat.reduceEqDiff,Nat.reduceLT,Nat.reduceLeDiff,reduceIte,st.g1]<;>first|rfl|omega)
  ·rw [rdS_snoc hlt hlt']
   simp (disch:=first|exact bk rfl|omega|(simp only [ln];omega)|(simp only [go_sem];done)|decide) only [go_sem,Nat.reduceAdd,Nat.reduceMul,Nat.reduceEqDiff,Nat.reduceLT,Nat.reduceLeDiff,reduceIte]
   simp [rdI]
  ·(simp (disch:=first|exact bk rfl|omega|(simp only [ln];omega)|(simp only [go_sem];done)|decide) only [go_sem,Nat.reduceAdd,Nat.reduceMul,Nat.reduceEqDiff,Nat.reduceLT,Nat.reduceLeDiff,reduceIte,g10]<;>first|rfl|omega)
  ·(simp (disch:=first|exact bk rfl|omega|(simp only [ln];omega)|(simp only [go_sem];done)|decide) only [go_sem,Nat.reduceAdd,Nat.reduceMul,Nat.reduceEqDiff,Nat.reduceLT,Nat.reduceLeDiff,reduceIte]<;>first|rfl|omega)
  ·(simp (disch:=first|exact bk rfl|omega|(simp only [ln];omega)|(simp only [go_sem];done)|decide) only [go_sem,Nat.reduceAdd,Nat.reduceMul,Nat.reduceEqDiff,Nat.reduceLT,Nat.reduceLeDiff,reduceIte,g9]<;>first|rfl|omega)
 ·have e2:((n:Int)<(x.reads.length:Int))=False:=by simp;omega
  simp (disch:=first|exact bk rfl|omega|(simp only [ln];omega)|(simp only [go_sem];done)|decide) only [go_sem,Nat.reduceAdd,Nat.reduceMul,Nat.reduceEqDiff,Nat.reduceLT,Nat.reduceLeDiff,reduceIte,g10,g11,hg,e2,len_sl hx.r un70]
  rw [List.take_of_length_le (by omega:x.reads.length≤n),List.take_of_length_le (by omega:x.times.length≤n)] at st
  refine hk _ _ (st.env ?_ ?_) ?_<;>((simp (disch:=first|exact bk rfl|omega|(simp only [ln];omega)|(simp only [go_sem];done)|decide) only [go_sem,Nat.reduceAdd,Nat.reduceMul,Nat.reduceEqDiff,Nat.reduceLT,Nat.reduceLeDiff,reduceIte,g9]<;>first|rfl|omega))
def I15r (r:Reply) (s:Str) (m:Nat) (e:En) (H:Hp):Prop:=∃n,n≤r.readings.length∧m=r.readings.length - n∧e.dm=[]∧Sr r e.t H (s++pRd (r.readings.take n))∧E2.get e.t 9= .int .i64 (n:Int)
set_option maxHeartbeats 2000000 in
theorem rd15 {r:Reply} (hr:ReplyOK r) (hb:Brief r) (hp:∀p∈r.postings,postB p=true) (hm:∀x∈r.readings,x.times.length=x.reads.length) {t:E2} {H:Hp} {s:Str} {Q:D→Prop} {kk:AEx→En→Hp→Bool} (hk:∀t H,kk .ret ⟨t,[]⟩ H=endQ Q (.ret (.tup [E2.get t 2,E2.get t 3])) H) (st:Sr r t H s) (hs:s.length≤50000)
  (hq:Q (.tup [.str (s++pRd r.readings++pPf r.proofs), .int .i64 0])):cd P (G K) 188 200 (subC 15 [1,1,1,1,1,1,1,1,1,1,1,1]) none ⟨t,[]⟩ H kk=true:=by
 have b1:=hb.g
 have hL:∀n,(pRd (r.readings.take n)).length≤2528 * 4:=fun n=>by
  have:=flat_len (f:=rgS) (xs:=r.readings.take n) fun x hx=>rgS_len (hr.go x (List.mem_of_mem_take hx)) (hb.s x (List.mem_of_mem_take hx)).1
  have h2:(r.readings.take n).length≤4:=by rw [List.length_take];omega
  exact Nat.le_trans this (Nat.mul_le_mul_left _ h2)
 simp (disch:=first|exact bk rfl|omega|(simp only [ln];omega)|(simp only [go_sem];done)|decide) only [go_sem,Nat.reduceAdd,Nat.reduceMul,Nat.reduceEqDiff,Nat.reduceLT,Nat.reduceLeDiff,reduceIte,h15_14]
 refine loop_rule (I15r r s) (fun m e H hi=> ?_) (m:=r.readings.length) ?_
 rotate_left
 ·refine⟨0,Nat.zero_le _,rfl,rfl,(Sr.env (s:=s++pRd (r.readings.take 0)) (by simpa [pRd] using st) ?_ ?_), ?_⟩<;>((simp (disch:=first|exact bk rfl|omega|(simp only [ln];omega)|(simp only [go_sem];done)|decide) only [go_sem,Nat.reduceAdd,Nat.reduceMul,Nat.reduceEqDiff,Nat.reduceLT,Nat.reduceLeDiff,reduceIte]<;>first|rfl|omega))
 obtain⟨n,hn1,rfl,hdm,st,g9⟩:=hi
 obtain⟨t,dm⟩:=e
 dsimp only at hdm st g9
 subst hdm
 refine semC_run 200 ?_
 rw [h15_3]
 have g1:=st.g1
 have g5:=st.g5
 have h0:=st.h0
 by_cases hlt:n<r.readings.length
 ·have e2:((n:Int)<(r.readings.length:Int))=True:=by simp;omega
  have o1:=hr.go _ (List.getElem_mem hlt)
  have o2:=(hb.s _ (List.getElem_mem hlt)).1
  have o3:=hm _ (List.getElem_mem hlt)
  have hLn:=hL n
  have hs1:(s++pRd (r.readings.take n)).length≤61000:=by simp only [List.length_append];omega
  simp (disch:=first|exact bk rfl|omega|(simp only [ln];omega)|(simp only [go_sem];done)|decide) only [go_sem,Nat.reduceAdd,Nat.reduceMul,Nat.reduceEqDiff,Nat.reduceLT,Nat.reduceLeDiff,reduceIte,eReply,g1,g5,h0,g9,e2,len_sl hr.g un44,idx_sl hr.g un44 in72 ce72 hlt,rows_take eReading_len hlt,eReading,one_of o1.r,one_of o1.t]
  have hn:=st.nx
  have z0:(0=H.nx)=False:=by simp;omega
  refine inner15 (r:=r) (t0:=t) (s:=s++pRd (r.readings.take n)++[114,101,97,100,105,110,103]) (b:=H.nx) o1 o2 o3 (by simp only [List.length_append,List.length_cons,List.length_nil] at *;omega) ⟨0,Nat.zero_le _,rfl,rfl,⟨?_, ?_, ?_, ?_⟩, ?_, ?_, ?_, ?_⟩ fun t' H' st' u9=> ?_
  ·(simp (disch:=first|exact bk rfl|omega|(simp only [ln];omega)|(simp only [go_sem];done)|decide) only [go_sem,Nat.reduceAdd,Nat.reduceMul,Nat.reduceEqDiff,Nat.reduceLT,Nat.reduceLeDiff,reduceIte,g1]<;>first|rfl|omega)
  ·simp (disch:=first|exact bk rfl|omega|(simp only [ln];omega)|(simp only [go_sem];done)|decide) only [go_sem,Nat.reduceAdd,Nat.reduceMul,Nat.reduceEqDiff,Nat.reduceLT,Nat.reduceLeDiff,reduceIte]
   simp [rdS]
  ·(simp (disch:=first|exact bk rfl|omega|(simp only [ln];omega)|(simp only [go_sem];done)|decide) only [go_sem,Nat.reduceAdd,Nat.reduceMul,Nat.reduceEqDiff,Nat.reduceLT,Nat.reduceLeDiff,reduceIte,h0,z0]<;>first|rfl|omega)
  ·(simp (disch:=first|exact bk rfl|omega|(simp only [ln];omega)|(simp only [go_sem];done)|decide) only [go_sem,Nat.reduceAdd,Nat.reduceMul,Nat.reduceEqDiff,Nat.reduceLT,Nat.reduceLeDiff,reduceIte]<;>first|rfl|omega)
  ·(simp (disch:=first|exact bk rfl|omega|(simp only [ln];omega)|(simp only [go_sem];done)|decide) only [go_sem,Nat.reduceAdd,Nat.reduceMul,Nat.reduceEqDiff,Nat.reduceLT,Nat.reduceLeDiff,reduceIte]<;>first|rfl|omega)
  ·(simp (disch:=first|exact bk rfl|omega|(simp only [ln];omega)|(simp only [go_sem];done)|decide) only [go_sem,Nat.reduceAdd,Nat.reduceMul,Nat.reduceEqDiff,Nat.reduceLT,Nat.reduceLeDiff,reduceIte]<;>first|rfl|omega)
  ·(simp (disch:=first|exact bk rfl|omega|(simp only [ln];omega)|(simp only [go_sem];done)|decide) only [go_sem,Nat.reduceAdd,Nat.reduceMul,Nat.reduceEqDiff,Nat.reduceLT,Nat.reduceLeDiff,reduceIte]<;>first|rfl|omega)
  ·(simp (disch:=first|exact bk rfl|omega|(simp only [ln];omega)|(simp only [go_sem];done)|decide) only [go_sem,Nat.reduceAdd,Nat.reduceMul,Nat.reduceEqDiff,Nat.reduceLT,Nat.reduceLeDiff,reduceIte]<;>first|rfl|omega)
  ·have lR:=rdS_len (as_:=r.readings[n].reads) (ts:=r.readings[n].times) o1.rr o1.tr
   have hs2:(s++pRd (r.readings.take n)++[114,101,97,100,105,110,103]++rdS r.readings[n].reads r.readings[n].times).length≤70000:=by simp only [List.length_append,List.length_cons,List.length_nil] at *;omega
   simp (disch:=first|exact bk rfl|omega|(simp only [ln];omega)|(simp only [go_sem];done)|decide) only [go_sem,Nat.reduceAdd,Nat.reduceMul,Nat.reduceEqDiff,Nat.reduceLT,Nat.reduceLeDiff,reduceIte,h15_10,h15_9,st'.g5,u9,g9]
   refine again_mk (m':=r.readings.length - (n+1)) (by omega) ⟨n+1,hlt,rfl,rfl,⟨?_, ?_,st'.h0,st'.nx⟩, ?_⟩
   ·(simp (disch:=first|exact bk rfl|omega|(simp only [ln];omega)|(simp only [go_sem];done)|decide) only [go_sem,Nat.reduceAdd,Nat.reduceMul,Nat.reduceEqDiff,Nat.reduceLT,Nat.reduceLeDiff,reduceIte,st'.g1]<;>first|rfl|omega)
   ·rw [show pRd (r.readings.take (n+1))=pRd (r.readings.take n)++rgS r.readings[n] from flat_snoc hlt]
    simp (disch:=first|exact bk rfl|omega|(simp only [ln];omega)|(simp only [go_sem];done)|decide) only [go_sem,Nat.reduceAdd,Nat.reduceMul,Nat.reduceEqDiff,Nat.reduceLT,Nat.reduceLeDiff,reduceIte]
    simp [rgS]
   ·(simp (disch:=first|exact bk rfl|omega|(simp only [ln];omega)|(simp only [go_sem];done)|decide) only [go_sem,Nat.reduceAdd,Nat.reduceMul,Nat.reduceEqDiff,Nat.reduceLT,Nat.reduceLeDiff,reduceIte,u9,g9]<;>first|rfl|omega)
 ·have e2:((n:Int)<(r.readings.length:Int))=False:=by simp;omega
  simp (disch:=first|exact bk rfl|omega|(simp only [ln];omega)|(simp only [go_sem];done)|decide) only [go_sem,Nat.reduceAdd,Nat.reduceMul,Nat.reduceEqDiff,Nat.reduceLT,Nat.reduceLeDiff,reduceIte,eReply,g1,h0,g9,e2,len_sl hr.g un44]
  rw [List.take_of_length_le (by omega:r.readings.length≤n)] at st
  refine pf15 hr hb hp hm hk (st.env ?_ ?_) (by have:=hL r.readings.length;rw [List.take_length] at this;simp only [List.length_append];omega) hq<;>((simp (disch:=first|exact bk rfl|omega|(simp only [ln];omega)|(simp only [go_sem];done)|decide) only [go_sem,Nat.reduceAdd,Nat.reduceMul,Nat.reduceEqDiff,Nat.reduceLT,Nat.reduceLeDiff,reduceIte]<;>first|rfl|omega))
def I15p (r:Reply) (s:Str) (m:Nat) (e:En) (H:Hp):Prop:=∃n,n≤r.postings.length∧m=r.postings.length - n∧e.dm=[]∧Sr r e.t H (s++pPo (r.postings.take n))∧E2.get e.t 8= .int .i64 (n:Int)
set_option maxHeartbeats 2000000 in
theorem po15 {r:Reply} (hr:ReplyOK r) (hb:Brief r) (hp:∀p∈r.postings,postB p=true) (hm:∀x∈r.readings,x.times.length=x.reads.length) {t:E2} {H:Hp} {s:Str} {Q:D→Prop} {kk:AEx→En→Hp→Bool} (hk:∀t H,kk .ret ⟨t,[]⟩ H=endQ Q (.ret (.tup [E2.get t 2,E2.get t 3])) H) (st:Sr r t H s) (hs:s.length≤20000)
  (hq:Q (.tup [.str (s++pPo r.postings++pRd r.readings++pPf r.proofs), .int .i64 0])):cd P (G K) 189 200 (subC 15 [1,1,1,1,1,1,1,1,1,1,1]) none ⟨t,[]⟩ H kk=true:=by
 have b1:=hb.p
 have hL:∀n,(pPo (r.postings.take n)).length≤113 * 100:=fun n=>by
  have:=flat_len (f:=poS) (xs:=r.postings.take n) fun x hx=>poS_len (hp x (List.mem_of_mem_take hx))
  have h2:(r.postings.take n).length≤100:=by rw [List.length_take];omega
  exact Nat.le_trans this (Nat.mul_le_mul_left _ h2)
 simp (disch:=first|exact bk rfl|omega|(simp only [ln];omega)|(simp only [go_sem];done)|decide) only [go_sem,Nat.reduceAdd,Nat.reduceMul,Nat.reduceEqDiff,Nat.reduceLT,Nat.reduceLeDiff,reduceIte,h15_13]
 refine loop_rule (I15p r s) (fun m e H hi=> ?_) (m:=r.postings.length) ?_
 rotate_left
 ·refine⟨0,Nat.zero_le _,rfl,rfl,(Sr.env (s:=s++pPo (r.postings.take 0)) (by simpa [pPo] using st) ?_ ?_), ?_⟩<;>((simp (disch:=first|exact bk rfl|omega|(simp only [ln];omega)|(simp only [go_sem];done)|decide) only [go_sem,Nat.reduceAdd,Nat.reduceMul,Nat.reduceEqDiff,Nat.reduceLT,Nat.reduceLeDiff,reduceIte]<;>first|rfl|omega))
 obtain⟨n,hn1,rfl,hdm,st,g8⟩:=hi
 obtain⟨t,dm⟩:=e
 dsimp only at hdm st g8
 subst hdm
 refine semC_run 200 ?_
 rw [h15_2]
 have g1:=st.g1
 have g5:=st.g5
 have h0:=st.h0
 by_cases hlt:n<r.postings.length
 ·have e2:((n:Int)<(r.postings.length:Int))=True:=by simp;omega
  have o1:=hp _ (List.getElem_mem hlt)
  have l1:=lineS_len o1
  have hLn:=hL n
  have hs1:(s++pPo (r.postings.take n)).length≤32000:=by simp only [List.length_append];omega
  have hsl:=fun k=>slice_one (H:=H) hr.p hlt k
  simp (disch:=first|exact bk rfl|omega|(simp only [ln];omega)|(simp only [go_sem];done)|decide) only [go_sem,Nat.reduceAdd,Nat.reduceMul,Nat.reduceEqDiff,Nat.reduceLT,Nat.reduceLeDiff,reduceIte,eReply,g1,g5,h0,g8,e2,len_sl hr.p un43,castS,hsl]
  refine cl_eq (hG K) [.sl 5 (rows ePost [r.postings[n]]) 1] (print48_c (.inr rfl) o1) rfl ?_
  simp (disch:=first|exact bk rfl|omega|(simp only [ln];omega)|(simp only [go_sem];done)|decide) only [go_sem,Nat.reduceAdd,Nat.reduceMul,Nat.reduceEqDiff,Nat.reduceLT,Nat.reduceLeDiff,reduceIte,g1,g5,h0,g8,castS]
  refine again_mk (m':=r.postings.length - (n+1)) (by omega) ⟨n+1,hlt,rfl,rfl,⟨?_, ?_,h0,st.nx⟩, ?_⟩
  ·(simp (disch:=first|exact bk rfl|omega|(simp only [ln];omega)|(simp only [go_sem];done)|decide) only [go_sem,Nat.reduceAdd,Nat.reduceMul,Nat.reduceEqDiff,Nat.reduceLT,Nat.reduceLeDiff,reduceIte,g1]<;>first|rfl|omega)
  ·rw [show pPo (r.postings.take (n+1))=pPo (r.postings.take n)++poS r.postings[n] from flat_snoc hlt]
   simp (disch:=first|exact bk rfl|omega|(simp only [ln];omega)|(simp only [go_sem];done)|decide) only [go_sem,Nat.reduceAdd,Nat.reduceMul,Nat.reduceEqDiff,Nat.reduceLT,Nat.reduceLeDiff,reduceIte]
   simp [poS]
  ·(simp (disch:=first|exact bk rfl|omega|(simp only [ln];omega)|(simp only [go_sem];done)|decide) only [go_sem,Nat.reduceAdd,Nat.reduceMul,Nat.reduceEqDiff,Nat.reduceLT,Nat.reduceLeDiff,reduceIte]<;>first|rfl|omega)
 ·have e2:((n:Int)<(r.postings.length:Int))=False:=by simp;omega
  simp (disch:=first|exact bk rfl|omega|(simp only [ln];omega)|(simp only [go_sem];done)|decide) only [go_sem,Nat.reduceAdd,Nat.reduceMul,Nat.reduceEqDiff,Nat.reduceLT,Nat.reduceLeDiff,reduceIte,eReply,g1,h0,g8,e2,len_sl hr.p un43]
  rw [List.take_of_length_le (by omega:r.postings.length≤n)] at st
  refine rd15 hr hb hp hm hk (st.env ?_ ?_) (by have:=hL r.postings.length;rw [List.take_length] at this;simp only [List.length_append];omega) hq<;>((simp (disch:=first|exact bk rfl|omega|(simp only [ln];omega)|(simp only [go_sem];done)|decide) only [go_sem,Nat.reduceAdd,Nat.reduceMul,Nat.reduceEqDiff,Nat.reduceLT,Nat.reduceLeDiff,reduceIte]<;>first|rfl|omega))
end Go.S9
namespace Go.S9
open Go.Ev Go.Proofs
set_option maxRecDepth 100000
set_option linter.unusedVariables false
set_option linter.unusedSimpArgs false
variable {K : Int} {H : Hp} {k : AV → Bool}
def liA (xs:List Int) (n:Nat):Str:=if n=0 then [] else [108,105,115,116]++linS (xs.take n)++(if n=xs.length then [10] else [])
theorem liA_len {xs:List Int} (h:∀y∈xs,inR y) (hl:xs.length≤40) (n:Nat):(liA xs n).length≤1000:=by
 have h1:=linS_len (xs:=xs.take n) fun y hy=>h y (List.mem_of_mem_take hy)
 have h2:(xs.take n).length≤40:=by rw [List.length_take];omega
 unfold liA
 split
 ·simp
 ·split<;>(simp only [List.length_append,List.length_cons,List.length_nil];omega)
theorem liA_end {r:Reply}:liA r.list r.list.length=pLi r:=by
 unfold liA pLi
 by_cases h:r.list=[]
 ·rw [if_pos (by rw [h];rfl),if_pos h]
 ·rw [if_neg (fun e=>h (List.length_eq_zero_iff.1 e)),if_neg h,if_pos rfl,List.take_length]
theorem liA_step {xs:List Int} {n:Nat} (h:n<xs.length):liA xs (n+1)=(if n=0 then [108,105,115,116] else liA xs n)++[32]++itS xs[n]++(if n+1=xs.length then [10] else []):=by
 unfold liA
 rw [if_neg (by omega),linS_snoc h]
 by_cases h0:n=0
 ·subst h0;simp [linS]
 ·have h1:¬n=xs.length:=by omega
  simp [h0,h1]
def I15l (r:Reply) (s:Str) (m:Nat) (e:En) (H:Hp):Prop:=∃n,n≤r.list.length∧m=r.list.length - n∧e.dm=[]∧Sr r e.t H (s++liA r.list n)∧E2.get e.t 7= .int .i64 (n:Int)
theorem mid15l {r:Reply} (hr:ReplyOK r) (hb:Brief r) {n:Nat} (hlt:n<r.list.length) {t:E2} {H:Hp} {s:Str} {kk:AEx→En→Hp→Bool} (st:Sr r t H s) (hs:s.length≤20000) (g7:E2.get t 7= .int .i64 (n:Int))
  (hk:∀t' H',Sr r t' H' (s++[32]++itS r.list[n]++(if n+1=r.list.length then [10] else []))→E2.get t' 7= .int .i64 (n:Int)→kk .normal ⟨t',[]⟩ H'=true):cd P (G K) 196 200 (subC 15 [1,1,1,1,1,1,1,1,1,1,0,1,0,0,1,0,0,1]) none ⟨t,[]⟩ H kk=true:=by
 have g1:=st.g1
 have g5:=st.g5
 have h0:=st.h0
 have b1:=hb.l
 have r1:=hr.lr _ (List.getElem_mem hlt)
 have l1:=itS_len r1
 by_cases he:n+1=r.list.length
 ·have e3:((n:Int)=(r.list.length:Int) - 1)=True:=by simp;omega
  (try simp (disch:=first|exact bk rfl|omega|(simp only [ln];omega)|(simp only [go_sem];done)|decide) only [go_sem,Nat.reduceAdd,Nat.reduceMul,Nat.reduceEqDiff,Nat.reduceLT,Nat.reduceLeDiff,reduceIte,h15_8,eReply,g1,g5,h0,g7,e3,len_sl hr.l un42,idx_sl hr.l un42 in3 ce3 hlt,getI hlt]);repeat' first|((with_reducible first|apply gJoin_split|apply cond_split|apply gJoinD_split)<;>intro h<;>(try simp only [spl] at h)<;>try simp (disch:=first|exact bk rfl|omega|(simp only [ln];omega)|(simp only [go_sem];done)|decide) only [go_sem,Nat.reduceAdd,Nat.reduceMul,Nat.reduceEqDiff,Nat.reduceLT,Nat.reduceLeDiff,reduceIte,h15_8,eReply,g1,g5,h0,g7,e3,len_sl hr.l un42,idx_sl hr.l un42 in3 ce3 hlt,getI hlt,h])|((with_reducible refine cl_guard ?_;refine cl_eq (hG K) _ (number40_c r1) rfl ?_)<;>try simp (disch:=first|exact bk rfl|omega|(simp only [ln];omega)|(simp only [go_sem];done)|decide) only [go_sem,Nat.reduceAdd,Nat.reduceMul,Nat.reduceEqDiff,Nat.reduceLT,Nat.reduceLeDiff,reduceIte,h15_8,eReply,g1,g5,h0,g7,e3,len_sl hr.l un42,idx_sl hr.l un42 in3 ce3 hlt,getI hlt])
  refine hk _ _ ⟨?_, ?_,h0,st.nx⟩ ?_
  ·(simp (disch:=first|exact bk rfl|omega|(simp only [ln];omega)|(simp only [go_sem];done)|decide) only [go_sem,Nat.reduceAdd,Nat.reduceMul,Nat.reduceEqDiff,Nat.reduceLT,Nat.reduceLeDiff,reduceIte,g1]<;>first|rfl|omega)
  ·rw [if_pos he]
   simp (disch:=first|exact bk rfl|omega|(simp only [ln];omega)|(simp only [go_sem];done)|decide) only [go_sem,Nat.reduceAdd,Nat.reduceMul,Nat.reduceEqDiff,Nat.reduceLT,Nat.reduceLeDiff,reduceIte]
   try simp
  ·(simp (disch:=first|exact bk rfl|omega|(simp only [ln];omega)|(simp only [go_sem];done)|decide) only [go_sem,Nat.reduceAdd,Nat.reduceMul,Nat.reduceEqDiff,Nat.reduceLT,Nat.reduceLeDiff,reduceIte,g7]<;>first|rfl|omega)
 ·have e3:((n:Int)=(r.list.length:Int) - 1)=False:=by simp;omega
  (try simp (disch:=first|exact bk rfl|omega|(simp only [ln];omega)|(simp only [go_sem];done)|decide) only [go_sem,Nat.reduceAdd,Nat.reduceMul,Nat.reduceEqDiff,Nat.reduceLT,Nat.reduceLeDiff,reduceIte,h15_8,eReply,g1,g5,h0,g7,e3,len_sl hr.l un42,idx_sl hr.l un42 in3 ce3 hlt,getI hlt]);repeat' first|((with_reducible first|apply gJoin_split|apply cond_split|apply gJoinD_split)<;>intro h<;>(try simp only [spl] at h)<;>try simp (disch:=first|exact bk rfl|omega|(simp only [ln];omega)|(simp only [go_sem];done)|decide) only [go_sem,Nat.reduceAdd,Nat.reduceMul,Nat.reduceEqDiff,Nat.reduceLT,Nat.reduceLeDiff,reduceIte,h15_8,eReply,g1,g5,h0,g7,e3,len_sl hr.l un42,idx_sl hr.l un42 in3 ce3 hlt,getI hlt,h])|((with_reducible refine cl_guard ?_;refine cl_eq (hG K) _ (number40_c r1) rfl ?_)<;>try simp (disch:=first|exact bk rfl|omega|(simp only [ln];omega)|(simp only [go_sem];done)|decide) only [go_sem,Nat.reduceAdd,Nat.reduceMul,Nat.reduceEqDiff,Nat.reduceLT,Nat.reduceLeDiff,reduceIte,h15_8,eReply,g1,g5,h0,g7,e3,len_sl hr.l un42,idx_sl hr.l un42 in3 ce3 hlt,getI hlt])
  refine hk _ _ ⟨?_, ?_,h0,st.nx⟩ ?_
  ·(simp (disch:=first|exact bk rfl|omega|(simp only [ln];omega)|(simp only [go_sem];done)|decide) only [go_sem,Nat.reduceAdd,Nat.reduceMul,Nat.reduceEqDiff,Nat.reduceLT,Nat.reduceLeDiff,reduceIte,g1]<;>first|rfl|omega)
  ·rw [if_neg he]
   simp (disch:=first|exact bk rfl|omega|(simp only [ln];omega)|(simp only [go_sem];done)|decide) only [go_sem,Nat.reduceAdd,Nat.reduceMul,Nat.reduceEqDiff,Nat.reduceLT,Nat.reduceLeDiff,reduceIte]
   try simp
  ·(simp (disch:=first|exact bk rfl|omega|(simp only [ln];omega)|(simp only [go_sem];done)|decide) only [go_sem,Nat.reduceAdd,Nat.reduceMul,Nat.reduceEqDiff,Nat.reduceLT,Nat.reduceLeDiff,reduceIte,g7]<;>first|rfl|omega)
theorem li15 {r:Reply} (hr:ReplyOK r) (hb:Brief r) (hp:∀p∈r.postings,postB p=true) (hm:∀x∈r.readings,x.times.length=x.reads.length) {t:E2} {H:Hp} {s:Str} {Q:D→Prop} {kk:AEx→En→Hp→Bool} (hk:∀t H,kk .ret ⟨t,[]⟩ H=endQ Q (.ret (.tup [E2.get t 2,E2.get t 3])) H) (st:Sr r t H s) (hs:s.length≤10000)
  (hq:Q (.tup [.str (s++pLi r++pPo r.postings++pRd r.readings++pPf r.proofs), .int .i64 0])):cd P (G K) 190 200 (subC 15 [1,1,1,1,1,1,1,1,1,1]) none ⟨t,[]⟩ H kk=true:=by
 have b1:=hb.l
 have hL:=liA_len hr.lr b1
 simp (disch:=first|exact bk rfl|omega|(simp only [ln];omega)|(simp only [go_sem];done)|decide) only [go_sem,Nat.reduceAdd,Nat.reduceMul,Nat.reduceEqDiff,Nat.reduceLT,Nat.reduceLeDiff,reduceIte,h15_12]
 refine loop_rule (I15l r s) (fun m e H hi=> ?_) (m:=r.list.length) ?_
 rotate_left
 ·refine⟨0,Nat.zero_le _,rfl,rfl,(Sr.env (s:=s++liA r.list 0) (by simpa [liA] using st) ?_ ?_), ?_⟩<;>((simp (disch:=first|exact bk rfl|omega|(simp only [ln];omega)|(simp only [go_sem];done)|decide) only [go_sem,Nat.reduceAdd,Nat.reduceMul,Nat.reduceEqDiff,Nat.reduceLT,Nat.reduceLeDiff,reduceIte]<;>first|rfl|omega))
 obtain⟨n,hn1,rfl,hdm,st,g7⟩:=hi
 obtain⟨t,dm⟩:=e
 dsimp only at hdm st g7
 subst hdm
 refine semC_run 200 ?_
 rw [h15_1]
 have g1:=st.g1
 have g5:=st.g5
 have h0:=st.h0
 by_cases hlt:n<r.list.length
 ·have e2:((n:Int)<(r.list.length:Int))=True:=by simp;omega
  have hLn:=hL n
  have hs1:(s++liA r.list n).length≤11000:=by simp only [List.length_append];omega
  by_cases hz:n=0
  ·have e3:((n:Int)=0)=True:=by simp;omega
   simp (disch:=first|exact bk rfl|omega|(simp only [ln];omega)|(simp only [go_sem];done)|decide) only [go_sem,Nat.reduceAdd,Nat.reduceMul,Nat.reduceEqDiff,Nat.reduceLT,Nat.reduceLeDiff,reduceIte,eReply,g1,g5,h0,g7,e2,e3,len_sl hr.l un42]
   refine mid15l (s:=s++liA r.list n++[108,105,115,116]) hr hb hlt ⟨?_, ?_,h0,st.nx⟩ (by simp only [List.length_append,List.length_cons,List.length_nil] at *;omega) ?_ fun t' H' st' u7=> ?_
   ·(simp (disch:=first|exact bk rfl|omega|(simp only [ln];omega)|(simp only [go_sem];done)|decide) only [go_sem,Nat.reduceAdd,Nat.reduceMul,Nat.reduceEqDiff,Nat.reduceLT,Nat.reduceLeDiff,reduceIte,g1]<;>first|rfl|omega)
   ·(simp (disch:=first|exact bk rfl|omega|(simp only [ln];omega)|(simp only [go_sem];done)|decide) only [go_sem,Nat.reduceAdd,Nat.reduceMul,Nat.reduceEqDiff,Nat.reduceLT,Nat.reduceLeDiff,reduceIte]<;>first|rfl|omega)
   ·(simp (disch:=first|exact bk rfl|omega|(simp only [ln];omega)|(simp only [go_sem];done)|decide) only [go_sem,Nat.reduceAdd,Nat.reduceMul,Nat.reduceEqDiff,Nat.reduceLT,Nat.reduceLeDiff,reduceIte,g7]<;>first|rfl|omega)
   ·simp (disch:=first|exact bk rfl|omega|(simp only [ln];omega)|(simp only [go_sem];done)|decide) only [go_sem,Nat.reduceAdd,Nat.reduceMul,Nat.reduceEqDiff,Nat.reduceLT,Nat.reduceLeDiff,reduceIte,h15_7,u7]
    refine again_mk (m':=r.list.length - (n+1)) (by omega) ⟨n+1,hlt,rfl,rfl,(Sr.env (by rw [liA_step hlt,if_pos hz];rw [show liA r.list n=[] from if_pos hz] at st';simpa using st') ?_ ?_), ?_⟩<;>((simp (disch:=first|exact bk rfl|omega|(simp only [ln];omega)|(simp only [go_sem];done)|decide) only [go_sem,Nat.reduceAdd,Nat.reduceMul,Nat.reduceEqDiff,Nat.reduceLT,Nat.reduceLeDiff,reduceIte,u7]<;>first|rfl|omega))
  ·have e3:((n:Int)=0)=False:=by simp;omega
   simp (disch:=first|exact bk rfl|omega|(simp only [ln];omega)|(simp only [go_sem];done)|decide) only [go_sem,Nat.reduceAdd,Nat.reduceMul,Nat.reduceEqDiff,Nat.reduceLT,Nat.reduceLeDiff,reduceIte,eReply,g1,g5,h0,g7,e2,e3,len_sl hr.l un42]
   refine mid15l (s:=s++liA r.list n) hr hb hlt ⟨?_, ?_,h0,st.nx⟩ (by omega) ?_ fun t' H' st' u7=> ?_
   ·(simp (disch:=first|exact bk rfl|omega|(simp only [ln];omega)|(simp only [go_sem];done)|decide) only [go_sem,Nat.reduceAdd,Nat.reduceMul,Nat.reduceEqDiff,Nat.reduceLT,Nat.reduceLeDiff,reduceIte,g1]<;>first|rfl|omega)
   ·(simp (disch:=first|exact bk rfl|omega|(simp only [ln];omega)|(simp only [go_sem];done)|decide) only [go_sem,Nat.reduceAdd,Nat.reduceMul,Nat.reduceEqDiff,Nat.reduceLT,Nat.reduceLeDiff,reduceIte,g5]<;>first|rfl|omega)
   ·(simp (disch:=first|exact bk rfl|omega|(simp only [ln];omega)|(simp only [go_sem];done)|decide) only [go_sem,Nat.reduceAdd,Nat.reduceMul,Nat.reduceEqDiff,Nat.reduceLT,Nat.reduceLeDiff,reduceIte,g7]<;>first|rfl|omega)
   ·simp (disch:=first|exact bk rfl|omega|(simp only [ln];omega)|(simp only [go_sem];done)|decide) only [go_sem,Nat.reduceAdd,Nat.reduceMul,Nat.reduceEqDiff,Nat.reduceLT,Nat.reduceLeDiff,reduceIte,h15_7,u7]
    refine again_mk (m':=r.list.length - (n+1)) (by omega) ⟨n+1,hlt,rfl,rfl,(Sr.env (by rw [liA_step hlt,if_neg hz];simpa using st') ?_ ?_), ?_⟩<;>((simp (disch:=first|exact bk rfl|omega|(simp only [ln];omega)|(simp only [go_sem];done)|decide) only [go_sem,Nat.reduceAdd,Nat.reduceMul,Nat.reduceEqDiff,Nat.reduceLT,Nat.reduceLeDiff,reduceIte,u7]<;>first|rfl|omega))
 ·have e2:((n:Int)<(r.list.length:Int))=False:=by simp;omega
  obtain rfl:n=r.list.length:=by omega
  simp (disch:=first|exact bk rfl|omega|(simp only [ln];omega)|(simp only [go_sem];done)|decide) only [go_sem,Nat.reduceAdd,Nat.reduceMul,Nat.reduceEqDiff,Nat.reduceLT,Nat.reduceLeDiff,reduceIte,eReply,g1,h0,g7,e2,len_sl hr.l un42]
  rw [liA_end] at st
  have:=hL r.list.length
  rw [liA_end] at this
  refine po15 hr hb hp hm hk (st.env ?_ ?_) (by simp only [List.length_append];omega) hq<;>((simp (disch:=first|exact bk rfl|omega|(simp only [ln];omega)|(simp only [go_sem];done)|decide) only [go_sem,Nat.reduceAdd,Nat.reduceMul,Nat.reduceEqDiff,Nat.reduceLT,Nat.reduceLeDiff,reduceIte]<;>first|rfl|omega))
theorem pe15 {r:Reply} (hr:ReplyOK r) (hb:Brief r) (hp:∀p∈r.postings,postB p=true) (hm:∀x∈r.readings,x.times.length=x.reads.length) {t:E2} {H:Hp} {s:Str} {Q:D→Prop} {kk:AEx→En→Hp→Bool} (hk:∀t H,kk .ret ⟨t,[]⟩ H=endQ Q (.ret (.tup [E2.get t 2,E2.get t 3])) H) (st:Sr r t H s) (hs:s.length≤5000)
  (hq:Q (.tup [.str (s++pPe r++pLi r++pPo r.postings++pRd r.readings++pPf r.proofs), .int .i64 0])):cd P (G K) 191 200 (subC 15 [1,1,1,1,1,1,1,1,1]) none ⟨t,[]⟩ H kk=true:=by
 have g1:=st.g1
 have g5:=st.g5
 have h0:=st.h0
 by_cases hl:r.pence=0
 ·have e2:(r.pence=0)=True:=eq_true hl
  simp (disch:=first|exact bk rfl|omega|(simp only [ln];omega)|(simp only [go_sem];done)|decide) only [go_sem,Nat.reduceAdd,Nat.reduceMul,Nat.reduceEqDiff,Nat.reduceLT,Nat.reduceLeDiff,reduceIte,h15_11,g1,h0,eReply,e2]
  rw [show pPe r=[] from if_pos hl,List.append_nil] at hq
  refine li15 hr hb hp hm hk (st.env ?_ ?_) (by omega) hq<;>((simp (disch:=first|exact bk rfl|omega|(simp only [ln];omega)|(simp only [go_sem];done)|decide) only [go_sem,Nat.reduceAdd,Nat.reduceMul,Nat.reduceEqDiff,Nat.reduceLT,Nat.reduceLeDiff,reduceIte]<;>first|rfl|omega))
 ·have e2:(r.pence=0)=False:=eq_false hl
  have l1:=itS_len hr.e9
  (try simp (disch:=first|exact bk rfl|omega|(simp only [ln];omega)|(simp only [go_sem];done)|decide) only [go_sem,Nat.reduceAdd,Nat.reduceMul,Nat.reduceEqDiff,Nat.reduceLT,Nat.reduceLeDiff,reduceIte,h15_11,g1,g5,h0,eReply,e2]);repeat' first|((with_reducible first|apply gJoin_split|apply cond_split|apply gJoinD_split)<;>intro h<;>(try simp only [spl] at h)<;>try simp (disch:=first|exact bk rfl|omega|(simp only [ln];omega)|(simp only [go_sem];done)|decide) only [go_sem,Nat.reduceAdd,Nat.reduceMul,Nat.reduceEqDiff,Nat.reduceLT,Nat.reduceLeDiff,reduceIte,h15_11,g1,g5,h0,eReply,e2,h])|((with_reducible refine cl_guard ?_;refine cl_eq (hG K) _ (number40_c hr.e9) rfl ?_)<;>try simp (disch:=first|exact bk rfl|omega|(simp only [ln];omega)|(simp only [go_sem];done)|decide) only [go_sem,Nat.reduceAdd,Nat.reduceMul,Nat.reduceEqDiff,Nat.reduceLT,Nat.reduceLeDiff,reduceIte,h15_11,g1,g5,h0,eReply,e2])
  rw [show pPe r=[112,101,110,99,101]++linS [r.pence]++[10] from if_neg hl] at hq
  refine li15 (s:=s++([112,101,110,99,101]++linS [r.pence]++[10])) hr hb hp hm hk ⟨?_, ?_,h0,st.nx⟩ (by simp only [linS,List.map_cons,List.map_nil,List.flatten_cons,List.flatten_nil,List.length_append,List.length_cons,List.length_nil];omega) hq
  ·(simp (disch:=first|exact bk rfl|omega|(simp only [ln];omega)|(simp only [go_sem];done)|decide) only [go_sem,Nat.reduceAdd,Nat.reduceMul,Nat.reduceEqDiff,Nat.reduceLT,Nat.reduceLeDiff,reduceIte,g1]<;>first|rfl|omega)
  ·simp (disch:=first|exact bk rfl|omega|(simp only [ln];omega)|(simp only [go_sem];done)|decide) only [go_sem,Nat.reduceAdd,Nat.reduceMul,Nat.reduceEqDiff,Nat.reduceLT,Nat.reduceLeDiff,reduceIte]
   simp [linS]
theorem sp15 {r:Reply} (hr:ReplyOK r) (hb:Brief r) (hp:∀p∈r.postings,postB p=true) (hm:∀x∈r.readings,x.times.length=x.reads.length) {t:E2} {H:Hp} {s:Str} {Q:D→Prop} {kk:AEx→En→Hp→Bool} (hk:∀t H,kk .ret ⟨t,[]⟩ H=endQ Q (.ret (.tup [E2.get t 2,E2.get t 3])) H) (st:Sr r t H s) (hs:s.length≤2000)
  (hq:Q (.tup [.str (s++pSp r++pPe r++pLi r++pPo r.postings++pRd r.readings++pPf r.proofs), .int .i64 0])):cd P (G K) 192 200 (subC 15 [1,1,1,1,1,1,1,1]) none ⟨t,[]⟩ H kk=true:=by
 have g1:=st.g1
 have g5:=st.g5
 have h0:=st.h0
 by_cases hl:r.lo=0∧r.hi=0
 ·have e2:(r.lo=0∧r.hi=0)=True:=eq_true hl
  simp (disch:=first|exact bk rfl|omega|(simp only [ln];omega)|(simp only [go_sem];done)|decide) only [go_sem,Nat.reduceAdd,Nat.reduceMul,Nat.reduceEqDiff,Nat.reduceLT,Nat.reduceLeDiff,reduceIte,h15_6,g1,h0,eReply,bk23,neq23,eq2_0,e2]
  rw [show pSp r=[] from if_pos hl,List.append_nil] at hq
  refine pe15 hr hb hp hm hk (st.env ?_ ?_) (by omega) hq<;>((simp (disch:=first|exact bk rfl|omega|(simp only [ln];omega)|(simp only [go_sem];done)|decide) only [go_sem,Nat.reduceAdd,Nat.reduceMul,Nat.reduceEqDiff,Nat.reduceLT,Nat.reduceLeDiff,reduceIte]<;>first|rfl|omega))
 ·have e2:(r.lo=0∧r.hi=0)=False:=eq_false hl
  have l1:=spS_len hr.e7 hr.e8
  (try simp (disch:=first|exact bk rfl|omega|(simp only [ln];omega)|(simp only [go_sem];done)|decide) only [go_sem,Nat.reduceAdd,Nat.reduceMul,Nat.reduceEqDiff,Nat.reduceLT,Nat.reduceLeDiff,reduceIte,h15_6,g1,g5,h0,eReply,bk23,neq23,eq2_0,e2]);repeat' first|((with_reducible first|apply gJoin_split|apply cond_split|apply gJoinD_split)<;>intro h<;>(try simp only [spl] at h)<;>try simp (disch:=first|exact bk rfl|omega|(simp only [ln];omega)|(simp only [go_sem];done)|decide) only [go_sem,Nat.reduceAdd,Nat.reduceMul,Nat.reduceEqDiff,Nat.reduceLT,Nat.reduceLeDiff,reduceIte,h15_6,g1,g5,h0,eReply,bk23,neq23,eq2_0,e2,h])|((with_reducible refine cl_guard ?_;refine cl_eq (hG K) _ (span41_c hr.e7 hr.e8) rfl ?_)<;>try simp (disch:=first|exact bk rfl|omega|(simp only [ln];omega)|(simp only [go_sem];done)|decide) only [go_sem,Nat.reduceAdd,Nat.reduceMul,Nat.reduceEqDiff,Nat.reduceLT,Nat.reduceLeDiff,reduceIte,h15_6,g1,g5,h0,eReply,bk23,neq23,eq2_0,e2])
  rw [show pSp r=[115,112,97,110,32]++spS r.lo r.hi++[10] from if_neg hl] at hq
  refine pe15 (s:=s++([115,112,97,110,32]++spS r.lo r.hi++[10])) hr hb hp hm hk ⟨?_, ?_,h0,st.nx⟩ (by simp only [List.length_append,List.length_cons,List.length_nil];omega) hq
  ·(simp (disch:=first|exact bk rfl|omega|(simp only [ln];omega)|(simp only [go_sem];done)|decide) only [go_sem,Nat.reduceAdd,Nat.reduceMul,Nat.reduceEqDiff,Nat.reduceLT,Nat.reduceLeDiff,reduceIte,g1]<;>first|rfl|omega)
  ·simp (disch:=first|exact bk rfl|omega|(simp only [ln];omega)|(simp only [go_sem];done)|decide) only [go_sem,Nat.reduceAdd,Nat.reduceMul,Nat.reduceEqDiff,Nat.reduceLT,Nat.reduceLeDiff,reduceIte]
   simp
set_option maxHeartbeats 4000000 in
theorem ju15 {r:Reply} (hr:ReplyOK r) (hb:Brief r) (hp:∀p∈r.postings,postB p=true) (hm:∀x∈r.readings,x.times.length=x.reads.length) {t:E2} {H:Hp} {s:Str} {Q:D→Prop} {kk:AEx→En→Hp→Bool} (hk:∀t H,kk .ret ⟨t,[]⟩ H=endQ Q (.ret (.tup [E2.get t 2,E2.get t 3])) H) (st:Sr r t H s) (hs:s.length≤100)
  (hq:Q (.tup [.str (s++pJ r++pSp r++pPe r++pLi r++pPo r.postings++pRd r.readings++pPf r.proofs), .int .i64 0])):cd P (G K) 194 200 (subC 15 [1,1,1,1,1,1]) none ⟨t,[]⟩ H kk=true:=by
 have g1:=st.g1
 have g5:=st.g5
 have h0:=st.h0
 have hn:=st.nx
 have z0:(0=H.nx)=False:=by simp;omega
 by_cases hl:r.j0=0
 ·have e2:(r.j0=0)=True:=eq_true hl
  simp (disch:=first|exact bk rfl|omega|(simp only [ln];omega)|(simp only [go_sem];done)|decide) only [go_sem,Nat.reduceAdd,Nat.reduceMul,Nat.reduceEqDiff,Nat.reduceLT,Nat.reduceLeDiff,reduceIte,h15_0,g1,h0,eReply,e2]
  rw [show pJ r=[] from if_pos hl,List.append_nil] at hq
  refine sp15 hr hb hp hm hk ⟨?_, ?_, ?_, ?_⟩ (by omega) hq
  ·(simp (disch:=first|exact bk rfl|omega|(simp only [ln];omega)|(simp only [go_sem];done)|decide) only [go_sem,Nat.reduceAdd,Nat.reduceMul,Nat.reduceEqDiff,Nat.reduceLT,Nat.reduceLeDiff,reduceIte,g1]<;>first|rfl|omega)
  ·(simp (disch:=first|exact bk rfl|omega|(simp only [ln];omega)|(simp only [go_sem];done)|decide) only [go_sem,Nat.reduceAdd,Nat.reduceMul,Nat.reduceEqDiff,Nat.reduceLT,Nat.reduceLeDiff,reduceIte,g5]<;>first|rfl|omega)
  ·(simp (disch:=first|exact bk rfl|omega|(simp only [ln];omega)|(simp only [go_sem];done)|decide) only [go_sem,Nat.reduceAdd,Nat.reduceMul,Nat.reduceEqDiff,Nat.reduceLT,Nat.reduceLeDiff,reduceIte,h0,z0]<;>first|rfl|omega)
  ·(simp (disch:=first|exact bk rfl|omega|(simp only [ln];omega)|(simp only [go_sem];done)|decide) only [go_sem,Nat.reduceAdd,Nat.reduceMul,Nat.reduceEqDiff,Nat.reduceLT,Nat.reduceLeDiff,reduceIte]<;>first|rfl|omega)
 ·have e2:(r.j0=0)=False:=eq_false hl
  have l1:=itS_len hr.e1
  have l2:=itS_len hr.e2
  have l3:=itS_len hr.e3
  have l4:=itS_len hr.e4
  have l5:=itS_len hr.e5
  have l6:=itS_len hr.e6
  (try simp (disch:=first|exact bk rfl|omega|(simp only [ln];omega)|(simp only [go_sem];done)|decide) only [go_sem,Nat.reduceAdd,Nat.reduceMul,Nat.reduceEqDiff,Nat.reduceLT,Nat.reduceLeDiff,reduceIte,h15_0,g1,g5,h0,eReply,e2]);repeat' first|((with_reducible first|apply gJoin_split|apply cond_split|apply gJoinD_split)<;>intro h<;>(try simp only [spl] at h)<;>try simp (disch:=first|exact bk rfl|omega|(simp only [ln];omega)|(simp only [go_sem];done)|decide) only [go_sem,Nat.reduceAdd,Nat.reduceMul,Nat.reduceEqDiff,Nat.reduceLT,Nat.reduceLeDiff,reduceIte,h15_0,g1,g5,h0,eReply,e2,h])|((with_reducible refine cl_guard ?_;first|refine cl_eq (hG K) _ (number40_c hr.e1) rfl ?_|refine cl_eq (hG K) _ (number40_c hr.e2) rfl ?_|refine cl_eq (hG K) _ (number40_c hr.e3) rfl ?_|refine cl_eq (hG K) _ (number40_c hr.e4) rfl ?_|refine cl_eq (hG K) _ (number40_c hr.e5) rfl ?_|refine cl_eq (hG K) _ (number40_c hr.e6) rfl ?_)<;>try simp (disch:=first|exact bk rfl|omega|(simp only [ln];omega)|(simp only [go_sem];done)|decide) only [go_sem,Nat.reduceAdd,Nat.reduceMul,Nat.reduceEqDiff,Nat.reduceLT,Nat.reduceLeDiff,reduceIte,h15_0,g1,g5,h0,eReply,e2])
  rw [show pJ r=[106,117,100,103,101,100]++linS [r.j0,r.j1,r.j2,r.j3,r.j4,r.j5]++[10] from if_neg hl] at hq
  refine sp15 (s:=s++([106,117,100,103,101,100]++linS [r.j0,r.j1,r.j2,r.j3,r.j4,r.j5]++[10])) hr hb hp hm hk ⟨?_, ?_, ?_, ?_⟩ (by simp only [linS,List.map_cons,List.map_nil,List.flatten_cons,List.flatten_nil,List.length_append,List.length_cons,List.length_nil];omega) hq
  ·(simp (disch:=first|exact bk rfl|omega|(simp only [ln];omega)|(simp only [go_sem];done)|decide) only [go_sem,Nat.reduceAdd,Nat.reduceMul,Nat.reduceEqDiff,Nat.reduceLT,Nat.reduceLeDiff,reduceIte,g1]<;>first|rfl|omega)
  ·simp (disch:=first|exact bk rfl|omega|(simp only [ln];omega)|(simp only [go_sem];done)|decide) only [go_sem,Nat.reduceAdd,Nat.reduceMul,Nat.reduceEqDiff,Nat.reduceLT,Nat.reduceLeDiff,reduceIte]
   simp [linS]
  ·(simp (disch:=first|exact bk rfl|omega|(simp only [ln];omega)|(simp only [go_sem];done)|decide) only [go_sem,Nat.reduceAdd,Nat.reduceMul,Nat.reduceEqDiff,Nat.reduceLT,Nat.reduceLeDiff,reduceIte,h0,z0]<;>first|rfl|omega)
  ·(simp (disch:=first|exact bk rfl|omega|(simp only [ln];omega)|(simp only [go_sem];done)|decide) only [go_sem,Nat.reduceAdd,Nat.reduceMul,Nat.reduceEqDiff,Nat.reduceLT,Nat.reduceLeDiff,reduceIte]<;>first|rfl|omega)
set_option maxHeartbeats 2000000 in
theorem tell15_c {r:Reply} (hr:ReplyOK r) (hb:Brief r):CQ P (G K) 15 [.agg (eReply r)] (·=tlD r):=by
 refine CQ.enter (hG K) ?_
 by_cases h1:r.errno=0
 rotate_left
 ·have e1:(r.errno=0)=False:=eq_false h1
  have l1:=itS_len hr.e0
  (try simp (disch:=first|exact bk rfl|omega|(simp only [ln];omega)|(simp only [go_sem];done)|decide) only [go_sem,Nat.reduceAdd,Nat.reduceMul,Nat.reduceEqDiff,Nat.reduceLT,Nat.reduceLeDiff,reduceIte,eReply,h15,r15,e1]);repeat' first|((with_reducible first|apply gJoin_split|apply cond_split|apply gJoinD_split)<;>intro h<;>(try simp only [spl] at h)<;>try simp (disch:=first|exact bk rfl|omega|(simp only [ln];omega)|(simp only [go_sem];done)|decide) only [go_sem,Nat.reduceAdd,Nat.reduceMul,Nat.reduceEqDiff,Nat.reduceLT,Nat.reduceLeDiff,reduceIte,eReply,h15,r15,e1,h])|((with_reducible refine cl_guard ?_;refine cl_eq (hG K) _ (number40_c hr.e0) rfl ?_)<;>try simp (disch:=first|exact bk rfl|omega|(simp only [ln];omega)|(simp only [go_sem];done)|decide) only [go_sem,Nat.reduceAdd,Nat.reduceMul,Nat.reduceEqDiff,Nat.reduceLT,Nat.reduceLeDiff,reduceIte,eReply,h15,r15,e1])
  exact endQ_fro (.tup [.str _, .int .i64 0]) (by rw [tlD,if_pos h1];simp [linS])
 have e1:(r.errno=0)=True:=eq_true h1
 by_cases h2:telE r=0
 rotate_left
 ·have e2:(telE r=0)=False:=eq_false h2
  simp (disch:=first|exact bk rfl|omega|(simp only [ln];omega)|(simp only [go_sem];done)|decide) only [go_sem,Nat.reduceAdd,Nat.reduceMul,Nat.reduceEqDiff,Nat.reduceLT,Nat.reduceLeDiff,reduceIte,eReply,h15,r15,e1]
  refine cl_eq (hG K) [.agg (eReply r)] (sizes47_c hr hb) rfl ?_
  simp (disch:=first|exact bk rfl|omega|(simp only [ln];omega)|(simp only [go_sem];done)|decide) only [go_sem,Nat.reduceAdd,Nat.reduceMul,Nat.reduceEqDiff,Nat.reduceLT,Nat.reduceLeDiff,reduceIte,r15,e2]
  exact endQ_fro (.tup [.str [], .int .i64 (telE r)]) (by rw [tlD,if_neg (by simpa using h1),if_pos h2])
 have e2:(telE r=0)=True:=eq_true h2
 obtain⟨hp,hm⟩:=telE_0 h2
 have hD:tlD r= .tup [.str (tellS r), .int .i64 0]:=by rw [tlD,if_neg (by simpa using h1),if_neg (by simpa using h2)]
 simp (disch:=first|exact bk rfl|omega|(simp only [ln];omega)|(simp only [go_sem];done)|decide) only [go_sem,Nat.reduceAdd,Nat.reduceMul,Nat.reduceEqDiff,Nat.reduceLT,Nat.reduceLeDiff,reduceIte,eReply,h15,r15,e1]
 refine cl_eq (hG K) [.agg (eReply r)] (sizes47_c hr hb) rfl ?_
 rcases Bool.eq_false_or_eq_true r.yes with hy | hy
 ·have hyc:∀(a b:Unit→Bool),condV (.bool r.yes) a b=a ():=fun a b=>by rw [hy];rfl
  simp (disch:=first|exact bk rfl|omega|(simp only [ln];omega)|(simp only [go_sem];done)|decide) only [go_sem,Nat.reduceAdd,Nat.reduceMul,Nat.reduceEqDiff,Nat.reduceLT,Nat.reduceLeDiff,reduceIte,r15,e2,hyc]
  refine ju15 (s:=[121,101,115,10]) (Q:=(·=tlD r)) hr hb hp hm (fun t H=>by simp (disch:=first|exact bk rfl|omega|(simp only [ln];omega)|(simp only [go_sem];done)|decide) only [go_sem,Nat.reduceAdd,Nat.reduceMul,Nat.reduceEqDiff,Nat.reduceLT,Nat.reduceLeDiff,reduceIte,r15]) ⟨?_, ?_, ?_, ?_⟩ (by simp) ?_
  ·(simp (disch:=first|exact bk rfl|omega|(simp only [ln];omega)|(simp only [go_sem];done)|decide) only [go_sem,Nat.reduceAdd,Nat.reduceMul,Nat.reduceEqDiff,Nat.reduceLT,Nat.reduceLeDiff,reduceIte]<;>first|rfl|omega)
  ·(simp (disch:=first|exact bk rfl|omega|(simp only [ln];omega)|(simp only [go_sem];done)|decide) only [go_sem,Nat.reduceAdd,Nat.reduceMul,Nat.reduceEqDiff,Nat.reduceLT,Nat.reduceLeDiff,reduceIte]<;>first|rfl|omega)
  ·(simp (disch:=first|exact bk rfl|omega|(simp only [ln];omega)|(simp only [go_sem];done)|decide) only [go_sem,Nat.reduceAdd,Nat.reduceMul,Nat.reduceEqDiff,Nat.reduceLT,Nat.reduceLeDiff,reduceIte,eReply,ofDs,ofD]<;>first|rfl|omega)
  ·(simp (disch:=first|exact bk rfl|omega|(simp only [ln];omega)|(simp only [go_sem];done)|decide) only [go_sem,Nat.reduceAdd,Nat.reduceMul,Nat.reduceEqDiff,Nat.reduceLT,Nat.reduceLeDiff,reduceIte]<;>first|rfl|omega)
  ·rw [hD,tellS,hy];rfl
 ·have hyc:∀(a b:Unit→Bool),condV (.bool r.yes) a b=b ():=fun a b=>by rw [hy];rfl
  simp (disch:=first|exact bk rfl|omega|(simp only [ln];omega)|(simp only [go_sem];done)|decide) only [go_sem,Nat.reduceAdd,Nat.reduceMul,Nat.reduceEqDiff,Nat.reduceLT,Nat.reduceLeDiff,reduceIte,r15,e2,hyc]
  refine ju15 (s:=[]) (Q:=(·=tlD r)) hr hb hp hm (fun t H=>by simp (disch:=first|exact bk rfl|omega|(simp only [ln];omega)|(simp only [go_sem];done)|decide) only [go_sem,Nat.reduceAdd,Nat.reduceMul,Nat.reduceEqDiff,Nat.reduceLT,Nat.reduceLeDiff,reduceIte,r15]) ⟨?_, ?_, ?_, ?_⟩ (by simp) ?_
  ·(simp (disch:=first|exact bk rfl|omega|(simp only [ln];omega)|(simp only [go_sem];done)|decide) only [go_sem,Nat.reduceAdd,Nat.reduceMul,Nat.reduceEqDiff,Nat.reduceLT,Nat.reduceLeDiff,reduceIte]<;>first|rfl|omega)
  ·(simp (disch:=first|exact bk rfl|omega|(simp only [ln];omega)|(simp only [go_sem];done)|decide) only [go_sem,Nat.reduceAdd,Nat.reduceMul,Nat.reduceEqDiff,Nat.reduceLT,Nat.reduceLeDiff,reduceIte]<;>first|rfl|omega)
  ·(simp (disch:=first|exact bk rfl|omega|(simp only [ln];omega)|(simp only [go_sem];done)|decide) only [go_sem,Nat.reduceAdd,Nat.reduceMul,Nat.reduceEqDiff,Nat.reduceLT,Nat.reduceLeDiff,reduceIte,eReply,ofDs,ofD]<;>first|rfl|omega)
  ·(simp (disch:=first|exact bk rfl|omega|(simp only [ln];omega)|(simp only [go_sem];done)|decide) only [go_sem,Nat.reduceAdd,Nat.reduceMul,Nat.reduceEqDiff,Nat.reduceLT,Nat.reduceLeDiff,reduceIte]<;>first|rfl|omega)
  ·rw [hD,tellS,hy];rfl
end Go.S9
