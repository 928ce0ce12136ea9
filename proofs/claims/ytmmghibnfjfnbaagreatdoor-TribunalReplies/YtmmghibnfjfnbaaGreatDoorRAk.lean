/- A part of the proof of TribunalReplies. -/
import Derived.Test.YtmmghibnfjfnbaaGreatDoorRAj
import Derived.ChangeArms
import Derived.DataReads
import Derived.ProofKit
set_option linter.unusedVariables false
set_option linter.unusedSimpArgs false
namespace Go.S9
open Go.Ev Go.Proofs
set_option maxRecDepth 100000
set_option linter.unusedVariables false
set_option linter.unusedSimpArgs false
def HasD (w:World) (ds:List D) (cs:List Value):Prop:=∃L,DVs (hpz w) true ds cs L
theorem DVs.app {z:Nat→Option Obj} {b:List D} {y:List Value} {M:List Nat} (hb:DVs z true b y M):∀{a:List D} {x:List Value} {L:List Nat},DVs z true a x L→DVs z true (a++b) (x++y) (L++M)
 | _,_,_, .nil=>hb
 | _,_,_, .cons d v L ds vs L' h hs=>by rw [List.append_assoc];exact .cons d v L _ _ _ h (DVs.app hb hs)
theorem HasD.seg {w:World} {a b:List D} {cs:List Value} {o:Nat} (k:Nat) (h1:HasD w a ((cs.drop o).take k)) (h2:HasD w b (cs.drop (o+k))):HasD w (a++b) (cs.drop o):=by
 obtain⟨L,h1⟩:=h1
 obtain⟨M,h2⟩:=h2
 refine⟨L++M, ?_⟩
 have e:cs.drop o=(cs.drop o).take k++cs.drop (o+k):=by rw [←List.drop_drop,List.take_append_drop]
 rw [e]
 exact DVs.app h2 h1
theorem HasD.fin {w:World} {cs:List Value} {o:Nat} (h:cs.length=o):HasD w [] (cs.drop o):=by
 rw [List.drop_of_length_le (by omega)]
 exact⟨[], .nil⟩
theorem HasD.one {w:World} {d:D} {v:Value} {L:List Nat} (h:DV (hpz w) true d v L):HasD w [d] [v]:=⟨L++[], .cons _ _ _ _ _ _ h .nil⟩
section
variable {H : Type} {enc : TypeId × Value → H} {w : World} {sp : Nat → Bool} {hd : Bool} {fuel : Nat} {cs : List Value} {x : DataW H × List MemPlace}
theorem of_wf {n:Int} (h:(Lit.int .i64 n).wf=true):inR n:=by
 simp only [Lit.wf,Bool.and_eq_true,decide_eq_true_eq] at h
 exact⟨h.1,h.2⟩
def shp (P:Program) (t:TypeId):List (TypeId×Nat):=match P.underlying t with
 | some (.struct fs)=>fs.toList.map fun f=>(f.type,f.offset)
 | _=>[]
theorem st_rd {t:TypeId} {l:List (TypeId×Nat)} (hs:shp P t=l) (hne:l≠[]) (h:DataW.trod enc P w 0 sp hd fuel t cs=some x):
  ∃n,fuel=n+1∧cs.length=P.cellsOf t∧∀(i:Nat) (p:TypeId×Nat),l[i]? =some p→∃y,DataW.trod enc P w 0 sp hd n p.1 ((cs.drop p.2).take (P.cellsOf p.1))=some y:=by
 unfold shp at hs
 split at hs
 ·rename_i fs hu
  obtain⟨xs,n,h1, -,h3,h4,h5⟩:=DataW.trod_struct hu h
  refine⟨n,h1,h3,fun i p hp=> ?_⟩
  rw [←hs,List.getElem?_map] at hp
  obtain⟨f,hf,rfl⟩:=Option.map_eq_some_iff.1 hp
  have h6:=h5 i f (by simpa using hf)
  have hi:i<xs.length:=by
   rw [h4]
   have:=(List.getElem?_eq_some_iff.1 hf).1
   simpa using this
  exact⟨xs[i],by rw [h6,List.getElem?_eq_getElem hi]⟩
 ·exact absurd hs.symm hne
theorem rd_intk {t:TypeId} (ht:P.underlying t=some (.int .i64)) (h:DataW.trod enc P w 0 sp hd fuel t cs=some x):∃n:Int,inR n∧HasD w [.int .i64 n] cs:=by
 obtain⟨n,rfl, -,hw⟩:=DataW.trod_int ht h
 exact⟨n,of_wf hw, .one (.int _ _)⟩
theorem rd_int (h:DataW.trod enc P w 0 sp hd fuel 3 cs=some x):∃n:Int,inR n∧HasD w [.int .i64 n] cs:=rd_intk un3 h
theorem rd_bool (h:DataW.trod enc P w 0 sp hd fuel 4 cs=some x):∃b:Bool,HasD w [.bool b] cs:=by
 obtain⟨b,rfl, -⟩:=DataW.trod_bool un4 h
 exact⟨b, .one (.bool _)⟩
theorem sl_rd {α:Type} {Good:α→Prop} {enc':α→List D} {sz:Nat} {t e:TypeId} (ht:P.underlying t=some (.slice e)) (hc:P.cellsOf e=sz) (hsz:0<sz) (hlen:∀a,(enc' a).length=sz) (hblk:∃(b:Nat) (arr:Array Value) (el:TypeId) (fz:Nat×Nat),w.heap[b]? =some (Obj.cells arr el fz))
  (he:∀m,m<fuel→∀(cs:List Value) (x:DataW H×List MemPlace),DataW.trod enc P w 0 (fun _=>true) hd m e cs=some x→∃a,Good a∧HasD w (enc' a) cs)
  (h:DataW.trod enc P w 0 (fun _=>true) hd fuel t cs=some x):∃(xs:List α) (d:D),Sl sz enc' xs d∧xs.length≤9223372036854775807∧(∀a∈xs,Good a)∧HasD w [d] cs:=by
 classical
 rcases DataW.trod_slice ht h with⟨rfl, -⟩| ⟨a,len,cap,elems,rest,n,hfu,rfl, -, -,hlc,hcap,hel,hat,hsp, -⟩
 ·exact⟨[], .nils, .inl ⟨rfl,rfl⟩,by simp,by simp, .one .nils⟩
 rw [hc] at hat hsp
 obtain⟨hr1,hr2⟩:=hsp rfl
 have hall:∀i,i<cap→∃cs',w.cells? 0 (a.add (i * sz)) sz=some cs'∧(i<len→∃y,DataW.trod enc P w 0 (fun _=>true) hd n e cs'=some y):=by
  intro i hi
  by_cases hil:i<len
  ·have h1:=hat i hil
   rw [List.getElem?_eq_getElem (by omega)] at h1
   obtain⟨cs',h2,h3⟩:=Option.bind_eq_some_iff.1 h1
   exact⟨cs',h2,fun _=>⟨_,h3⟩⟩
  ·have h1:=(hsp rfl).2 (i - len) (by omega)
   rw [List.getElem?_eq_getElem (by rw [hr1];omega),show len+(i - len)=i by omega] at h1
   obtain⟨cs',h2,h3⟩:=Option.bind_eq_some_iff.1 h1
   exact⟨cs',h2,fun h=>absurd h hil⟩
 have hmax:len≤9223372036854775807:=Nat.le_trans hlc (Nat.le_trans hcap (by decide))
 by_cases hc0:cap=0
 ·obtain rfl:len=0:=by omega
  obtain⟨b,arr,el,fz,hb⟩:=hblk
  exact⟨[], .sl sz [] 0, .inr rfl,by simp,by simp, .one (.sl sz [] 0 a cap ⟨b,0,0⟩ arr el fz [] [] hb hlc (by rw [hc0,Nat.zero_mul]) (by simp) (by simp) (fun h=>by cases h) (fun i x hx=>by simp at hx) (fun h=>by omega) .nil)⟩
 have hcell:∀i j,i<cap→j<sz→∃v,w.cell? (a.add (i * sz+j))=some v:=by
  intro i j hi hj
  obtain⟨cs',h1, -⟩:=hall i hi
  obtain⟨-,h2,h3⟩:=World.cells?_some h1
  have h4:=h3 j hj
  rw [List.getElem?_eq_getElem (by omega)] at h4
  refine⟨cs'[j], ?_⟩
  rw [←h4]
  congr 1
  unfold Addr.add
  by_cases q1:i * sz=0
  ·simp [q1]
  ·by_cases q2:j=0
   ·simp [q2]
   ·simp [q1,q2,Nat.add_assoc]
 obtain⟨v0,hv0⟩:=hcell 0 0 (by omega) hsz
 simp only [Nat.zero_mul,Nat.add_zero] at hv0
 have ha0:a.add 0=a:=by simp [Addr.add]
 rw [ha0] at hv0
 unfold World.cell? at hv0
 split at hv0
 rotate_left
 ·cases hv0
 rename_i arr el fz hblk'
 split at hv0
 ·cases hv0
 rename_i hspot
 have hsn:a.spot=none:=by
  cases hs:a.spot with
  | none=>rfl
  | some q=>rw [hs] at hspot;simp at hspot
 have hae:a=⟨a.block,a.off,none⟩:=by obtain⟨b,o,s⟩:=a;simp only at hsn;rw [hsn]
 have hadd:∀k,a.add k=⟨a.block,a.off+k,none⟩:=fun k=>by
  unfold Addr.add
  by_cases hk:k=0
  ·rw [if_pos hk,hk];exact hae
  ·rw [if_neg hk]
 have hget:∀k,w.cell? (a.add k)=arr[a.off+k]? :=fun k=>by
  rw [hadd]
  unfold World.cell?
  simp only [hblk']
  rfl
 have htot:a.off+cap * sz≤arr.size:=by
  obtain⟨v,hv⟩:=hcell (cap - 1) (sz - 1) (by omega) (by omega)
  rw [hget] at hv
  have:=(Array.getElem?_eq_some_iff.1 hv).1
  have e1:(cap - 1) * sz+sz=cap * sz:=by rw [←Nat.succ_mul];congr 1;omega
  omega
 have hseg:∀i,i<len→∃b:α,Good b∧HasD w (enc' b) (((arr.toList.drop a.off).drop (i * sz)).take sz):=by
  intro i hi
  obtain⟨cs',h1,h2⟩:=hall i (by omega)
  obtain⟨y,hy⟩:=h2 hi
  obtain⟨b,hb1,hb2⟩:=he n (by omega) cs' y hy
  refine⟨b,hb1, ?_⟩
  obtain⟨-,h3,h4⟩:=World.cells?_some h1
  have:cs'=((arr.toList.drop a.off).drop (i * sz)).take sz:=by
   apply List.ext_getElem?
   intro j
   by_cases hj:j<sz
   ·rw [←h4 j hj,List.getElem?_take_of_lt hj,List.getElem?_drop,List.getElem?_drop,Array.getElem?_toList]
    have:(a.add (i * sz)).add j=a.add (i * sz+j):=by
     rw [hadd,hadd]
     unfold Addr.add
     by_cases hj0:j=0
     ·simp [hj0]
     ·simp [hj0,Nat.add_assoc]
    rw [this,hget]
   ·rw [List.getElem?_eq_none (by omega),List.getElem?_eq_none (by rw [List.length_take];omega)]
  rw [←this];exact hb2
 have hlist:∀k,k≤len→∃xs:List α,xs.length=k∧(∀b∈xs,Good b)∧HasD w (rows enc' xs) ((arr.toList.drop a.off).take (k * sz)):=by
  intro k
  induction k with
  | zero=>intro _;exact⟨[],rfl,by simp,[],by rw [Nat.zero_mul,List.take_zero];exact .nil⟩
  | succ k ih=>
   intro hk
   obtain⟨xs,h1,h2,L,h3⟩:=ih (by omega)
   obtain⟨b,h4,M,h5⟩:=hseg k (by omega)
   refine⟨xs++[b],by simp [h1],fun c hcm=> ?_,L++M, ?_⟩
   ·rcases List.mem_append.1 hcm with h | h
    ·exact h2 c h
    ·rw [List.mem_singleton] at h;subst h;exact h4
   ·have e1:(arr.toList.drop a.off).take ((k+1) * sz)=(arr.toList.drop a.off).take (k * sz)++((arr.toList.drop a.off).drop (k * sz)).take sz:=by rw [Nat.succ_mul,List.take_add]
    rw [e1,rows_app]
    have:rows enc' [b]=enc' b:=by simp [rows]
    rw [this]
    exact DVs.app h5 h3
 obtain⟨xs,hx1,hx2,L,hx3⟩:=hlist len (Nat.le_refl _)
 subst hx1
 refine⟨xs, .sl sz (rows enc' xs) xs.length, .inr rfl,by omega,hx2, .one (.sl sz (rows enc' xs) xs.length a cap ⟨a.block,a.off,cap * sz⟩ arr el fz ((arr.toList.drop a.off).take (xs.length * sz)) L hblk' (by omega) rfl htot ?_ (fun h=>by cases h) (fun i v hv=> ?_) (fun _=>hae) hx3)⟩
 ·rw [rows_length hlen];exact Nat.mul_le_mul_right _ hlc
 ·have hi:i<xs.length * sz:=by
   have:=(List.getElem?_eq_some_iff.1 hv).1
   rw [List.length_take] at this
   omega
  rw [List.getElem?_take_of_lt hi,List.getElem?_drop,Array.getElem?_toList] at hv
  exact hv
end
end Go.S9
namespace Go.S9
open Go.Ev Go.Proofs
set_option maxRecDepth 100000
set_option linter.unusedVariables false
set_option linter.unusedSimpArgs false
theorem sh23:shp P 23=[(3,0),(3,1)]:=by kernel_rfl
theorem sh90:shp P 90=[(3,0),(3,1)]:=by kernel_rfl
theorem sh83:shp P 83=[(3,0),(3,1),(3,2),(3,3),(3,4)]:=by kernel_rfl
theorem sh100:shp P 100=[(3,0),(3,1),(3,2)]:=by kernel_rfl
theorem sh72:shp P 72=[(70,0),(42,1)]:=by kernel_rfl
theorem sh41:shp P 41=[(3,0),(3,1),(3,2),(3,3),(3,4),(30,5)]:=by kernel_rfl
theorem sh47:shp P 47=[(30,0),(4,1),(41,2),(23,8),(3,10),(42,11),(43,12),(44,13),(45,14)]:=by kernel_rfl
section
variable {H : Type} {enc : TypeId × Value → H} {w : World} {hd : Bool} {fuel : Nat} {cs : List Value} {x : DataW H × List MemPlace}
theorem rd23 {sp:Nat→Bool} (h:DataW.trod enc P w 0 sp hd fuel 23 cs=some x):∃a b:Int,inR a∧inR b∧HasD w [.int .i64 a, .int .i64 b] cs:=by
 obtain⟨n, -,hl,hf⟩:=st_rd sh23 (by simp) h
 rw [ce23] at hl
 obtain⟨_,h0⟩:=hf 0 _ rfl
 obtain⟨_,h1⟩:=hf 1 _ rfl
 rw [ce3] at h0 h1
 obtain⟨a,ia,h0⟩:=rd_int h0
 obtain⟨b,ib,h1⟩:=rd_int h1
 exact⟨a,b,ia,ib,by rw [←List.drop_zero (l:=cs)];exact .seg 1 h0 (.seg 1 h1 (.fin hl))⟩
theorem rd90 {sp:Nat→Bool} (h:DataW.trod enc P w 0 sp hd fuel 90 cs=some x):∃s:Read,(inR s.mark∧inR s.station)∧HasD w (eRead s) cs:=by
 obtain⟨n, -,hl,hf⟩:=st_rd sh90 (by simp) h
 rw [ce90] at hl
 obtain⟨_,h0⟩:=hf 0 _ rfl
 obtain⟨_,h1⟩:=hf 1 _ rfl
 rw [ce3] at h0 h1
 obtain⟨a,ia,h0⟩:=rd_int h0
 obtain⟨b,ib,h1⟩:=rd_int h1
 exact⟨⟨a,b⟩,⟨ia,ib⟩,by rw [←List.drop_zero (l:=cs)];exact .seg 1 h0 (.seg 1 h1 (.fin hl))⟩
theorem rd100 {sp:Nat→Bool} (h:DataW.trod enc P w 0 sp hd fuel 100 cs=some x):∃s:Raise,HasD w (eRaise s) cs:=by
 obtain⟨n, -,hl,hf⟩:=st_rd sh100 (by simp) h
 rw [ce100] at hl
 obtain⟨_,h0⟩:=hf 0 _ rfl
 obtain⟨_,h1⟩:=hf 1 _ rfl
 obtain⟨_,h2⟩:=hf 2 _ rfl
 rw [ce3] at h0 h1 h2
 obtain⟨a, -,h0⟩:=rd_int h0
 obtain⟨b, -,h1⟩:=rd_int h1
 obtain⟨c, -,h2⟩:=rd_int h2
 exact⟨⟨a,b,c⟩,by rw [←List.drop_zero (l:=cs)];exact .seg 1 h0 (.seg 1 h1 (.seg 1 h2 (.fin hl)))⟩
theorem rd83 {sp:Nat→Bool} (h:DataW.trod enc P w 0 sp hd fuel 83 cs=some x):∃s:Posting,HasD w (ePost s) cs:=by
 obtain⟨n, -,hl,hf⟩:=st_rd sh83 (by simp) h
 rw [ce83] at hl
 obtain⟨_,h0⟩:=hf 0 _ rfl
 obtain⟨_,h1⟩:=hf 1 _ rfl
 obtain⟨_,h2⟩:=hf 2 _ rfl
 obtain⟨_,h3⟩:=hf 3 _ rfl
 obtain⟨_,h4⟩:=hf 4 _ rfl
 rw [ce3] at h0 h1 h2 h3 h4
 obtain⟨a, -,h0⟩:=rd_int h0
 obtain⟨b, -,h1⟩:=rd_int h1
 obtain⟨c, -,h2⟩:=rd_int h2
 obtain⟨d, -,h3⟩:=rd_int h3
 obtain⟨e, -,h4⟩:=rd_int h4
 exact⟨⟨a,b,c,d,e⟩,by rw [←List.drop_zero (l:=cs)];exact .seg 1 h0 (.seg 1 h1 (.seg 1 h2 (.seg 1 h3 (.seg 1 h4 (.fin hl)))))⟩
theorem rd41 {sp:Nat→Bool} (h:DataW.trod enc P w 0 sp hd fuel 41 cs=some x):∃a b c d e f:Int,inR a∧inR b∧inR c∧inR d∧inR e∧inR f∧HasD w [.int .i64 a, .int .i64 b, .int .i64 c, .int .i64 d, .int .i64 e, .int .i64 f] cs:=by
 obtain⟨n, -,hl,hf⟩:=st_rd sh41 (by simp) h
 rw [ce41] at hl
 obtain⟨_,h0⟩:=hf 0 _ rfl
 obtain⟨_,h1⟩:=hf 1 _ rfl
 obtain⟨_,h2⟩:=hf 2 _ rfl
 obtain⟨_,h3⟩:=hf 3 _ rfl
 obtain⟨_,h4⟩:=hf 4 _ rfl
 obtain⟨_,h5⟩:=hf 5 _ rfl
 rw [ce3] at h0 h1 h2 h3 h4
 rw [ce30] at h5
 obtain⟨a,ia,h0⟩:=rd_int h0
 obtain⟨b,ib,h1⟩:=rd_int h1
 obtain⟨c,ic,h2⟩:=rd_int h2
 obtain⟨d,id,h3⟩:=rd_int h3
 obtain⟨e,ie,h4⟩:=rd_int h4
 obtain⟨f,ig,h5⟩:=rd_intk un30 h5
 exact⟨a,b,c,d,e,f,ia,ib,ic,id,ie,ig,by rw [←List.drop_zero (l:=cs)];exact .seg 1 h0 (.seg 1 h1 (.seg 1 h2 (.seg 1 h3 (.seg 1 h4 (.seg 1 h5 (.fin hl))))))⟩
abbrev Blk0 (w:World):Prop:=∃(b:Nat) (arr:Array Value) (el:TypeId) (fz:Nat×Nat),w.heap[b]? =some (Obj.cells arr el fz)
abbrev all1:Nat→Bool:=fun _=>true
theorem rd42 (hb:Blk0 w) (h:DataW.trod enc P w 0 all1 hd fuel 42 cs=some x):∃(xs:List Int) (d:D),Sl 1 eInt xs d∧xs.length≤9223372036854775807∧(∀y∈xs,inR y)∧HasD w [d] cs:=
 sl_rd (Good:=inR) (enc':=eInt) un42 ce3 (by decide) eInt_len hb (fun m hm cs x h=>rd_int h) h
theorem rd70 (hb:Blk0 w) (h:DataW.trod enc P w 0 all1 hd fuel 70 cs=some x):∃(xs:List Read) (d:D),Sl 2 eRead xs d∧xs.length≤9223372036854775807∧(∀y∈xs,inR y.mark∧inR y.station)∧HasD w [d] cs:=
 sl_rd (Good:=fun s:Read=>inR s.mark∧inR s.station) (enc':=eRead) un70 ce90 (by decide) eRead_len hb (fun m hm cs x h=>rd90 h) h
theorem rd91 (hb:Blk0 w) (h:DataW.trod enc P w 0 all1 hd fuel 91 cs=some x):∃s:Proof,PfOK s∧HasD w (eProof s) cs:=by
 obtain⟨xs,d,h1,h2, -,h3⟩:=sl_rd (Good:=fun _=>True) (enc':=eRaise) un91 ce100 (by decide) eRaise_len hb (fun m hm cs x h=>by obtain⟨s,hs⟩:=rd100 h;exact⟨s,trivial,hs⟩) h
 exact⟨⟨xs,d⟩,⟨h1,h2⟩,h3⟩
theorem rd72 (hb:Blk0 w) (h:DataW.trod enc P w 0 all1 hd fuel 72 cs=some x):∃s:Reading,RdOK s∧HasD w (eReading s) cs:=by
 obtain⟨n, -,hl,hf⟩:=st_rd sh72 (by simp) h
 rw [ce72] at hl
 obtain⟨_,h0⟩:=hf 0 _ rfl
 obtain⟨_,h1⟩:=hf 1 _ rfl
 rw [ce70] at h0
 rw [ce42] at h1
 obtain⟨a,da,a1,a2,a3,h0⟩:=rd70 hb h0
 obtain⟨b,db,b1,b2,b3,h1⟩:=rd42 hb h1
 exact⟨⟨a,da,b,db⟩,⟨a1,a2,b1,b2,a3,b3⟩,by rw [←List.drop_zero (l:=cs)];exact .seg 1 h0 (.seg 1 h1 (.fin hl))⟩
theorem rd47 (hb:Blk0 w) (h:DataW.trod enc P w 0 all1 hd fuel 47 cs=some x):∃r:Reply,ReplyOK r∧HasD w (eReply r) cs:=by
 obtain⟨n, -,hl,hf⟩:=st_rd sh47 (by simp) h
 rw [ce47] at hl
 obtain⟨_,h0⟩:=hf 0 _ rfl
 obtain⟨_,h1⟩:=hf 1 _ rfl
 obtain⟨_,h2⟩:=hf 2 _ rfl
 obtain⟨_,h3⟩:=hf 3 _ rfl
 obtain⟨_,h4⟩:=hf 4 _ rfl
 obtain⟨_,h5⟩:=hf 5 _ rfl
 obtain⟨_,h6⟩:=hf 6 _ rfl
 obtain⟨_,h7⟩:=hf 7 _ rfl
 obtain⟨_,h8⟩:=hf 8 _ rfl
 rw [ce30] at h0
 rw [ce4] at h1
 rw [ce41] at h2
 rw [ce23] at h3
 rw [ce3] at h4
 rw [ce42] at h5
 rw [ce43] at h6
 rw [ce44] at h7
 rw [ce45] at h8
 obtain⟨e0,i0,h0⟩:=rd_intk un30 h0
 obtain⟨y,h1⟩:=rd_bool h1
 obtain⟨j0,j1,j2,j3,j4,j5,k0,k1,k2,k3,k4,k5,h2⟩:=rd41 h2
 obtain⟨lo,hi,i3,i3',h3⟩:=rd23 h3
 obtain⟨pe,i4,h4⟩:=rd_int h4
 obtain⟨l,dl,l1,l2,l3,h5⟩:=rd42 hb h5
 obtain⟨p,dp,p1,p2, -,h6⟩:=sl_rd (Good:=fun _=>True) (enc':=ePost) un43 ce83 (by decide) ePost_len hb (fun m hm cs x h=>by obtain⟨s,hs⟩:=rd83 h;exact⟨s,trivial,hs⟩) h6
 obtain⟨g,dg,g1,g2,g3,h7⟩:=sl_rd (Good:=RdOK) (enc':=eReading) un44 ce72 (by decide) eReading_len hb (fun m hm cs x h=>rd72 hb h) h7
 obtain⟨f,df,f1,f2,f3,h8⟩:=sl_rd (Good:=PfOK) (enc':=eProof) un45 ce91 (by decide) eProof_len hb (fun m hm cs x h=>rd91 hb h) h8
 refine⟨⟨e0,y,j0,j1,j2,j3,j4,j5,lo,hi,pe,l,dl,p,dp,g,dg,f,df⟩,⟨i0,k0,k1,k2,k3,k4,k5,i3,i3',i4,l1,l2,l3,p1,p2,g1,g2,g3,f1,f2,f3⟩, ?_⟩
 have h9:=HasD.seg 1 h0 (.seg 1 h1 (.seg 6 h2 (.seg 2 h3 (.seg 1 h4 (.seg 1 h5 (.seg 1 h6 (.seg 1 h7 (.seg 1 h8 (.fin hl)))))))))
 exact h9
end
end Go.S9
