/- A part of the proof of TribunalBack. -/
import Derived.Test.YtmmghibnfjfnbaaGreatDoorBAc
import Derived.Lib.ItoaNum
import Derived.Lib.Split
import Derived.Lib.IndexMore
import Derived.Lib.Join
import Derived.Lib.Atoi
import Derived.Lib.LaidTab
import Derived.Lib.SmallJoins
import Derived.Sort.Grow
import Derived.Deep.Draws
import Derived.WalkSmall
import Derived.Test.YtmmghibnfjfnbaaGreatDoorProg
import Derived.KernelRfl
import Derived.Sort.EncStr
set_option linter.unusedVariables false
set_option linter.unusedSimpArgs false
namespace Go.Ev
open Go.RowKit
set_option linter.unusedVariables false
set_option linter.unusedSimpArgs false
section
variable {P : Program} {G : Globals}
theorem EntryOK.of_calls (hG:GFlat G) {f:FuncId} {ds:List D} {d:D} (h:∀(w:World) (vs:Array Value) (L:List Nat),GlobOK G w→DVs (hpz w) true ds vs.toList L→
  Calls P f vs w fun e w'=>∃x M,e= .returned x∧Below w.heap.size w w'∧DV (hpz w') false d x M∧M.Nodup∧∀j∈M,w.heap.size≤j):EntryOK P G f ds d:=by
 intro args H hrd k hk μ w vs hh hvs
 unfold rds at hrd
 split at hrd
 ·rename_i ds' I hrx
  cases hrd
  obtain⟨L,hL,_⟩:=(rdx_ok (own:=false) 1000).2 hrx hh.toHRg hvs
  have hgl:GlobOK G w:=fun g cs hg=>by
   obtain⟨arr,el,fz,ha,hz,hv⟩:=hh.glob g cs hg
   exact⟨arr,el,fz,ha,hz,fun i c hc=>let ⟨v,h1,h2⟩:=hv i c hc;⟨v,h1,scal_any (List.all_eq_true.1 (hG g cs hg) c (List.mem_of_getElem? hc)) h2⟩⟩
  refine CallsIn.mono (callsIn_wide.2 (h w vs L hgl hL)) fun en w' ⟨x,M,he,hb,hd,hnd,hfresh⟩=> ?_
  subst he
  have hsame:∀j,j<w.heap.size→w'.heap[j]? =w.heap[j]? :=hb.block
  have hh':HR G μ H w':=hh.world (fun b x p hb hp=>hsame _ (hh.lt hb hp)) (fun g cs hg=>hsame _ (hh.globlt hg)) fun j o hj=>hsame _ (hh.frolt hj)
  obtain⟨v',H',μ',k1,laid,hv'⟩:=(al_ok (w:=w') (ro:=false) 1000).1 hk hh' hd ⟨fun _=>⟨hnd,fun j hj=>⟨fun c z q hc hq he=>by
    have:=hh.lt hc hq
    have:=hfresh j hj
    omega,fun g cs hg he=>by
    have:=hh.globlt hg
    have:=hfresh j hj
    omega,by
    cases hz:μ.z j with
    | none=>rfl
    | some o=>have:=hh.frolt hz;have:=hfresh j hj;omega⟩⟩,fun hr=>(by cases hr)⟩
  refine⟨.ret v',μ',H',laid.hr,⟨laid.mu,laid.below,fun b hb hg=>by rw [laid.keep b hb];exact hg,laid.nx,hb.size,fun j hj _=>hsame j hj,fun b x p hb hp=> ?_,hb.os, ?_,fun j o hj=> .inl (by rw [←laid.zeq];exact hj)⟩, .ret _ _ hv',k1⟩
  ·by_cases hbn:b<H.nx
   ·rw [laid.keep b hbn] at hb
    rw [laid.below b hbn] at hp
    exact .inr ⟨b,x,p,hb,hp,rfl,id⟩
   ·exact .inl (hfresh _ (laid.new b x p (Nat.le_of_not_lt hbn) hb hp).1)
  ·show (w'.output,w'.tape)=(w.output,w.tape)
   rw [hb.output,hb.tape]
 ·cases hrd
def bb (l:List Nat):ByteArray:=⟨(l.map UInt8.ofNat).toArray⟩
theorem bb_of {s:ByteArray} {l:List Nat} (h:s.data.toList.map UInt8.toNat=l):s=bb l:=by
 subst h
 have:(s.data.toList.map UInt8.toNat).map UInt8.ofNat=s.data.toList:=by
  rw [List.map_map]
  exact (List.map_congr_left (g:=id) fun a _=>by simp).trans (List.map_id _)
 unfold bb
 rw [this]
theorem bb_list (l:List Nat):(bb l).data.toList=l.map UInt8.ofNat:=by simp [bb]
theorem DVs.str1 {w:Nat→Option Obj} {ro:Bool} {l:List Nat} {vs:Array Value} {L:List Nat} (h:DVs w ro [.str l] vs.toList L):vs=#[.string (bb l)]:=by
 obtain⟨vs⟩:=vs
 cases h with
 | cons _ v _ _ vs' _ h hs=>
  cases hs
  cases h with
  | str s _ h=>rw [bb_of h]
theorem DVs.str2 {w:Nat→Option Obj} {ro:Bool} {l m:List Nat} {vs:Array Value} {L:List Nat} (h:DVs w ro [.str l, .str m] vs.toList L):vs=#[.string (bb l), .string (bb m)]:=by
 obtain⟨vs⟩:=vs
 cases h with
 | cons _ v _ _ vs' _ h hs=>
  cases hs with
  | cons _ v _ _ vs' _ h' hs=>
   cases hs
   cases h with
   | str s _ h=>
    cases h' with
    | str s _ h'=>rw [bb_of h,bb_of h']
theorem DVs.int1 {w:Nat→Option Obj} {ro:Bool} {k:IntKind} {n:Int} {vs:Array Value} {L:List Nat} (h:DVs w ro [.int k n] vs.toList L):vs=#[.int k n]:=by
 obtain⟨vs⟩:=vs
 cases h with
 | cons _ v _ _ vs' _ h hs=>cases hs;cases h;rfl
theorem DV.strOf (w:Nat→Option Obj) (ro:Bool) {xs:List UInt8} {l:List Nat} (h:xs.map UInt8.toNat=l):DV w ro (.str l) (.string ⟨xs.toArray⟩) []:= .str _ _ (by simpa using h)
theorem GlobOK.ints {w:World} (h:GlobOK G w) {g:Nat} {k:IntKind} {zs:List Int} (hg:G g=some (zs.map (AV.int k))):∃el fz,w.heap[g]? =some (.cells (zs.map (Value.int k)).toArray el fz):=by
 obtain⟨arr,el,fz,ha,hz,hv⟩:=h g _ hg
 refine⟨el,fz, ?_⟩
 rw [ha]
 have:arr=(zs.map (Value.int k)).toArray:=by
  refine Array.ext_getElem? fun i=> ?_
  cases hc:zs[i]? with
  | none=>
   have h1:=List.getElem?_eq_none_iff.1 hc
   rw [Array.getElem?_eq_none (by rw [hz,List.length_map];exact h1)]
   simp [hc]
  | some z=>
   obtain⟨v,h1,h2⟩:=hv i (.int k z) (by simp [hc])
   cases h2
   simp [h1,hc]
 rw [this]
theorem GlobOK.tabIs {w:World} (h:GlobOK G w) {g:Nat} {k:IntKind} {zs:List Int} {name:String} (hg:G g=some (zs.map (AV.int k))) (hn:P.globalNamed name=some g):Lib.TabIs P w name k zs:=by
 obtain⟨el,fz,ha⟩:=h.ints hg
 unfold Lib.TabIs World.var?
 rw [hn]
 simp [ha,Function.comp_def]
def itoaB (ds:List D) (d:D):Bool:=match ds,d with
 | [.int .i64 n], .str l=>decide (-9223372036854775808≤n∧n≤9223372036854775807∧(Lib.itoa n).map UInt8.toNat=l)
 | _,_=>false
def ItoaC (P:Program) (f:FuncId):Prop:=∀(n:Int), -9223372036854775808≤n→n≤9223372036854775807→∀(w:World),Lib.TabIs P w "internal/strconv.uint64pow10" .u64 Lib.pow10Tab→
 Calls P f #[.int .i64 n] w fun e w'=>e= .returned (.string ⟨(Lib.itoa n).toArray⟩)∧∃k os,w'=Sort.grow (w.drewN k) os
theorem below_grow (w:World) (k:Nat) (os:Array Obj):Below w.heap.size w (Sort.grow (w.drewN k) os):=
 ⟨rfl,rfl,rfl,by simp [Sort.grow],fun j hj=>by simp [Sort.grow,Array.getElem?_append_left hj]⟩
theorem itoa_entry {f:FuncId} (hc:ItoaC P f) {g:Nat} (hn:P.globalNamed "internal/strconv.uint64pow10" =some g) (hG:GFlat G) (hg:G g=some (Lib.pow10Tab.map (AV.int .u64))) {ds:List D} {d:D} (h:itoaB ds d=true):EntryOK P G f ds d:=by
 unfold itoaB at h
 split at h
 ·obtain⟨h1,h2,h3⟩:=of_decide_eq_true h
  refine .of_calls hG fun w vs L hw hvs=> ?_
  rw [hvs.int1]
  refine (hc _ h1 h2 w (hw.tabIs hg hn)).mono fun e w' ⟨he,k,os,hw'⟩=>⟨_,[],he, ?_, .strOf _ _ h3, .nil,fun j hj=>by cases hj⟩
  rw [hw']
  exact below_grow w k os
 ·cases h
def atoiB (ds:List D) (d:D):Bool:=match ds,d with
 | [.str l], .tup [.int .i64 n, .nili]=>decide (l.length≤18∧Lib.atoi (l.map UInt8.ofNat)=some n)
 | _,_=>false
def AtoiC (P:Program) (f:FuncId) (t:TypeId):Prop:=∀(s:ByteArray) (n:Int),s.size≤18→Lib.atoi s.data.toList=some n→∀(w:World),
 Calls P f #[.string s] w fun e w'=>e= .returned (.tuple #[.int .i64 n, .nilIface])∧∃s,w'=Lib.bytesWorld w t s
theorem bb_size (l:List Nat):(bb l).size=l.length:=by simp [bb,ByteArray.size]
theorem atoi_entry {f:FuncId} {t:TypeId} (hc:AtoiC P f t) (hG:GFlat G) {ds:List D} {d:D} (h:atoiB ds d=true):EntryOK P G f ds d:=by
 unfold atoiB at h
 split at h
 ·obtain⟨h1,h2⟩:=of_decide_eq_true h
  refine .of_calls hG fun w vs L hw hvs=> ?_
  rw [hvs.str1]
  rename_i l n
  refine (hc (bb l) n (by rw [bb_size];exact h1) (by rw [bb_list];exact h2) w).mono fun e w' ⟨he,s,hw'⟩=>⟨_,[],he, ?_, ?_, .nil,fun j hj=>by cases hj⟩
  ·rw [hw']
   exact Joins.below_bytesWorld _ _ _ _ (Nat.le_refl _)
  ·exact .tup _ _ [] (.cons _ _ [] _ _ [] (.int _ _) (.cons _ _ [] _ _ [] .nili .nil))
 ·cases h
def cutB (ds:List D) (d:D):Bool:=match ds,d with
 | [.str l, .str s], .tup [.str a, .str b, .bool c]=>decide (l.length<4294967281∧(Lib.cut (l.map UInt8.ofNat) (s.map UInt8.ofNat)).1.map UInt8.toNat=a∧
   (Lib.cut (l.map UInt8.ofNat) (s.map UInt8.ofNat)).2.1.map UInt8.toNat=b∧(Lib.cut (l.map UInt8.ofNat) (s.map UInt8.ofNat)).2.2=c)
 | _,_=>false
def CutC (P:Program) (f:FuncId) (g:Nat):Prop:=∀(s sep:ByteArray) (m:Int) (w:World),s.size<4294967281→w.cell? {block:=g,off:=0}=some (.int .i64 m)→
 Calls P f #[.string s, .string sep] w fun e w'=>e= .returned (.tuple #[.string ⟨(Lib.cut s.data.toList sep.data.toList).1.toArray⟩, .string ⟨(Lib.cut s.data.toList sep.data.toList).2.1.toArray⟩,
  .bool (Lib.cut s.data.toList sep.data.toList).2.2])∧∃n,w'=w.drewN n
theorem GlobOK.int1 {w:World} (h:GlobOK G w) {g:Nat} {m:Int} (hg:G g=some [.int .i64 m]):w.cell? {block:=g,off:=0}=some (.int .i64 m):=by
 obtain⟨el,fz,ha⟩:=h.ints (zs:=[m]) hg
 simp [World.cell?,ha]
theorem cut_entry {f:FuncId} {g:Nat} (hc:CutC P f g) (hG:GFlat G) {m:Int} (hg:G g=some [.int .i64 m]) {ds:List D} {d:D} (h:cutB ds d=true):EntryOK P G f ds d:=by
 unfold cutB at h
 split at h
 ·obtain⟨h1,h2,h3,h4⟩:=of_decide_eq_true h
  refine .of_calls hG fun w vs L hw hvs=> ?_
  rw [hvs.str2]
  refine (hc _ _ m w (by rw [bb_size];exact h1) (hw.int1 hg)).mono fun e w' ⟨he,n,hw'⟩=>⟨_,[],he, ?_, ?_, .nil,fun j hj=>by cases hj⟩
  ·rw [hw']
   exact below_drewN (Below.refl _ _) n
  ·rw [bb_list,bb_list,h4]
   exact .tup _ _ [] (.cons _ _ [] _ _ [] (.strOf _ _ h2) (.cons _ _ [] _ _ [] (.strOf _ _ h3) (.cons _ _ [] _ _ [] (.bool _) .nil)))
 ·cases h
def strsOf:List D→Option (List (List Nat))
 | []=>some []
 | .str l::ds=>match strsOf ds with
  | some ls=>some (l::ls)
  | none=>none
 | _=>none
theorem DVs.strs {w:Nat→Option Obj} {ro:Bool}:∀{ds:List D} {ls:List (List Nat)} {vs:List Value} {L:List Nat},strsOf ds=some ls→DVs w ro ds vs L→vs=ls.map fun l=> .string (bb l)
 | [],ls,vs,L,h,hv=>by cases h;cases hv;rfl
 | d::ds,ls,vs,L,h,hv=>by
  cases hv with
  | cons _ v _ _ vs' _ hd hs=>
   unfold strsOf at h
   split at h
   ·rename_i heq;cases heq
   ·rename_i heq
    cases heq
    split at h
    ·rename_i ls' hls
     cases h
     cases hd with
     | str s _ hd=>rw [bb_of hd,DVs.strs hls hs];rfl
    ·cases h
   ·cases h
theorem DVs.ofStrs (w:Nat→Option Obj) (ro:Bool):∀(xs:List ByteArray),DVs w ro (xs.map fun x=> .str (x.data.toList.map UInt8.toNat)) (xs.map Value.string) []
 | []=> .nil
 | x::xs=> .cons _ _ [] _ _ [] (.str _ _ rfl) (DVs.ofStrs w ro xs)
def splitB (ds:List D) (d:D):Bool:=match ds,d with
 | [.str l, .str s], .sl 1 cs n=>match strsOf cs with
  | some ls=>decide (l.length<4294967281∧1≤s.length∧n=Lib.countB (bb l) (bb s)+1∧(Lib.splitB (bb s) 0 (Lib.countB (bb l) (bb s)) (bb l)).map (fun x=>x.data.toList.map UInt8.toNat)=ls∧ls.length=n)
  | none=>false
 | _,_=>false
def SplitC (P:Program) (f:FuncId) (g:Nat) (t:TypeId):Prop:=∀(s sep:ByteArray) (m:Int) (w:World),s.size<4294967281→w.cell? {block:=g,off:=0}=some (.int .i64 m)→1≤sep.size→
 Calls P f #[.string s, .string sep] w fun e w'=>e= .returned (.slice (some {block:=w.heap.size,off:=0}) (Lib.countB s sep+1) (Lib.countB s sep+1))∧
  w'=w.alloc (.cells ((Lib.splitB sep 0 (Lib.countB s sep) s).map Value.string).toArray t)
theorem strsOf_eq:∀{cs:List D} {ls:List (List Nat)},strsOf cs=some ls→cs=ls.map D.str
 | [],ls,h=>by cases h;rfl
 | d::ds,ls,h=>by
  unfold strsOf at h
  split at h
  ·rename_i heq;cases heq
  ·rename_i heq
   cases heq
   split at h
   ·rename_i ls' hls
    cases h
    rw [strsOf_eq hls];rfl
   ·cases h
  ·cases h
theorem split_entry {f:FuncId} {g:Nat} {t:TypeId} (hc:SplitC P f g t) (hG:GFlat G) {m:Int} (hg:G g=some [.int .i64 m]) {ds:List D} {d:D} (h:splitB ds d=true):EntryOK P G f ds d:=by
 unfold splitB at h
 split at h
 ·split at h
  ·rename_i l sp cs n _ ls hls
   obtain⟨h1,h2,h3,h4,h5⟩:=of_decide_eq_true h
   refine .of_calls hG fun w vs L hw hvs=> ?_
   rw [hvs.str2]
   refine (hc _ _ m w (by rw [bb_size];exact h1) (hw.int1 hg) (by rw [bb_size];exact h2)).mono fun e w' ⟨he,hw'⟩=>⟨_,[w.heap.size],he, ?_, ?_,by simp,fun j hj=>by simp at hj;omega⟩
   ·rw [hw']
    exact (Below.refl _ _).alloc (Nat.le_refl _) _
   ·rw [strsOf_eq hls,←h3]
    have hlen:=congrArg List.length h4
    rw [List.length_map,h5] at hlen
    have hcell:w'.heap[w.heap.size]? =some (.cells ((Lib.splitB (bb sp) 0 (Lib.countB (bb l) (bb sp)) (bb l)).map Value.string).toArray t):=by
     rw [hw'];simp [World.alloc, -World.alloc_eq]
    refine .sl 1 _ _ _ _ ⟨w.heap.size,0,n⟩ _ t (0,0) ((Lib.splitB (bb sp) 0 (Lib.countB (bb l) (bb sp)) (bb l)).map Value.string) [] hcell (Nat.le_refl _) (Nat.mul_one _) ?_ ?_ (fun _=>rfl) (fun i x hx=> ?_) (fun _=>rfl) ?_
    ·simp;omega
    ·simp;omega
    ·simpa using hx
    ·rw [←h4,List.map_map]
     exact DVs.ofStrs _ _ _
  ·cases h
 ·cases h
def joinB (ds:List D) (d:D):Bool:=match ds,d with
 | [.nils, .str s], .str l=>decide (l=[])
 | [.sl 1 cs n, .str s], .str l=>match strsOf cs with
  | some ls=>decide (n≤ls.length∧n≤140737488355328∧l.length≤140737488355328∧(Lib.join ((ls.take n).map fun l=>l.map UInt8.ofNat) (s.map UInt8.ofNat)).map UInt8.toNat=l)
  | none=>false
 | _,_=>false
def JoinC (P:Program) (f:FuncId):Prop:=∀(bk o c:Nat) (xs:List ByteArray) (sep:ByteArray) (w:World),(∀(j:Nat) (x:ByteArray),xs[j]? =some x→w.cell? {block:=bk,off:=o+j}=some (.string x))→
 bk<w.heap.size→xs.length≤140737488355328→xs.length≤c→(Lib.join (xs.map fun x=>x.data.toList) sep.data.toList).length≤140737488355328→
 Calls P f #[.slice (some {block:=bk,off:=o}) xs.length c, .string sep] w fun e w'=>e= .returned (.string ⟨(Lib.join (xs.map fun x=>x.data.toList) sep.data.toList).toArray⟩)∧Below w.heap.size w w'
def JoinN (P:Program) (f:FuncId):Prop:=∀(a:Option Addr) (c:Nat) (sep:ByteArray) (w:World),Calls P f #[.slice a 0 c, .string sep] w fun e w'=>e= .returned (.string ⟨#[]⟩)∧w'=w
theorem join_entry {f:FuncId} (hc:JoinC P f) (hn:JoinN P f) (hG:GFlat G) {ds:List D} {d:D} (h:joinB ds d=true):EntryOK P G f ds d:=by
 unfold joinB at h
 split at h
 ·have h:=of_decide_eq_true h
  subst h
  refine .of_calls hG fun w vs L hw hvs=> ?_
  obtain⟨vs⟩:=vs
  cases hvs with
  | cons _ v _ _ vs' _ h hs=>
   cases hs with
   | cons _ v _ _ vs' _ h' hs=>
    cases hs
    cases h
    cases h' with
    | str s _ h'=>
     exact (hn none 0 s w).mono fun e w' ⟨he,hw'⟩=>⟨_,[],he,hw'▸Below.refl _ _, .str _ _ rfl, .nil,fun j hj=>by cases hj⟩
 ·split at h
  ·rename_i cs n sp l _ ls hls
   obtain⟨h1,h2,h3,h4⟩:=of_decide_eq_true h
   refine .of_calls hG fun w vs L hw hvs=> ?_
   obtain⟨vs⟩:=vs
   cases hvs with
   | cons _ v _ _ vs' _ h hs=>
    cases hs with
    | cons _ v _ _ vs' _ h' hs=>
     cases hs
     cases h' with
     | str s _ h'=>
      cases h with
      | sl _ _ _ a cap p arr el fz xs L hh hlc hcap ht hl hf hx ha hs=>
       rcases Nat.eq_zero_or_pos n with h0 | h0
       ·subst h0
        have h4:[]=l:=by simpa [Lib.join_nil] using h4
        subst h4
        exact (hn (some a) cap s w).mono fun e w' ⟨he,hw'⟩=>⟨_,[],he,hw'▸Below.refl _ _, .str _ _ rfl, .nil,fun j hj=>by cases hj⟩
       ·rw [ha (by omega)]
        have hxs:=hs.strs hls
        have hlen:((ls.take n).map bb).length=n:=by simp;omega
        have key:=hc p.blk p.base cap ((ls.take n).map bb) s w (fun j x hj=> ?_) ?_ (by rw [hlen];exact h2) (by rw [hlen];exact hlc) ?_
        ·rw [hlen] at key
         refine key.mono fun e w' ⟨he,hw'⟩=>⟨_,[],he,hw', .strOf _ _ ?_, .nil,fun j hj=>by cases hj⟩
         rw [←h4,bb_of h',bb_list,List.map_map]
         congr 2
        ·have hj':j<n:=by
          have:=List.getElem?_eq_some_iff.1 hj
          obtain⟨h,_⟩:=this
          rw [hlen] at h;exact h
         have:xs[j]? =some (.string x):=by
          rw [hxs]
          simp only [List.getElem?_map,List.getElem?_take,hj',if_true] at hj⊢
          cases hl:ls[j]? with
          | none=>simp [hl] at hj
          | some y=>simp [hl] at hj⊢;exact hj
         have h7:=hx j _ this
         have hh:w.heap[p.blk]? =_:=hh
         simp [World.cell?,hh,h7]
        ·exact (Array.getElem?_eq_some_iff.1 hh).1
        ·have:=congrArg List.length h4
         rw [List.length_map] at this
         rw [bb_of h',bb_list,List.map_map]
         have e:((fun x:ByteArray=>x.data.toList)∘bb)=fun l:List Nat=>l.map UInt8.ofNat:=funext fun l=>bb_list l
         rw [e,this];exact h3
  ·cases h
 ·cases h
end
theorem TabOK.prim {P:Program} {G:Globals} {T:Tab} (hT:TabOK P G T) {f:FuncId} {ds:List D} {d:D} (h:EntryOK P G f ds d):TabOK P G ((f,ds,d)::T):=by
 intro e he
 rcases List.mem_cons.1 he with rfl | he
 ·exact h
 ·exact hT e he
end Go.Ev
namespace Go.S9
open Go.Ev Go.Proofs
noncomputable section
noncomputable abbrev P:Program:=Tryz.prog
noncomputable def deB:List AV:=[0,1,56,2,57,49,28,3,61,58,42,50,38,29,17,4,62,47,59,36,45,43,51,22,53,39,33,30,24,18,12,5,63,55,48,27,60,41,37,16,46,35,44,21,52,32,23,11,54,26,40,15,34,20,31,10,25,14,19,9,13,8,7,6].map fun n=> .int .u8 (.ofNat n)
structure GP where
 k:Int
 t2:Nat
 b2:Nat
 o2:Nat
 t3:Nat
 b3:Nat
 o3:Nat
noncomputable def G (K:GP):Globals:=fun g=>match g with
 | 0=>some (Lib.pow10Tab.map (AV.int .u64))
 | 1=>some [.int .i64 K.k]
 | 2=>some [.ifc K.t2 (.gptr K.b2 K.o2)]
 | 3=>some [.ifc K.t3 (.gptr K.b3 K.o3)]
 | 7=>some deB
 | _=>none
theorem hG (K:GP):GFlat (G K):=fun g cs h=>by
 unfold G at h
 split at h<;>cases h<;>rfl
noncomputable abbrev subC (f:Nat) (p:List Nat):Code:=subF P f p
end
end Go.S9
namespace Go.Ev
set_option linter.unusedVariables false
noncomputable section
section
variable {P : Program} {G : Globals} {H : Hp} {k : AV → Bool}
def lk:List (Nat×AV)→Nat→AV→AV
 | [],_,d=>d
 | (j,v)::l,i,d=>lk l i (if i=j then v else d)
theorem E2.get_set_lt (e:E2) (i j:Nat) (v:AV) (hi:i<256) (hj:j<256):(E2.set e j v).get i=if i=j then v else e.get i:=by
 by_cases h:i=j
 ·subst h;rw [if_pos rfl,E2.get_set_same _ _ _ hi]
 ·rw [if_neg h,E2.get_set_ne _ _ _ _ hj hi h]
def smalls:List (Nat×AV)→Bool
 | []=>true
 | (j,_)::l=>decide (j<256)&&smalls l
theorem es_get:∀(l:List (Nat×AV)) (t:E2) (i:Nat),i<256→smalls l=true→(es t l).get i=lk l i (t.get i)
 | [],t,i,_,_=>rfl
 | (j,v)::l,t,i,hi,hs=>by
  simp only [smalls,Bool.and_eq_true,decide_eq_true_eq] at hs
  show (es (E2.set t j v) l).get i=lk l i (if i=j then v else t.get i)
  rw [es_get l _ i hi hs.2,E2.get_set_lt _ _ _ _ hi hs.1]
@[go_sem] theorem smalls_nil:smalls []=true:=rfl
@[go_sem] theorem smalls_cons (j:Nat) (v:AV) (l:List (Nat×AV)):smalls ((j,v)::l)=(decide (j<256)&&smalls l):=rfl
attribute [go_sem] es_get
@[go_sem] theorem lk_nil (i:Nat) (d:AV):lk [] i d=d:=rfl
@[go_sem] theorem lk_cons (j:Nat) (v:AV) (l:List (Nat×AV)) (i:Nat) (d:AV):lk ((j,v)::l) i d=lk l i (if i=j then v else d):=rfl
@[congr] theorem lk_congr {l:List (Nat×AV)} {i:Nat} {d d':AV} (h:d=d'):lk l i d=lk l i d':=by rw [h]
def Hp.push (H:Hp) (x:Blk):Hp:=⟨H.t.set H.nx (some x),H.nx+1⟩
def Hp.setb (H:Hp) (b:Nat) (x:Option Blk):Hp:=⟨H.t.set b x,H.nx⟩
@[go_sem] theorem Hp.nx_push (H:Hp) (x:Blk):(H.push x).nx=H.nx+1:=rfl
@[go_sem] theorem Hp.nx_setb (H:Hp) (b:Nat) (x:Option Blk):(H.setb b x).nx=H.nx:=rfl
@[go_sem] theorem Hp.nx_empty:Hp.empty.nx=0:=rfl
@[go_sem] theorem Hp.get_push (H:Hp) (x:Blk) (b:Nat):(H.push x).get b=if b=H.nx then some x else H.get b:=by
 unfold Hp.push
 by_cases h:b=H.nx
 ·subst h;rw [if_pos rfl,Hp.get_set_same trivial]
 ·rw [if_neg h,Hp.get_set_ne (nx':=H.nx) trivial h]
@[go_sem] theorem Hp.get_setb (H:Hp) (x:Option Blk) (b c:Nat):(H.setb b x).get c=if c=b then x else H.get c:=by
 unfold Hp.setb
 by_cases h:c=b
 ·subst h;rw [if_pos rfl,Hp.get_set_same trivial]
 ·rw [if_neg h,Hp.get_set_ne (nx':=H.nx) trivial h]
@[go_sem ↓] theorem Hp.new_r (H:Hp) (x:Blk) (k:Nat→Hp→Bool):H.new x k=k H.nx (H.push x):=Hp.new_eq H x k
@[go_sem ↓] theorem Hp.put_r (H:Hp) (b:Nat) (x:Option Blk) (k:Hp→Bool):H.put b x k=k (H.setb b x):=Hp.put_eq H b x k
@[go_sem ↓] theorem Hp.reserve_r (H:Hp) (k:Nat→Hp→Bool):H.reserve k=k H.nx ⟨H.t,H.nx+1⟩:=Hp.reserve_eq H k
def oneB (o:Option AV) (k:AV→Bool):Bool:=match o with | some v=>k v | none=>false
def manyB (o:Option (List AV)) (k:AV→Bool):Bool:=match o with | some v=>k (.agg v)| none=>false
def partB (a:Option Bool) (n:Nat) (cs:List AV) (off:Nat) (k:AV→Bool):Bool:=match a with
 | some true=>manyB (takeN n (cs.drop off)) k
 | some false=>oneB cs[off]? k
 | none=>false
theorem partK_r (t:TypeId) (cs:List AV) (off:Nat):partK P t cs off k=partB (isAg P t) (P.cellsOf t) cs off k:=by
 unfold partK partB
 cases isAg P t with
 | none=>rfl
 | some b=>cases b with
  | true=>dsimp only;unfold manyB;cases takeN (P.cellsOf t) (cs.drop off) with
   | none=>rfl
   | some v=>exact forceL_eq _ _
  | false=>rfl
def loadB (P:Program) (t:TypeId) (off:Nat) (k:AV→Bool) (o:Option Blk):Bool:=match o with
 | some (.cells _ _ cs)=>partB (isAg P t) (P.cellsOf t) cs off k
 | _=>false
@[go_sem ↓] theorem load_ptr (t:TypeId) (b off:Nat):loadK P G H t (.ptr b off) k=loadB P t off k (H.get b):=by
 unfold loadK loadB
 dsimp only
 cases H.get b with
 | none=>rfl
 | some x=>cases x<;>first | rfl | exact partK_r _ _ _
@[go_sem ↓] theorem load_dat (t:TypeId) (cs:List D) (off:Nat):loadK P G H t (.dat (.ptr cs off)) k=partB (isAg P t) (P.cellsOf t) (ofDs cs) off k:=partK_r _ _ _
@[go_sem ↓] theorem loadB_cells (t:TypeId) (off:Nat) (el:Option TypeId) (ro:Bool) (cs:List AV):loadB P t off k (some (.cells el ro cs))=partB (isAg P t) (P.cellsOf t) cs off k:=rfl
@[go_sem ↓] theorem partB_t (n:Nat) (cs:List AV) (off:Nat):partB (some true) n cs off k=manyB (takeN n (cs.drop off)) k:=rfl
@[go_sem ↓] theorem partB_f (n:Nat) (cs:List AV) (off:Nat):partB (some false) n cs off k=oneB cs[off]? k:=rfl
@[go_sem ↓] theorem oneB_s (v:AV):oneB (some v) k=k v:=rfl
@[go_sem ↓] theorem manyB_s (v:List AV):manyB (some v) k=k (.agg v):=rfl
@[congr] theorem loadK_congr {t:TypeId} {a a':AV} (h:a=a'):loadK P G H t a k=loadK P G H t a' k:=by rw [h]
@[congr] theorem loadB_congr {t:TypeId} {off:Nat} {o o':Option Blk} (h:o=o'):loadB P t off k o=loadB P t off k o':=by rw [h]
@[congr] theorem partB_congr {a a':Option Bool} {n n':Nat} {cs:List AV} {off off':Nat} (h:a=a') (hn:n=n') (ho:off=off'):partB a n cs off k=partB a' n' cs off' k:=by rw [h,hn,ho]
@[congr] theorem oneB_congr {o o':Option AV} (h:o=o'):oneB o k=oneB o' k:=by rw [h]
@[congr] theorem manyB_congr {o o':Option (List AV)} (h:o=o'):manyB o k=manyB o' k:=by rw [h]
theorem takeN_take:∀(n:Nat) (l:List AV),n≤l.length→takeN n l=some (l.take n)
 | 0,l,_=>rfl
 | n+1,[],h=>by simp at h
 | n+1,x::l,h=>by
  show (match takeN n l with | some ys=>some (x::ys)| none=>none)=_
  rw [takeN_take n l (by simpa using h)]
  rfl
@[go_sem] theorem takeN_z (l:List AV):takeN 0 l=some []:=rfl
@[go_sem] theorem takeN_s (n:Nat) (x:AV) (l:List AV):takeN (n+1) (x::l)=(takeN n l).map (x::·):=by
 show (match takeN n l with | some ys=>some (x::ys)| none=>none)=_
 cases takeN n l<;>rfl
def storeB (a:Option Bool) (n:Nat) (H:Hp) (b off:Nat) (vs:List AV) (k:Hp→Bool) (o:Option Blk):Bool:=match o with
 | some (.cells el false cs)=>match Nat.beq vs.length n,a,vs.all one,setAt cs off vs with
  | true,some _,true,some cs=>k (H.setb b (some (.cells el false cs)))
  | _,_,_,_=>false
 | _=>false
def setB (H:Hp) (b:Nat) (el:Option TypeId) (k:Hp→Bool) (g:Bool) (o:Option (List AV)):Bool:=match g,o with
 | true,some cs=>k (H.setb b (some (.cells el false cs)))
 | _,_=>false
@[go_sem ↓] theorem store_ptr (t:TypeId) (b off:Nat) (v:AV) (k:Hp→Bool):storeK P H t (.ptr b off) v k=storeB (isAg P t) (P.cellsOf t) H b off v.cells k (H.get b):=by
 unfold storeK storeB
 dsimp only
 cases H.get b with
 | none=>rfl
 | some x=>cases x with
  | cells el ro cs=>cases ro with
   | true=>rfl
   | false=>
    dsimp only
    cases Nat.beq v.cells.length (P.cellsOf t)<;>cases isAg P t<;>cases v.cells.all one<;>cases setAt cs off v.cells<;>first | rfl | (dsimp only;rw [forceL_eq,Hp.put_eq];rfl)
  | _=>rfl
@[go_sem ↓] theorem storeB_cells (a:Bool) (n off b:Nat) (vs:List AV) (el:Option TypeId) (cs:List AV) (k:Hp→Bool):
  storeB (some a) n H b off vs k (some (.cells el false cs))=setB H b el k (Nat.beq vs.length n&&vs.all one) (setAt cs off vs):=by
 unfold storeB setB
 dsimp only
 cases Nat.beq vs.length n<;>cases vs.all one<;>cases setAt cs off vs<;>rfl
@[go_sem ↓] theorem setB_s (b:Nat) (el:Option TypeId) (cs:List AV) (k:Hp→Bool):setB H b el k true (some cs)=k (H.setb b (some (.cells el false cs))):=rfl
@[congr] theorem storeK_congr {t:TypeId} {a a' v v':AV} {k:Hp→Bool} (h:a=a') (hv:v=v'):storeK P H t a v k=storeK P H t a' v' k:=by rw [h,hv]
@[congr] theorem storeB_congr {a a':Option Bool} {n n' b off off':Nat} {vs vs':List AV} {k:Hp→Bool} {o o':Option Blk} (ha:a=a') (hn:n=n') (hf:off=off') (hv:vs=vs') (h:o=o'):
  storeB a n H b off vs k o=storeB a' n' H b off' vs' k o':=by rw [ha,hn,hf,hv,h]
@[congr] theorem setB_congr {b:Nat} {el:Option TypeId} {k:Hp→Bool} {g g':Bool} {o o':Option (List AV)} (hg:g=g') (h:o=o'):setB H b el k g o=setB H b el k g' o':=by rw [hg,h]
@[go_sem] theorem cells_agg (cs:List AV):AV.cells (.agg cs)=cs:=rfl
@[go_sem] theorem cells_int (i:IntKind) (n:Int):AV.cells (.int i n)=[.int i n]:=rfl
@[go_sem] theorem cells_bool (b:Bool):AV.cells (.bool b)=[.bool b]:=rfl
@[go_sem] theorem cells_str (s:List Nat):AV.cells (.str s)=[.str s]:=rfl
@[go_sem] theorem cells_nils:AV.cells .nils=[.nils]:=rfl
@[go_sem] theorem cells_dat (d:D):AV.cells (.dat d)=[.dat d]:=rfl
@[go_sem] theorem cells_sl (b o n z:Nat) (c:Option Nat):AV.cells (.sl b o n z c)=[.sl b o n z c]:=rfl
@[go_sem] theorem cells_ptr (b o:Nat):AV.cells (.ptr b o)=[.ptr b o]:=rfl
@[go_sem] theorem cells_map (b:Nat):AV.cells (.map b)=[.map b]:=rfl
@[go_sem] theorem cells_fn (f:FuncId) (a c:List AV):AV.cells (.fn f a c)=[.fn f a c]:=rfl
@[go_sem] theorem one_int (i:IntKind) (n:Int):one (.int i n)=true:=rfl
@[go_sem] theorem one_bool (b:Bool):one (.bool b)=true:=rfl
@[go_sem] theorem one_str (s:List Nat):one (.str s)=true:=rfl
@[go_sem] theorem one_nils:one .nils=true:=rfl
@[go_sem] theorem one_dat (d:D):one (.dat d)=true:=rfl
@[go_sem] theorem one_sl (b o n z:Nat) (c:Option Nat):one (.sl b o n z c)=true:=rfl
@[go_sem] theorem one_ptr (b o:Nat):one (.ptr b o)=true:=rfl
@[go_sem] theorem one_map (b:Nat):one (.map b)=true:=rfl
@[go_sem] theorem one_fn (f:FuncId) (a c:List AV):one (.fn f a c)=true:=rfl
def setW:List AV→List AV→Option (List AV)
 | cs,[]=>some cs
 | [],_::_=>none
 | _::cs,v::vs=>(setW cs vs).map (v::·)
theorem setAt_zero:∀(cs vs:List AV),setAt cs 0 vs=setW cs vs
 | cs,[]=>by cases cs<;>rfl
 | [],_::_=>rfl
 | _::cs,v::vs=>by
  show (match setAt cs 0 vs with | some r=>some (v::r)| none=>none)=_
  rw [setAt_zero cs vs]
  show _=(setW cs vs).map (v::·)
  cases setW cs vs<;>rfl
@[go_sem] theorem setAt_z (cs vs:List AV):setAt cs 0 vs=setW cs vs:=setAt_zero cs vs
@[go_sem] theorem setAt_s (c:AV) (cs:List AV) (n:Nat) (vs:List AV):setAt (c::cs) (n+1) vs=(setAt cs n vs).map (c::·):=by
 show (match setAt cs n vs with | some r=>some (c::r)| none=>none)=_
 cases setAt cs n vs<;>rfl
@[go_sem] theorem setW_nil (cs:List AV):setW cs []=some cs:=by cases cs<;>rfl
@[go_sem] theorem setW_cons (c:AV) (cs:List AV) (v:AV) (vs:List AV):setW (c::cs) (v::vs)=(setW cs vs).map (v::·):=rfl
@[go_sem ↓] theorem pp_ptr (b off n:Nat):ptrPlus (.ptr b off) n k=k (.ptr b (off+n)):=forceN_eq (off+n) fun o=>k (.ptr b o)
@[go_sem ↓] theorem pp_dat (cs:List D) (off n:Nat):ptrPlus (.dat (.ptr cs off)) n k=k (.dat (.ptr cs (off+n))):=forceN_eq (off+n) fun o=>k (.dat (.ptr cs o))
@[congr] theorem ptrPlus_congr {a a':AV} {n:Nat} (h:a=a'):ptrPlus a n k=ptrPlus a' n k:=by rw [h]
@[go_sem] theorem ilt_r (a b:Int):ilt a b=decide (a<b):=ilt_eq a b
@[go_sem] theorem ieq_r (a b:Int):ieq a b=decide (a=b):=by rw [ieq_eq,Bool.eq_iff_iff];simp
@[go_sem ↓] theorem bin_lss (t:TypeId) (nc:Bool) (i:IntKind) (a b:Int):binK P .lss t nc (.int i a) (.int i b) k=k (.bool (decide (a<b))):=by
 simp [binK,isShift,intBin,forceB_eq,ilt_eq]
@[go_sem ↓] theorem bin_leq (t:TypeId) (nc:Bool) (i:IntKind) (a b:Int):binK P .leq t nc (.int i a) (.int i b) k=k (.bool (decide (a≤b))):=by
 simp [binK,isShift,intBin,forceB_eq,ilt_eq,←Int.not_lt]
@[go_sem ↓] theorem bin_gtr (t:TypeId) (nc:Bool) (i:IntKind) (a b:Int):binK P .gtr t nc (.int i a) (.int i b) k=k (.bool (decide (b<a))):=by
 simp [binK,isShift,intBin,forceB_eq,ilt_eq]
@[go_sem ↓] theorem bin_geq (t:TypeId) (nc:Bool) (i:IntKind) (a b:Int):binK P .geq t nc (.int i a) (.int i b) k=k (.bool (decide (b≤a))):=by
 simp [binK,isShift,intBin,forceB_eq,ilt_eq,←Int.not_lt]
@[go_sem ↓] theorem bin_eql (t:TypeId) (nc:Bool) (i:IntKind) (a b:Int):binK P .eql t nc (.int i a) (.int i b) k=k (.bool (decide (a=b))):=by
 simp [binK,isShift,intBin,forceB_eq,ieq_r]
@[go_sem ↓] theorem bin_neq (t:TypeId) (nc:Bool) (i:IntKind) (a b:Int):binK P .neq t nc (.int i a) (.int i b) k=k (.bool (!decide (a=b))):=by
 simp [binK,isShift,intBin,forceB_eq,ieq_r]
theorem wrp_in {n:Int} (h: -9223372036854775808≤n∧n≤9223372036854775807):wrp .i64 n=n:=by
 rw [wrp_eq]
 exact IntWalk.i64_in n h
@[go_sem ↓] theorem bin_add (t:TypeId) (nc:Bool) (a b:Int) (h: -9223372036854775808≤a+b∧a+b≤9223372036854775807):binK P .add t nc (.int .i64 a) (.int .i64 b) k=k (.int .i64 (a+b)):=by
 simp [binK,isShift,intBin,forceI_eq,wrp_in h]
@[go_sem ↓] theorem bin_sub (t:TypeId) (nc:Bool) (a b:Int) (h: -9223372036854775808≤a - b∧a - b≤9223372036854775807):binK P .sub t nc (.int .i64 a) (.int .i64 b) k=k (.int .i64 (a - b)):=by
 simp [binK,isShift,intBin,forceI_eq,wrp_in h]
@[congr] theorem binK_congr {op:BinOp} {t:TypeId} {nc:Bool} {a a' b b':AV} (ha:a=a') (hb:b=b'):binK P op t nc a b k=binK P op t nc a' b' k:=by rw [ha,hb]
@[go_sem ↓] theorem un_not (b:Bool):unK .not (.bool b) k=k (.bool (!b)):=forceB_eq (!b) fun b=>k (.bool b)
@[congr] theorem unK_congr {op:UnOp} {a a':AV} (h:a=a'):unK op a k=unK op a' k:=by rw [h]
@[go_sem ↓] theorem pick_t (a b:AV):pickV (.bool true) a b k=k a:=rfl
@[go_sem ↓] theorem pick_f (a b:AV):pickV (.bool false) a b k=k b:=rfl
@[congr] theorem pickV_congr {c c' a a' b b':AV} (h:c=c') (ha:a=a') (hb:b=b'):pickV c a b k=pickV c' a' b' k:=by rw [h,ha,hb]
@[go_sem ↓] theorem cond_t (a b:Unit→Bool):condV (.bool true) a b=a ():=rfl
@[go_sem ↓] theorem cond_f (a b:Unit→Bool):condV (.bool false) a b=b ():=rfl
@[congr] theorem condV_congr {c c':AV} {a b:Unit→Bool} (h:c=c'):condV c a b=condV c' a b:=by rw [h]
@[go_sem] theorem boolIs_t (b:Bool):boolIs true (.bool b)=b:=by cases b<;>rfl
@[go_sem] theorem boolIs_f (b:Bool):boolIs false (.bool b)= !b:=by cases b<;>rfl
@[go_sem ↓] theorem gJoin_t (F:AV→Hp→Bool) (run:(AV→Hp→Bool)→Bool):gJoin true F run H=run F:=rfl
@[go_sem ↓] theorem gJoin_f (F:AV→Hp→Bool) (run:(AV→Hp→Bool)→Bool):gJoin false F run H=F (.tup []) H:=rfl
@[congr] theorem gJoin_congr {w w':Bool} {F:AV→Hp→Bool} {run:(AV→Hp→Bool)→Bool} (h:w=w'):gJoin w F run H=gJoin w' F run H:=by rw [h]
@[go_sem ↓] theorem gJoinD_t (F:DJ) (run:DJ→Bool) (L:Loads) (Q:Pend):gJoinD true F run H L Q=run F:=rfl
@[go_sem ↓] theorem gJoinD_f (F:DJ) (run:DJ→Bool) (L:Loads) (Q:Pend):gJoinD false F run H L Q=F (.tup []) H L Q:=rfl
@[congr] theorem gJoinD_congr {w w':Bool} {F:DJ} {run:DJ→Bool} {L:Loads} {Q:Pend} (h:w=w'):gJoinD w F run H L Q=gJoinD w' F run H L Q:=by rw [h]
theorem cond_split {b:Bool} {A B:Unit→Bool} (h1:b=true→A ()=true) (h2:b=false→B ()=true):condV (.bool b) A B=true:=by cases b<;>first | exact h1 rfl | exact h2 rfl
theorem gJoin_split {b:Bool} {F:AV→Hp→Bool} {run:(AV→Hp→Bool)→Bool} (h1:b=true→run F=true) (h2:b=false→F (.tup []) H=true):gJoin b F run H=true:=by cases b<;>first | exact h1 rfl | exact h2 rfl
theorem gJoinD_split {b:Bool} {F:DJ} {run:DJ→Bool} {L:Loads} {Q:Pend} (h1:b=true→run F=true) (h2:b=false→F (.tup []) H L Q=true):gJoinD b F run H L Q=true:=by cases b<;>first | exact h1 rfl | exact h2 rfl
@[go_sem ↓] theorem isNormal_n (y:Unit→Bool) (n:AEx→Bool):isNormal .normal y n=y ():=rfl
@[go_sem ↓] theorem isNormal_e (i:Nat) (y:Unit→Bool) (n:AEx→Bool):isNormal (.exit i) y n=n (.exit i):=rfl
@[go_sem ↓] theorem isNormal_r (y:Unit→Bool) (n:AEx→Bool):isNormal .ret y n=n .ret:=rfl
@[go_sem ↓] theorem isExit_n (i:Nat) (y:Unit→Bool) (n:AEx→Bool):isExit i .normal y n=n .normal:=rfl
@[go_sem ↓] theorem isExit_r (i:Nat) (y:Unit→Bool) (n:AEx→Bool):isExit i .ret y n=n .ret:=rfl
@[go_sem ↓] theorem isExit_s (i:Nat) (y:Unit→Bool) (n:AEx→Bool):isExit i (.exit i) y n=y ():=by
 show (match Nat.beq i i with | true=>y ()| false=>n (.exit i))=_
 rw [Nat.beq_refl]
@[go_sem ↓] theorem isExit_ne (i j:Nat) (y:Unit→Bool) (n:AEx→Bool) (h:i≠j):isExit j (.exit i) y n=n (.exit i):=by
 show (match Nat.beq i j with | true=>y ()| false=>n (.exit i))=_
 rw [show Nat.beq i j=false from by rw [←Bool.not_eq_true,Nat.beq_eq];exact h]
@[congr] theorem isNormal_congr {x x':AEx} {y:Unit→Bool} {n:AEx→Bool} (h:x=x'):isNormal x y n=isNormal x' y n:=by rw [h]
@[congr] theorem isExit_congr {i:Nat} {x x':AEx} {y:Unit→Bool} {n:AEx→Bool} (h:x=x'):isExit i x y n=isExit i x' y n:=by rw [h]
@[congr] theorem cl_congr {g:FuncId} {a a':List AV} {k:AV→Hp→Bool} (h:a=a'):cl P G g a H k=cl P G g a' H k:=by rw [h]
@[congr] theorem clv_congr {n:Nat} {f f':AV} {a a':List AV} {k:AV→Hp→Bool} (hf:f=f') (h:a=a'):clv P G n f a H k=clv P G n f' a' H k:=by rw [hf,h]
@[congr] theorem semC_congr {nt:Nat} {c:Code} {ro:Option Nat} {e:En} {k:AEx→En→Hp→Bool}:semC P G nt c ro e H k=semC P G nt c ro e H k:=rfl
@[congr] theorem cd_congr {m nt:Nat} {c:Code} {ro:Option Nat} {e:En} {k:AEx→En→Hp→Bool}:cd P G m nt c ro e H k=cd P G m nt c ro e H k:=rfl
@[congr] theorem again_congr {Inv:Nat→En→Hp→Prop} {m:Nat} {e:En}:again Inv m e H=again Inv m e H:=rfl
@[congr] theorem bodyEnd_congr {fn:Func} {i:Evs} {k:AEnd→Hp→Bool} {x x':AEx} {e:En} (h:x=x'):bodyEnd P G fn i k x e H=bodyEnd P G fn i k x' e H:=by rw [h]
end
end
theorem bk {a b:Bool} (h:a=b):a=b:=h
theorem spl:(∀(p:Prop) [Decidable p],(decide p=true)=p)∧(∀(p:Prop) [Decidable p],(decide p=false)=¬p)∧(∀b:Bool,((!b)=true)=(b=false))∧(∀b:Bool,((!b)=false)=(b=true))∧(∀b:Bool,(¬(b=true))=(b=false))∧(∀b:Bool,(¬(b=false))=(b=true))∧(∀b:Bool,(!!b)=b):=
 ⟨fun _ _=>by simp,fun _ _=>by simp,fun _=>by simp,fun _=>by simp,fun _=>by simp,fun _=>by simp,fun _=>by simp⟩
theorem ln {α:Type}:(∀(a:α) l,(a::l).length=l.length+1)∧([]:List α).length=0∧(∀a b:List α,(a++b).length=a.length+b.length):=
 ⟨fun _ _=>rfl,rfl,fun _ _=>List.length_append⟩
end Go.Ev
namespace Go.Ev
set_option linter.unusedVariables false
noncomputable section
section
variable {P : Program} {G : Globals} {H : Hp} {k : AV → Bool} {α : Type} {sz : Nat} {enc : α → List D} {xs : List α} {d : D}
def rows (enc:α→List D) (xs:List α):List D:=(xs.map enc).flatten
def Sl (sz:Nat) (enc:α→List D) (xs:List α) (d:D):Prop:=(d= .nils∧xs=[])∨d= .sl sz (rows enc xs) xs.length
theorem ofDs_append:∀(a b:List D),ofDs (a++b)=ofDs a++ofDs b
 | [],b=>rfl
 | x::a,b=>by simp [ofDs,ofDs_append a b]
theorem rows_length (hs:∀x,(enc x).length=sz):∀(xs:List α),(rows enc xs).length=xs.length * sz
 | []=>by simp [rows]
 | x::xs=>by
  have:=rows_length hs xs
  simp only [rows,List.map_cons,List.flatten_cons,List.length_append,List.length_cons] at this⊢
  rw [this,hs x,Nat.succ_mul];omega
theorem rows_get (hs:∀x,(enc x).length=sz):∀(xs:List α) (n j:Nat) (hn:n<xs.length),j<sz→(ofDs (rows enc xs))[n * sz+j]? =(ofDs (enc xs[n]))[j]?
 | x::xs,0,j,hn,hj=>by
  show (ofDs (enc x++rows enc xs))[0 * sz+j]? =_
  rw [ofDs_append,List.getElem?_append_left (by rw [ofDs_length,hs x];omega)]
  simp
 | x::xs,n+1,j,hn,hj=>by
  show (ofDs (enc x++rows enc xs))[(n+1) * sz+j]? =_
  rw [ofDs_append,List.getElem?_append_right (by rw [ofDs_length,hs x,Nat.succ_mul];omega),ofDs_length,hs x]
  have:=rows_get hs xs n j (by simpa using hn) hj
  rw [show (n+1) * sz+j - sz=n * sz+j from by rw [Nat.succ_mul];omega,this]
  simp
theorem rows_take (hs:∀x,(enc x).length=sz) {n:Nat} (hn:n<xs.length):takeN sz ((ofDs (rows enc xs)).drop (n * sz))=some (ofDs (enc xs[n])):=by
 have hl:(ofDs (rows enc xs)).length=xs.length * sz:=by rw [ofDs_length,rows_length hs]
 have hm:(n+1) * sz≤xs.length * sz:=Nat.mul_le_mul_right _ hn
 rw [Nat.succ_mul] at hm
 rw [takeN_take _ _ (by simp [hl];omega)]
 congr 1
 apply List.ext_getElem?
 intro j
 by_cases hj:j<sz
 ·rw [List.getElem?_take_of_lt hj,List.getElem?_drop,rows_get hs xs n j hn hj]
 ·rw [List.getElem?_take_eq_none (by omega),List.getElem?_eq_none (by rw [ofDs_length,hs];omega)]
theorem rows_get0 (hs:∀x,(enc x).length=sz) {n:Nat} (hn:n<xs.length) (hp:0<sz):(ofDs (rows enc xs))[n * sz]? =(ofDs (enc xs[n]))[0]? :=by
 have:=rows_get hs xs n 0 hn hp
 simpa using this
theorem len_sl (h:Sl sz enc xs d) {t e:TypeId} (hu:P.underlying t=some (.slice e)):lenK P t (ofD d) H k=k (.int .i64 (xs.length:Int)):=by
 unfold lenK
 rw [hu]
 rcases h with⟨rfl,rfl⟩| rfl<;>rfl
theorem Sl.pos (h:Sl sz enc xs d) {n:Nat} (hn:n<xs.length):d= .sl sz (rows enc xs) xs.length:=by
 rcases h with⟨rfl,rfl⟩| rfl
 ·simp at hn
 ·rfl
theorem idx_sl (h:Sl sz enc xs d) {t e:TypeId} (hu:P.underlying t=some (.slice e)) (hi:(P.info? e).isSome=true) (hc:P.cellsOf e=sz) {n:Nat} (hn:n<xs.length) {i:IntKind}:
  indexAtK P t (ofD d) (.int i (n:Int)) k=k (.dat (.ptr (rows enc xs) (n * sz))):=by
 rw [h.pos hn]
 unfold indexAtK
 show (match P.underlying t,(AV.dat (.sl sz (rows enc xs) xs.length)) with
  | some (.array len e), .ptr b off=>_
  | some (.array len e), .gptr b off=>_
  | some (.slice e), .sl b off len z _=>_
  | some (.slice e), .dat (.sl sz cs len)=>match Nat.blt n len,(P.info? e).isSome,Nat.beq sz (P.cellsOf e) with
   | true,true,true=>forceN (n * sz) fun o=>k (.dat (.ptr cs o))
   | _,_,_=>false
  | _,_=>false)=_
 rw [hu]
 dsimp only
 rw [hi,hc,Nat.beq_refl,show Nat.blt n xs.length=true from by simpa [Nat.blt_eq] using hn]
 exact forceN_eq (n * sz) fun o=>k (.dat (.ptr (rows enc xs) o))
@[congr] theorem lenK_congr {t:TypeId} {a a':AV} (h:a=a'):lenK P t a H k=lenK P t a' H k:=by rw [h]
@[congr] theorem indexAtK_congr {t:TypeId} {a a' i i':AV} (h:a=a') (hi:i=i'):indexAtK P t a i k=indexAtK P t a' i' k:=by rw [h,hi]
@[go_sem] theorem ofDs_nil:ofDs []=[]:=rfl
@[go_sem] theorem ofDs_cons (d:D) (ds:List D):ofDs (d::ds)=ofD d::ofDs ds:=rfl
@[go_sem] theorem ofD_int (i:IntKind) (n:Int):ofD (.int i n)= .int i n:=rfl
@[go_sem] theorem ofD_bool (b:Bool):ofD (.bool b)= .bool b:=rfl
@[go_sem] theorem ofD_str (s:List Nat):ofD (.str s)= .str s:=rfl
@[go_sem] theorem ofD_agg (l:List D):ofD (.agg l)= .agg (ofDs l):=rfl
@[go_sem] theorem ofD_tup (l:List D):ofD (.tup l)= .tup (ofDs l):=rfl
@[go_sem] theorem ofD_ptr (l:List D) (o:Nat):ofD (.ptr l o)= .dat (.ptr l o):=rfl
theorem endQ_ret {Q:D→Prop} {v:AV} {d:D} {I:List Nat} (hq:Q d) (hr:Rd H v d I):endQ Q (.ret v) H=true:=by
 unfold endQ
 exact @decide_eq_true _ (Classical.propDecidable _) ⟨v,d,I,rfl,hq,hr⟩
theorem endQ_fro {Q:D→Prop} (d:D) (hq:Q d):endQ Q (.ret (ofD d)) H=true:=endQ_ret hq (.fro d)
theorem CQ.enter {f:FuncId} {ds:List D} {Q:D→Prop} (hG:GFlat G) (h:callBody P G ⟨cd P G 200,callS P G⟩ f (ofDs ds) Hp.empty (endQ Q)=true):CQ P G f ds Q:= .run hG (semF_enter 200 h)
end
end
end Go.Ev
namespace Go.Ev
attribute [go_sem] eq_self if_true if_false List.getElem?_cons_zero List.getElem?_cons_succ List.drop_zero List.drop_succ_cons Option.map_some Option.map_none decide_true decide_false Bool.not_true Bool.not_false Nat.add_zero Nat.zero_add List.all_cons List.all_nil Bool.and_true Bool.true_and List.length_cons List.length_nil Bool.and_false Bool.false_and
@[go_sem] theorem beq_self' (n:Nat):Nat.beq n n=true:=Nat.beq_refl n
end Go.Ev
namespace Go.Ev
set_option linter.unusedVariables false
noncomputable section
section
variable {P : Program} {G : Globals} {H : Hp} {k : AV → Bool} {α : Type} {sz : Nat} {enc : α → List D} {xs : List α} {d : D}
def bAnd (a b:Int):Int:=IntKind.wrap .i64 ((BitVec.ofInt 64 a)&&& (BitVec.ofInt 64 b)).toNat
def bOr (a b:Int):Int:=IntKind.wrap .i64 ((BitVec.ofInt 64 a)||| (BitVec.ofInt 64 b)).toNat
def bAndNot (a b:Int):Int:=IntKind.wrap .i64 ((BitVec.ofInt 64 a)&&& ~~~(BitVec.ofInt 64 b)).toNat
def bShr (a b:Int):Int:=a.fdiv (2 ^(min b.toNat 64))
@[go_sem ↓] theorem bin_and (t:TypeId) (nc:Bool) (a b:Int):binK P .and t nc (.int .i64 a) (.int .i64 b) k=k (.int .i64 (bAnd a b)):=forceI_eq (bAnd a b) fun n=>k (.int .i64 n)
@[go_sem ↓] theorem bin_or (t:TypeId) (nc:Bool) (a b:Int):binK P .or t nc (.int .i64 a) (.int .i64 b) k=k (.int .i64 (bOr a b)):=forceI_eq (bOr a b) fun n=>k (.int .i64 n)
@[go_sem ↓] theorem bin_andNot (t:TypeId) (nc:Bool) (a b:Int):binK P .andNot t nc (.int .i64 a) (.int .i64 b) k=k (.int .i64 (bAndNot a b)):=forceI_eq (bAndNot a b) fun n=>k (.int .i64 n)
@[go_sem ↓] theorem bin_shr (t:TypeId) (nc:Bool) (j:IntKind) (a b:Int) (h:0≤b):binK P .shr t nc (.int .i64 a) (.int j b) k=k (.int .i64 (bShr a b)):=by
 have:¬b<0:=by omega
 simp [binK,isShift,intShift,forceI_eq,bShr,IntKind.bits,ilt_r,this]
@[go_sem ↓] theorem bin_rem (t:TypeId) (nc:Bool) (i:IntKind) (a b:Int) (h:b≠0):binK P .rem t nc (.int i a) (.int i b) k=k (.int i (a.tmod b)):=by
 simp [binK,isShift,intBin,forceI_eq,ieq_r,h]
@[go_sem ↓] theorem bin_mul (t:TypeId) (nc:Bool) (a b:Int) (h: -9223372036854775808≤a * b∧a * b≤9223372036854775807):binK P .mul t nc (.int .i64 a) (.int .i64 b) k=k (.int .i64 (a * b)):=by
 simp [binK,isShift,intBin,forceI_eq,wrp_in h]
@[go_sem ↓] theorem un_neg (a:Int) (h: -9223372036854775807≤a∧a≤9223372036854775807):unK .neg (.int .i64 a) k=k (.int .i64 (0 - a)):=by
 simp only [unK,forceI_eq]
 rw [wrp_in (by omega)]
theorem strEq_r (a b:List Nat):strEq a b=decide (a=b):=by rw [strEq_eq]
@[go_sem ↓] theorem bin_eqs (t:TypeId) (nc:Bool) (a b:List Nat):binK P .eql t nc (.str a) (.str b) k=k (.bool (decide (a=b))):=by
 simp [binK,strBin,forceB_eq,strEq_r]
@[go_sem ↓] theorem bin_neqs (t:TypeId) (nc:Bool) (a b:List Nat):binK P .neq t nc (.str a) (.str b) k=k (.bool (!decide (a=b))):=by
 simp [binK,strBin,forceB_eq,strEq_r]
theorem len_str {t:TypeId} (hu:P.underlying t=some .string) (s:List Nat):lenK P t (.str s) H k=k (.int .i64 (s.length:Int)):=by
 unfold lenK
 rw [hu]
 exact forceN_eq _ _
theorem idx_str {t:TypeId} (hu:P.underlying t=some .string) {s:List Nat} {n:Nat} (hn:n<s.length) {i:IntKind}:indexV P t (.str s) (.int i (n:Int)) k=k (.int .u8 (s[n]:Int)):=by
 have h1:isString P t=true:=by unfold isString;rw [hu]
 have h2:s[n]? =some s[n]:=List.getElem?_eq_getElem hn
 show (match isString P t,s[n]? with | true,some c=>k (.int .u8 (.ofNat c))| _,_=>false)=_
 rw [h1,h2]
 rfl
@[congr] theorem indexV_congr {t:TypeId} {a a' i i':AV} (h:a=a') (hi:i=i'):indexV P t a i k=indexV P t a' i' k:=by rw [h,hi]
theorem len_sl' (h:Sl sz enc xs d) {t e:TypeId} (hu:P.underlying t=some (.slice e)):lenK P t (ofD d) H k=k (.int .i64 (xs.length:Int)):=len_sl h hu
def slT (d:D) (n:Nat):D:=match d with
 | .sl sz cs len=> .sl sz (cs.take (n * sz)) n
 | d=>d
theorem rows_take_eq (hs:∀x,(enc x).length=sz):∀(xs:List α) (n:Nat),n≤xs.length→(rows enc xs).take (n * sz)=rows enc (xs.take n)
 | xs,0,_=>by simp [rows]
 | x::xs,n+1,h=>by
  have ih:=rows_take_eq hs xs n (by simpa using h)
  show (enc x++rows enc xs).take ((n+1) * sz)=enc x++rows enc (xs.take n)
  rw [←ih,Nat.succ_mul,List.take_append,List.take_of_length_le (by rw [hs x];omega),hs x]
  congr 2;omega
theorem Sl.take (h:Sl sz enc xs d) (hs:∀x,(enc x).length=sz) {n:Nat} (hn:n≤xs.length):Sl sz enc (xs.take n) (slT d n):=by
 rcases h with⟨rfl,rfl⟩| rfl
 ·exact .inl ⟨rfl,by simp⟩
 ·exact .inr (by simp only [slT];rw [rows_take_eq hs xs n hn,List.length_take,Nat.min_eq_left hn])
theorem slice_hi (h:Sl sz enc xs d) {t e:TypeId} (he:elemSlice P t=some e) (hc:P.cellsOf e=sz) {n:Nat} (hn:n≤xs.length) {i:IntKind}:
  sliceAtK P H t (ofD d) none (some (.int i (n:Int))) none k=k (ofD (slT d n)):=by
 rcases h with⟨rfl,rfl⟩| rfl
 ·simp at hn
  subst hn
  unfold sliceAtK
  simp only [ofD,he]
  rfl
 ·unfold sliceAtK
  simp only [ofD,he,optNat,natOf]
  rw [hc,Nat.beq_refl,show Nat.ble n xs.length=true from by simpa using hn]
  simp only [Nat.ble,forceN_eq,slT,Nat.zero_mul,List.drop_zero,Nat.sub_zero,ofD]
@[congr] theorem sliceAtK_congr {t:TypeId} {x x':AV} {lo lo' hi hi' mx mx':Option AV} (h:x=x') (hl:lo=lo') (hh:hi=hi') (hm:mx=mx'):sliceAtK P H t x lo hi mx k=sliceAtK P H t x' lo' hi' mx' k:=by rw [h,hl,hh,hm]
theorem cl_cq (hG:GFlat G) {f:FuncId} {args:List AV} {k:AV→Hp→Bool} {ds:List D} {I:List Nat} {Q:D→Prop} (hct:CQ P G f ds Q) (hr:Rds H args ds I)
  (hk:∀d,Q d→(I=[]∨d.flatB=true)∧k (ofD d) H=true):cl P G f args H k=true:=by
 have h:=callS_cq (k:=fun e H'=>AEnd.casesOn (motive:=fun _=>Bool) e (fun v=>k v H') (fun _=>false)) hG hct hr hk
 exact h
theorem cl_eq (hG:GFlat G) {f:FuncId} {k:AV→Hp→Bool} {args:List AV} (ds:List D) {r:D} (hct:CQ P G f ds (·=r)) (ha:args=ofDs ds) (hk:k (ofD r) H=true):cl P G f args H k=true:=by
 subst ha
 exact cl_cq hG hct (.fro ds) fun d hd=>⟨.inl rfl,hd▸hk⟩
theorem cl_any (hG:GFlat G) {f:FuncId} {k:AV→Hp→Bool} {args:List AV} (ds:List D) {Q:D→Prop} (hct:CQ P G f ds Q) (ha:args=ofDs ds) (hk:∀d,Q d→k (ofD d) H=true):cl P G f args H k=true:=by
 subst ha
 exact cl_cq hG hct (.fro ds) fun d hd=>⟨.inl rfl,hk d hd⟩
theorem cl_enter (n:Nat) {f:FuncId} {args:List AV} {k:AV→Hp→Bool} (h:callBody P G ⟨cd P G n,callS P G⟩ f args H (fun en H=>AEnd.casesOn en (fun v=>k v H) fun _=>false)=true):cl P G f args H k=true:=semF_enter n h
theorem clv_fn {n:Nat} {g:FuncId} {first cap args:List AV} {k:AV→Hp→Bool} (h1:isNoEsc P g=false) (h2:enters P g=true):clv P G n (.fn g first cap) args H k=cl P G g (first++args++cap) H k:=by
 show forceL (first++args++cap) (fun args=>match isNoEsc P g with
  | true=>one1 args fun x=>k x H
  | false=>callFn P ⟨cd P G n,callS P G⟩ g args H k (fun _ _=>false))=_
 rw [forceL_eq,h1]
 dsimp only
 unfold callFn
 rw [h2]
 rfl
@[go_sem] theorem ofD_fn (f:FuncId) (a c:List D):ofD (.fn f a c)= .fn f (ofDs a) (ofDs c):=rfl
@[go_sem ↓] theorem ex_z (v:AV) (vs:List AV):extractV (.tup (v::vs)) 0 k=k v:=rfl
@[go_sem ↓] theorem ex_o (v u:AV) (vs:List AV):extractV (.tup (v::u::vs)) 1 k=k u:=rfl
@[go_sem ↓] theorem ex_t (v u x:AV) (vs:List AV):extractV (.tup (v::u::x::vs)) 2 k=k x:=rfl
@[congr] theorem extractV_congr {x x':AV} {i:Nat} (h:x=x'):extractV x i k=extractV x' i k:=by rw [h]
def bldF (places:List (Nat×Nat)) (ps:List (Nat×AV)) (z:List AV) (k:AV→Bool):Bool:=manyB (fillA places ps z) k
@[congr] theorem bldF_congr {pl:List (Nat×Nat)} {ps ps':List (Nat×AV)} {z:List AV} (h:ps=ps'):bldF pl ps z k=bldF pl ps' z k:=by rw [h]
@[congr] theorem buildK_congr {t:TypeId} {ps ps':List (Nat×AV)} (h:ps=ps'):buildK P t ps k=buildK P t ps' k:=by rw [h]
@[go_sem ↓] theorem bldF_nil (pl:List (Nat×Nat)) (z:List AV):bldF pl [] z k=k (.agg z):=rfl
def bldO (pl:List (Nat×Nat)) (ps:List (Nat×AV)) (k:AV→Bool) (g:Bool) (o:Option (List AV)):Bool:=match g,o with
 | true,some z=>bldF pl ps z k
 | _,_=>false
@[go_sem ↓] theorem bldF_cons (pl:List (Nat×Nat)) (i:Nat) (v:AV) (ps:List (Nat×AV)) (z:List AV):bldF pl ((i,v)::ps) z k=(match pl[i]? with
  | some (off,size)=>bldO pl ps k (Nat.beq v.cells.length size) (setAt z off v.cells)
  | none=>false):=by
 unfold bldF
 simp only [fillA]
 cases pl[i]? with
 | none=>rfl
 | some p=>
  obtain⟨off,size⟩:=p
  dsimp only
  cases Nat.beq v.cells.length size<;>cases setAt z off v.cells<;>rfl
@[go_sem ↓] theorem bldO_s (pl:List (Nat×Nat)) (ps:List (Nat×AV)) (z:List AV):bldO pl ps k true (some z)=bldF pl ps z k:=rfl
@[congr] theorem bldO_congr {pl:List (Nat×Nat)} {ps:List (Nat×AV)} {g g':Bool} {o o':Option (List AV)} (hg:g=g') (ho:o=o'):bldO pl ps k g o=bldO pl ps k g' o':=by rw [hg,ho]
@[go_sem] theorem boolIs_tup (w:Bool):boolIs w (.tup [])=false:=rfl
@[go_sem ↓] theorem layAll_nil (k:Hp→Bool):layAll [] H k=k H:=rfl
@[go_sem ↓] theorem layAll_cons (i b:Nat) (x:Blk) (Q:Pend) (k:Hp→Bool):layAll ((i,b,x)::Q) H k=layAll Q (H.setb b (some x)) k:=Hp.put_r H b (some x) fun H=>layAll Q H k
@[go_sem ↓] theorem layAnc_nil (a:Nat) (k:Pend→Hp→Bool):layAnc a [] H k=k [] H:=rfl
@[go_sem] theorem zero_eq_succ (q:Nat):(0=q+1)=False:=by simp
@[go_sem] theorem avs_int (n:Nat) (i:IntKind) (a:Int):avSame (n+1) (.int i a) (.int i a)=true:=by
 have h1:ieq a a=true:=by rw [ieq_r];simp
 have h2:Nat.beq (kcode i) (kcode i)=true:=Nat.beq_refl _
 simp [avSame,h1,h2]
@[go_sem] theorem avs_bool (n:Nat) (b:Bool):avSame (n+1) (.bool b) (.bool b)=true:=by cases b<;>rfl
@[go_sem] theorem avs_str (n:Nat) (s:List Nat):avSame (n+1) (.str s) (.str s)=true:=by simp [avSame,strEq_r]
@[go_sem] theorem avs_nils (n:Nat):avSame (n+1) .nils .nils=true:=rfl
@[go_sem] theorem avs_dat (n:Nat) (d:D):avSame (n+1) (.dat d) (.dat d)=true:=by simp [avSame]
@[go_sem] theorem avs_ptr (n b o:Nat):avSame (n+1) (.ptr b o) (.ptr b o)=true:=by simp [avSame]
@[go_sem] theorem avs_sl (n b o l z:Nat) (c:Option Nat):avSame (n+1) (.sl b o l z c) (.sl b o l z c)=true:=by cases c<;>simp [avSame]
@[go_sem] theorem avs_agg (n:Nat) (a b:List AV):avSame (n+1) (.agg a) (.agg b)=avSames n a b:=rfl
@[go_sem] theorem avs_nil (n:Nat):avSames (n+1) [] []=true:=rfl
@[go_sem] theorem avs_cons (n:Nat) (x y:AV) (a b:List AV):avSames (n+1) (x::a) (y::b)=(avSame n x y&&avSames n a b):=rfl
@[go_sem ↓] theorem recheck_t {a i:Nat} {c:Hp→Bool} {L:Loads} (h:a.testBit i=true):recheck a ((i,c)::L) H=recheck a L H:=by
 show (match a.testBit i with | true=>recheck a L H | false=>_)=_
 rw [h]
@[go_sem ↓] theorem recheck_f {a i:Nat} {c:Hp→Bool} {L:Loads} (h:a.testBit i=false):recheck a ((i,c)::L) H=(c H&&recheck a L H):=by
 show (match a.testBit i with | true=>recheck a L H | false=>match c H with | true=>recheck a L H | false=>false)=_
 rw [h]
 cases c H<;>rfl
def recB (b:Bool) (k:Bool):Bool:=Bool.casesOn (motive:=fun _=>Bool) b false k
@[go_sem ↓] theorem recB_t (k:Bool):(Bool.casesOn (motive:=fun _=>Bool) true false k:Bool)=k:=rfl
@[go_sem ↓] theorem layAnc_t {a i b:Nat} {x:Blk} {Q:Pend} {k:Pend→Hp→Bool} (h:a.testBit i=true):layAnc a ((i,b,x)::Q) H k=layAnc a Q (H.setb b (some x)) k:=by
 show (match a.testBit i with | true=>H.put b (some x) fun H=>layAnc a Q H k | false=>layAnc a Q H fun ps H=>k ((i,b,x)::ps) H)=_
 rw [h]
 exact Hp.put_eq _ _ _ _
@[go_sem ↓] theorem layAnc_f {a i b:Nat} {x:Blk} {Q:Pend} {k:Pend→Hp→Bool} (h:a.testBit i=false):layAnc a ((i,b,x)::Q) H k=layAnc a Q H fun ps H=>k ((i,b,x)::ps) H:=by
 show (match a.testBit i with | true=>H.put b (some x) fun H=>layAnc a Q H k | false=>layAnc a Q H fun ps H=>k ((i,b,x)::ps) H)=_
 rw [h]
@[go_sem ↓] theorem recheck_nil (a:Nat):recheck a [] H=true:=rfl
end
end
end Go.Ev
namespace Go.Ev
set_option linter.unusedVariables false
noncomputable section
section
variable {P : Program} {G : Globals} {H : Hp} {k : AV → Bool} {α : Type} {sz : Nat} {enc : α → List D} {xs : List α} {d : D}
def stP (P:Program) (t:TypeId):Option (Bool×List (Nat×Nat)):=match P.underlying t with
 | some (.struct fs)=>some (fs.toList.all (fun f=>(P.info? f.type).isSome),fs.toList.map fun f=>(f.offset,P.cellsOf f.type))
 | _=>none
theorem buildK_bld {t:TypeId} {z:List AV} {pl:List (Nat×Nat)} (h1:zro P t=some (.agg z)) (h2:stP P t=some (true,pl)) (ps:List (Nat×AV)):buildK P t ps k=bldF pl ps z k:=by
 unfold stP at h2
 unfold buildK bldF
 rw [h1]
 split at h2
 next fs hu=>
  rw [hu]
  simp only [Option.some.injEq,Prod.mk.injEq] at h2
  dsimp only
  rw [h2.1,h2.2]
  dsimp only
  cases fillA pl ps z with
  | none=>rfl
  | some cs=>exact forceL_eq _ _
 next=>cases h2
end
end
end Go.Ev
namespace Go.Ev
set_option linter.unusedVariables false
noncomputable section
section
variable {P : Program} {G : Globals} {H : Hp} {k : AV → Bool}
def sE:List (List Nat×AV)→Nat→List (AV×AV×Nat)
 | [],_=>[]
 | (s,v)::l,i=>(.str s,v,i)::sE l (i+1)
theorem sE_snoc (s:List Nat) (v:AV):∀(l:List (List Nat×AV)) (i:Nat),sE (l++[(s,v)]) i=sE l i++[(.str s,v,i+l.length)]
 | [],i=>rfl
 | (s',v')::l,i=>by
  show (_::sE (l++[(s,v)]) (i+1))=_::(sE l (i+1)++_)
  rw [sE_snoc s v l (i+1),List.length_cons]
  have:i+1+l.length=i+(l.length+1):=by omega
  rw [this]
theorem flEq_s (a b:List Nat):flEq ⟨false,[.s]⟩ (.str a) (.str b)=some (decide (a=b)):=by
 show scEqs [.s] [.str a] [.str b]=_
 simp only [scEqs,scEq,strEq_r]
 try (cases decide (a=b)<;>rfl)
theorem find_s (s:List Nat):∀(l:List (List Nat×AV)) (j i:Nat),(∀p∈l,p.2= .bool true)→
  (l.any (fun p=>decide (p.1=s))=false→findKey ⟨false,[.s]⟩ (.str s) (sE l j) i=some none)∧(l.any (fun p=>decide (p.1=s))=true→∃n,findKey ⟨false,[.s]⟩ (.str s) (sE l j) i=some (some (n, .bool true)))
 | [],j,i,_=>⟨fun _=>rfl,fun h=>by simp at h⟩
 | (s',v')::l,j,i,hv=>by
  have ih:=find_s s l (j+1) (i+1) fun p hp=>hv p (List.mem_cons_of_mem _ hp)
  have hv':v'= .bool true:=hv _ List.mem_cons_self
  subst hv'
  simp only [sE,findKey,flEq_s,List.any_cons]
  by_cases h:s=s'
  ·subst h
   exact⟨fun h=>by simp at h,fun _=>⟨i,by simp⟩⟩
  ·have h':¬s'=s:=fun e=>h e.symm
   simp only [h,h',decide_false,Bool.false_or]
   exact ih
def lookB (P:Program) (t:TypeId) (i:AV) (ok:Bool) (k:AV→Bool) (o:Option Blk):Bool:=match mapElem P t,o with
 | some mt,some (.map _ es _)=>lookupFin P es mt i ok k
 | _,_=>false
@[go_sem ↓] theorem lookupK_r (t:TypeId) (b:Nat) (i:AV) (ok:Bool):lookupK P H t (.map b) i ok k=lookB P t i ok k (H.get b):=by
 unfold lookupK lookB
 cases mapElem P t with
 | none=>rfl
 | some mt=>
  dsimp only
  cases H.get b with
  | none=>rfl
  | some x=>cases x<;>rfl
@[congr] theorem lookB_congr {t:TypeId} {i i':AV} {ok:Bool} {o o':Option Blk} (hi:i=i') (ho:o=o'):lookB P t i ok k o=lookB P t i' ok k o':=by rw [hi,ho]
@[congr] theorem lookupK_congr {t:TypeId} {m m' i i':AV} {ok:Bool} (hm:m=m') (hi:i=i'):lookupK P H t m i ok k=lookupK P H t m' i' ok k:=by rw [hm,hi]
theorem look_set {t el:TypeId} (hm:mapElem P t=some ⟨el,⟨false,[.s]⟩⟩) (hz:zro P el=some (.bool false)) {l:List (List Nat×AV)} (hv:∀p∈l,p.2= .bool true) (s:List Nat) (ro:Bool) (cl:Nat):
  lookB P t (.str s) false k (some (.map ro (sE l 0) cl))=k (.bool (l.any (fun p=>decide (p.1=s)))):=by
 unfold lookB
 rw [hm]
 show lookupFin P (sE l 0) ⟨el,⟨false,[.s]⟩⟩ (.str s) false k=_
 unfold lookupFin
 have hk:keyAt ⟨el,⟨false,[.s]⟩⟩ (sE l 0) (.str s)=findKey ⟨false,[.s]⟩ (.str s) (sE l 0) 0:=rfl
 rw [hk]
 cases h:l.any (fun p=>decide (p.1=s)) with
 | false=>
  rw [(find_s s l 0 0 hv).1 h]
  dsimp only
  rw [hz]
 | true=>
  obtain⟨n,hn⟩:=(find_s s l 0 0 hv).2 h
  rw [hn]
def updB (P:Program) (H:Hp) (b:Nat) (t:TypeId) (i v:AV) (k:Hp→Bool) (o:Option Blk):Bool:=match mapElem P t,o with
 | some mt,some (.map false es cl)=>match keyAt mt es i with
   | some (some (j,_))=>k (H.setb b (some (.map false (setVal v es j) cl)))
   | some none=>k (H.setb b (some (.map false (es++[(i,v,cl)]) (cl+1))))
   | none=>false
 | _,_=>false
@[go_sem ↓] theorem mapUpdateK_r (t:TypeId) (b:Nat) (i v:AV) (k:Hp→Bool):mapUpdateK P H t (.map b) i v k=updB P H b t i v k (H.get b):=by
 unfold mapUpdateK updB
 cases mapElem P t with
 | none=>rfl
 | some mt=>
  dsimp only
  cases H.get b with
  | none=>rfl
  | some x=>
   cases x with
   | map ro es cl=>
    cases ro with
    | true=>rfl
    | false=>
     dsimp only
     cases keyAt mt es i with
     | none=>rfl
     | some o=>cases o with
      | none=>dsimp only;rw [forceL_eq,forceN_eq,Hp.put_r]
      | some p=>obtain⟨j,w⟩:=p;dsimp only;rw [forceL_eq,Hp.put_r]
   | _=>rfl
@[congr] theorem updB_congr {b:Nat} {t:TypeId} {i i' v v':AV} {k:Hp→Bool} {o o':Option Blk} (hi:i=i') (hv:v=v') (ho:o=o'):updB P H b t i v k o=updB P H b t i' v' k o':=by rw [hi,hv,ho]
@[congr] theorem mapUpdateK_congr {t:TypeId} {m m' i i' v v':AV} {k:Hp→Bool} (hm:m=m') (hi:i=i') (hv:v=v'):mapUpdateK P H t m i v k=mapUpdateK P H t m' i' v' k:=by rw [hm,hi,hv]
theorem upd_new {t el:TypeId} {b:Nat} (hm:mapElem P t=some ⟨el,⟨false,[.s]⟩⟩) {l:List (List Nat×AV)} (hv:∀p∈l,p.2= .bool true) {s:List Nat} (h:l.any (fun p=>decide (p.1=s))=false) (v:AV) (k:Hp→Bool):
  updB P H b t (.str s) v k (some (.map false (sE l 0) l.length))=k (H.setb b (some (.map false (sE (l++[(s,v)]) 0) (l++[(s,v)]).length))):=by
 unfold updB
 rw [hm]
 dsimp only
 have hk:keyAt ⟨el,⟨false,[.s]⟩⟩ (sE l 0) (.str s)=findKey ⟨false,[.s]⟩ (.str s) (sE l 0) 0:=rfl
 rw [hk,(find_s s l 0 0 hv).1 h,sE_snoc,Nat.zero_add,List.length_append,List.length_singleton]
end
end
end Go.Ev
namespace Go.Ev
set_option linter.unusedVariables false
noncomputable section
section
variable {P : Program} {G : Globals} {H : Hp} {α : Type} {sz : Nat} {enc : α → List D} {xs : List α}
def Own (sz:Nat) (enc:α→List D) (el:TypeId) (lo:Nat) (H:Hp) (v:AV) (xs:List α):Prop:=
 (v= .nils∧xs=[])∨∃b c,v= .sl b 0 xs.length sz c∧(c=none∨(c=some 0∧xs=[]))∧lo≤b∧b<H.nx∧H.get b=some (.cells (some el) false (ofDs (rows enc xs)))
structure ApT (P:Program) (t e:TypeId) (sz:Nat):Prop where
 h1:elemSlice P t=some e
 h2:isIntT P t=false
 h3:zeroOk P e=true
 h4:Nat.beq (P.cellsOf e) 0=false
 h5:Nat.ble (P.bytesOf e) 65536=true
 h6:P.cellsOf e=sz
theorem Own.frame {el:TypeId} {lo:Nat} {H H':Hp} {v:AV} (h:Own sz enc el lo H v xs) (hn:H.nx≤H'.nx) (hf:∀c,lo≤c→c<H.nx→H'.get c=H.get c):Own sz enc el lo H' v xs:=by
 rcases h with h | ⟨b,c,h1,hc,h2,h3,h5⟩
 ·exact .inl h
 ·exact .inr ⟨b,c,h1,hc,h2,by omega,by rw [hf b h2 h3];exact h5⟩
theorem Own.one {el:TypeId} {lo:Nat} {v:AV} (h:Own sz enc el lo H v xs):one v=true:=by
 rcases h with⟨rfl,_⟩| ⟨b,c,rfl,_⟩<;>rfl
theorem Own.cells {el:TypeId} {lo:Nat} {v:AV} (h:Own sz enc el lo H v xs):AV.cells v=[v]:=by
 rcases h with⟨rfl,_⟩| ⟨b,c,rfl,_⟩<;>rfl
theorem Own.same {el:TypeId} {lo:Nat} {v:AV} (h:Own sz enc el lo H v xs) (n:Nat):avSame (n+1) v v=true:=by
 rcases h with⟨rfl,_⟩| ⟨b,c,rfl,_⟩
 ·rfl
 ·exact avs_sl _ _ _ _ _ _
theorem Own.rd {el:TypeId} {lo:Nat} {v:AV} (hs:∀x,(enc x).length=sz) (h:Own sz enc el lo H v xs):∃d I,Rd H v d I∧Sl sz enc xs d:=by
 rcases h with⟨rfl,rfl⟩| ⟨b,c,rfl,_,_,_,h5⟩
 ·exact⟨.nils,[], .fro .nils, .inl ⟨rfl,rfl⟩⟩
 ·refine⟨.sl sz (rows enc xs) xs.length,[b], .sl b 0 xs.length sz c _ _ _ (ofDs (rows enc xs)) (rows enc xs) [] h5 ?_ (.fro _), .inr rfl⟩
  have hl:(ofDs (rows enc xs)).length=xs.length * sz:=by rw [ofDs_length,rows_length hs]
  rw [List.drop_zero,takeN_take _ _ (by omega),List.take_of_length_le (by omega)]
theorem Own.ret {el:TypeId} {lo:Nat} {v:AV} {Q:D→Prop} (hs:∀x,(enc x).length=sz) (h:Own sz enc el lo H v xs) (hq:∀d,Sl sz enc xs d→Q d):endQ Q (.ret v) H=true:=by
 obtain⟨d,I,h1,h2⟩:=h.rd hs
 exact endQ_ret (hq d h2) h1
theorem Own.len {el:TypeId} {lo:Nat} {v:AV} (h:Own sz enc el lo H v xs) {t e:TypeId} (hu:P.underlying t=some (.slice e)) (H':Hp) (k:AV→Bool):lenK P t v H' k=k (.int .i64 (xs.length:Int)):=by
 unfold lenK
 rw [hu]
 rcases h with⟨rfl,rfl⟩| ⟨b,c,rfl,_⟩<;>rfl
theorem Own.at {el:TypeId} {lo:Nat} {v:AV} (h:Own sz enc el lo H v xs) {n:Nat} (hn:n<xs.length):∃b,v= .sl b 0 xs.length sz none∧lo≤b∧b<H.nx∧H.get b=some (.cells (some el) false (ofDs (rows enc xs))):=by
 rcases h with⟨_,rfl⟩| ⟨b,c,h1,hc,h2,h3,h5⟩
 ·simp at hn
 ·rcases hc with rfl | ⟨_,rfl⟩
  ·exact⟨b,h1,h2,h3,h5⟩
  ·simp at hn
theorem idx_own {b off len:Nat} {c:Option Nat} {t e:TypeId} {k:AV→Bool} (hu:P.underlying t=some (.slice e)) (hi:(P.info? e).isSome=true) (hc:P.cellsOf e=sz) {n:Nat} (hn:n<len) {i:IntKind}:
  indexAtK P t (.sl b off len sz c) (.int i (n:Int)) k=k (.ptr b (off+n * sz)):=by
 unfold indexAtK
 show (match P.underlying t,(AV.sl b off len sz c) with
  | some (.array len e), .ptr b off=>_
  | some (.array len e), .gptr b off=>_
  | some (.slice e), .sl b off len z _=>_
  | some (.slice e), .dat (.sl z cs len)=>_
  | _,_=>false)=_
 rw [hu]
 dsimp only
 rw [hi,hc,Nat.beq_refl,show Nat.blt n len=true from by simpa [Nat.blt_eq] using hn]
 exact forceN_eq (off+n * sz) fun o=>k (.ptr b o)
theorem all_one_rows (hone:∀x,(ofDs (enc x)).all one=true):∀xs:List α,(ofDs (rows enc xs)).all one=true
 | []=>rfl
 | x::xs=>by
  show (ofDs (enc x++rows enc xs)).all one=true
  rw [ofDs_append,List.all_append,hone x,all_one_rows hone xs];rfl
theorem rows_app (a b:List α):rows enc (a++b)=rows enc a++rows enc b:=by simp [rows]
theorem rows_drop_take (hs:∀x,(enc x).length=sz):∀(ys:List α) (j m:Nat),j+m≤ys.length→((ofDs (rows enc ys)).drop (j * sz)).take (m * sz)=ofDs (rows enc ((ys.drop j).take m))
 | ys,0,m,h=>by
  have h1:ys=ys.take m++ys.drop m:=(List.take_append_drop m ys).symm
  have h2:(rows enc (ys.take m)).length=m * sz:=by rw [rows_length hs,List.length_take];congr 1;omega
  rw [Nat.zero_mul,List.drop_zero,List.drop_zero]
  conv=>lhs;rw [h1,rows_app,ofDs_append]
  rw [List.take_append,List.take_of_length_le (by rw [ofDs_length,h2];exact Nat.le_refl _),ofDs_length,h2,Nat.sub_self,List.take_zero,List.append_nil]
 | [],j+1,m,h=>by simp at h
 | y::ys,j+1,m,h=>by
  have ih:=rows_drop_take hs ys j m (by simp at h;omega)
  show ((ofDs (enc y++rows enc ys)).drop ((j+1) * sz)).take (m * sz)=ofDs (rows enc (((y::ys).drop (j+1)).take m))
  rw [ofDs_append,Nat.succ_mul,List.drop_append,List.drop_of_length_le (by rw [ofDs_length,hs y];omega),ofDs_length,hs y,List.nil_append,List.drop_succ_cons,←ih]
  congr 2;omega
structure Grown (sz:Nat) (enc:α→List D) (e:TypeId) (lo:Nat) (H:Hp) (v:AV) (zs:List α) (v':AV) (H':Hp):Prop where
 own:Own sz enc e lo H' v' zs
 nx1:H.nx≤H'.nx
 nx2:H'.nx≤H.nx+1
 keep:∀c,c<lo→H'.get c=H.get c
 keep2:∀c,(∀b z n q,v= .sl b z n sz q→c≠b)→c≠H.nx→H'.get c=H.get c
theorem app_core {t e tx:TypeId} {lo:Nat} {v x:AV} {zs:List α} {k:AV→Hp→Bool} (hs:∀x,(enc x).length=sz) (hone:∀x,(ofDs (enc x)).all one=true) (ht:ApT P t e sz) (htx:isIntT P tx=false)
  (ho:Own sz enc e lo H v xs) (hlo:lo≤H.nx) (hcells:∀kk:Nat→List AV→Bool,cellsOfK H sz x kk=kk zs.length (ofDs (rows enc zs))) (hlen:xs.length+zs.length≤1048576)
  (hk:∀v' H',Grown sz enc e lo H v (xs++zs) v' H'→k v' H'=true):appendK P H t tx v x k=true:=by
 have hall:(ofDs (rows enc zs)).all one=true:=all_one_rows hone _
 unfold appendK
 rw [ht.h1]
 dsimp only
 rw [htx,ht.h3,ht.h4,ht.h5]
 dsimp only
 rw [ht.h6,hcells,hall]
 dsimp only
 cases zs with
 | nil=>
  have h0:∀v' H',Own sz enc e lo H' v' xs→H.nx≤H'.nx→H'.nx≤H.nx+1→(∀c,c<lo→H'.get c=H.get c)→(∀c,(∀b z n q,v= .sl b z n sz q→c≠b)→c≠H.nx→H'.get c=H.get c)→k v' H'=true:=fun v' H' h a b c d=>hk v' H' ⟨by simpa using h,a,b,c,d⟩
  rcases ho with⟨rfl,rfl⟩| ⟨b,c,rfl,h2⟩
  ·exact h0 _ _ (.inl ⟨rfl,rfl⟩) (Nat.le_refl _) (by omega) (fun _ _=>rfl) (fun _ _ _=>rfl)
  ·exact h0 _ _ (.inr ⟨b,c,rfl,h2⟩) (Nat.le_refl _) (by omega) (fun _ _=>rfl) (fun _ _ _=>rfl)
 | cons z zs=>
  simp only [List.length_cons] at hlen⊢
  rcases ho with⟨rfl,rfl⟩| ⟨b,c,rfl,hc,h2,h3,h5⟩
  ·dsimp only
   rw [show Nat.ble (zs.length+1) 1048576=true from by simp at hlen⊢;omega]
   dsimp only
   rw [Hp.new_r]
   refine hk _ _ ⟨.inr ⟨H.nx,none, ?_, .inl rfl,hlo, ?_, ?_⟩, ?_, ?_, ?_, ?_⟩
   ·rw [List.nil_append];rfl
   ·rw [Hp.nx_push];omega
   ·rw [Hp.get_push,if_pos rfl,List.nil_append]
   ·rw [Hp.nx_push];omega
   ·rw [Hp.nx_push];omega
   ·intro c hc;rw [Hp.get_push,if_neg (by omega)]
   ·intro c _ hc;rw [Hp.get_push,if_neg hc]
  ·dsimp only
   have hlen2:(ofDs (rows enc xs)).length=xs.length * sz:=by rw [ofDs_length,rows_length hs]
   rw [Nat.beq_refl,show Nat.ble (xs.length+(zs.length+1)) 1048576=true from by simpa using hlen,h5]
   dsimp only
   rw [List.drop_zero,takeN_take _ _ (by omega),List.take_of_length_le (by omega)]
   dsimp only
   have hpos:0<sz:=by have:=ht.h4;rw [ht.h6] at this;cases sz with | zero=>cases this | succ n=>omega
   rcases hc with rfl | ⟨rfl,rfl⟩
   ·have hgt:xs.length * sz<(xs.length+(zs.length+1)) * sz:=Nat.mul_lt_mul_of_pos_right (by omega) hpos
    dsimp only [capLt]
    rw [show Nat.ble (0+(xs.length+(zs.length+1)) * sz) (ofDs (rows enc xs)).length=false from by
     rw [hlen2,Nat.zero_add]
     cases hb:Nat.ble ((xs.length+(zs.length+1)) * sz) (xs.length * sz) with
     | false=>rfl
     | true=>have:=Nat.le_of_ble_eq_true hb;omega]
    dsimp only
    rw [forceL_eq,Hp.put_r,Hp.new_r,forceN_eq]
    have hel:appEl 0 none (some e) e=some e:=by simp [appEl,Nat.beq_refl]
    rw [hel]
    refine hk _ _ ⟨.inr ⟨H.nx,none, ?_, .inl rfl,hlo, ?_, ?_⟩, ?_, ?_, ?_, ?_⟩
    ·rw [Hp.nx_setb,List.length_append];rfl
    ·rw [Hp.nx_push,Hp.nx_setb];omega
    ·rw [Hp.get_push,Hp.nx_setb,if_pos rfl,rows_app,ofDs_append]
    ·rw [Hp.nx_push,Hp.nx_setb];omega
    ·rw [Hp.nx_push,Hp.nx_setb];omega
    ·intro c hc;rw [Hp.get_push,Hp.nx_setb,if_neg (by omega),Hp.get_setb,if_neg (by omega)]
    ·intro c hb hc;rw [Hp.get_push,Hp.nx_setb,if_neg hc,Hp.get_setb,if_neg (hb b 0 _ none rfl)]
   ·simp only [List.length_nil,Nat.zero_add]
    rw [show capLt (some 0) (zs.length+1)=true from by simp [capLt,Nat.blt_eq]]
    dsimp only
    rw [forceL_eq,Hp.new_r,forceN_eq]
    refine hk _ _ ⟨.inr ⟨H.nx,none, ?_, .inl rfl,hlo, ?_, ?_⟩, ?_, ?_, ?_, ?_⟩
    ·rw [List.nil_append];rfl
    ·rw [Hp.nx_push];omega
    ·rw [Hp.get_push,if_pos rfl,List.nil_append];rfl
    ·rw [Hp.nx_push];omega
    ·rw [Hp.nx_push];omega
    ·intro c hc;rw [Hp.get_push,if_neg (by omega)]
    ·intro c _ hc;rw [Hp.get_push,if_neg hc]
theorem cells_wn {b1 m j:Nat} {c1:Option Nat} {el1:Option TypeId} {ro1:Bool} {ys:List α} {kk:Nat→List AV→Bool} (hs:∀x,(enc x).length=sz) (hb1:H.get b1=some (.cells el1 ro1 (ofDs (rows enc ys)))) (hj:j+m≤ys.length):
  cellsOfK H sz (.sl b1 (j * sz) m sz c1) kk=kk ((ys.drop j).take m).length (ofDs (rows enc ((ys.drop j).take m))):=by
 have hlen1:(ofDs (rows enc ys)).length=ys.length * sz:=by rw [ofDs_length,rows_length hs]
 have hmul:(j+m) * sz≤ys.length * sz:=Nat.mul_le_mul_right _ hj
 rw [Nat.add_mul] at hmul
 have hnew:takeN (m * sz) ((ofDs (rows enc ys)).drop (j * sz))=some (ofDs (rows enc ((ys.drop j).take m))):=by
  rw [takeN_take _ _ (by rw [List.length_drop,hlen1];omega),rows_drop_take hs ys j m hj]
 have hml:((ys.drop j).take m).length=m:=by rw [List.length_take,List.length_drop];omega
 unfold cellsOfK
 dsimp only
 rw [Nat.beq_refl,hb1]
 dsimp only
 rw [hnew,hml]
 exact forceL_eq _ _
theorem cells_slD {d:D} {ys:List α} {kk:Nat→List AV→Bool} (hs:∀x,(enc x).length=sz) (hd:Sl sz enc ys d):cellsOfK H sz (ofD d) kk=kk ys.length (ofDs (rows enc ys)):=by
 rcases hd with⟨rfl,rfl⟩| rfl
 ·rfl
 ·unfold cellsOfK
  simp only [ofD]
  rw [Nat.beq_refl,takeN_take _ _ (by rw [ofDs_length,rows_length hs];exact Nat.le_refl _),List.take_of_length_le (by rw [ofDs_length,rows_length hs];exact Nat.le_refl _)]
  exact forceL_eq _ _
theorem app_win {t e:TypeId} {lo:Nat} {v:AV} {b1 off1 m j:Nat} {c1:Option Nat} {el1:Option TypeId} {ro1:Bool} {ys:List α} {k:AV→Hp→Bool} (hs:∀x,(enc x).length=sz) (hone:∀x,(ofDs (enc x)).all one=true) (ht:ApT P t e sz)
  (ho:Own sz enc e lo H v xs) (hlo:lo≤H.nx) (hb1:H.get b1=some (.cells el1 ro1 (ofDs (rows enc ys)))) (hoff:off1=j * sz) (hj:j+m≤ys.length) (hlen:xs.length+m≤1048576)
  (hk:∀v' H',Grown sz enc e lo H v (xs++(ys.drop j).take m) v' H'→k v' H'=true):appendK P H t t v (.sl b1 off1 m sz c1) k=true:=by
 subst hoff
 exact app_core hs hone ht ht.h2 ho hlo (fun kk=>cells_wn hs hb1 hj) (by rw [List.length_take,List.length_drop];omega) hk
theorem app_dat {t e:TypeId} {lo:Nat} {v:AV} {d:D} {ys:List α} {k:AV→Hp→Bool} (hs:∀x,(enc x).length=sz) (hone:∀x,(ofDs (enc x)).all one=true) (ht:ApT P t e sz)
  (ho:Own sz enc e lo H v xs) (hlo:lo≤H.nx) (hd:Sl sz enc ys d) (hlen:xs.length+ys.length≤1048576)
  (hk:∀v' H',Grown sz enc e lo H v (xs++ys) v' H'→k v' H'=true):appendK P H t t v (ofD d) k=true:=
 app_core hs hone ht ht.h2 ho hlo (fun kk=>cells_slD hs hd) hlen hk
theorem app_one {t e:TypeId} {lo:Nat} {v:AV} {b1:Nat} {c1:Option Nat} {el1:Option TypeId} {ro1:Bool} {x:α} {k:AV→Hp→Bool} (hs:∀x,(enc x).length=sz) (hone:∀x,(ofDs (enc x)).all one=true) (ht:ApT P t e sz)
  (ho:Own sz enc e lo H v xs) (hlo:lo≤H.nx) (hb1:H.get b1=some (.cells el1 ro1 (ofDs (enc x)))) (hlen:xs.length+1≤1048576)
  (hk:∀v' H',Own sz enc e lo H' v' (xs++[x])→H.nx≤H'.nx→H'.nx≤H.nx+1→(∀c,c<lo→H'.get c=H.get c)→(∀c,(∀b z n q,v= .sl b z n sz q→c≠b)→c≠H.nx→H'.get c=H.get c)→k v' H'=true):appendK P H t t v (.sl b1 0 1 sz c1) k=true:=by
 refine app_win (ys:=[x]) (j:=0) (el1:=el1) (ro1:=ro1) hs hone ht ho hlo (by rw [hb1];simp [rows]) (by simp) (by simp) hlen ?_
 intro v' H' ⟨h,a,b,c,d⟩
 exact hk v' H' (by simpa using h) a b c d
theorem ite_no {c:Prop} [Decidable c] {β:Type} {a b:β} (h:¬c):(if c then a else b)=b:=if_neg h
theorem ite_yes {c:Prop} [Decidable c] {β:Type} {a b:β} (h:c):(if c then a else b)=a:=if_pos h
end
end
end Go.Ev
namespace Go.Ev
set_option linter.unusedVariables false
noncomputable section
def Mk:Prop:=True
@[go_sem] theorem Mk_r:Mk=True:=eq_true trivial
section
variable {P : Program} {G : Globals} {H : Hp} {k : AV → Bool} {α : Type} {sz : Nat} {enc : α → List D} {xs : List α} {d : D}
@[congr] theorem loadK_congrM {t:TypeId} {a a':AV} (h:a=a') {pM:Prop} (hM:Mk=pM):loadK P G H t a k=loadK P G H t a' k:=by rw [h]
@[congr] theorem loadB_congrM {t:TypeId} {off:Nat} {o o':Option Blk} (h:o=o') {pM:Prop} (hM:Mk=pM):loadB P t off k o=loadB P t off k o':=by rw [h]
@[congr] theorem partB_congrM {a a':Option Bool} {n n':Nat} {cs:List AV} {off off':Nat} (h:a=a') (hn:n=n') (ho:off=off') {pM:Prop} (hM:Mk=pM):partB a n cs off k=partB a' n' cs off' k:=by rw [h,hn,ho]
@[congr] theorem oneB_congrM {o o':Option AV} (h:o=o') {pM:Prop} (hM:Mk=pM):oneB o k=oneB o' k:=by rw [h]
@[congr] theorem manyB_congrM {o o':Option (List AV)} (h:o=o') {pM:Prop} (hM:Mk=pM):manyB o k=manyB o' k:=by rw [h]
@[congr] theorem storeK_congrM {t:TypeId} {a a' v v':AV} {k:Hp→Bool} (h:a=a') (hv:v=v') {pM:Prop} (hM:Mk=pM):storeK P H t a v k=storeK P H t a' v' k:=by rw [h,hv]
@[congr] theorem storeB_congrM {a a':Option Bool} {n n' b off off':Nat} {vs vs':List AV} {k:Hp→Bool} {o o':Option Blk} (ha:a=a') (hn:n=n') (hf:off=off') (hv:vs=vs') (h:o=o') {pM:Prop} (hM:Mk=pM):storeB a n H b off vs k o=storeB a' n' H b off' vs' k o':=by rw [ha,hn,hf,hv,h]
@[congr] theorem setB_congrM {b:Nat} {el:Option TypeId} {k:Hp→Bool} {g g':Bool} {o o':Option (List AV)} (hg:g=g') (h:o=o') {pM:Prop} (hM:Mk=pM):setB H b el k g o=setB H b el k g' o':=by rw [hg,h]
@[congr] theorem ptrPlus_congrM {a a':AV} {n:Nat} (h:a=a') {pM:Prop} (hM:Mk=pM):ptrPlus a n k=ptrPlus a' n k:=by rw [h]
@[congr] theorem binK_congrM {op:BinOp} {t:TypeId} {nc:Bool} {a a' b b':AV} (ha:a=a') (hb:b=b') {pM:Prop} (hM:Mk=pM):binK P op t nc a b k=binK P op t nc a' b' k:=by rw [ha,hb]
@[congr] theorem unK_congrM {op:UnOp} {a a':AV} (h:a=a') {pM:Prop} (hM:Mk=pM):unK op a k=unK op a' k:=by rw [h]
@[congr] theorem pickV_congrM {c c' a a' b b':AV} (h:c=c') (ha:a=a') (hb:b=b') {pM:Prop} (hM:Mk=pM):pickV c a b k=pickV c' a' b' k:=by rw [h,ha,hb]
@[congr] theorem condV_congrM {c c':AV} {a b:Unit→Bool} (h:c=c') {pM:Prop} (hM:Mk=pM):condV c a b=condV c' a b:=by rw [h]
@[congr] theorem gJoin_congrM {w w':Bool} {F:AV→Hp→Bool} {run:(AV→Hp→Bool)→Bool} (h:w=w') {pM:Prop} (hM:Mk=pM):gJoin w F run H=gJoin w' F run H:=by rw [h]
@[congr] theorem gJoinD_congrM {w w':Bool} {F:DJ} {run:DJ→Bool} {L:Loads} {Q:Pend} (h:w=w') {pM:Prop} (hM:Mk=pM):gJoinD w F run H L Q=gJoinD w' F run H L Q:=by rw [h]
@[congr] theorem isNormal_congrM {x x':AEx} {y:Unit→Bool} {n:AEx→Bool} (h:x=x') {pM:Prop} (hM:Mk=pM):isNormal x y n=isNormal x' y n:=by rw [h]
@[congr] theorem isExit_congrM {i:Nat} {x x':AEx} {y:Unit→Bool} {n:AEx→Bool} (h:x=x') {pM:Prop} (hM:Mk=pM):isExit i x y n=isExit i x' y n:=by rw [h]
@[congr] theorem clv_congrM {n:Nat} {f f':AV} {a a':List AV} {k:AV→Hp→Bool} (hf:f=f') (h:a=a') {pM:Prop} (hM:Mk=pM):clv P G n f a H k=clv P G n f' a' H k:=by rw [hf,h]
@[congr] theorem bodyEnd_congrM {fn:Func} {i:Evs} {k:AEnd→Hp→Bool} {x x':AEx} {e:En} (h:x=x') {pM:Prop} (hM:Mk=pM):bodyEnd P G fn i k x e H=bodyEnd P G fn i k x' e H:=by rw [h]
@[congr] theorem lenK_congrM {t:TypeId} {a a':AV} (h:a=a') {pM:Prop} (hM:Mk=pM):lenK P t a H k=lenK P t a' H k:=by rw [h]
@[congr] theorem indexAtK_congrM {t:TypeId} {a a' i i':AV} (h:a=a') (hi:i=i') {pM:Prop} (hM:Mk=pM):indexAtK P t a i k=indexAtK P t a' i' k:=by rw [h,hi]
@[congr] theorem indexV_congrM {t:TypeId} {a a' i i':AV} (h:a=a') (hi:i=i') {pM:Prop} (hM:Mk=pM):indexV P t a i k=indexV P t a' i' k:=by rw [h,hi]
@[congr] theorem sliceAtK_congrM {t:TypeId} {x x':AV} {lo lo' hi hi' mx mx':Option AV} (h:x=x') (hl:lo=lo') (hh:hi=hi') (hm:mx=mx') {pM:Prop} (hM:Mk=pM):sliceAtK P H t x lo hi mx k=sliceAtK P H t x' lo' hi' mx' k:=by rw [h,hl,hh,hm]
@[congr] theorem extractV_congrM {x x':AV} {i:Nat} (h:x=x') {pM:Prop} (hM:Mk=pM):extractV x i k=extractV x' i k:=by rw [h]
@[congr] theorem bldF_congrM {pl:List (Nat×Nat)} {ps ps':List (Nat×AV)} {z:List AV} (h:ps=ps') {pM:Prop} (hM:Mk=pM):bldF pl ps z k=bldF pl ps' z k:=by rw [h]
@[congr] theorem buildK_congrM {t:TypeId} {ps ps':List (Nat×AV)} (h:ps=ps') {pM:Prop} (hM:Mk=pM):buildK P t ps k=buildK P t ps' k:=by rw [h]
@[congr] theorem bldO_congrM {pl:List (Nat×Nat)} {ps:List (Nat×AV)} {g g':Bool} {o o':Option (List AV)} (hg:g=g') (ho:o=o') {pM:Prop} (hM:Mk=pM):bldO pl ps k g o=bldO pl ps k g' o':=by rw [hg,ho]
@[congr] theorem lookB_congrM {t:TypeId} {i i':AV} {ok:Bool} {o o':Option Blk} (hi:i=i') (ho:o=o') {pM:Prop} (hM:Mk=pM):lookB P t i ok k o=lookB P t i' ok k o':=by rw [hi,ho]
@[congr] theorem lookupK_congrM {t:TypeId} {m m' i i':AV} {ok:Bool} (hm:m=m') (hi:i=i') {pM:Prop} (hM:Mk=pM):lookupK P H t m i ok k=lookupK P H t m' i' ok k:=by rw [hm,hi]
@[congr] theorem updB_congrM {b:Nat} {t:TypeId} {i i' v v':AV} {k:Hp→Bool} {o o':Option Blk} (hi:i=i') (hv:v=v') (ho:o=o') {pM:Prop} (hM:Mk=pM):updB P H b t i v k o=updB P H b t i' v' k o':=by rw [hi,hv,ho]
@[congr] theorem mapUpdateK_congrM {t:TypeId} {m m' i i' v v':AV} {k:Hp→Bool} (hm:m=m') (hi:i=i') (hv:v=v') {pM:Prop} (hM:Mk=pM):mapUpdateK P H t m i v k=mapUpdateK P H t m' i' v' k:=by rw [hm,hi,hv]
@[congr] theorem brec_congr {x y b b':Bool} {pM:Prop} (h:b=b') (hM:Mk=pM): @Bool.rec (fun _=>Bool) x y b= @Bool.rec (fun _=>Bool) x y b':=by rw [h]
@[congr] theorem bcases_congr {x y b b':Bool} {pM:Prop} (h:b=b') (hM:Mk=pM): @Bool.casesOn (fun _=>Bool) b x y= @Bool.casesOn (fun _=>Bool) b' x y:=by rw [h]
@[go_sem ↓ high] theorem isNormal_n' (y:Unit→Bool) (n:AEx→Bool):isNormal .normal y n=y ():=Bool.eq_iff_iff.mpr Iff.rfl
@[go_sem ↓ high] theorem isNormal_e' (i:Nat) (y:Unit→Bool) (n:AEx→Bool):isNormal (.exit i) y n=n (.exit i):=Bool.eq_iff_iff.mpr Iff.rfl
@[go_sem ↓ high] theorem isNormal_r' (y:Unit→Bool) (n:AEx→Bool):isNormal .ret y n=n .ret:=Bool.eq_iff_iff.mpr Iff.rfl
@[go_sem ↓ high] theorem isExit_n' (i:Nat) (y:Unit→Bool) (n:AEx→Bool):isExit i .normal y n=n .normal:=Bool.eq_iff_iff.mpr Iff.rfl
@[go_sem ↓ high] theorem isExit_r' (i:Nat) (y:Unit→Bool) (n:AEx→Bool):isExit i .ret y n=n .ret:=Bool.eq_iff_iff.mpr Iff.rfl
@[go_sem ↓ high] theorem cond_t' (a b:Unit→Bool):condV (.bool true) a b=a ():=Bool.eq_iff_iff.mpr Iff.rfl
@[go_sem ↓ high] theorem cond_f' (a b:Unit→Bool):condV (.bool false) a b=b ():=Bool.eq_iff_iff.mpr Iff.rfl
@[go_sem ↓ high] theorem gJoin_t' (F:AV→Hp→Bool) (run:(AV→Hp→Bool)→Bool):gJoin true F run H=run F:=Bool.eq_iff_iff.mpr Iff.rfl
@[go_sem ↓ high] theorem gJoin_f' (F:AV→Hp→Bool) (run:(AV→Hp→Bool)→Bool):gJoin false F run H=F (.tup []) H:=Bool.eq_iff_iff.mpr Iff.rfl
@[go_sem ↓ high] theorem gJoinD_t' (F:DJ) (run:DJ→Bool) (L:Loads) (Q:Pend):gJoinD true F run H L Q=run F:=Bool.eq_iff_iff.mpr Iff.rfl
@[go_sem ↓ high] theorem gJoinD_f' (F:DJ) (run:DJ→Bool) (L:Loads) (Q:Pend):gJoinD false F run H L Q=F (.tup []) H L Q:=Bool.eq_iff_iff.mpr Iff.rfl
@[go_sem ↓ high] theorem pick_t' (a b:AV):pickV (.bool true) a b k=k a:=Bool.eq_iff_iff.mpr Iff.rfl
@[go_sem ↓ high] theorem pick_f' (a b:AV):pickV (.bool false) a b k=k b:=Bool.eq_iff_iff.mpr Iff.rfl
@[go_sem ↓ high] theorem layAll_nil' (k:Hp→Bool):layAll [] H k=k H:=Bool.eq_iff_iff.mpr Iff.rfl
@[go_sem ↓ high] theorem layAnc_nil' (a:Nat) (k:Pend→Hp→Bool):layAnc a [] H k=k [] H:=Bool.eq_iff_iff.mpr Iff.rfl
@[go_sem ↓ high] theorem brec_t' (x k:Bool): @Bool.rec (fun _=>Bool) x k true=k:=Bool.eq_iff_iff.mpr Iff.rfl
@[go_sem ↓ high] theorem bcas_t' (x k:Bool): @Bool.casesOn (fun _=>Bool) true x k=k:=Bool.eq_iff_iff.mpr Iff.rfl
@[go_sem ↓ high] theorem oneB_s' (v:AV):oneB (some v) k=k v:=Bool.eq_iff_iff.mpr Iff.rfl
@[go_sem ↓ high] theorem manyB_s' (v:List AV):manyB (some v) k=k (.agg v):=Bool.eq_iff_iff.mpr Iff.rfl
@[go_sem ↓ high] theorem partB_t' (n:Nat) (cs:List AV) (off:Nat):partB (some true) n cs off k=manyB (takeN n (cs.drop off)) k:=Bool.eq_iff_iff.mpr Iff.rfl
@[go_sem ↓ high] theorem partB_f' (n:Nat) (cs:List AV) (off:Nat):partB (some false) n cs off k=oneB cs[off]? k:=Bool.eq_iff_iff.mpr Iff.rfl
@[go_sem ↓ high] theorem loadB_cells' (t:TypeId) (off:Nat) (el:Option TypeId) (ro:Bool) (cs:List AV):loadB P t off k (some (.cells el ro cs))=partB (isAg P t) (P.cellsOf t) cs off k:=Bool.eq_iff_iff.mpr Iff.rfl
@[go_sem ↓ high] theorem setB_s' (b:Nat) (el:Option TypeId) (cs:List AV) (k:Hp→Bool):setB H b el k true (some cs)=k (H.setb b (some (.cells el false cs))):=Bool.eq_iff_iff.mpr Iff.rfl
@[go_sem ↓ high] theorem bldF_nil' (pl:List (Nat×Nat)) (z:List AV):bldF pl [] z k=k (.agg z):=Bool.eq_iff_iff.mpr Iff.rfl
@[go_sem ↓ high] theorem bldO_s' (pl:List (Nat×Nat)) (ps:List (Nat×AV)) (z:List AV):bldO pl ps k true (some z)=bldF pl ps z k:=Bool.eq_iff_iff.mpr Iff.rfl
@[go_sem ↓ high] theorem ex_z' (v:AV) (vs:List AV):extractV (.tup (v::vs)) 0 k=k v:=Bool.eq_iff_iff.mpr Iff.rfl
@[go_sem ↓ high] theorem ex_o' (v u:AV) (vs:List AV):extractV (.tup (v::u::vs)) 1 k=k u:=Bool.eq_iff_iff.mpr Iff.rfl
@[go_sem ↓ high] theorem ex_t' (v u x:AV) (vs:List AV):extractV (.tup (v::u::x::vs)) 2 k=k x:=Bool.eq_iff_iff.mpr Iff.rfl
@[congr] theorem cd_congrM {m nt:Nat} {c:Code} {ro:Option Nat} {e e':En} {H H':Hp} {k:AEx→En→Hp→Bool} {pM:Prop} (he:e=e') (hH:H=H') (hM:Mk=pM):cd P G m nt c ro e H k=cd P G m nt c ro e' H' k:=by rw [he,hH]
@[congr] theorem semC_congrM {nt:Nat} {c:Code} {ro:Option Nat} {e e':En} {H H':Hp} {k:AEx→En→Hp→Bool} {pM:Prop} (he:e=e') (hH:H=H') (hM:Mk=pM):semC P G nt c ro e H k=semC P G nt c ro e' H' k:=by rw [he,hH]
@[congr] theorem cl_congrM {g:FuncId} {a a':List AV} {H H':Hp} {k:AV→Hp→Bool} {pM:Prop} (h:a=a') (hH:H=H') (hM:Mk=pM):cl P G g a H k=cl P G g a' H' k:=by rw [h,hH]
@[congr] theorem again_congrM {Inv:Nat→En→Hp→Prop} {m:Nat} {e e':En} {H H':Hp} {pM:Prop} (he:e=e') (hH:H=H') (hM:Mk=pM):again Inv m e H=again Inv m e' H':=by rw [he,hH]
theorem smalls_ok {l:List (Nat×AV)} (h:smalls l=true):smalls l=true:=h
theorem testBit_ok {a i:Nat} (h:a.testBit i=true):a.testBit i=true:=h
theorem testBit_no {a i:Nat} (h:a.testBit i=false):a.testBit i=false:=h
theorem cl_guard {f:FuncId} {args:List AV} {k:AV→Hp→Bool} (h:cl P G f args H k=true):cl P G f args H k=true:=h
@[congr] theorem appendK_congrM {t u:TypeId} {s s' x x':AV} {k:AV→Hp→Bool} {pM:Prop} (h:s=s') (h':x=x') (hM:Mk=pM):appendK P H t u s x k=appendK P H t u s' x' k:=by rw [h,h']
@[congr] theorem buildSliceK_congrM {t n:Nat} {ps ps':List (Nat×AV)} {k:Blk→(Nat→AV)→Bool} {pM:Prop} (h:ps=ps') (hM:Mk=pM):buildSliceK P t n ps k=buildSliceK P t n ps' k:=by rw [h]
@[congr] theorem layAnc_congrM {a:Nat} {Q Q':Pend} {k:Pend→Hp→Bool} {pM:Prop} (h:Q=Q') (hM:Mk=pM):layAnc a Q H k=layAnc a Q' H k:=by rw [h]
@[congr] theorem layAll_congrM {Q Q':Pend} {k:Hp→Bool} {pM:Prop} (h:Q=Q') (hM:Mk=pM):layAll Q H k=layAll Q' H k:=by rw [h]
@[congr] theorem endQ_congrM {Q:D→Prop} {e e':AEnd} {pM:Prop} {H H':Hp} (h:e=e') (hH:H=H') (hM:Mk=pM):endQ Q e H=endQ Q e' H':=by rw [h,hH]
end
end
end Go.Ev
namespace Go.S9
open Go.Ev Go.Proofs
set_option maxRecDepth 1000000
@[go_sem] theorem ag3:isAg P 3=some false:=by kernel_rfl
@[go_sem] theorem ce3:P.cellsOf 3=1:=by kernel_rfl
@[go_sem] theorem in3:(P.info? 3).isSome=true:=by kernel_rfl
@[go_sem] theorem un3:P.underlying 3=some (.int .i64):=by kernel_rfl
@[go_sem] theorem ag4:isAg P 4=some false:=by kernel_rfl
@[go_sem] theorem ce4:P.cellsOf 4=1:=by kernel_rfl
@[go_sem] theorem in4:(P.info? 4).isSome=true:=by kernel_rfl
@[go_sem] theorem un4:P.underlying 4=some .bool:=by kernel_rfl
@[go_sem] theorem ag5:isAg P 5=some false:=by kernel_rfl
@[go_sem] theorem ce5:P.cellsOf 5=1:=by kernel_rfl
@[go_sem] theorem in5:(P.info? 5).isSome=true:=by kernel_rfl
@[go_sem] theorem un5:P.underlying 5=some (.int .u8):=by kernel_rfl
@[go_sem] theorem ag9:isAg P 9=some false:=by kernel_rfl
@[go_sem] theorem ce9:P.cellsOf 9=1:=by kernel_rfl
@[go_sem] theorem in9:(P.info? 9).isSome=true:=by kernel_rfl
@[go_sem] theorem un9:P.underlying 9=some .string:=by kernel_rfl
@[go_sem] theorem ag23:isAg P 23=some true:=by kernel_rfl
@[go_sem] theorem ce23:P.cellsOf 23=2:=by kernel_rfl
@[go_sem] theorem in23:(P.info? 23).isSome=true:=by kernel_rfl
@[go_sem] theorem ag30:isAg P 30=some false:=by kernel_rfl
@[go_sem] theorem ce30:P.cellsOf 30=1:=by kernel_rfl
@[go_sem] theorem in30:(P.info? 30).isSome=true:=by kernel_rfl
@[go_sem] theorem un30:P.underlying 30=some (.int .i64):=by kernel_rfl
@[go_sem] theorem ag41:isAg P 41=some true:=by kernel_rfl
@[go_sem] theorem ce41:P.cellsOf 41=6:=by kernel_rfl
@[go_sem] theorem in41:(P.info? 41).isSome=true:=by kernel_rfl
@[go_sem] theorem ag42:isAg P 42=some false:=by kernel_rfl
@[go_sem] theorem ce42:P.cellsOf 42=1:=by kernel_rfl
@[go_sem] theorem in42:(P.info? 42).isSome=true:=by kernel_rfl
@[go_sem] theorem un42:P.underlying 42=some (.slice 3):=by kernel_rfl
@[go_sem] theorem el42:elemSlice P 42=some 3:=by kernel_rfl
@[go_sem] theorem by3_42:P.bytesOf 3=8:=by kernel_rfl
@[go_sem] theorem ag43:isAg P 43=some false:=by kernel_rfl
@[go_sem] theorem ce43:P.cellsOf 43=1:=by kernel_rfl
@[go_sem] theorem in43:(P.info? 43).isSome=true:=by kernel_rfl
@[go_sem] theorem un43:P.underlying 43=some (.slice 83):=by kernel_rfl
@[go_sem] theorem el43:elemSlice P 43=some 83:=by kernel_rfl
@[go_sem] theorem by83_43:P.bytesOf 83=40:=by kernel_rfl
@[go_sem] theorem ag44:isAg P 44=some false:=by kernel_rfl
@[go_sem] theorem ce44:P.cellsOf 44=1:=by kernel_rfl
@[go_sem] theorem in44:(P.info? 44).isSome=true:=by kernel_rfl
@[go_sem] theorem un44:P.underlying 44=some (.slice 72):=by kernel_rfl
@[go_sem] theorem el44:elemSlice P 44=some 72:=by kernel_rfl
@[go_sem] theorem by72_44:P.bytesOf 72=48:=by kernel_rfl
@[go_sem] theorem ag45:isAg P 45=some false:=by kernel_rfl
@[go_sem] theorem ce45:P.cellsOf 45=1:=by kernel_rfl
@[go_sem] theorem in45:(P.info? 45).isSome=true:=by kernel_rfl
@[go_sem] theorem un45:P.underlying 45=some (.slice 91):=by kernel_rfl
@[go_sem] theorem el45:elemSlice P 45=some 91:=by kernel_rfl
@[go_sem] theorem by91_45:P.bytesOf 91=24:=by kernel_rfl
@[go_sem] theorem ag47:isAg P 47=some true:=by kernel_rfl
@[go_sem] theorem ce47:P.cellsOf 47=15:=by kernel_rfl
@[go_sem] theorem in47:(P.info? 47).isSome=true:=by kernel_rfl
@[go_sem] theorem ag70:isAg P 70=some false:=by kernel_rfl
@[go_sem] theorem ce70:P.cellsOf 70=1:=by kernel_rfl
@[go_sem] theorem in70:(P.info? 70).isSome=true:=by kernel_rfl
@[go_sem] theorem un70:P.underlying 70=some (.slice 90):=by kernel_rfl
@[go_sem] theorem el70:elemSlice P 70=some 90:=by kernel_rfl
@[go_sem] theorem by90_70:P.bytesOf 90=16:=by kernel_rfl
@[go_sem] theorem ag72:isAg P 72=some true:=by kernel_rfl
@[go_sem] theorem ce72:P.cellsOf 72=2:=by kernel_rfl
@[go_sem] theorem in72:(P.info? 72).isSome=true:=by kernel_rfl
@[go_sem] theorem ag73:isAg P 73=some false:=by kernel_rfl
@[go_sem] theorem ce73:P.cellsOf 73=1:=by kernel_rfl
@[go_sem] theorem in73:(P.info? 73).isSome=true:=by kernel_rfl
@[go_sem] theorem un73:P.underlying 73=some (.pointer 76):=by kernel_rfl
@[go_sem] theorem ag74:isAg P 74=some false:=by kernel_rfl
@[go_sem] theorem ce74:P.cellsOf 74=1:=by kernel_rfl
@[go_sem] theorem in74:(P.info? 74).isSome=true:=by kernel_rfl
@[go_sem] theorem un74:P.underlying 74=some (.slice 5):=by kernel_rfl
@[go_sem] theorem el74:elemSlice P 74=some 5:=by kernel_rfl
@[go_sem] theorem by5_74:P.bytesOf 5=1:=by kernel_rfl
@[go_sem] theorem ag76:isAg P 76=some true:=by kernel_rfl
@[go_sem] theorem ce76:P.cellsOf 76=2:=by kernel_rfl
@[go_sem] theorem in76:(P.info? 76).isSome=true:=by kernel_rfl
@[go_sem] theorem ag78:isAg P 78=some true:=by kernel_rfl
@[go_sem] theorem ce78:P.cellsOf 78=2:=by kernel_rfl
@[go_sem] theorem in78:(P.info? 78).isSome=true:=by kernel_rfl
@[go_sem] theorem ag83:isAg P 83=some true:=by kernel_rfl
@[go_sem] theorem ce83:P.cellsOf 83=5:=by kernel_rfl
@[go_sem] theorem in83:(P.info? 83).isSome=true:=by kernel_rfl
@[go_sem] theorem ag86:isAg P 86=some false:=by kernel_rfl
@[go_sem] theorem ce86:P.cellsOf 86=1:=by kernel_rfl
@[go_sem] theorem in86:(P.info? 86).isSome=true:=by kernel_rfl
@[go_sem] theorem ag90:isAg P 90=some true:=by kernel_rfl
@[go_sem] theorem ce90:P.cellsOf 90=2:=by kernel_rfl
@[go_sem] theorem in90:(P.info? 90).isSome=true:=by kernel_rfl
@[go_sem] theorem ag91:isAg P 91=some false:=by kernel_rfl
@[go_sem] theorem ce91:P.cellsOf 91=1:=by kernel_rfl
@[go_sem] theorem in91:(P.info? 91).isSome=true:=by kernel_rfl
@[go_sem] theorem un91:P.underlying 91=some (.slice 100):=by kernel_rfl
@[go_sem] theorem el91:elemSlice P 91=some 100:=by kernel_rfl
@[go_sem] theorem by100_91:P.bytesOf 100=24:=by kernel_rfl
@[go_sem] theorem ag95:isAg P 95=some false:=by kernel_rfl
@[go_sem] theorem ce95:P.cellsOf 95=1:=by kernel_rfl
@[go_sem] theorem in95:(P.info? 95).isSome=true:=by kernel_rfl
@[go_sem] theorem ag98:isAg P 98=some false:=by kernel_rfl
@[go_sem] theorem ce98:P.cellsOf 98=1:=by kernel_rfl
@[go_sem] theorem in98:(P.info? 98).isSome=true:=by kernel_rfl
@[go_sem] theorem ag100:isAg P 100=some true:=by kernel_rfl
@[go_sem] theorem ce100:P.cellsOf 100=3:=by kernel_rfl
@[go_sem] theorem in100:(P.info? 100).isSome=true:=by kernel_rfl
@[go_sem] theorem ag168:isAg P 168=some false:=by kernel_rfl
@[go_sem] theorem ce168:P.cellsOf 168=1:=by kernel_rfl
@[go_sem] theorem in168:(P.info? 168).isSome=true:=by kernel_rfl
@[go_sem] theorem un168:P.underlying 168=some (.pointer 5):=by kernel_rfl
@[go_sem] theorem ag171:isAg P 171=some true:=by kernel_rfl
@[go_sem] theorem ce171:P.cellsOf 171=2:=by kernel_rfl
@[go_sem] theorem in171:(P.info? 171).isSome=true:=by kernel_rfl
@[go_sem] theorem ag216:isAg P 216=some false:=by kernel_rfl
@[go_sem] theorem ce216:P.cellsOf 216=1:=by kernel_rfl
@[go_sem] theorem in216:(P.info? 216).isSome=true:=by kernel_rfl
end Go.S9
namespace Go.S9
open Go.Ev Go.Proofs
set_option maxRecDepth 1000000
@[go_sem] theorem ag25:isAg P 25=some true:=by kernel_rfl
@[go_sem] theorem ce25:P.cellsOf 25=2:=by kernel_rfl
@[go_sem] theorem in25:(P.info? 25).isSome=true:=by kernel_rfl
@[go_sem] theorem ag27:isAg P 27=some true:=by kernel_rfl
@[go_sem] theorem ce27:P.cellsOf 27=10:=by kernel_rfl
@[go_sem] theorem in27:(P.info? 27).isSome=true:=by kernel_rfl
@[go_sem] theorem ag58:isAg P 58=some false:=by kernel_rfl
@[go_sem] theorem ce58:P.cellsOf 58=1:=by kernel_rfl
@[go_sem] theorem in58:(P.info? 58).isSome=true:=by kernel_rfl
@[go_sem] theorem un58:P.underlying 58=some (.slice 9):=by kernel_rfl
@[go_sem] theorem el58:elemSlice P 58=some 9:=by kernel_rfl
@[go_sem] theorem by9_58:P.bytesOf 9=16:=by kernel_rfl
@[go_sem] theorem ag103:isAg P 103=some true:=by kernel_rfl
@[go_sem] theorem ce103:P.cellsOf 103=2:=by kernel_rfl
@[go_sem] theorem in103:(P.info? 103).isSome=true:=by kernel_rfl
@[go_sem] theorem ag104:isAg P 104=some false:=by kernel_rfl
@[go_sem] theorem ce104:P.cellsOf 104=1:=by kernel_rfl
@[go_sem] theorem in104:(P.info? 104).isSome=true:=by kernel_rfl
@[go_sem] theorem un104:P.underlying 104=some (.slice 103):=by kernel_rfl
@[go_sem] theorem el104:elemSlice P 104=some 103:=by kernel_rfl
@[go_sem] theorem by103_104:P.bytesOf 103=24:=by kernel_rfl
@[go_sem] theorem ag105:isAg P 105=some false:=by kernel_rfl
@[go_sem] theorem ce105:P.cellsOf 105=1:=by kernel_rfl
@[go_sem] theorem in105:(P.info? 105).isSome=true:=by kernel_rfl
@[go_sem] theorem un105:P.underlying 105=some (.slice 23):=by kernel_rfl
@[go_sem] theorem el105:elemSlice P 105=some 23:=by kernel_rfl
@[go_sem] theorem by23_105:P.bytesOf 23=16:=by kernel_rfl
@[go_sem] theorem ag107:isAg P 107=some true:=by kernel_rfl
@[go_sem] theorem ce107:P.cellsOf 107=2:=by kernel_rfl
@[go_sem] theorem in107:(P.info? 107).isSome=true:=by kernel_rfl
@[go_sem] theorem ag108:isAg P 108=some false:=by kernel_rfl
@[go_sem] theorem ce108:P.cellsOf 108=1:=by kernel_rfl
@[go_sem] theorem in108:(P.info? 108).isSome=true:=by kernel_rfl
@[go_sem] theorem un108:P.underlying 108=some (.slice 107):=by kernel_rfl
@[go_sem] theorem el108:elemSlice P 108=some 107:=by kernel_rfl
@[go_sem] theorem by107_108:P.bytesOf 107=48:=by kernel_rfl
@[go_sem] theorem ag110:isAg P 110=some true:=by kernel_rfl
@[go_sem] theorem ce110:P.cellsOf 110=5:=by kernel_rfl
@[go_sem] theorem in110:(P.info? 110).isSome=true:=by kernel_rfl
@[go_sem] theorem ag111:isAg P 111=some false:=by kernel_rfl
@[go_sem] theorem ce111:P.cellsOf 111=1:=by kernel_rfl
@[go_sem] theorem in111:(P.info? 111).isSome=true:=by kernel_rfl
@[go_sem] theorem un111:P.underlying 111=some (.slice 110):=by kernel_rfl
@[go_sem] theorem el111:elemSlice P 111=some 110:=by kernel_rfl
@[go_sem] theorem by110_111:P.bytesOf 110=40:=by kernel_rfl
@[go_sem] theorem ag113:isAg P 113=some true:=by kernel_rfl
@[go_sem] theorem ce113:P.cellsOf 113=3:=by kernel_rfl
@[go_sem] theorem in113:(P.info? 113).isSome=true:=by kernel_rfl
@[go_sem] theorem ag140:isAg P 140=some true:=by kernel_rfl
@[go_sem] theorem ce140:P.cellsOf 140=7:=by kernel_rfl
@[go_sem] theorem in140:(P.info? 140).isSome=true:=by kernel_rfl
@[go_sem] theorem ag266:isAg P 266=some false:=by kernel_rfl
@[go_sem] theorem ce266:P.cellsOf 266=1:=by kernel_rfl
@[go_sem] theorem in266:(P.info? 266).isSome=true:=by kernel_rfl
@[go_sem] theorem un266:P.underlying 266=some (.map 9 4):=by kernel_rfl
@[go_sem] theorem ag270:isAg P 270=some false:=by kernel_rfl
@[go_sem] theorem ce270:P.cellsOf 270=1:=by kernel_rfl
@[go_sem] theorem in270:(P.info? 270).isSome=true:=by kernel_rfl
@[go_sem] theorem un270:P.underlying 270=some (.slice 140):=by kernel_rfl
@[go_sem] theorem el270:elemSlice P 270=some 140:=by kernel_rfl
@[go_sem] theorem by140_270:P.bytesOf 140=56:=by kernel_rfl
@[go_sem] theorem ag271:isAg P 271=some false:=by kernel_rfl
@[go_sem] theorem ce271:P.cellsOf 271=1:=by kernel_rfl
@[go_sem] theorem in271:(P.info? 271).isSome=true:=by kernel_rfl
@[go_sem] theorem un271:P.underlying 271=some (.slice 541):=by kernel_rfl
@[go_sem] theorem el271:elemSlice P 271=some 541:=by kernel_rfl
@[go_sem] theorem by541_271:P.bytesOf 541=48:=by kernel_rfl
@[go_sem] theorem ag382:isAg P 382=some false:=by kernel_rfl
@[go_sem] theorem ce382:P.cellsOf 382=1:=by kernel_rfl
@[go_sem] theorem in382:(P.info? 382).isSome=true:=by kernel_rfl
@[go_sem] theorem ag541:isAg P 541=some true:=by kernel_rfl
@[go_sem] theorem ce541:P.cellsOf 541=4:=by kernel_rfl
@[go_sem] theorem in541:(P.info? 541).isSome=true:=by kernel_rfl
@[go_sem] theorem ag544:isAg P 544=some true:=by kernel_rfl
@[go_sem] theorem ce544:P.cellsOf 544=2:=by kernel_rfl
@[go_sem] theorem in544:(P.info? 544).isSome=true:=by kernel_rfl
end Go.S9
namespace Go.Ev
set_option linter.unusedVariables false
noncomputable section
section
variable {P : Program} {G : Globals} {H : Hp}
end
end
end Go.Ev
namespace Go.Ev
open Go.RowKit Go.Proofs
set_option linter.unusedVariables false
noncomputable section
section
variable {P : Program} {G : Globals} {H : Hp}
end
end
end Go.Ev
namespace Go.Ev
set_option linter.unusedVariables false
noncomputable section
section
variable {P : Program} {G : Globals} {H : Hp} {α : Type} {sz : Nat} {enc : α → List D} {xs : List α}
theorem Own.cellsw (hs:∀x,(enc x).length=sz) {H':Hp} {b j m:Nat} {c1:Option Nat} {el:TypeId} (hb:H'.get b=some (.cells (some el) false (ofDs (rows enc xs)))) (hj:j+m≤xs.length) (kk:Nat→List AV→Bool):
  cellsOfK H' sz (.sl b (j * sz) m sz c1) kk=kk ((xs.drop j).take m).length (ofDs (rows enc ((xs.drop j).take m))):=cells_wn hs hb hj
theorem Own.hi {t e el:TypeId} {lo:Nat} {v:AV} (hs:∀x,(enc x).length=sz) (h:Own sz enc el lo H v xs) (he:elemSlice P t=some e) (hc:P.cellsOf e=sz) {n:Nat} (hn:n≤xs.length) (i:IntKind):
  ∃x,(∀k,sliceAtK P H t v none (some (.int i (n:Int))) none k=k x)∧∀H',(∀b z m q,v= .sl b z m sz q→H'.get b=H.get b)→∀kk,cellsOfK H' sz x kk=kk (xs.take n).length (ofDs (rows enc (xs.take n))):=by
 rcases h with⟨rfl,rfl⟩| ⟨b,c,rfl,hcc,h2,h3,h5⟩
 ·simp at hn
  subst hn
  refine⟨.nils,fun k=> ?_,fun H' _ kk=>rfl⟩
  unfold sliceAtK
  simp only [he]
  rfl
 ·rcases hcc with rfl | ⟨rfl,rfl⟩
  ·refine⟨.sl b (0 * sz) n sz none,fun k=> ?_,fun H' hb kk=> ?_⟩
   ·unfold sliceAtK
    simp only [he,optNat,natOf]
    rw [hc,Nat.beq_refl,show reach H sz b 0 xs.length none n=true from by unfold reach;rw [show Nat.ble n xs.length=true from by simpa using hn]]
    simp only [Nat.ble,forceN_eq,Nat.zero_mul,Nat.add_zero,Nat.sub_zero]
   ·have:=Own.cellsw (j:=0) (m:=n) (c1:=none) hs (H':=H') (by rw [hb b 0 _ none rfl];exact h5) (by omega) kk
    simpa using this
  ·simp at hn
   subst hn
   refine⟨.sl b 0 0 sz (some 0),fun k=> ?_,fun H' hb kk=> ?_⟩
   ·unfold sliceAtK
    simp only [he,optNat,natOf,List.length_nil]
    rw [hc,Nat.beq_refl]
    rfl
   ·have:=Own.cellsw (j:=0) (m:=0) (c1:=some 0) hs (H':=H') (by rw [hb b 0 _ (some 0) rfl];exact h5) (by omega) kk
    simpa using this
theorem Own.lo_ {t e el:TypeId} {lo:Nat} {v:AV} (hs:∀x,(enc x).length=sz) (h:Own sz enc el lo H v xs) (he:elemSlice P t=some e) (hc:P.cellsOf e=sz) {n:Nat} (hn:n≤xs.length) (i:IntKind):
  ∃x,(∀k,sliceAtK P H t v (some (.int i (n:Int))) none none k=k x)∧(∀H',(∀b z m q,v= .sl b z m sz q→H'.get b=H.get b)→∀kk,cellsOfK H' sz x kk=kk (xs.drop n).length (ofDs (rows enc (xs.drop n))))∧
   (∀H',(∀b z m q,v= .sl b z m sz q→H'.get b=H.get b)→∃d I,Rd H' x d I∧Sl sz enc (xs.drop n) d):=by
 rcases h with⟨rfl,rfl⟩| ⟨b,c,rfl,hcc,h2,h3,h5⟩
 ·simp at hn
  subst hn
  refine⟨.nils,fun k=> ?_,fun H' _ kk=>rfl,fun H' _=>⟨.nils,[], .fro .nils, .inl ⟨rfl,rfl⟩⟩⟩
  unfold sliceAtK
  simp only [he]
  rfl
 ·have hlen:(ofDs (rows enc xs)).length=xs.length * sz:=by rw [ofDs_length,rows_length hs]
  rcases hcc with rfl | ⟨rfl,rfl⟩
  ·refine⟨.sl b (n * sz) (xs.length - n) sz none,fun k=> ?_,fun H' hb kk=> ?_,fun H' hb=> ?_⟩
   ·unfold sliceAtK
    simp only [he,optNat,natOf]
    rw [hc,Nat.beq_refl,show reach H sz b 0 xs.length none xs.length=true from by unfold reach;rw [show Nat.ble xs.length xs.length=true from by simp],show Nat.ble n xs.length=true from by simpa using hn]
    simp only [forceN_eq,Nat.zero_add]
   ·have:=Own.cellsw (j:=n) (m:=xs.length - n) (c1:=none) hs (H':=H') (by rw [hb b 0 _ none rfl];exact h5) (by omega) kk
    rw [List.take_of_length_le (by rw [List.length_drop];exact Nat.le_refl _)] at this
    exact this
   ·refine⟨.sl sz (rows enc (xs.drop n)) (xs.drop n).length,[b], ?_, .inr rfl⟩
    rw [List.length_drop]
    refine .sl b (n * sz) (xs.length - n) sz none _ _ _ (ofDs (rows enc (xs.drop n))) (rows enc (xs.drop n)) [] (by rw [hb b 0 _ none rfl];exact h5) ?_ (.fro _)
    have h1:(n+(xs.length - n)) * sz=xs.length * sz:=by congr 1;omega
    rw [Nat.add_mul] at h1
    rw [takeN_take _ _ (by rw [List.length_drop,hlen];omega),rows_drop_take hs xs n (xs.length - n) (by omega),List.take_of_length_le (by rw [List.length_drop];exact Nat.le_refl _)]
  ·simp at hn
   subst hn
   refine⟨.sl b 0 0 sz (some 0),fun k=> ?_,fun H' hb kk=> ?_,fun H' hb=> ?_⟩
   ·unfold sliceAtK
    simp only [he,optNat,natOf,List.length_nil]
    rw [hc,Nat.beq_refl]
    rfl
   ·have:=Own.cellsw (j:=0) (m:=0) (c1:=some 0) hs (H':=H') (by rw [hb b 0 _ (some 0) rfl];exact h5) (by omega) kk
    simpa using this
   ·exact⟨.sl sz [] 0,[b], .sl b 0 0 sz (some 0) _ _ _ [] [] [] (by rw [hb b 0 _ (some 0) rfl];exact h5) (by simp [takeN]) (.fro []), .inr rfl⟩
theorem app_of {t e:TypeId} {lo:Nat} {v x:AV} {zs:List α} {k:AV→Hp→Bool} (hs:∀x,(enc x).length=sz) (hone:∀x,(ofDs (enc x)).all one=true) (ht:ApT P t e sz)
  (ho:Own sz enc e lo H v xs) (hlo:lo≤H.nx) (hcells:∀kk:Nat→List AV→Bool,cellsOfK H sz x kk=kk zs.length (ofDs (rows enc zs))) (hlen:xs.length+zs.length≤1048576)
  (hk:∀v' H',Grown sz enc e lo H v (xs++zs) v' H'→k v' H'=true):appendK P H t t v x k=true:=app_core hs hone ht ht.h2 ho hlo hcells hlen hk
end
end
end Go.Ev
namespace Go.Ev
set_option linter.unusedVariables false
noncomputable section
section
variable {P : Program} {G : Globals} {H : Hp}
def loopN (P:Program) (G:Globals) (nt:Nat) (b:Code) (ro:Option Nat) (k:AEx→En→Hp→Bool):Nat→En→Hp→Bool
 | 0,_,_=>false
 | n+1,e,H=>semC P G nt b ro e H (fun x e' H'=>isNormal x (fun _=>loopN P G nt b ro k n e' H') (fun x=>k x e' H'))
theorem loop_n {nt:Nat} {b:Code} {ro:Option Nat} {k:AEx→En→Hp→Bool} (n:Nat) {e:En} {H:Hp} (h:loopN P G nt b ro k n e H=true):semC P G nt (.loop b) ro e H k=true:=by
 refine loop_rule (fun m e H=>loopN P G nt b ro k m e H=true) (fun m e H hi=> ?_) (m:=n) h
 cases m with
 | zero=>cases hi
 | succ m=>
  refine semC_mono (fun x e' H' hx=> ?_) (show semC P G nt b ro e H (fun x e' H'=>isNormal x (fun _=>loopN P G nt b ro k m e' H') (fun x=>k x e' H'))=true from hi)
  cases x with
  | normal=>exact again_mk (Inv:=fun m e H=>loopN P G nt b ro k m e H=true) (m':=m) (Nat.lt_succ_self m) (show loopN P G nt b ro k m e' H'=true from hx)
  | exit i=>exact hx
  | ret=>exact hx
  | pan v c=>exact hx
theorem loopN_step {nt:Nat} {b:Code} {ro:Option Nat} {k:AEx→En→Hp→Bool} {n:Nat} {e:En} {H:Hp} (h:cd P G 200 nt b ro e H (fun x e' H'=>isNormal x (fun _=>loopN P G nt b ro k n e' H') (fun x=>k x e' H'))=true):loopN P G nt b ro k (n+1) e H=true:=semC_run 200 h
@[congr] theorem loopN_congrM {nt:Nat} {b:Code} {ro:Option Nat} {k:AEx→En→Hp→Bool} {n:Nat} {e e':En} {H H':Hp} {pM:Prop} (he:e=e') (hH:H=H') (hM:Mk=pM):loopN P G nt b ro k n e H=loopN P G nt b ro k n e' H':=by rw [he,hH]
theorem app_nil_mk {t e:TypeId} {sz b1:Nat} {c1:Option Nat} {el1:Option TypeId} {ro1:Bool} {cs:List AV} {k:AV→Hp→Bool} (ht:ApT P t e sz) (hb:H.get b1=some (.cells el1 ro1 cs)) (hl:cs.length=sz) (hone:cs.all one=true)
  (h:k (.sl H.nx 0 1 sz none) (H.push (.cells (some e) false cs))=true):appendK P H t t .nils (.sl b1 0 1 sz c1) k=true:=by
 unfold appendK
 rw [ht.h1]
 dsimp only
 rw [ht.h2,ht.h3,ht.h4,ht.h5]
 dsimp only
 rw [ht.h6]
 unfold cellsOfK
 dsimp only
 rw [Nat.beq_refl,hb]
 dsimp only
 rw [Nat.one_mul,List.drop_zero,takeN_take _ _ (by omega),List.take_of_length_le (by omega)]
 dsimp only
 rw [forceL_eq,hone]
 dsimp only
 rw [Hp.new_r]
 exact h
theorem app_sl_mk {t e:TypeId} {sz b1 b n:Nat} {c1:Option Nat} {el1:Option TypeId} {ro1:Bool} {cs old:List AV} {k:AV→Hp→Bool} (ht:ApT P t e sz) (hb:H.get b1=some (.cells el1 ro1 cs)) (hl:cs.length=sz) (hone:cs.all one=true)
  (hb2:H.get b=some (.cells (some e) false old)) (hold:old.length=n * sz) (hn:n≤1000)
  (h:k (.sl H.nx 0 (n+1) sz none) ((H.setb b none).push (.cells (some e) false (old++cs)))=true):appendK P H t t (.sl b 0 n sz none) (.sl b1 0 1 sz c1) k=true:=by
 have hpos:0<sz:=by have:=ht.h4;rw [ht.h6] at this;cases sz with | zero=>cases this | succ n=>omega
 unfold appendK
 rw [ht.h1]
 dsimp only
 rw [ht.h2,ht.h3,ht.h4,ht.h5]
 dsimp only
 rw [ht.h6]
 unfold cellsOfK
 dsimp only
 rw [Nat.beq_refl,hb]
 dsimp only
 rw [Nat.one_mul,List.drop_zero,takeN_take _ _ (by omega),List.take_of_length_le (by omega)]
 dsimp only
 rw [forceL_eq,hone]
 dsimp only
 rw [show Nat.ble (n+(0+1)) 1048576=true from by simp;omega,hb2]
 dsimp only
 rw [List.drop_zero,takeN_take _ _ (by omega),List.take_of_length_le (by omega)]
 dsimp only [capLt]
 rw [show Nat.ble (0+(n+(0+1)) * sz) old.length=false from by
  rw [hold]
  cases hb:Nat.ble (0+(n+(0+1)) * sz) (n * sz) with
  | false=>rfl
  | true=>
   have:=Nat.le_of_ble_eq_true hb
   rw [Nat.zero_add,Nat.zero_add,Nat.add_mul] at this
   omega]
 dsimp only
 rw [forceL_eq,Hp.put_r,Hp.new_r,forceN_eq]
 have hel:appEl 0 none (some e) e=some e:=by simp [appEl,Nat.beq_refl]
 rw [hel]
 exact h
end
end
end Go.Ev
namespace Go.Ev
set_option linter.unusedVariables false
noncomputable section
section
variable {P : Program} {G : Globals}
end
end
end Go.Ev
