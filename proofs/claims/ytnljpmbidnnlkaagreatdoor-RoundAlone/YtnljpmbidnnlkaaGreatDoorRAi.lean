/- A part of the proof of RoundAlone. -/
import Derived.Test.YtnljpmbidnnlkaaGreatDoorRAc
import Derived.Test.YtnljpmbidnnlkaaGreatDoorRAd
import Derived.Test.YtnljpmbidnnlkaaGreatDoorRAe
import Derived.Test.YtnljpmbidnnlkaaGreatDoorRAf
import Derived.Test.YtnljpmbidnnlkaaGreatDoorRAg
set_option maxRecDepth 1000000
set_option linter.unusedVariables false
set_option linter.unusedSimpArgs false
set_option maxHeartbeats 8000000
namespace Go.S5
open Go.Ev Go.Proofs
abbrev Str:=List Nat
structure gB where
 lo:Int
 hi:Int
def eA (s:gB):List D:=[aS s.lo, aS s.hi]
structure ov where
 name:Str
 floor:Int
def qc (s:ov):List D:=[.str s.name, aS s.floor]
structure Way where
 a:Int
 b:Int
 secs:Int
 back:Int
 door:Int
def AI (s:Way):List D:=[aS s.a, aS s.b, aS s.secs, aS s.back, aS s.door]
structure Ed where
 hours:List gB
 dh:D
 shut:List gB
 ds:D
def rm (s:Ed):List D:=[s.dh,s.ds]
structure li where
 rooms:List ov
 dr:D
 doors:List Ed
 dd:D
 ways:List Way
 dw:D
def dC (s:li):List D:=[s.dr,s.dd,s.dw]
structure Stop where
 at_:Int
 secs:gB
def dx (s:Stop):List D:=[aS s.at_, aS s.secs.lo, aS s.secs.hi]
structure bo where
 id:Int
 in_:gB
 out:gB
 zero:gB
 end_:gB
 rate:gB
 stops:List Stop
 ds:D
def cD (s:bo):List D:=[aS s.id, aS s.in_.lo, aS s.in_.hi, aS s.out.lo, aS s.out.hi, aS s.zero.lo, aS s.zero.hi, aS s.end_.lo, aS s.end_.hi, aS s.rate.lo, aS s.rate.hi,s.ds]
structure Ink where
 faint:Int
 stray:Int
 slip:Int
def lY (s:Ink):List D:=[aS s.faint, aS s.stray, aS s.slip]
structure Key where
 id:Int
 track:Int
 pattern:Int
def fe (s:Key):List D:=[aS s.id, aS s.track, aS s.pattern]
structure gk where
 name:Str
 key:Int
 room:Int
def dT (s:gk):List D:=[.str s.name, aS s.key, aS s.room]
structure Arc where
 from_:Int
 len:Int
structure Ko where
 at_:Arc
 track:Int
 seen:Int
 blank:Int
def wo (s:Ko):List D:=[aS s.at_.from_, aS s.at_.len, aS s.track, aS s.seen, aS s.blank]
inductive ai where
 | mk (kind:Int) (names:List Str) (dn:D) (gap:gB) (most lo hi:Int) (kids:List ai) (dk:D)
def ai.kind:ai->Int | .mk k _ _ _ _ _ _ _ _=>k
def ai.names:ai->List Str | .mk _ n _ _ _ _ _ _ _=>n
def ai.dn:ai->D | .mk _ _ d _ _ _ _ _ _=>d
def ai.gap:ai->gB | .mk _ _ _ g _ _ _ _ _=>g
def ai.most:ai->Int | .mk _ _ _ _ m _ _ _ _=>m
def ai.lo:ai->Int | .mk _ _ _ _ _ l _ _ _=>l
def ai.hi:ai->Int | .mk _ _ _ _ _ _ h _ _=>h
def ai.kids:ai->List ai | .mk _ _ _ _ _ _ _ k _=>k
def ai.dk:ai->D | .mk _ _ _ _ _ _ _ _ d=>d
def aC (o:ai):List D:=[aS o.kind,o.dn, aS o.gap.lo, aS o.gap.hi, aS o.most, aS o.lo, aS o.hi,o.dk]
structure eu where
 house:li
 session:bo
 ink:Ink
 keys:List Key
 dk:D
 stations:List gk
 dst:D
 marks:List Ko
 dm:D
 start:Int
 since:Int
 order:ai
def aM (c:eu):List D:=dC c.house++(cD c.session++(lY c.ink++([c.dk,c.dst,c.dm, aS c.start, aS c.since]++aC c.order)))
theorem jU (s:gB):(eA s).length=2:=rfl
theorem lL (s:ov):(qc s).length=2:=rfl
theorem vu (s:Way):(AI s).length=5:=rfl
theorem jx (s:Ed):(rm s).length=2:=rfl
theorem eY (s:Stop):(dx s).length=3:=rfl
theorem fA (s:Key):(fe s).length=3:=rfl
theorem cH (s:gk):(dT s).length=3:=rfl
def eF (s:gB) (lo hi:Int):Bool:=decide (lo<=s.lo/\s.lo<=s.hi/\s.hi<=hi)
theorem AA (s:gB) (lo hi:Int):bc 86 [.agg (eA s), aS lo, aS hi] (·= .bool (eF s lo hi)):=by
 refine aH hG ?_
 have h:=aW;repeat' (first | simp (disch:=omega) only [go_sem,eA,h86,h]| ((first | apply aa | apply ab | apply Z)<;>intro h<;>(try simp only [spl] at h)))
 all_goals (refine ax (.bool _) ?_;first | (simp [eF, *];done)| (congr 1;rw [Bool.eq_iff_iff];simp [eF, *];omega)| (congr 1;rw [Bool.eq_iff_iff];simp [eF];omega)| (simp [eF, *]<;>omega))
theorem Be (s:gB) (lo hi:Int):bc 100 [.agg (eA s), aS lo, aS hi] (·= .bool (eF s lo hi)):=by
 refine aH hG ?_
 have h:=aW;repeat' (first | simp (disch:=omega) only [go_sem,eA,aBS,h]| ((first | apply aa | apply ab | apply Z)<;>intro h<;>(try simp only [spl] at h)))
 all_goals (refine ax (.bool _) ?_;first | (simp [eF, *];done)| (congr 1;rw [Bool.eq_iff_iff];simp [eF, *];omega)| (congr 1;rw [Bool.eq_iff_iff];simp [eF];omega)| (simp [eF, *]<;>omega))
def inB (n lo hi:Int):Bool:=decide (lo<=n/\n<=hi)
theorem Iz (n lo hi:Int):bc 16 [aS n, aS lo, aS hi] (·= .bool (inB n lo hi)):=by
 refine aH hG ?_
 have h:=aW;repeat' (first | simp (disch:=omega) only [go_sem,h16,h]| ((first | apply aa | apply ab | apply Z)<;>intro h<;>(try simp only [spl] at h)))
 all_goals (refine ax (.bool _) ?_;first | (simp [inB, *];done)| (congr 1;rw [Bool.eq_iff_iff];simp [inB, *];omega)| (congr 1;rw [Bool.eq_iff_iff];simp [inB];omega)| (simp [inB, *]<;>omega))
theorem Dv (n lo hi:Int):bc 103 [aS n, aS lo, aS hi] (·= .bool (inB n lo hi)):=by
 refine aH hG ?_
 have h:=aW;repeat' (first | simp (disch:=omega) only [go_sem,aAH,h]| ((first | apply aa | apply ab | apply Z)<;>intro h<;>(try simp only [spl] at h)))
 all_goals (refine ax (.bool _) ?_;first | (simp [inB, *];done)| (congr 1;rw [Bool.eq_iff_iff];simp [inB, *];omega)| (congr 1;rw [Bool.eq_iff_iff];simp [inB];omega)| (simp [inB, *]<;>omega))
theorem qU (n lo hi:Int):bc 105 [aS n, aS lo, aS hi] (·= .bool (inB n lo hi)):=by
 refine aH hG ?_
 have h:=aW;repeat' (first | simp (disch:=omega) only [go_sem,Y',h]| ((first | apply aa | apply ab | apply Z)<;>intro h<;>(try simp only [spl] at h)))
 all_goals (refine ax (.bool _) ?_;first | (simp [inB, *];done)| (congr 1;rw [Bool.eq_iff_iff];simp [inB, *];omega)| (congr 1;rw [Bool.eq_iff_iff];simp [inB];omega)| (simp [inB, *]<;>omega))
def iC (n t:Int):Bool:=decide (0<=n/\n<t)
theorem xR (n t:Int):bc 36 [aS n, aS t] (·= .bool (iC n t)):=by
 refine aH hG ?_
 have h:=aW;repeat' (first | simp (disch:=omega) only [go_sem,h36,h]| ((first | apply aa | apply ab | apply Z)<;>intro h<;>(try simp only [spl] at h)))
 all_goals (refine ax (.bool _) ?_;first | (simp [iC, *];done)| (congr 1;rw [Bool.eq_iff_iff];simp [iC, *];omega)| (congr 1;rw [Bool.eq_iff_iff];simp [iC];omega)| (simp [iC, *]<;>omega))
theorem Fa (n t:Int):bc 84 [aS n, aS t] (·= .bool (iC n t)):=by
 refine aH hG ?_
 have h:=aW;repeat' (first | simp (disch:=omega) only [go_sem,h84,h]| ((first | apply aa | apply ab | apply Z)<;>intro h<;>(try simp only [spl] at h)))
 all_goals (refine ax (.bool _) ?_;first | (simp [iC, *];done)| (congr 1;rw [Bool.eq_iff_iff];simp [iC, *];omega)| (congr 1;rw [Bool.eq_iff_iff];simp [iC];omega)| (simp [iC, *]<;>omega))
def mK (t:Int):Bool:=decide (0<=t/\t<=1073741823)
theorem FV (n:Int):bc 39 [aS n] (·= .bool (mK n)):=by
 refine aH hG ?_
 have h:=aW;repeat' (first | simp (disch:=omega) only [go_sem,h39,h]| ((first | apply aa | apply ab | apply Z)<;>intro h<;>(try simp only [spl] at h)))
 all_goals (refine ax (.bool _) ?_;first | (simp [mK, *];done)| (congr 1;rw [Bool.eq_iff_iff];simp [mK, *];omega)| (congr 1;rw [Bool.eq_iff_iff];simp [mK];omega)| (simp [mK, *]<;>omega))
def xx (t:Int):Bool:=decide (0<=t/\t<=4095)
theorem Iq (n:Int):bc 91 [aS n] (·= .bool (xx n)):=by
 refine aH hG ?_
 have h:=aW;repeat' (first | simp (disch:=omega) only [go_sem,h91,h]| ((first | apply aa | apply ab | apply Z)<;>intro h<;>(try simp only [spl] at h)))
 all_goals (refine ax (.bool _) ?_;first | (simp [xx, *];done)| (congr 1;rw [Bool.eq_iff_iff];simp [xx, *];omega)| (congr 1;rw [Bool.eq_iff_iff];simp [xx];omega)| (simp [xx, *]<;>omega))
def fL (s:gB):Bool:=decide (0<=s.lo/\s.lo<=s.hi/\s.hi<=86400)
theorem IN (s:gB):bc 168 [.agg (eA s)] (·= .bool (fL s)):=by
 refine aH hG ?_
 have h:=aW;repeat' (first | simp (disch:=omega) only [go_sem,eA,aBN,h]| ((first | apply aa | apply ab | apply Z)<;>intro h<;>(try simp only [spl] at h)))
 all_goals (refine ax (.bool _) ?_;first | (simp [fL, *];done)| (congr 1;rw [Bool.eq_iff_iff];simp [fL, *];omega)| (congr 1;rw [Bool.eq_iff_iff];simp [fL];omega)| (simp [fL, *]<;>omega))
theorem Ii (s:gB):bc 177 [.agg (eA s)] (·= .bool (fL s)):=by
 refine aH hG ?_
 have h:=aW;repeat' (first | simp (disch:=omega) only [go_sem,eA,aCO,h]| ((first | apply aa | apply ab | apply Z)<;>intro h<;>(try simp only [spl] at h)))
 all_goals (refine ax (.bool _) ?_;first | (simp [fL, *];done)| (congr 1;rw [Bool.eq_iff_iff];simp [fL, *];omega)| (congr 1;rw [Bool.eq_iff_iff];simp [fL];omega)| (simp [fL, *]<;>omega))
def oi (i:Ink):Bool:=decide (0<=i.faint/\i.faint<=4/\0<=i.stray/\i.stray<=4/\0<=i.slip/\i.slip<=600)
theorem wh (s:Ink):bc 156 [.agg (lY s)] (·= .int .i64 (if oi s then 0 else 1)):=by
 refine aH hG ?_
 have h:=aW;repeat' (first | simp (disch:=omega) only [go_sem,lY,ZV,h]| ((first | apply aa | apply ab | apply Z)<;>intro h<;>(try simp only [spl] at h)))
 all_goals first | (refine ax (aS _) ?_;simp [oi, *];done)| (refine ax (aS _) ?_;simp only [oi,bU];(repeat' split)<;>first | rfl | omega)| (refine ax (.int .i64 _) ?_;simp [oi, *]<;>omega)
theorem HV (n:Int):bc 47 [aS n] (·= .bool (mK n)):=by
 refine aH hG ?_
 have h:=aW;repeat' (first | simp (disch:=omega) only [go_sem,h47,h]| ((first | apply aa | apply ab | apply Z)<;>intro h<;>(try simp only [spl] at h))| (refine bB hG _ (qU _ _ _) rfl ?_))
 all_goals (refine ax (.bool _) ?_;first | (simp [mK,inB, *];done)| (congr 1;rw [Bool.eq_iff_iff];simp [mK,inB, *];omega)| (congr 1;rw [Bool.eq_iff_iff];simp [mK,inB];omega)| (simp [mK,inB, *]<;>omega))
def nh (k:Key):Bool:=decide (1<=k.id/\k.id<=1099511627776/\0<=k.track/\k.track<4/\1<=k.pattern/\k.pattern<=4095)
theorem lX (s:Key):bc 155 [.agg (fe s)] (·= .int .i64 (if nh s then 0 else 1)):=by
 refine aH hG ?_
 have h:=aW;repeat' (first | simp (disch:=omega) only [go_sem,fe,aBY,h]| ((first | apply aa | apply ab | apply Z)<;>intro h<;>(try simp only [spl] at h))| (refine bB hG _ (Iq _) rfl ?_))
 all_goals (try simp only [xx,bU,cU] at *)
 all_goals first | (refine ax (aS _) ?_;simp [nh, *];done)| (refine ax (aS _) ?_;simp only [nh,bU];(repeat' split)<;>first | rfl | omega)| (refine ax (.int .i64 _) ?_;simp [nh, *]<;>omega)
theorem zq (s:Key):bc 102 [.agg (fe s)] (·= .bool (nh s)):=by
 refine aH hG ?_
 have h:=aW;repeat' (first | simp (disch:=omega) only [go_sem,fe,Z4,h]| ((first | apply aa | apply ab | apply Z)<;>intro h<;>(try simp only [spl] at h))| (refine bB hG _ (Dv _ _ _) rfl ?_))
 all_goals (try simp only [inB,bU,cU] at *)
 all_goals (refine ax (.bool _) ?_;first | (simp [nh,inB, *];done)| (congr 1;rw [cg];simp [nh,inB, *];omega)| (congr 1;rw [Bool.eq_iff_iff];simp [nh,inB];omega)| (simp [nh,inB, *]<;>omega))
theorem LY (s:Ink):bc 44 [.agg (lY s)] (·= .bool (oi s)):=by
 refine aH hG ?_
 have h:=aW;repeat' (first | simp (disch:=omega) only [go_sem,lY,h44,h]| ((first | apply aa | apply ab | apply Z)<;>intro h<;>(try simp only [spl] at h))| (refine bB hG _ (Dv _ _ _) rfl ?_))
 all_goals (try simp only [inB,bU,cU] at *)
 all_goals (refine ax (.bool _) ?_;first | (simp [oi,inB, *];done)| (congr 1;rw [cg];simp [oi,inB, *];omega)| (congr 1;rw [Bool.eq_iff_iff];simp [oi,inB];omega)| (simp [oi,inB, *]<;>omega))
def chB (c:Nat):Bool:=decide ((97<=c/\c<=122)∨(48<=c/\c<=57))
def iX (s:Str):Bool:=s.all chB&&decide (1<=s.length/\s.length<=16)
theorem qZ {s:Str} {n:Nat} (h:n<s.length) (hc:chB s[n]=false):iX s=false:=by
 have:s.all chB=false:=List.all_eq_false.2 ⟨s[n],cO _,by simp [hc]⟩
 unfold iX;rw [this];rfl
theorem oY {s:Str} {n:Nat} (h:n<s.length) (ha:(s.take n).all chB=true) (hc:chB s[n]=true):(s.take (n+1)).all chB=true:=by
 rw [jd h,List.all_append,ha];simp [hc]
theorem rv {s:Str} {n:Nat} (h:¬n<s.length) (ha:(s.take n).all chB=true):s.all chB=true:=by
 rwa [cN (by omega)] at ha
theorem FY {c:Nat} (h:(¬((97:Int)<=c/\(c:Int)<=122))/\¬((48:Int)<=c/\(c:Int)<=57)):chB c=false:=by unfold chB;rw [cU];omega
theorem F0 {c:Nat} (h:((97:Int)<=c/\(c:Int)<=122)∨((48:Int)<=c/\(c:Int)<=57)):chB c=true:=by unfold chB;rw [bU];omega
def I35 (s:Str) (m:Nat) (e:En) (H:Hp):Prop:=∃n:Nat,n<=s.length/\m=s.length - n/\e.dm=[]/\(s.take n).all chB=true/\e.t 6= O n/\e.t 5= O s.length/\e.t 0= .str s
theorem D1 (s:Str) (hl:s.length<=9223372036854775807):bc 35 [.str s] (·= .bool (iX s)):=by
 refine aH hG ?_
 have h:=aW;repeat' (first | simp (disch:=omega) only [go_sem,h35,gU un9,h]| ((first | apply aa | apply ab | apply Z)<;>intro h<;>(try simp only [spl] at h)))
 refine aZ (I35 s) (fun m e H hi=> ?_) (m:=s.length) ?_
 ·obtain⟨n,hn,rfl,hdm,ha,g6,g5,g0⟩:=hi
  obtain⟨t,dm⟩:=e
  dsimp only at hdm g6 g5 g0
  subst hdm
  refine aV 200 ?_
  rw [V4]
  by_cases hlt:n<s.length
  ·have h:=aW;repeat' (first | simp (disch:=omega) only [go_sem,g6,g5,g0,gU un9,rx un9 hlt,bp,hlt,r35,h]| ((first | apply aa | apply ab | apply Z)<;>intro h<;>(try simp only [spl] at h)))
   all_goals first
    | (refine ax (.bool false) ?_;rw [qZ hlt (FY (by omega))])
    | (refine bd (m':=s.length - (n+1)) (by omega) ⟨n+1,by omega,rfl,rfl,oY hlt ha (F0 (by omega)), ?_, ?_, ?_⟩<;>(first | rfl | (simp (disch:=omega) only [go_sem,g6,g5,g0]<;>rfl)))
  ·have ha':=rv hlt ha
   have h:=aW;repeat' (first | simp (disch:=omega) only [go_sem,g6,g5,g0,gU un9,bp,hlt,U6,r35,h]| ((first | apply aa | apply ab | apply Z)<;>intro h<;>(try simp only [spl] at h)))
   all_goals (refine ax (.bool _) ?_;congr 1;rw [cg];simp [iX,ha', *];try omega)
 ·exact⟨0,bN _,rfl,rfl,rfl,eg rfl rfl,eg rfl rfl,eg rfl rfl⟩
def I82 (s:Str) (m:Nat) (e:En) (H:Hp):Prop:=∃n:Nat,n<=s.length/\m=s.length - n/\e.dm=[]/\(s.take n).all chB=true/\e.t 6= O n/\e.t 5= O s.length/\e.t 0= .str s
theorem Ey (s:Str) (hl:s.length<=9223372036854775807):bc 82 [.str s] (·= .bool (iX s)):=by
 refine aH hG ?_
 have h:=aW;repeat' (first | simp (disch:=omega) only [go_sem,h82,gU un9,h]| ((first | apply aa | apply ab | apply Z)<;>intro h<;>(try simp only [spl] at h)))
 refine aZ (I82 s) (fun m e H hi=> ?_) (m:=s.length) ?_
 ·obtain⟨n,hn,rfl,hdm,ha,g6,g5,g0⟩:=hi
  obtain⟨t,dm⟩:=e
  dsimp only at hdm g6 g5 g0
  subst hdm
  refine aV 200 ?_
  rw [V7]
  by_cases hlt:n<s.length
  ·have h:=aW;repeat' (first | simp (disch:=omega) only [go_sem,g6,g5,g0,gU un9,rx un9 hlt,bp,hlt,r82,h]| ((first | apply aa | apply ab | apply Z)<;>intro h<;>(try simp only [spl] at h)))
   all_goals first
    | (refine ax (.bool false) ?_;rw [qZ hlt (FY (by omega))])
    | (refine bd (m':=s.length - (n+1)) (by omega) ⟨n+1,by omega,rfl,rfl,oY hlt ha (F0 (by omega)), ?_, ?_, ?_⟩<;>(first | rfl | (simp (disch:=omega) only [go_sem,g6,g5,g0]<;>rfl)))
  ·have ha':=rv hlt ha
   have h:=aW;repeat' (first | simp (disch:=omega) only [go_sem,g6,g5,g0,gU un9,bp,hlt,Xs,r82,h]| ((first | apply aa | apply ab | apply Z)<;>intro h<;>(try simp only [spl] at h)))
   all_goals (refine ax (.bool _) ?_;congr 1;rw [cg];simp [iX,ha', *];try omega)
 ·exact⟨0,bN _,rfl,rfl,rfl,eg rfl rfl,eg rfl rfl,eg rfl rfl⟩
def aAQ (s:Str) (m:Nat) (e:En) (H:Hp):Prop:=∃n:Nat,n<=s.length/\m=s.length - n/\e.dm=[]/\(s.take n).all chB=true/\e.t 6= O n/\e.t 5= O s.length/\e.t 0= .str s
theorem Bn (s:Str) (hl:s.length<=9223372036854775807):bc 166 [.str s] (·= .bool (iX s)):=by
 refine aH hG ?_
 have h:=aW;repeat' (first | simp (disch:=omega) only [go_sem,Zp,gU un9,h]| ((first | apply aa | apply ab | apply Z)<;>intro h<;>(try simp only [spl] at h)))
 refine aZ (aAQ s) (fun m e H hi=> ?_) (m:=s.length) ?_
 ·obtain⟨n,hn,rfl,hdm,ha,g6,g5,g0⟩:=hi
  obtain⟨t,dm⟩:=e
  dsimp only at hdm g6 g5 g0
  subst hdm
  refine aV 200 ?_
  rw [Sv]
  by_cases hlt:n<s.length
  ·have h:=aW;repeat' (first | simp (disch:=omega) only [go_sem,g6,g5,g0,gU un9,rx un9 hlt,bp,hlt,WW,h]| ((first | apply aa | apply ab | apply Z)<;>intro h<;>(try simp only [spl] at h)))
   all_goals first
    | (refine ax (.bool false) ?_;rw [qZ hlt (FY (by omega))])
    | (refine bd (m':=s.length - (n+1)) (by omega) ⟨n+1,by omega,rfl,rfl,oY hlt ha (F0 (by omega)), ?_, ?_, ?_⟩<;>(first | rfl | (simp (disch:=omega) only [go_sem,g6,g5,g0]<;>rfl)))
  ·have ha':=rv hlt ha
   have h:=aW;repeat' (first | simp (disch:=omega) only [go_sem,g6,g5,g0,gU un9,bp,hlt,OQ,WW,h]| ((first | apply aa | apply ab | apply Z)<;>intro h<;>(try simp only [spl] at h)))
   all_goals (refine ax (.bool _) ?_;congr 1;rw [cg];simp [iX,ha', *];try omega)
 ·exact⟨0,bN _,rfl,rfl,rfl,eg rfl rfl,eg rfl rfl,eg rfl rfl⟩
def aFA (s:Str) (m:Nat) (e:En) (H:Hp):Prop:=∃n:Nat,n<=s.length/\m=s.length - n/\e.dm=[]/\(s.take n).all chB=true/\e.t 3= O n/\e.t 0= .str s
theorem BA (s:Str) (hl:s.length<=9223372036854775807):bc 227 [.str s] (·= .bool (iX s)):=by
 refine aH hG ?_
 have h:=aW;repeat' (first | simp (disch:=omega) only [go_sem,aEK,gU un9,h]| ((first | apply aa | apply ab | apply Z)<;>intro h<;>(try simp only [spl] at h)))
 refine aZ (aFA s) (fun m e H hi=> ?_) (m:=s.length) ?_
 ·obtain⟨n,hn,rfl,hdm,ha,g3,g0⟩:=hi
  obtain⟨t,dm⟩:=e
  dsimp only at hdm g3 g0
  subst hdm
  refine aV 200 ?_
  rw [So]
  by_cases hlt:n<s.length
  ·have h:=aW;repeat' (first | simp (disch:=omega) only [go_sem,g3,g0,gU un9,rx un9 hlt,bp,hlt,V9,h]| ((first | apply aa | apply ab | apply Z)<;>intro h<;>(try simp only [spl] at h)))
   all_goals first
    | (refine ax (.bool false) ?_;rw [qZ hlt (FY (by omega))])
    | (refine bd (m':=s.length - (n+1)) (by omega) ⟨n+1,by omega,rfl,rfl,oY hlt ha (F0 (by omega)), ?_, ?_⟩<;>(first | rfl | (simp (disch:=omega) only [go_sem,g3,g0]<;>rfl)))
  ·have ha':=rv hlt ha
   have h:=aW;repeat' (first | simp (disch:=omega) only [go_sem,g3,g0,gU un9,bp,hlt,OZ,V9,h]| ((first | apply aa | apply ab | apply Z)<;>intro h<;>(try simp only [spl] at h)))
   all_goals (refine ax (.bool _) ?_;congr 1;rw [cg];simp [iX,ha', *];try omega)
 ·exact⟨0,bN _,rfl,rfl,rfl,eg rfl rfl,eg rfl rfl⟩
def YY (s:Str) (m:Nat) (e:En) (H:Hp):Prop:=∃n:Nat,n<=s.length/\m=s.length - n/\e.dm=[]/\(s.take n).all chB=true/\e.t 3= O n/\e.t 0= .str s
theorem vS (s:Str) (hl:s.length<=9223372036854775807):bc 172 [.str s] (·= .bool (iX s)):=by
 refine aH hG ?_
 have h:=aW;repeat' (first | simp (disch:=omega) only [go_sem,Y8,gU un9,O3,h]| ((first | apply aa | apply ab | apply Z)<;>intro h<;>(try simp only [spl] at h)))
 all_goals first
  | (refine ax (.bool false) ?_;congr 1;symm;rw [←fW,iX,bX,bU];omega)
  | skip
 refine aZ (YY s) (fun m e H hi=> ?_) (m:=s.length) ?_
 ·obtain⟨n,hn,rfl,hdm,ha,g3,g0⟩:=hi
  obtain⟨t,dm⟩:=e
  dsimp only at hdm g3 g0
  subst hdm
  refine aV 200 ?_
  rw [P9]
  by_cases hlt:n<s.length
  ·have h:=aW;repeat' (first | simp (disch:=omega) only [go_sem,g3,g0,gU un9,rx un9 hlt,bp,hlt,O3,h]| ((first | apply aa | apply ab | apply Z)<;>intro h<;>(try simp only [spl] at h)))
   all_goals first
    | (refine ax (.bool false) ?_;rw [qZ hlt (FY (by omega))])
    | (refine bd (m':=s.length - (n+1)) (by omega) ⟨n+1,by omega,rfl,rfl,oY hlt ha (F0 (by omega)), ?_, ?_⟩<;>(first | rfl | (simp (disch:=omega) only [go_sem,g3,g0]<;>rfl)))
  ·have ha':=rv hlt ha
   have h:=aW;repeat' (first | simp (disch:=omega) only [go_sem,g3,g0,gU un9,bp,hlt,Pg,O3,h]| ((first | apply aa | apply ab | apply Z)<;>intro h<;>(try simp only [spl] at h)))
   all_goals (refine ax (.bool _) ?_;congr 1;symm;rw [iX,ha',kb,bU];omega)
 ·exact⟨0,bN _,rfl,rfl,rfl,eg rfl rfl,eg rfl rfl⟩
def fE (s:Str):List D:=[.str s]
def iw (n:Int):List D:=[aS n]
theorem ci (s:Str):(fE s).length=1:=rfl
def gQ {α:Type} (p:α->Bool):List α->Int
 | []=> -1
 | x::xs=>if p x then 0 else (let r:=gQ p xs;if r<0 then -1 else r+1)
theorem xC {α:Type} (p:α->Bool):∀xs:List α, -1<=gQ p xs/\gQ p xs<xs.length
 | []=>by simp [gQ]
 | x::xs=>by
  have:=xC p xs
  simp only [gQ,dR]
  split
  ·omega
  ·split<;>omega
theorem mZ {α:Type} {p:α->Bool}:∀{xs:List α},(∀x∈xs,p x=false)->gQ p xs= -1
 | [],_=>rfl
 | x::xs,h=>by simp [gQ,h x cE,mZ fun y hy=>h y (co _ hy)]
theorem oc {α:Type} {p:α->Bool}:∀{xs:List α} {n:Nat} (hn:n<xs.length),(∀x∈xs.take n,p x=false)->p xs[n]=true->gQ p xs=n
 | x::xs,0,_,_,h=>by simp at h;simp [gQ,h]
 | x::xs,n+1,hn,ha,h=>by
  have h1:p x=false:=ha x (by simp)
  have h2:=oc (p:=p) (xs:=xs) (n:=n) (by simpa using hn) (fun y hy=>ha y (by simp [hy])) (by simpa using h)
  simp only [gQ,h1,h2]
  simp
  omega
theorem mE {α:Type} {p:α->Bool} {xs:List α} {n:Nat} (hn:n<xs.length) (ha:∀x∈xs.take n,p x=false) (h:p xs[n]=false):∀x∈xs.take (n+1),p x=false:=by
 rw [jd hn]
 intro x hx
 rcases dF.1 hx with hx | hx
 ·exact ha x hx
 ·simp at hx;subst hx;exact h
theorem sO {α:Type} {p:α->Bool} {xs:List α} {n:Nat} (hn:¬n<xs.length) (ha:∀x∈xs.take n,p x=false):∀x∈xs,p x=false:=by
 rwa [cN (by omega)] at ha
def I88 (xs:List Key) (d:D) (g:FuncId) (cap:List D) (p:Key->Bool) (m:Nat) (e:En) (H:Hp):Prop:=∃n:Nat,n<=xs.length/\m=xs.length - n/\e.dm=[]/\(∀x∈xs.take n,p x=false)/\e.t 0=ofD d/\e.t 8= O n/\e.t 7= O xs.length/\e.t 1= .fn g [] (aq cap)
theorem D2 (xs:List Key) (d:D) (hs:Sl 3 fe xs d) (hl:xs.length<=9223372036854775807) (g:FuncId) (cap:List D) (p:Key->Bool) (h1:kf P g=false) (h2:iz P g=true)
  (hp:∀x∈xs,bc g (.agg (fe x)::cap) (·= .bool (p x))):bc 88 [d,.fn g [] cap] (·= .int .i64 (gQ p xs)):=by
 refine aH hG ?_
 have h:=aW;repeat' (first | simp (disch:=omega) only [go_sem,h88,aF hs jE,h]| ((first | apply aa | apply ab | apply Z)<;>intro h<;>(try simp only [spl] at h)))
 refine aZ (I88 xs d g cap p) (fun m e H hi=> ?_) (m:=xs.length) ?_
 ·obtain⟨n,hn,rfl,hdm,ha,g0,g8,g7,g1⟩:=hi
  obtain⟨t,dm⟩:=e
  dsimp only at hdm g0 g8 g7 g1
  subst hdm
  refine aV 200 ?_
  rw [Wa]
  by_cases hlt:n<xs.length
  ·have h:=aW;repeat' (first | simp (disch:=omega) only [go_sem,g0,g8,g7,g1,bC hs jE ur rE hlt,bv fA hlt,fe,bp,hlt,r88,o4 h1 h2,h]| ((first | apply aa | apply ab | apply Z)<;>intro h<;>(try simp only [spl] at h)))
   refine bB hG (.agg (fe xs[n])::cap) (hp _ (cO hlt)) rfl ?_
   have h:=aW;repeat' (first | simp (disch:=omega) only [go_sem,g0,g8,g7,g1,r88,h]| ((first | apply aa | apply ab | apply Z)<;>intro h<;>(try simp only [spl] at h)))
   ·refine ax (aS n) ?_
    rw [oc hlt ha h]
   ·refine bd (m':=xs.length - (n+1)) (by omega) ⟨n+1,by omega,rfl,rfl,mE hlt ha h, ?_, ?_, ?_, ?_⟩<;>(first | rfl | (simp (disch:=omega) only [go_sem,g0,g8,g7,g1]<;>rfl))
  ·have h:=aW;repeat' (first | simp (disch:=omega) only [go_sem,g0,g8,g7,g1,bp,hlt,U4,r88,h]| ((first | apply aa | apply ab | apply Z)<;>intro h<;>(try simp only [spl] at h)))
   refine ax (aS (-1)) ?_
   rw [mZ (sO hlt ha)]
 ·exact⟨0,bN _,rfl,rfl,fun x hx=>by simp at hx,eg rfl rfl,eg rfl rfl,eg rfl rfl,eg rfl rfl⟩
def Zs (xs:List Str) (d:D) (v:Str) (m:Nat) (e:En) (H:Hp):Prop:=∃n:Nat,n<=xs.length/\m=xs.length - n/\e.dm=[]/\(∀x∈xs.take n,(decide (v=x))=false)/\e.t 0=ofD d/\e.t 8= O n/\e.t 7= O xs.length/\e.t 1= .str v
theorem Cl (xs:List Str) (d:D) (hs:Sl 1 fE xs d) (hl:xs.length<=9223372036854775807) (v:Str):bc 223 [d,.str v] (·= .int .i64 (gQ (fun x=>decide (v=x)) xs)):=by
 refine aH hG ?_
 have h:=aW;repeat' (first | simp (disch:=omega) only [go_sem,aFG,aF hs dA,h]| ((first | apply aa | apply ab | apply Z)<;>intro h<;>(try simp only [spl] at h)))
 refine aZ (Zs xs d v) (fun m e H hi=> ?_) (m:=xs.length) ?_
 ·obtain⟨n,hn,rfl,hdm,ha,g0,g8,g7,g1⟩:=hi
  obtain⟨t,dm⟩:=e
  dsimp only at hdm g0 g8 g7 g1
  subst hdm
  refine aV 200 ?_
  rw [Pd]
  by_cases hlt:n<xs.length
  ·have h:=aW;repeat' (first | simp (disch:=omega) only [go_sem,g0,g8,g7,g1,bC hs dA in9 ce9 hlt,bG ci hlt (by decide),fE,bp,hlt,Yj,h]| ((first | apply aa | apply ab | apply Z)<;>intro h<;>(try simp only [spl] at h)))
   ·refine ax (aS n) ?_
    rw [←h,oc hlt ha (fM h)]
   ·refine bd (m':=xs.length - (n+1)) (by omega) ⟨n+1,by omega,rfl,rfl,mE hlt ha (by simp [h]), ?_, ?_, ?_, ?_⟩<;>(first | rfl | (simp (disch:=omega) only [go_sem,g0,g8,g7,g1]<;>rfl))
  ·have h:=aW;repeat' (first | simp (disch:=omega) only [go_sem,g0,g8,g7,g1,bp,hlt,Pb,Yj,h]| ((first | apply aa | apply ab | apply Z)<;>intro h<;>(try simp only [spl] at h)))
   refine ax (aS (-1)) ?_
   rw [mZ (sO hlt ha)]
 ·exact⟨0,bN _,rfl,rfl,fun x hx=>by simp at hx,eg rfl rfl,eg rfl rfl,eg rfl rfl,eg rfl rfl⟩
def fU (most:Int):Int->List gB->Bool
 | _,[]=>true
 | least,s::l=>if s.lo<least then false else if s.hi<s.lo then false else if most<s.hi then false else fU most (s.hi+2) l
def lq (l:List gB) (most:Int):Bool:=fU most 0 l&&decide (l.length<=8)
theorem hZ {α:Type} {l:List α} {n:Nat} (h:n<l.length):l.drop n=l[n]::l.drop (n+1):=List.drop_eq_getElem_cons h
def I83 (l:List gB) (d:D) (most:Int) (m:Nat) (e:En) (H:Hp):Prop:=∃(n:Nat) (least:Int),n<=l.length/\m=l.length - n/\0<=least/\least<=4611686018427387906/\e.dm=[]/\e.t 10= O n/\e.t 9= O l.length/\e.t 8=ofD d/\e.t 0=ofD d/\e.t 1= O most/\e.t 5= O least/\
  fU most 0 l=fU most least (l.drop n)
theorem xr (l:List gB) (d:D) (most:Int) (hs:Sl 2 eA l d) (hm:most<=4611686018427387904) (hl:l.length<=9223372036854775807):bc 83 [d, aS most] (·= .bool (lq l most)):=by
 refine aH hG ?_
 have h:=aW;repeat' (first | simp (disch:=omega) only [go_sem,h83,aF hs oF,h]| ((first | apply aa | apply ab | apply Z)<;>intro h<;>(try simp only [spl] at h)))
 refine aZ (I83 l d most) (fun m e H hi=> ?_) (m:=l.length) ?_
 ·obtain⟨n,least,hn,rfl,h0,hlb,hdm,g10,g9,g8,g0,g1,g5,ho⟩:=hi
  obtain⟨t,dm⟩:=e
  dsimp only at hdm g10 g9 g8 g0 g1 g5
  subst hdm
  refine aV 200 ?_
  rw [UJ]
  by_cases hlt:n<l.length
  ·have hd:=hZ hlt
   have h:=aW;repeat' (first | simp (disch:=omega) only [go_sem,g10,g9,g8,g0,g1,g5,bC hs oF D9 um hlt,bv jU hlt,eA,bp,hlt,r83,h]| ((first | apply aa | apply ab | apply Z)<;>intro h<;>(try simp only [spl] at h)))
   all_goals first
    | exact ax (.bool false) (by rw [lq,ho,hd];simp [fU, *])
    | (refine bd (m':=l.length - (n+1)) (by omega) ⟨n+1,l[n].hi+2,by omega,rfl,by omega,by omega,rfl, ?_, ?_, ?_, ?_, ?_, ?_, ?_⟩<;>first | (first | rfl | (simp (disch:=omega) only [go_sem,g10,g9,g8,g0,g1,g5]<;>rfl))| (rw [ho,hd];simp [fU, *]))
  ·have h:=aW;repeat' (first | simp (disch:=omega) only [go_sem,g10,g9,g8,g0,g1,g5,bp,hlt,UA,aF hs oF,r83,h]| ((first | apply aa | apply ab | apply Z)<;>intro h<;>(try simp only [spl] at h)))
   exact ax (.bool (decide ((l.length:Int)<=8))) (by
    rw [lq,ho,iu (by omega)]
    simp only [fU,kb]
    rw [decide_eq_decide.2];omega)
 ·exact⟨0,0,bN _,rfl,by omega,by omega,rfl,eg rfl rfl,eg rfl rfl,eg rfl rfl,eg rfl rfl,eg rfl rfl,eg rfl rfl,rfl⟩
def gd (hi:Int):Int->List Stop->Bool
 | _,[]=>true
 | b,x::l=>if x.at_<=b then false else if hi<=x.at_ then false else if eF x.secs 0 36000 then gd hi x.at_ l else false
def si (s:bo):Bool:=decide (1<=s.id/\s.id<=1099511627776)&&eF s.in_ 0 1073741823&&eF s.out 0 1073741823&&eF s.zero 0 43199&&eF s.end_ s.zero.lo 43199&&decide (s.zero.hi<=s.end_.hi)&&eF s.rate 900000 1100000&&gd s.end_.lo s.zero.hi s.stops
def fQ (s:bo):Int:=if s.stops.length>4 then 2 else if si s then 0 else 1
def I85 (stops:List Stop) (ds:D) (hi z:Int) (cells:List AV) (m:Nat) (e:En) (H:Hp):Prop:=∃(n q:Nat) (b:Int),n<=stops.length/\m=stops.length - n/\e.dm=[]/\H.nx=q+1/\H.get 0=some (ae 31 cells)/\gd hi z stops=gd hi b (stops.drop n)/\
 e.t 64= O n/\e.t 63= O stops.length/\e.t 62=ofD ds/\e.t 3= O b/\e.t 1= .ptr 0 0
theorem wc (s:bo) (hs:Sl 3 dx s.stops s.ds) (hl:s.stops.length<=9223372036854775807):bc 85 [.agg (cD s)] (·= .int .i64 (fQ s)):=by
 obtain⟨id,⟨il,ih⟩,⟨ol,oh⟩,⟨zl,zh⟩,⟨el,eh⟩,⟨rl,rh⟩,stops,ds⟩:=s
 dsimp only at hs hl
 refine aH hG ?_
 have h:=aW;repeat' (first | simp (disch:=omega) only [go_sem,cD,h85,r85,aF hs jX,h]| ((first | apply aa | apply ab | apply Z)<;>intro h<;>(try simp only [spl] at h))| (refine bB hG _ (AA ⟨_,_⟩ _ _) rfl ?_))
 all_goals first
  | (refine ax (aS _) ?_;simp only [fQ];congr 1;symm;first | (rw [if_pos (by omega)];done)| (rw [if_neg (by omega),if_neg];simp [si, *]<;>omega))
  | skip
 have hsB:∀b,si ⟨id,⟨il,ih⟩,⟨ol,oh⟩,⟨zl,zh⟩,⟨el,eh⟩,⟨rl,rh⟩,stops,ds⟩=b↔gd el zh stops=b:=fun b=>by
  have h1:decide (1<=id/\id<=1099511627776)=true:=by rw [bU];omega
  have h2:decide (zh<=eh)=true:=by rw [bU];omega
  simp only [si, *,kb]
 have hE:∀v:Int,(v=if gd el zh stops then 0 else 1)->v=fQ ⟨id,⟨il,ih⟩,⟨ol,oh⟩,⟨zl,zh⟩,⟨el,eh⟩,⟨rl,rh⟩,stops,ds⟩:=fun v hv=>by
  have h5:¬stops.length>4:=by omega
  simp only [fQ]
  rw [if_neg h5,hv]
  cases hx:gd el zh stops with
  | true=>rw [(hsB true).2 hx]
  | false=>rw [(hsB false).2 hx]
 refine aZ (I85 stops ds el zh [O id, O il, O ih, O ol, O oh, O zl, O zh, O el, O eh, O rl, O rh,ofD ds]) (fun m e H hi=> ?_) (m:=stops.length) ?_
 ·obtain⟨n,q,b,hn,rfl,hdm,hnx,hg,hst,g64,g63,g62,g3,g1⟩:=hi
  obtain⟨t,dm⟩:=e
  dsimp only at hdm g64 g63 g62 g3 g1
  subst hdm
  refine aV 200 ?_
  rw [XF]
  by_cases hlt:n<stops.length
  ·have hd:=hZ hlt
   have h:=aW;repeat' (first | simp (disch:=omega) only [go_sem,g64,g63,g62,g3,g1,hnx,hg,bC hs jX py kZ hlt,bv eY hlt,dx,bp,hlt,r85,h]| ((first | apply aa | apply ab | apply Z)<;>intro h<;>(try simp only [spl] at h))| (refine bB hG _ (AA ⟨_,_⟩ _ _) rfl ?_))
   all_goals first
    | (refine ax (aS 1) ?_;congr 1;refine hE _ ?_;rw [hst,hd];clear hst hd hE hsB hs hg;simp [gd, *];done)
    | (refine bd (m':=stops.length - (n+1)) (by omega) ⟨n+1,q+1,stops[n].at_,by omega,rfl,rfl, ?_, ?_, ?_, ?_, ?_, ?_, ?_, ?_⟩<;>first | (first | rfl | (simp (disch:=omega) only [go_sem,g64,g63,g62,g3,g1,hnx,hg]<;>rfl))| (rw [hst,hd];clear hst hd hE hsB hs hg;simp [gd, *];done))
  ·have h:=aW;repeat' (first | simp (disch:=omega) only [go_sem,g64,g63,g62,g3,g1,bp,hlt,VN,r85,h]| ((first | apply aa | apply ab | apply Z)<;>intro h<;>(try simp only [spl] at h)))
   refine ax (aS 0) ?_
   congr 1
   refine hE _ ?_
   rw [hst,iu (by omega)]
   rfl
 ·exact⟨0,0,zh,bN _,rfl,rfl,by first | rfl | (simp (disch:=omega) only [go_sem]<;>rfl),by first | rfl | (simp (disch:=omega) only [go_sem]<;>rfl),rfl,eg rfl rfl,eg rfl rfl,eg rfl rfl,eg rfl rfl,eg rfl rfl⟩
def I99 (stops:List Stop) (hi z:Int) (cells:List AV) (m:Nat) (e:En) (H:Hp):Prop:=∃(n q:Nat) (b:Int),n<=stops.length/\m=stops.length - n/\e.dm=[]/\H.nx=q+1/\H.get 0=some (ae 31 cells)/\gd hi z stops=gd hi b (stops.drop n)/\
 z<=b/\(n=0->b=z)/\(∀k,n=k+1->∃h:k<stops.length,stops[k].at_=b)/\e.t 3= O n/\e.t 1= .ptr 0 0
theorem xl {hi b:Int} {x:Stop} {l:List Stop} (h:x.at_<=b∨hi<=x.at_∨eF x.secs 0 36000=false):(1:Int)=if gd hi b (x::l) then 0 else 1:=by
 have:gd hi b (x::l)=false:=by
  simp only [gd]
  rcases h with h | h | h
  ·rw [if_pos h]
  ·by_cases h2:x.at_<=b
   ·rw [if_pos h2]
   ·rw [if_neg h2,if_pos h]
  ·simp [h]
 rw [this];rfl
theorem Aw {hi b:Int} {x:Stop} {l:List Stop} (h1:¬x.at_<=b) (h2:¬hi<=x.at_) (h3:eF x.secs 0 36000=true):gd hi b (x::l)=gd hi x.at_ l:=by
 simp only [gd]
 rw [if_neg h1,if_neg h2,if_pos h3]
theorem Dy {stops:List Stop} {n:Nat} (h:n<stops.length):∀k,n+1=k+1->∃h:k<stops.length,stops[k].at_=stops[n].at_:=fun k hk=>by
 obtain rfl:n=k:=by omega
 exact⟨h,rfl⟩
theorem Fq (s:bo) (hs:Sl 3 dx s.stops s.ds) (hl:s.stops.length<=9223372036854775807):bc 99 [.agg (cD s)] (·= .int .i64 (fQ s)):=by
 obtain⟨id,⟨il,ih⟩,⟨ol,oh⟩,⟨zl,zh⟩,⟨el,eh⟩,⟨rl,rh⟩,stops,ds⟩:=s
 dsimp only at hs hl
 refine aH hG ?_
 (try simp (maxSteps:=10000000) (disch:=omega) only [go_sem,cD,h99,r99,aF hs jX]);repeat' (first | ((first | apply aa | apply ab | apply Z)<;>intro h<;>(try simp only [spl] at h)<;>try simp (maxSteps:=10000000) (disch:=omega) only [go_sem,cD,h99,r99,aF hs jX,h])| ((refine bB hG _ (Be ⟨_,_⟩ _ _) rfl ?_)<;>try simp (maxSteps:=10000000) (disch:=omega) only [go_sem,cD,h99,r99,aF hs jX]))
 all_goals first
  | (refine ax (aS _) ?_;simp only [fQ];congr 1;symm;first | (rw [if_pos (by omega)];done)| (rw [if_neg (by omega),if_neg];simp [si, *]<;>omega)| (rw [if_neg (by omega),if_neg];simp only [si,eF,bX,bU,cU] at *;omega))
  | skip
 have hz:0<=zl/\zl<=zh/\zh<=43199/\0<=el/\el<=eh/\eh<=43199/\zl<=el/\zh<=eh:=by simp only [eF,bU] at *;omega
 have hsB:∀b,si ⟨id,⟨il,ih⟩,⟨ol,oh⟩,⟨zl,zh⟩,⟨el,eh⟩,⟨rl,rh⟩,stops,ds⟩=b↔gd el zh stops=b:=fun b=>by
  have h1:decide (1<=id/\id<=1099511627776)=true:=by rw [bU];omega
  have h2:decide (zh<=eh)=true:=by rw [bU];omega
  have h3:eF ⟨el,eh⟩ zl 43199=true:=by simp only [eF];rw [bU];omega
  simp only [si,h1,h2,h3,kb,nq,dL, *]
 have hE:∀v:Int,(v=if gd el zh stops then 0 else 1)->v=fQ ⟨id,⟨il,ih⟩,⟨ol,oh⟩,⟨zl,zh⟩,⟨el,eh⟩,⟨rl,rh⟩,stops,ds⟩:=fun v hv=>by
  have h5:¬stops.length>4:=by omega
  simp only [fQ]
  rw [if_neg h5,hv]
  cases hx:gd el zh stops with
  | true=>rw [(hsB true).2 hx]
  | false=>rw [(hsB false).2 hx]
 refine aZ (I99 stops el zh [O id, O il, O ih, O ol, O oh, O zl, O zh, O el, O eh, O rl, O rh,ofD ds]) (fun m e H hi=> ?_) (m:=stops.length) ?_
 ·obtain⟨n,q,b,hn,rfl,hdm,hnx,hg,hst,hzb,hb0,hb1,g3,g1⟩:=hi
  obtain⟨t,dm⟩:=e
  dsimp only at hdm g3 g1
  subst hdm
  refine aV 200 ?_
  rw [XV]
  by_cases hlt:n<stops.length
  ·have hd:=hZ hlt
   rcases Nat.eq_zero_or_pos n with h0 | h0
   ·have hb:=hb0 h0
    have hgt:decide ((0:Int)<(n:Int))=false:=by rw [cU];omega
    (try simp (maxSteps:=10000000) (disch:=omega) only [go_sem,g3,g1,hnx,hg,hgt,aF hs jX,bC hs jX py kZ hlt,bv eY hlt,dx,bp,hlt,r99,xN,xy,xG,wZ]);repeat' (first | ((first | apply aa | apply ab | apply Z)<;>intro h<;>(try simp only [spl] at h)<;>try simp (maxSteps:=10000000) (disch:=omega) only [go_sem,g3,g1,hnx,hg,hgt,aF hs jX,bC hs jX py kZ hlt,bv eY hlt,dx,bp,hlt,r99,xN,xy,xG,wZ,h])| ((refine bB hG _ (Be ⟨_,_⟩ _ _) rfl ?_)<;>try simp (maxSteps:=10000000) (disch:=omega) only [go_sem,g3,g1,hnx,hg,hgt,aF hs jX,bC hs jX py kZ hlt,bv eY hlt,dx,bp,hlt,r99,xN,xy,xG,wZ]))
    all_goals first
     | (refine ax (aS 1) ?_;congr 1;refine hE _ ?_;rw [hst,hd];refine xl ?_;first | (right;right;assumption)| omega)
     | (refine bd (m':=stops.length - (n+1)) (by omega) ⟨n+1,q+1,stops[n].at_,by omega,rfl,rfl, ?_, ?_, ?_,by omega,fun h=>absurd h (by omega),Dy hlt, ?_, ?_⟩<;>first | (first | rfl | (simp (maxSteps:=10000000) (disch:=omega) only [go_sem,g3,g1,hnx,hg]<;>rfl))| (rw [hst,hd];exact Aw (by omega) (by omega) (by assumption)))
   ·obtain⟨k,hnk⟩:∃k,n=k+1:=⟨n - 1,by omega⟩
    obtain⟨hk,hkb⟩:=hb1 k hnk
    have hgt:decide ((0:Int)<(n:Int))=true:=by rw [bU];omega
    have hks:(n:Int) - 1=(k:Int):=by omega
    (try simp (maxSteps:=10000000) (disch:=omega) only [go_sem,g3,g1,hnx,hg,hgt,aF hs jX,bC hs jX py kZ hlt,bv eY hlt,dx,bp,hlt,r99,xN,xy,xG,wZ,hks,hkb,bC hs jX py kZ hk,bv eY hk,bG eY hk (by decide:0<3)]);repeat' (first | ((first | apply aa | apply ab | apply Z)<;>intro h<;>(try simp only [spl] at h)<;>try simp (maxSteps:=10000000) (disch:=omega) only [go_sem,g3,g1,hnx,hg,hgt,aF hs jX,bC hs jX py kZ hlt,bv eY hlt,dx,bp,hlt,r99,xN,xy,xG,wZ,hks,hkb,bC hs jX py kZ hk,bv eY hk,bG eY hk (by decide:0<3),h])| ((refine bB hG _ (Be ⟨_,_⟩ _ _) rfl ?_)<;>try simp (maxSteps:=10000000) (disch:=omega) only [go_sem,g3,g1,hnx,hg,hgt,aF hs jX,bC hs jX py kZ hlt,bv eY hlt,dx,bp,hlt,r99,xN,xy,xG,wZ,hks,hkb,bC hs jX py kZ hk,bv eY hk,bG eY hk (by decide:0<3)]))
    all_goals first
     | (refine ax (aS 1) ?_;congr 1;refine hE _ ?_;rw [hst,hd];refine xl ?_;first | (right;right;assumption)| omega)
     | (refine bd (m':=stops.length - (n+1)) (by omega) ⟨n+1,q+1,stops[n].at_,by omega,rfl,rfl, ?_, ?_, ?_,by omega,fun h=>absurd h (by omega),Dy hlt, ?_, ?_⟩<;>first | (first | rfl | (simp (maxSteps:=10000000) (disch:=omega) only [go_sem,g3,g1,hnx,hg]<;>rfl))| (rw [hst,hd];exact Aw (by omega) (by omega) (by assumption)))
  ·(try simp (maxSteps:=10000000) (disch:=omega) only [go_sem,g3,g1,hnx,hg,aF hs jX,bp,hlt,OL,r99]);repeat' ((first | apply aa | apply ab | apply Z)<;>intro h<;>(try simp only [spl] at h)<;>try simp (maxSteps:=10000000) (disch:=omega) only [go_sem,g3,g1,hnx,hg,aF hs jX,Int.ofNat_lt,hlt,OL,r99,h])
   refine ax (aS 0) ?_
   congr 1
   refine hE _ ?_
   rw [hst,iu (by omega)]
   rfl
 ·exact⟨0,0,zh,bN _,rfl,rfl,by first | rfl | (simp (maxSteps:=10000000) (disch:=omega) only [go_sem]<;>rfl),by first | rfl | (simp (maxSteps:=10000000) (disch:=omega) only [go_sem]<;>rfl),by first | rfl | simp,zg _,fun _=>rfl,fun k hk=>absurd hk (by omega),eg rfl rfl,eg rfl rfl⟩
end Go.S5
namespace Go.Ev
noncomputable section
section
variable {P : Program} {G : bg} {H : Hp} {k : AV -> Bool} {α : Type} {sz : Nat} {enc : α -> List D} {xs : List α} {d : D}
def stP (P:Program) (t:TypeId):Option (Bool×List (Nat×Nat)):=match P.underlying t with
 | some (.struct fs)=>some (fs.toList.all (fun f=>(P.info? f.type).isSome),fs.toList.map fun f=>(f.offset,P.cellsOf f.type))
 | _=>none
theorem gV {t:TypeId} {z:List AV} {pl:List (Nat×Nat)} (h1:zro P t=some (.agg z)) (h2:stP P t=some (true,pl)) (ps:List (Nat×AV)):ma P t ps k=mc pl ps z k:=by
 unfold stP at h2
 unfold ma mc
 rw [h1]
 split at h2
 next fs hu=>
  rw [hu]
  simp only [Option.some.injEq,Prod.mk.injEq] at h2
  dsimp only
  rw [h2.1,h2.2]
  dsimp only
  cases qj pl ps z with
  | none=>rfl
  | some cs=>exact bH _ _
 next=>cases h2
end
end
end Go.Ev
namespace Go.S5
open Go.Ev Go.Proofs
@[go_sem ↓] theorem Jt (ps:List (Nat×AV)) (k:AV->Bool):aU 28 ps k=mc [(0,1),(1,1)] ps [O 0, O 0] k:=gV (by kernel_rfl) (by kernel_rfl) ps
@[go_sem ↓] theorem aFV (ps:List (Nat×AV)) (k:AV->Bool):aU 42 ps k=mc [(0,3),(3,12),(15,3),(18,1),(19,1),(20,1),(21,1),(22,1),(23,8)] ps [.nils,.nils,.nils, O 0, O 0, O 0, O 0, O 0, O 0, O 0, O 0, O 0, O 0, O 0,.nils, O 0, O 0, O 0,.nils,.nils,.nils, O 0, O 0, O 0,.nils, O 0, O 0, O 0, O 0, O 0,.nils] k:=gV (by kernel_rfl) (by kernel_rfl) ps
@[go_sem ↓] theorem aFS (ps:List (Nat×AV)) (k:AV->Bool):aU 48 ps k=mc [(0,1),(1,1)] ps [O 0, O 0] k:=gV (by kernel_rfl) (by kernel_rfl) ps
@[go_sem ↓] theorem UC (ps:List (Nat×AV)) (k:AV->Bool):aU 50 ps k=mc [(0,2),(2,1),(3,1),(4,1)] ps [O 0, O 0, O 0, O 0, O 0] k:=gV (by kernel_rfl) (by kernel_rfl) ps
@[go_sem ↓] theorem R8 (ps:List (Nat×AV)) (k:AV->Bool):aU 74 ps k=mc [(0,12),(12,1),(13,1)] ps [O 0, O 0, O 0, O 0, O 0, O 0, O 0, O 0, O 0, O 0, O 0,.nils,.nils,.nils] k:=gV (by kernel_rfl) (by kernel_rfl) ps
@[go_sem ↓] theorem aFN (ps:List (Nat×AV)) (k:AV->Bool):aU 78 ps k=mc [(0,1),(1,1)] ps [.nils,.nils] k:=gV (by kernel_rfl) (by kernel_rfl) ps
@[go_sem ↓] theorem aDH (ps:List (Nat×AV)) (k:AV->Bool):aU 96 ps k=mc [(0,1),(1,1),(2,1)] ps [O 0, O 0, O 0] k:=gV (by kernel_rfl) (by kernel_rfl) ps
theorem xh (o:ai):aC o=[aS o.kind,o.dn, aS o.gap.lo, aS o.gap.hi, aS o.most, aS o.lo, aS o.hi,o.dk]:=rfl
theorem cV (c:eu):aM c=[c.house.dr,c.house.dd,c.house.dw, aS c.session.id, aS c.session.in_.lo, aS c.session.in_.hi, aS c.session.out.lo, aS c.session.out.hi, aS c.session.zero.lo, aS c.session.zero.hi, aS c.session.end_.lo, aS c.session.end_.hi, aS c.session.rate.lo, aS c.session.rate.hi,c.session.ds,
   aS c.ink.faint, aS c.ink.stray, aS c.ink.slip,c.dk,c.dst,c.dm, aS c.start, aS c.since, aS c.order.kind,c.order.dn, aS c.order.gap.lo, aS c.order.gap.hi, aS c.order.most, aS c.order.lo, aS c.order.hi,c.order.dk]:=by
 rfl
theorem Hf (x:Key) (id:Int):bc 89 [.agg (fe x),.ptr [aS id] 0] (·= .bool (decide (x.id=id))):=by
 refine aH hG ?_
 have h:=aW;repeat' (first | simp (disch:=omega) only [go_sem,fe,h89,h]| ((first | apply aa | apply ab | apply Z)<;>intro h<;>(try simp only [spl] at h)))
 all_goals (refine ax (.bool _) ?_;first | (simp [*];done)| (congr 1;rw [Bool.eq_iff_iff];simp [*];omega)| (congr 1;rw [Bool.eq_iff_iff];simp [];omega)| (simp [*]<;>omega))
def uR (l:List Key) (id:Int):Bool:=l.any fun k=>decide (k.id=id)
theorem sK {α:Type} {p:α->Bool}:∀{xs:List α},xs.any p=true->0<=gQ p xs
 | [],h=>by simp at h
 | x::xs,h=>by
  unfold gQ
  cases hx:p x with
  | true=>simp
  | false=>
   have:=sK (xs:=xs) (p:=p) (by simpa [hx] using h)
   simp only []
   (repeat' split)<;>omega
theorem vJ {α:Type} {p:α->Bool} {xs:List α} (h:xs.any p=false):gQ p xs= -1:=mZ fun x hx=>by
 cases hp:p x with
 | false=>rfl
 | true=>rw [List.any_eq_true.2 ⟨x,hx,hp⟩] at h;cases h
def fI (c:eu) (s:gk):Bool:=iX s.name&&inB s.room 0 ((c.house.rooms.length:Int) - 1)&&uR c.keys s.key
def YV (c:eu) (s:gk) (m:Nat) (e:En) (H:Hp):Prop:=∃n:Nat,n<=c.keys.length/\m=c.keys.length - n/\e.dm=[]/\(∀x∈c.keys.take n,decide (x.id=s.key)=false)/\e.t 6= O n/\e.t 2= .ptr 0 0/\e.t 3= .ptr 1 0/\H.get 0=some (ae 42 (aq (aM c)))/\H.get 1=some (ae 94 (aq (dT s)))
theorem i0 {α:Type} {p:α->Bool} {xs:List α} (h:∀x∈xs,p x=false):xs.any p=false:=by
 rw [List.any_eq_false];intro x hx;rw [h x hx];simp
theorem o7 {α:Type} {p:α->Bool} {xs:List α} {n:Nat} (hn:n<xs.length) (h:p xs[n]=true):xs.any p=true:=List.any_eq_true.2 ⟨_,cO hn,h⟩
theorem yg (c:eu) (s:gk) (hs:Sl 3 fe c.keys c.dk) (hl:c.keys.length<=9223372036854775807) (hr:Sl 2 qc c.house.rooms c.house.dr) (hrl:c.house.rooms.length<=9223372036854775807) (hn:s.name.length<=9223372036854775807):
  bc 104 [.agg (aM c),.agg (dT s)] (·= .bool (fI c s)):=by
 refine aH hG ?_
 have h:=aW;repeat' (first | simp (disch:=omega) only [go_sem,cV,dT,aDD,QJ,aF hr lC,h]| ((first | apply aa | apply ab | apply Z)<;>intro h<;>(try simp only [spl] at h))| (first | refine bB hG _ (vS _ hn) rfl ?_ | refine bB hG _ (Iz _ _ _) rfl ?_))
 all_goals first
  | (refine ax (.bool _) ?_;simp [fI, *];done)
  | skip
 have hB:∀b,uR c.keys s.key=b->fI c s=b:=fun b hb=>by simp [fI, *]
 refine aZ (YV c s) (fun m e H hi=> ?_) (m:=c.keys.length) ?_
 rotate_left
 ·exact⟨0,bN _,rfl,rfl,fun x hx=>by simp at hx,eg rfl rfl,eg rfl rfl,eg rfl rfl,by first | rfl | (simp (disch:=omega) only [go_sem,cV]<;>rfl),by first | rfl | (simp (disch:=omega) only [go_sem,dT]<;>rfl)⟩
 ·obtain⟨n,hn',rfl,hdm,ha,g6,g2,g3,hg0,hg1⟩:=hi
  obtain⟨t,dm⟩:=e
  dsimp only at hdm g6 g2 g3
  subst hdm
  rw [cV] at hg0
  simp only [dT,go_sem] at hg0 hg1
  refine aV 200 ?_
  rw [RG]
  by_cases hlt:n<c.keys.length
  ·have h:=aW;repeat' (first | simp (disch:=omega) only [go_sem,g6,g2,g3,hg0,hg1,aF hs jE,bC hs jE ur rE hlt,bG fA hlt (by decide:0<3),fe,bp,hlt,QJ,h]| ((first | apply aa | apply ab | apply Z)<;>intro h<;>(try simp only [spl] at h)))
   ·refine ax (.bool true) ?_
    rw [hB true (o7 hlt (fM h))]
   ·refine bd (m':=c.keys.length - (n+1)) (by omega) ⟨n+1,by omega,rfl,rfl,mE hlt ha (fK h), ?_, ?_, ?_, ?_, ?_⟩<;>(first | rfl | (simp (disch:=omega) only [go_sem,g6,g2,g3,hg0,hg1,cV,dT]<;>rfl))
  ·have h:=aW;repeat' (first | simp (disch:=omega) only [go_sem,g6,g2,g3,hg0,hg1,aF hs jE,bp,hlt,P7,QJ,h]| ((first | apply aa | apply ab | apply Z)<;>intro h<;>(try simp only [spl] at h)))
   refine ax (.bool false) ?_
   rw [hB false (i0 (sO hlt ha))]
def jP (x y:gk):Bool:=decide (y.name=x.name)||decide (y.key=x.key)
def stE (c:eu):List gk->List gk->Int
 | _,[]=>0
 | prev,x::l=>if fI c x then (if prev.any (jP x) then 6 else stE c (prev++[x]) l) else 1
def fD (c:eu):Int:=if c.stations.length>8 then 2 else stE c [] c.stations
theorem jn {α:Type} {l:List α} {n:Nat} (h:n<l.length):l.take n++[l[n]]=l.take (n+1):=by simp
theorem Dj {c:eu} {l:List gk} {n:Nat} (h:n<l.length) (hb:fI c l[n]=false):stE c (l.take n) (l.drop n)=1:=by
 rw [hZ h];simp [stE,hb]
theorem xL {c:eu} {l:List gk} {n:Nat} (h:n<l.length) (hb:fI c l[n]=true) (ha:(l.take n).any (jP l[n])=true):stE c (l.take n) (l.drop n)=6:=by
 rw [hZ h];simp only [stE];rw [if_pos hb,if_pos ha]
theorem Gn {c:eu} {l:List gk} {n:Nat} (h:n<l.length) (hb:fI c l[n]=true) (ha:(l.take n).any (jP l[n])=false):stE c (l.take n) (l.drop n)=stE c (l.take (n+1)) (l.drop (n+1)):=by
 rw [hZ h];simp only [stE];rw [if_pos hb,if_neg (by rw [ha];simp),jn h]
structure Xi (c:eu):Prop where
 keys:Sl 3 fe c.keys c.dk
 keysL:c.keys.length<=9223372036854775807
 rooms:Sl 2 qc c.house.rooms c.house.dr
 roomsL:c.house.rooms.length<=9223372036854775807
 sts:Sl 3 dT c.stations c.dst
 stsL:c.stations.length<=9223372036854775807
 names:∀s∈c.stations,s.name.length<=9223372036854775807
def I45 (c:eu) (m:Nat) (e:En) (H:Hp):Prop:=∃n:Nat,n<=c.stations.length/\m=c.stations.length - n/\e.dm=[]/\stE c [] c.stations=stE c (c.stations.take n) (c.stations.drop n)/\e.t 3= O n/\e.t 1= .ptr 0 0/\H.get 0=some (ae 42 (aq (aM c)))
def ZM (c:eu) (n:Nat) (x:gk) (m:Nat) (e:En) (H:Hp):Prop:=∃k:Nat,k<=n/\m=n - k/\e.dm=[]/\(∀y∈c.stations.take k,jP x y=false)/\e.t 5= O k/\e.t 3= O n/\e.t 1= .ptr 0 0/\H.get 0=some (ae 42 (aq (aM c)))
theorem yu (c:eu) (ho:Xi c):bc 45 [.agg (aM c)] (·= .int .i64 (fD c)):=by
 obtain⟨hk,hkl,hr,hrl,hs,hsl,hnl⟩:=ho
 refine aH hG ?_
 (try simp (maxSteps:=10000000) (disch:=omega) only [go_sem,cV,h45,r45,aF hs jR]);repeat' ((first | apply aa | apply ab | apply Z)<;>intro h<;>(try simp only [spl] at h)<;>try simp (maxSteps:=10000000) (disch:=omega) only [go_sem,cV,h45,r45,aF hs jR,h])
 ·refine ax (aS 2) ?_
  simp only [fD];rw [if_pos (by omega)]
 have hE:∀v,v=stE c [] c.stations->v=fD c:=fun v hv=>by
  simp only [fD];rw [if_neg (by omega)];exact hv
 refine aZ (I45 c) (fun m e H hi=> ?_) (m:=c.stations.length) ?_
 rotate_left
 ·exact⟨0,bN _,rfl,rfl,rfl,eg rfl rfl,eg rfl rfl,by first | rfl | (simp (maxSteps:=10000000) (disch:=omega) only [go_sem,cV]<;>rfl)⟩
 ·obtain⟨n,hn',rfl,hdm,hst,g3,g1,hg0⟩:=hi
  obtain⟨t,dm⟩:=e
  dsimp only at hdm g3 g1
  subst hdm
  rw [cV] at hg0
  simp only [go_sem] at hg0
  refine aV 200 ?_
  rw [Wp]
  by_cases hlt:n<c.stations.length
  ·have hnm:=hnl _ (cO hlt)
   (try simp (maxSteps:=10000000) (disch:=omega) only [go_sem,g3,g1,hg0,aF hs jR,bC hs jR uQ qR hlt,bv cH hlt,dT,bp,hlt,r45]);repeat' (first | ((first | apply aa | apply ab | apply Z)<;>intro h<;>(try simp only [spl] at h)<;>try simp (maxSteps:=10000000) (disch:=omega) only [go_sem,g3,g1,hg0,aF hs jR,bC hs jR uQ qR hlt,bv cH hlt,dT,bp,hlt,r45,h])| ((refine bB hG _ (yg c c.stations[n] hk hkl hr hrl hnm) rfl ?_)<;>try simp (maxSteps:=10000000) (disch:=omega) only [go_sem,g3,g1,hg0,aF hs jR,bC hs jR uQ qR hlt,bv cH hlt,dT,bp,hlt,r45]))
   ·refine ax (aS 1) ?_
    congr 1
    exact hE _ (by rw [hst,Dj hlt h])
   refine aZ (ZM c n c.stations[n]) (fun m e H hi=> ?_) (m:=n) ?_
   rotate_left
   ·refine⟨0,bN _,rfl,rfl,fun x hx=>by simp at hx, ?_, ?_, ?_, ?_⟩<;>(first | rfl | (simp (maxSteps:=10000000) (disch:=omega) only [go_sem,g3,g1,hg0,cV]<;>rfl))
   clear g3 g1 hg0
   ·obtain⟨k,hk',rfl,hdm,ha,g5,g3,g1,hg0⟩:=hi
    obtain⟨t,dm⟩:=e
    dsimp only at hdm g5 g3 g1
    subst hdm
    rw [cV] at hg0
    simp only [go_sem] at hg0
    refine aV 200 ?_
    rw [VF]
    by_cases hkn:k<n
    ·have hkl:k<c.stations.length:=by omega
     (try simp (maxSteps:=10000000) (disch:=omega) only [go_sem,g5,g3,g1,hg0,aF hs jR,bC hs jR uQ qR hlt,bv cH hlt,bG cH hlt (by decide:0<3),bC hs jR uQ qR hkl,bv cH hkl,bG cH hkl (by decide:0<3),gt cH c.stations k 1 hkl (by decide),gt cH c.stations n 1 hlt (by decide),dT,bp,hkn,r45,Nt,Nx,NW,Ov]);repeat' ((first | apply aa | apply ab | apply Z)<;>intro h<;>(try simp only [spl] at h)<;>try simp (maxSteps:=10000000) (disch:=omega) only [go_sem,g5,g3,g1,hg0,aF hs jR,bC hs jR uQ qR hlt,bv cH hlt,bG cH hlt (by decide:0<3),bC hs jR uQ qR hkl,bv cH hkl,bG cH hkl (by decide:0<3),gt cH c.stations k 1 hkl (by decide),gt cH c.stations n 1 hlt (by decide),dT,bp,hkn,r45,Nt,Nx,NW,Ov,h])
     all_goals first
      | (refine ax (aS 6) ?_;congr 1;refine hE _ ?_;rw [hst,xL hlt (by assumption) (o7 (n:=k) (by simp;omega) (by simp [jP, *]))];done)
      | (refine bd (m':=n - (k+1)) (by omega) ⟨k+1,by omega,rfl,rfl,mE hkl ha (by simp [jP, *]), ?_, ?_, ?_, ?_⟩<;>(first | rfl | (simp (maxSteps:=10000000) (disch:=omega) only [go_sem,g5,g3,g1,hg0,cV]<;>rfl)))
    ·(try simp (maxSteps:=10000000) (disch:=omega) only [go_sem,g5,g3,g1,hg0,bp,hkn,NV,r45]);repeat' ((first | apply aa | apply ab | apply Z)<;>intro h<;>(try simp only [spl] at h)<;>try simp (maxSteps:=10000000) (disch:=omega) only [go_sem,g5,g3,g1,hg0,Int.ofNat_lt,hkn,NV,r45,h])
     have hkn':k=n:=by omega
     subst hkn'
     refine bd (m':=c.stations.length - (k+1)) (by omega) ⟨k+1,by omega,rfl,rfl,by rw [hst,Gn hlt (by assumption) (i0 ha)], ?_, ?_, ?_⟩<;>(first | rfl | (simp (maxSteps:=10000000) (disch:=omega) only [go_sem,g5,g3,g1,hg0,cV]<;>rfl))
  ·(try simp (maxSteps:=10000000) (disch:=omega) only [go_sem,g3,g1,hg0,aF hs jR,bp,hlt,Mm,r45]);repeat' ((first | apply aa | apply ab | apply Z)<;>intro h<;>(try simp only [spl] at h)<;>try simp (maxSteps:=10000000) (disch:=omega) only [go_sem,g3,g1,hg0,aF hs jR,Int.ofNat_lt,hlt,Mm,r45,h])
   refine ax (aS 0) ?_
   congr 1
   refine hE _ ?_
   rw [hst,iu (by omega)]
   rfl
theorem AX {most least:Int} {x:gB} {l:List gB} (h:x.lo<least∨x.hi<x.lo∨most<x.hi):fU most least (x::l)=false:=by
 simp only [fU];split;rfl;split;rfl;split;rfl;omega
theorem C' {most least:Int} {x:gB} {l:List gB} (h:least<=x.lo/\x.lo<=x.hi/\x.hi<=most):fU most least (x::l)=fU most (x.hi+2) l:=by
 simp only [fU];rw [if_neg (by omega),if_neg (by omega),if_neg (by omega)]
def ZT (l:List gB) (d:D) (most:Int) (m:Nat) (e:En) (H:Hp):Prop:=∃(n:Nat) (least:Int),n<=l.length/\m=l.length - n/\0<=least/\least<=4611686018427387906/\e.dm=[]/\fU most 0 l=fU most least (l.drop n)/\
 (n=0->least=0)/\(∀k,n=k+1->∃h:k<l.length,l[k].hi=least - 2)/\e.t 5= O n/\e.t 0=ofD d/\e.t 1= O most
theorem Dq {l:List gB} {n:Nat} (h:n<l.length):∀k,n+1=k+1->∃h:k<l.length,l[k].hi=(l[n].hi+2) - 2:=fun k hk=>by
 obtain rfl:n=k:=by omega
 exact⟨h,by omega⟩
theorem rn (l:List gB) (d:D) (most:Int) (hs:Sl 2 eA l d) (hm:most<=4611686018427387904) (hl:l.length<=9223372036854775807):bc 173 [d, aS most] (·= .bool (lq l most)):=by
 refine aH hG ?_
 have h:=aW;repeat' (first | simp (disch:=omega) only [go_sem,aEU,JA,aF hs oF,h]| ((first | apply aa | apply ab | apply Z)<;>intro h<;>(try simp only [spl] at h)))
 ·refine ax (.bool false) ?_
  congr 1;symm;simp only [lq];rw [fK (by omega)];simp
 have hE:∀b,fU most 0 l=b->D.bool b= .bool (lq l most):=fun b hb=>by
  congr 1;simp only [lq];rw [fM (by omega),hb];simp
 refine aZ (ZT l d most) (fun m e H hi=> ?_) (m:=l.length) ?_
 rotate_left
 ·exact⟨0,0,bN _,rfl,by omega,by omega,rfl,rfl,fun _=>rfl,fun k hk=>absurd hk (by omega),eg rfl rfl,eg rfl rfl,eg rfl rfl⟩
 ·obtain⟨n,least,hn,rfl,h0,hlb,hdm,ho,hb0,hb1,g5,g0,g1⟩:=hi
  obtain⟨t,dm⟩:=e
  dsimp only at hdm g5 g0 g1
  subst hdm
  refine aV 200 ?_
  rw [OS]
  by_cases hlt:n<l.length
  ·have hd:=hZ hlt
   rcases Nat.eq_zero_or_pos n with hz | hz
   ·have hb:=hb0 hz
    have hgt:decide ((0:Int)<(n:Int))=false:=by rw [cU];omega
    have h:=aW;repeat' (first | simp (disch:=omega) only [go_sem,g5,g0,g1,hgt,aF hs oF,bC hs oF D9 um hlt,bG jU hlt (by decide:0<2),gt jU l n 1 hlt (by decide),eA,bp,hlt,JA,F5,If,F2,Hm,HS,FG,HM,IQ,h]| ((first | apply aa | apply ab | apply Z)<;>intro h<;>(try simp only [spl] at h))| (refine bB hG _ (qU _ _ _) rfl ?_))
    all_goals simp only [inB,bU,cU] at *
    all_goals first
     | (refine ax (.bool false) (hE _ ?_);rw [ho,hd];exact AX (by omega))
     | (refine bd (m':=l.length - (n+1)) (by omega) ⟨n+1,l[n].hi+2,by omega,rfl,by omega,by omega,rfl,by rw [ho,hd];exact C' (by omega),fun h=>absurd h (by omega),Dq hlt, ?_, ?_, ?_⟩<;>(first | rfl | (simp (disch:=omega) only [go_sem,g5,g0,g1]<;>rfl)))
   ·obtain⟨k,hnk⟩:∃k,n=k+1:=⟨n - 1,by omega⟩
    obtain⟨hk,hkb⟩:=hb1 k hnk
    have hgt:decide ((0:Int)<(n:Int))=true:=by rw [bU];omega
    have hks:(n:Int) - 1=(k:Int):=by omega
    have h:=aW;repeat' (first | simp (disch:=omega) only [go_sem,g5,g0,g1,hgt,hks,hkb,aF hs oF,bC hs oF D9 um hlt,bG jU hlt (by decide:0<2),gt jU l n 1 hlt (by decide),bC hs oF D9 um hk,gt jU l k 1 hk (by decide),eA,bp,hlt,JA,F5,If,F2,Hm,HS,FG,HM,IQ,h]| ((first | apply aa | apply ab | apply Z)<;>intro h<;>(try simp only [spl] at h))| (refine bB hG _ (qU _ _ _) rfl ?_))
    all_goals simp only [inB,bU,cU] at *
    all_goals first
     | (refine ax (.bool false) (hE _ ?_);rw [ho,hd];exact AX (by omega))
     | (refine bd (m':=l.length - (n+1)) (by omega) ⟨n+1,l[n].hi+2,by omega,rfl,by omega,by omega,rfl,by rw [ho,hd];exact C' (by omega),fun h=>absurd h (by omega),Dq hlt, ?_, ?_, ?_⟩<;>(first | rfl | (simp (disch:=omega) only [go_sem,g5,g0,g1]<;>rfl)))
  ·have h:=aW;repeat' (first | simp (disch:=omega) only [go_sem,g5,g0,g1,aF hs oF,bp,hlt,RI,JA,h]| ((first | apply aa | apply ab | apply Z)<;>intro h<;>(try simp only [spl] at h)))
   refine ax (.bool true) (hE _ ?_)
   rw [ho,iu (by omega)];rfl
def yQ (rooms doors:Nat) (w:Way):Bool:=decide (0<=w.a/\w.a<rooms/\0<=w.b/\w.b<rooms/\w.a≠w.b/\1<=w.secs/\w.secs<=3600/\0<=w.back/\w.back<=3600/\ -1<=w.door/\w.door<doors)
theorem Gg (h:li) (w:Way) (hr:Sl 2 qc h.rooms h.dr) (hrl:h.rooms.length<=9223372036854775807) (hd:Sl 2 rm h.doors h.dd) (hdl:h.doors.length<=9223372036854775807):bc 174 [.agg (dC h),.agg (AI w)] (·= .bool (yQ h.rooms.length h.doors.length w)):=by
 refine aH hG ?_
 have h:=aW;repeat' (first | simp (disch:=omega) only [go_sem,dC,AI,aAK,aF hr lC,aF hd mH,h]| ((first | apply aa | apply ab | apply Z)<;>intro h<;>(try simp only [spl] at h))| (refine bB hG _ (qU _ _ _) rfl ?_))
 all_goals simp only [inB,bU,cU] at *
 all_goals (refine ax (.bool _) ?_;congr 1;rw [cg];simp only [yQ,inB,bU,dI,eJ,eL];omega)
def pF (x:ov):Bool:=iX x.name&&inB x.floor (-60) 60
def jz:List ov->List ov->Int
 | _,[]=>0
 | prev,x::l=>if pF x then (if prev.any (fun y=>decide (y.name=x.name)) then 6 else jz (prev++[x]) l) else 1
def sf (d:Ed):Bool:=lq d.hours 86399&&lq d.shut 1073741823
def iq (h:li):Int:=if h.rooms.length=0 then 1 else if h.rooms.length>24∨h.doors.length>16∨h.ways.length>60 then 2 else
 if jz [] h.rooms=0 then (if h.doors.all sf&&h.ways.all (yQ h.rooms.length h.doors.length) then 0 else 1) else jz [] h.rooms
structure rq (h:li):Prop where
 rooms:Sl 2 qc h.rooms h.dr
 roomsL:h.rooms.length<=9223372036854775807
 names:∀s∈h.rooms,s.name.length<=9223372036854775807
 doors:Sl 2 rm h.doors h.dd
 doorsL:h.doors.length<=9223372036854775807
 hours:∀d∈h.doors,Sl 2 eA d.hours d.dh
 hoursL:∀d∈h.doors,d.hours.length<=9223372036854775807
 shut:∀d∈h.doors,Sl 2 eA d.shut d.ds
 shutL:∀d∈h.doors,d.shut.length<=9223372036854775807
 ways:Sl 5 AI h.ways h.dw
 waysL:h.ways.length<=9223372036854775807
theorem wV {l:List ov} {n:Nat} (h:n<l.length) (hb:pF l[n]=false):jz (l.take n) (l.drop n)=1:=by
 rw [hZ h];simp [jz,hb]
theorem tP {l:List ov} {n:Nat} (h:n<l.length) (hb:pF l[n]=true) (ha:(l.take n).any (fun y=>decide (y.name=l[n].name))=true):jz (l.take n) (l.drop n)=6:=by
 rw [hZ h];simp only [jz];rw [if_pos hb,if_pos ha]
theorem Aa {l:List ov} {n:Nat} (h:n<l.length) (hb:pF l[n]=true) (ha:(l.take n).any (fun y=>decide (y.name=l[n].name))=false):jz (l.take n) (l.drop n)=jz (l.take (n+1)) (l.drop (n+1)):=by
 rw [hZ h];simp only [jz];rw [if_pos hb,if_neg (by rw [ha];simp),jn h]
theorem rU {α:Type} {p:α->Bool} {l:List α} {n:Nat} (h:n<l.length) (hb:p l[n]=false):l.all p=false:=by
 rw [List.all_eq_false];exact⟨l[n],cO h,by rw [hb];simp⟩
theorem iT {α:Type} {p:α->Bool} {l:List α} {n:Nat} (h:n<l.length) (ha:∀x∈l.take n,p x=true) (hb:p l[n]=true):∀x∈l.take (n+1),p x=true:=by
 intro x hx
 rw [←jn h,dF] at hx
 rcases hx with hx | hx
 ·exact ha x hx
 ·rw [je] at hx;rw [hx];exact hb
theorem pu {α:Type} {p:α->Bool} {l:List α} {n:Nat} (h:¬n<l.length) (ha:∀x∈l.take n,p x=true):l.all p=true:=by
 rw [eI]
 rw [cN (by omega)] at ha
 exact ha
def I98 (h:li) (m:Nat) (e:En) (H:Hp):Prop:=∃n:Nat,n<=h.rooms.length/\m=h.rooms.length - n/\e.dm=[]/\jz [] h.rooms=jz (h.rooms.take n) (h.rooms.drop n)/\e.t 4= O n/\e.t 1= .ptr 0 0/\H.get 0=some (ae 26 (aq (dC h)))
def ZU (h:li) (n:Nat) (x:ov) (m:Nat) (e:En) (H:Hp):Prop:=∃k:Nat,k<=n/\m=n - k/\e.dm=[]/\(∀y∈h.rooms.take k,(fun y:ov=>decide (y.name=x.name)) y=false)/\e.t 6= O k/\e.t 4= O n/\e.t 1= .ptr 0 0/\H.get 0=some (ae 26 (aq (dC h)))
def aBZ (h:li) (m:Nat) (e:En) (H:Hp):Prop:=∃n:Nat,n<=h.doors.length/\m=h.doors.length - n/\e.dm=[]/\(∀y∈h.doors.take n,sf y=true)/\e.t 7= O n/\e.t 1= .ptr 0 0/\H.get 0=some (ae 26 (aq (dC h)))
def aAV (h:li) (m:Nat) (e:En) (H:Hp):Prop:=∃n:Nat,n<=h.ways.length/\m=h.ways.length - n/\e.dm=[]/\(∀y∈h.ways.take n,yQ h.rooms.length h.doors.length y=true)/\e.t 10= O n/\e.t 1= .ptr 0 0/\H.get 0=some (ae 26 (aq (dC h)))
theorem rj {e v i:Int} (h:e=v):∃i',D.tup [aS e, aS i]=D.tup [aS v, aS i']:=⟨i,by rw [h]⟩
theorem Ft (u:li) (ho:rq u):bc 98 [.agg (dC u)] (fun d=>∃i,d= .tup [aS (iq u), aS i]):=by
 obtain⟨hr,hrl,hnl,hd,hdl,hho,hhl,hsh,hsl,hw,hwl⟩:=ho
 refine aH hG ?_
 have h:=aW;repeat' (first | simp (disch:=omega) only [go_sem,dC,h98,r98,aF hr lC,aF hd mH,aF hw ru,h]| ((first | apply aa | apply ab | apply Z)<;>intro h<;>(try simp only [spl] at h)))
 all_goals first
  | (refine ax (.tup [aS 1, aS (-1)]) (rj ?_);simp only [iq];rw [if_pos (by omega)];done)
  | (refine ax (.tup [aS 2, aS (-1)]) (rj ?_);simp only [iq];rw [if_neg (by omega),if_pos (by omega)];done)
  | skip
 have hE:∀v,v=(if jz [] u.rooms=0 then (if u.doors.all sf&&u.ways.all (yQ u.rooms.length u.doors.length) then 0 else 1) else jz [] u.rooms)->v=iq u:=fun v hv=>by
  simp only [iq];rw [if_neg (by omega),if_neg (by omega)];exact hv
 refine aZ (I98 u) (fun m e H hi=> ?_) (m:=u.rooms.length) ?_
 rotate_left
 ·exact⟨0,bN _,rfl,rfl,rfl,eg rfl rfl,eg rfl rfl,by first | rfl | (simp (disch:=omega) only [go_sem,dC]<;>rfl)⟩
 ·obtain⟨n,hn',rfl,hdm,hst,g4,g1,hg0⟩:=hi
  obtain⟨t,dm⟩:=e
  dsimp only at hdm g4 g1
  subst hdm
  simp only [dC,go_sem] at hg0
  refine aV 200 ?_
  rw [WZ]
  by_cases hlt:n<u.rooms.length
  ·have hnm:=hnl _ (cO hlt)
   have h:=aW;repeat' (first | simp (disch:=omega) only [go_sem,g4,g1,hg0,aF hr lC,bC hr lC Du xp hlt,bG lL hlt (by decide:0<2),gt lL u.rooms n 1 hlt (by decide),qc,bp,hlt,r98,h]| ((first | apply aa | apply ab | apply Z)<;>intro h<;>(try simp only [spl] at h))| (first | refine bB hG _ (vS _ hnm) rfl ?_ | refine bB hG _ (qU _ _ _) rfl ?_))
   all_goals first
    | (refine ax (.tup [aS 1, aS n]) (rj (hE _ ?_));rw [hst,wV hlt (by simp only [pF, *];simp)];rfl)
    | skip
   refine aZ (ZU u n u.rooms[n]) (fun m e H hi=> ?_) (m:=n) ?_
   rotate_left
   ·refine⟨0,bN _,rfl,rfl,fun x hx=>by simp at hx, ?_, ?_, ?_, ?_⟩<;>(first | rfl | (simp (disch:=omega) only [go_sem,g4,g1,hg0,dC]<;>rfl))
   clear g4 g1 hg0
   ·obtain⟨k,hk',rfl,hdm,ha,g6,g4,g1,hg0⟩:=hi
    obtain⟨t,dm⟩:=e
    dsimp only at hdm g6 g4 g1
    subst hdm
    simp only [dC,go_sem] at hg0
    refine aV 200 ?_
    rw [Ux]
    by_cases hkn:k<n
    ·have hkl:k<u.rooms.length:=by omega
     have h:=aW;repeat' (first | simp (disch:=omega) only [go_sem,g6,g4,g1,hg0,aF hr lC,bC hr lC Du xp hlt,bG lL hlt (by decide:0<2),bC hr lC Du xp hkl,bG lL hkl (by decide:0<2),qc,bp,hkn,r98,h]| ((first | apply aa | apply ab | apply Z)<;>intro h<;>(try simp only [spl] at h)))
     all_goals first
      | (refine ax (.tup [aS 6, aS n]) (rj (hE _ ?_));rw [hst,tP hlt (by simp [pF, *]) (o7 (n:=k) (by simp;omega) (by simp [*]))];rfl)
      | (refine bd (m':=n - (k+1)) (by omega) ⟨k+1,by omega,rfl,rfl,mE hkl ha (by simp [*]), ?_, ?_, ?_, ?_⟩<;>(first | rfl | (simp (disch:=omega) only [go_sem,g6,g4,g1,hg0,dC]<;>rfl)))
    ·have h:=aW;repeat' (first | simp (disch:=omega) only [go_sem,g6,g4,g1,hg0,bp,hkn,VK,r98,h]| ((first | apply aa | apply ab | apply Z)<;>intro h<;>(try simp only [spl] at h)))
     have hkn':k=n:=by omega
     subst hkn'
     refine bd (m':=u.rooms.length - (k+1)) (by omega) ⟨k+1,by omega,rfl,rfl,by rw [hst,Aa hlt (by simp [pF, *]) (i0 ha)], ?_, ?_, ?_⟩<;>(first | rfl | (simp (disch:=omega) only [go_sem,g6,g4,g1,hg0,dC]<;>rfl))
  ·have h:=aW;repeat' (first | simp (disch:=omega) only [go_sem,g4,g1,hg0,aF hr lC,bp,hlt,Ut,r98,h]| ((first | apply aa | apply ab | apply Z)<;>intro h<;>(try simp only [spl] at h)))
   rw [iu (by omega)] at hst
   have h0:jz [] u.rooms=0:=hst
   refine aZ (aBZ u) (fun m e H hi=> ?_) (m:=u.doors.length) ?_
   rotate_left
   ·refine⟨0,bN _,rfl,rfl,fun x hx=>by simp at hx, ?_, ?_, ?_⟩<;>(first | rfl | (simp (disch:=omega) only [go_sem,g4,g1,hg0,dC]<;>rfl))
   clear hn' hst g4 g1 hg0 hlt
   obtain⟨n,hn',rfl,hdm,ha,g7,g1,hg0⟩:=hi
   obtain⟨t,dm⟩:=e
   dsimp only at hdm g7 g1
   subst hdm
   simp only [dC,go_sem] at hg0
   refine aV 200 ?_
   rw [Wz]
   by_cases hlt:n<u.doors.length
   ·have hm:=cO hlt
    have h:=aW;repeat' (first | simp (disch:=omega) only [go_sem,g7,g1,hg0,aF hd mH,bC hd mH Ks DT hlt,bG jx hlt (by decide:0<2),gt jx u.doors n 1 hlt (by decide),rm,bp,hlt,r98,h]| ((first | apply aa | apply ab | apply Z)<;>intro h<;>(try simp only [spl] at h))| (first | refine bB hG _ (rn _ _ _ (hho _ hm) (by omega) (hhl _ hm)) rfl ?_ | refine bB hG _ (rn _ _ _ (hsh _ hm) (by omega) (hsl _ hm)) rfl ?_))
    all_goals first
     | (refine ax (.tup [aS 1, aS n]) (rj (hE _ ?_));rw [if_pos h0,rU hlt (by simp [sf, *])];rfl)
     | (refine bd (m':=u.doors.length - (n+1)) (by omega) ⟨n+1,by omega,rfl,rfl,iT hlt ha (by simp [sf, *]), ?_, ?_, ?_⟩<;>(first | rfl | (simp (disch:=omega) only [go_sem,g7,g1,hg0,dC]<;>rfl)))
   ·have h:=aW;repeat' (first | simp (disch:=omega) only [go_sem,g7,g1,hg0,aF hd mH,bp,hlt,WJ,r98,h]| ((first | apply aa | apply ab | apply Z)<;>intro h<;>(try simp only [spl] at h)))
    have h2:=pu hlt ha
    refine aZ (aAV u) (fun m e H hi=> ?_) (m:=u.ways.length) ?_
    rotate_left
    ·refine⟨0,bN _,rfl,rfl,fun x hx=>by simp at hx, ?_, ?_, ?_⟩<;>(first | rfl | (simp (disch:=omega) only [go_sem,g7,g1,hg0,dC]<;>rfl))
    clear hn' ha g7 g1 hg0 hlt
    obtain⟨n,hn',rfl,hdm,ha,g10,g1,hg0⟩:=hi
    obtain⟨t,dm⟩:=e
    dsimp only at hdm g10 g1
    subst hdm
    simp only [dC,go_sem] at hg0
    refine aV 200 ?_
    rw [UD]
    by_cases hlt:n<u.ways.length
    ·have h:=aW;repeat' (first | simp (disch:=omega) only [go_sem,g10,g1,hg0,aF hw ru,bC hw ru NU DP hlt,bv vu hlt,AI,bp,hlt,r98,h]| ((first | apply aa | apply ab | apply Z)<;>intro h<;>(try simp only [spl] at h))| (refine bB hG _ (Gg u u.ways[n] hr hrl hd hdl) rfl ?_))
     all_goals first
      | (refine ax (.tup [aS 1, aS n]) (rj (hE _ ?_));rw [if_pos h0,h2,rU hlt (by assumption)];rfl)
      | (refine bd (m':=u.ways.length - (n+1)) (by omega) ⟨n+1,by omega,rfl,rfl,iT hlt ha (by assumption), ?_, ?_, ?_⟩<;>(first | rfl | (simp (disch:=omega) only [go_sem,g10,g1,hg0,dC]<;>rfl)))
    ·have h:=aW;repeat' (first | simp (disch:=omega) only [go_sem,g10,g1,hg0,aF hw ru,bp,hlt,Wg,r98,h]| ((first | apply aa | apply ab | apply Z)<;>intro h<;>(try simp only [spl] at h)))
     refine ax (.tup [aS 0, aS (-1)]) (rj (hE _ ?_))
     rw [if_pos h0,h2,pu hlt ha];rfl
theorem D6 (u:li) (ho:rq u):bc 41 [.agg (dC u)] (·= .int .i64 (iq u)):=by
 refine aH hG ?_
 have h:=aW;repeat' (first | simp (disch:=omega) only [go_sem,dC,h41,h]| ((first | apply aa | apply ab | apply Z)<;>intro h<;>(try simp only [spl] at h)))
 refine ei hG [.agg (dC u)] (Ft u ho) rfl fun d hd=> ?_
 obtain⟨i,rfl⟩:=hd
 have h:=aW;repeat' (first | simp (disch:=omega) only [go_sem,h]| ((first | apply aa | apply ab | apply Z)<;>intro h<;>(try simp only [spl] at h)))
 exact ax (aS (iq u)) rfl
end Go.S5
namespace Go.Ev
noncomputable section
section
variable {P : Program} {G : bg} {H : Hp} {k : AV -> Bool}
def sE:List (List Nat×AV)->Nat->List (AV×AV×Nat)
 | [],_=>[]
 | (s,v)::l,i=>(.str s,v,i)::sE l (i+1)
theorem Ds (s:List Nat) (v:AV):∀(l:List (List Nat×AV)) (i:Nat),sE (l++[(s,v)]) i=sE l i++[(.str s,v,i+l.length)]
 | [],i=>rfl
 | (s',v')::l,i=>by
  show (_::sE (l++[(s,v)]) (i+1))=_::(sE l (i+1)++_)
  rw [Ds s v l (i+1),dR]
  have:i+1+l.length=i+(l.length+1):=by omega
  rw [this]
theorem Rr (a b:List Nat):CB ⟨false,[.s]⟩ (.str a) (.str b)=some (decide (a=b)):=by
 show jT [.s] [.str a] [.str b]=_
 simp only [jT,Ez,uD]
 try (cases decide (a=b)<;>rfl)
theorem vW (s:List Nat):∀(l:List (List Nat×AV)) (j i:Nat),(∀p∈l,p.2= .bool true)->
  (l.any (fun p=>decide (p.1=s))=false->findKey ⟨false,[.s]⟩ (.str s) (sE l j) i=some none)/\(l.any (fun p=>decide (p.1=s))=true->∃n,findKey ⟨false,[.s]⟩ (.str s) (sE l j) i=some (some (n,.bool true)))
 | [],j,i,_=>⟨fun _=>rfl,fun h=>by simp at h⟩
 | (s',v')::l,j,i,hv=>by
  have ih:=vW s l (j+1) (i+1) fun p hp=>hv p (co _ hp)
  have hv':v'= .bool true:=hv _ cE
  subst hv'
  simp only [sE,findKey,Rr,List.any_cons]
  by_cases h:s=s'
  ·subst h
   exact⟨fun h=>by simp at h,fun _=>⟨i,by simp⟩⟩
  ·have h':¬s'=s:=fun e=>h e.symm
   simp only [h,h',i9,lT]
   exact ih
def qo (P:Program) (t:TypeId) (i:AV) (ok:Bool) (k:AV->Bool) (o:Option Blk):Bool:=match iI P t,o with
 | some mt,some (.map _ es _)=>iG P es mt i ok k
 | _,_=>false
@[go_sem ↓] theorem DU (t:TypeId) (b:Nat) (i:AV) (ok:Bool):jf P H t (.map b) i ok k=qo P t i ok k (H.get b):=by
 unfold jf qo
 cases iI P t with
 | none=>rfl
 | some mt=>
  dsimp only
  cases H.get b with
  | none=>rfl
  | some x=>cases x<;>rfl
@[congr] theorem N5 {t:TypeId} {i i':AV} {ok:Bool} {o o':Option Blk} (hi:i=i') (ho:o=o'):qo P t i ok k o=qo P t i' ok k o':=by rw [hi,ho]
@[congr] theorem Jh {t:TypeId} {m m' i i':AV} {ok:Bool} (hm:m=m') (hi:i=i'):jf P H t m i ok k=jf P H t m' i' ok k:=by rw [hm,hi]
theorem G3 {t el:TypeId} (hm:iI P t=some ⟨el,⟨false,[.s]⟩⟩) (hz:zro P el=some (.bool false)) {l:List (List Nat×AV)} (hv:∀p∈l,p.2= .bool true) (s:List Nat) (ro:Bool) (cl:Nat):
  qo P t (.str s) false k (some (.map ro (sE l 0) cl))=k (.bool (l.any (fun p=>decide (p.1=s)))):=by
 unfold qo
 rw [hm]
 show iG P (sE l 0) ⟨el,⟨false,[.s]⟩⟩ (.str s) false k=_
 unfold iG
 have hk:ox ⟨el,⟨false,[.s]⟩⟩ (sE l 0) (.str s)=findKey ⟨false,[.s]⟩ (.str s) (sE l 0) 0:=rfl
 rw [hk]
 cases h:l.any (fun p=>decide (p.1=s)) with
 | false=>
  rw [(vW s l 0 0 hv).1 h]
  dsimp only
  rw [hz]
 | true=>
  obtain⟨n,hn⟩:=(vW s l 0 0 hv).2 h
  rw [hn]
def tj (P:Program) (H:Hp) (b:Nat) (t:TypeId) (i v:AV) (k:Hp->Bool) (o:Option Blk):Bool:=match iI P t,o with
 | some mt,some (.map false es cl)=>match ox mt es i with
   | some (some (j,_))=>k (H.setb b (some (.map false (setVal v es j) cl)))
   | some none=>k (H.setb b (some (.map false (es++[(i,v,cl)]) (cl+1))))
   | none=>false
 | _,_=>false
@[go_sem ↓] theorem yM (t:TypeId) (b:Nat) (i v:AV) (k:Hp->Bool):eM P H t (.map b) i v k=tj P H b t i v k (H.get b):=by
 unfold eM tj
 cases iI P t with
 | none=>rfl
 | some mt=>
  dsimp only
  cases H.get b with
  | none=>rfl
  | some x=>
   cases x with
   | map ro es cl=>
    cases ro with
    | true=>rfl
    | false=>
     dsimp only
     cases ox mt es i with
     | none=>rfl
     | some o=>cases o with
      | none=>dsimp only;rw [bH,bA,cJ]
      | some p=>obtain⟨j,w⟩:=p;dsimp only;rw [bH,cJ]
   | _=>rfl
@[congr] theorem Pr {b:Nat} {t:TypeId} {i i' v v':AV} {k:Hp->Bool} {o o':Option Blk} (hi:i=i') (hv:v=v') (ho:o=o'):tj P H b t i v k o=tj P H b t i' v' k o':=by rw [hi,hv,ho]
@[congr] theorem Ee {t:TypeId} {m m' i i' v v':AV} {k:Hp->Bool} (hm:m=m') (hi:i=i') (hv:v=v'):eM P H t m i v k=eM P H t m' i' v' k:=by rw [hm,hi,hv]
theorem DD {t el:TypeId} {b:Nat} (hm:iI P t=some ⟨el,⟨false,[.s]⟩⟩) {l:List (List Nat×AV)} (hv:∀p∈l,p.2= .bool true) {s:List Nat} (h:l.any (fun p=>decide (p.1=s))=false) (v:AV) (k:Hp->Bool):
  tj P H b t (.str s) v k (some (.map false (sE l 0) l.length))=k (H.setb b (some (.map false (sE (l++[(s,v)]) 0) (l++[(s,v)]).length))):=by
 unfold tj
 rw [hm]
 dsimp only
 have hk:ox ⟨el,⟨false,[.s]⟩⟩ (sE l 0) (.str s)=findKey ⟨false,[.s]⟩ (.str s) (sE l 0) 0:=rfl
 rw [hk,(vW s l 0 0 hv).1 h,Ds,ca,gZ,List.length_singleton]
end
end
end Go.Ev
namespace Go.S5
open Go.Ev Go.Proofs
theorem DG:iI P 155=some ⟨4,⟨false,[.s]⟩⟩:=by kernel_rfl
theorem zr4:zro P 4=some (.bool false):=by kernel_rfl
def tN (l:List ov):List (Str×AV):=l.map fun x=>(x.name,.bool true)
theorem xf (l:List ov):∀p∈tN l,p.2= .bool true:=fun p hp=>by
 obtain⟨x,_,rfl⟩:=lF.1 hp;rfl
theorem zd (l:List ov) (s:Str):(tN l).any (fun p=>decide (p.1=s))=l.any (fun y=>decide (y.name=s)):=by
 simp [tN,List.any_map,Function.comp_def]
theorem DY (l:List ov) (x:ov):tN l++[(x.name,.bool true)]=tN (l++[x]):=by simp [tN]
theorem Ke {x:ov} (h1:iX x.name=true) (h2: -60<=x.floor/\x.floor<=60):pF x=true:=by
 simp only [pF,inB,bX,bU]
 exact⟨h1,h2⟩
theorem eT {α:Type} {sz:Nat} {enc:α->List D} {xs:List α} {d:D} (h:Sl sz enc xs d):one (ofD d)=true:=by
 rcases h with⟨rfl,_⟩| rfl<;>rfl
theorem GY (q:Nat):(1=q+2)=False:=by simp
def I31 (h:li) (m:Nat) (e:En) (H:Hp):Prop:=∃n q:Nat,n<=h.rooms.length/\m=h.rooms.length - n/\e.dm=[]/\jz [] h.rooms=jz (h.rooms.take n) (h.rooms.drop n)/\e.t 35= O n/\e.t 34= O h.rooms.length/\e.t 33=ofD h.dr/\e.t 4= .map 1/\e.t 1= .ptr 0 0/\H.get 0=some (ae 26 (aq (dC h)))/\H.nx=q+2/\H.get 1=some (.map false (sE (tN (h.rooms.take n)) 0) (tN (h.rooms.take n)).length)
def aEX (h:li) (m:Nat) (e:En) (H:Hp):Prop:=∃n q:Nat,n<=h.doors.length/\m=h.doors.length - n/\e.dm=[]/\(∀y∈h.doors.take n,sf y=true)/\e.t 67= O n/\e.t 66= O h.doors.length/\e.t 65=ofD h.dd/\e.t 1= .ptr 0 0/\H.get 0=some (ae 26 (aq (dC h)))/\H.nx=q+1
def aDF (h:li) (m:Nat) (e:En) (H:Hp):Prop:=∃n q:Nat,n<=h.ways.length/\m=h.ways.length - n/\e.dm=[]/\(∀y∈h.ways.take n,yQ h.rooms.length h.doors.length y=true)/\e.t 87= O n/\e.t 86= O h.ways.length/\e.t 85=ofD h.dw/\e.t 1= .ptr 0 0/\H.get 0=some (ae 26 (aq (dC h)))/\H.nx=q+1
theorem Eb (u:li) (ho:rq u):bc 31 [.agg (dC u)] (fun d=>∃i,d= .tup [aS (iq u), aS i]):=by
 obtain⟨hr,hrl,hnl,hd,hdl,hho,hhl,hsh,hsl,hw,hwl⟩:=ho
 refine aH hG ?_
 have h:=aW;repeat' (first | simp (disch:=omega) only [go_sem,dC,h31,r31,aF hr lC,aF hd mH,aF hw ru,h]| ((first | apply aa | apply ab | apply Z)<;>intro h<;>(try simp only [spl] at h)))
 all_goals first
  | (refine ax (.tup [aS 1, aS (-1)]) (rj ?_);simp only [iq];rw [if_pos (by omega)];done)
  | (refine ax (.tup [aS 2, aS (-1)]) (rj ?_);simp only [iq];rw [if_neg (by omega),if_pos (by omega)];done)
  | skip
 have hE:∀v,v=(if jz [] u.rooms=0 then (if u.doors.all sf&&u.ways.all (yQ u.rooms.length u.doors.length) then 0 else 1) else jz [] u.rooms)->v=iq u:=fun v hv=>by
  simp only [iq];rw [if_neg (by omega),if_neg (by omega)];exact hv
 refine aZ (I31 u) (fun m e H hi=> ?_) (m:=u.rooms.length) ?_
 rotate_left
 ·refine⟨0,0,bN _,rfl,rfl,rfl, ?_, ?_, ?_, ?_, ?_, ?_, ?_, ?_⟩<;>first | (first | rfl | (simp (disch:=omega) only [go_sem,dC]<;>rfl))| simp
 ·obtain⟨n,q,hn',rfl,hdm,hst,g35,g34,g33,g4,g1,hg0,hnx,hg1⟩:=hi
  obtain⟨t,dm⟩:=e
  dsimp only at hdm g35 g34 g33 g4 g1
  subst hdm
  simp only [dC,go_sem] at hg0
  refine aV 200 ?_
  rw [UY]
  by_cases hlt:n<u.rooms.length
  ·have hnm:=hnl _ (cO hlt)
   have h:=aW;repeat' (first | simp (disch:=omega) only [go_sem,g35,g34,g33,g4,g1,hg0,hg1,hnx,GY,G3 DG zr4 (xf _),zd,bC hr lC Du xp hlt,bv lL hlt,qc,bp,hlt,r31,h]| ((first | apply aa | apply ab | apply Z)<;>intro h<;>(try simp only [spl] at h))| (refine bB hG _ (Ey _ hnm) rfl ?_))
   all_goals first
    | (refine ax (.tup [aS 1, aS n]) (rj (hE _ ?_));rw [hst,wV hlt (by simp only [pF,inB,eB,cU];first | (left;assumption)| (right;omega))];rfl)
    | skip
   all_goals have hB:pF u.rooms[n]=true:=Ke (by assumption) (by omega)
   all_goals first
    | (refine ax (.tup [aS 6, aS n]) (rj (hE _ ?_));rw [hst,tP hlt hB (by assumption)];rfl)
    | skip
   rw [DD DG (xf _) (by rw [zd];assumption),DY,jn hlt]
   refine bd (m':=u.rooms.length - (n+1)) (by omega) ⟨n+1,q+1,by omega,rfl,rfl,by rw [hst,Aa hlt hB (by assumption)], ?_, ?_, ?_, ?_, ?_, ?_, ?_, ?_⟩<;>(first | rfl | (simp (disch:=omega) only [go_sem,g35,g34,g33,g4,g1,hg0,hg1,hnx,GY,dC]<;>rfl))
  ·have h:=aW;repeat' (first | simp (disch:=omega) only [go_sem,g35,g34,g33,g1,hg0,bp,hlt,X2,r31,aF hd mH,h]| ((first | apply aa | apply ab | apply Z)<;>intro h<;>(try simp only [spl] at h)))
   rw [iu (by omega)] at hst
   have h0:jz [] u.rooms=0:=hst
   refine aZ (aEX u) (fun m e H hi=> ?_) (m:=u.doors.length) ?_
   rotate_left
   ·refine⟨0,q+1,bN _,rfl,rfl,fun x hx=>by simp at hx, ?_, ?_, ?_, ?_, ?_, ?_⟩<;>(first | rfl | (simp (disch:=omega) only [go_sem,g1,hg0,hnx,dC]<;>rfl))
   clear hn' hst g35 g34 g33 g4 g1 hg0 hg1 hnx hlt
   obtain⟨n,q,hn',rfl,hdm,ha,g67,g66,g65,g1,hg0,hnx⟩:=hi
   obtain⟨t,dm⟩:=e
   dsimp only at hdm g67 g66 g65 g1
   subst hdm
   simp only [dC,go_sem] at hg0
   refine aV 200 ?_
   rw [XQ]
   by_cases hlt:n<u.doors.length
   ·have hm:=cO hlt
    have h:=aW;repeat' (first | simp (disch:=omega) only [go_sem,g67,g66,g65,g1,hg0,hnx,bC hd mH Ks DT hlt,bv jx hlt,rm,eT (hho _ hm),eT (hsh _ hm),bp,hlt,r31,h]| ((first | apply aa | apply ab | apply Z)<;>intro h<;>(try simp only [spl] at h))| (first | refine bB hG _ (xr _ _ _ (hho _ hm) (by omega) (hhl _ hm)) rfl ?_ | refine bB hG _ (xr _ _ _ (hsh _ hm) (by omega) (hsl _ hm)) rfl ?_))
    all_goals first
     | (refine ax (.tup [aS 1, aS n]) (rj (hE _ ?_));rw [if_pos h0,rU hlt (by simp [sf, *])];rfl)
     | (refine bd (m':=u.doors.length - (n+1)) (by omega) ⟨n+1,q+1,by omega,rfl,rfl,iT hlt ha (by simp [sf, *]), ?_, ?_, ?_, ?_, ?_, ?_⟩<;>(first | rfl | (simp (disch:=omega) only [go_sem,g67,g66,g65,g1,hg0,hnx,dC]<;>rfl)))
   ·have h:=aW;repeat' (first | simp (disch:=omega) only [go_sem,g67,g66,g65,g1,hg0,hnx,bp,hlt,Wb,r31,aF hw ru,h]| ((first | apply aa | apply ab | apply Z)<;>intro h<;>(try simp only [spl] at h)))
    have h2:=pu hlt ha
    refine aZ (aDF u) (fun m e H hi=> ?_) (m:=u.ways.length) ?_
    rotate_left
    ·refine⟨0,q,bN _,rfl,rfl,fun x hx=>by simp at hx, ?_, ?_, ?_, ?_, ?_, ?_⟩<;>(first | rfl | (simp (disch:=omega) only [go_sem,g1,hg0,hnx,dC]<;>rfl))
    clear hn' ha g67 g66 g65 g1 hg0 hlt hnx
    obtain⟨n,q,hn',rfl,hdm,ha,g87,g86,g85,g1,hg0,hnx⟩:=hi
    obtain⟨t,dm⟩:=e
    dsimp only at hdm g87 g86 g85 g1
    subst hdm
    simp only [dC,go_sem] at hg0
    refine aV 200 ?_
    rw [VV]
    by_cases hlt:n<u.ways.length
    ·have h:=aW;repeat' (first | simp (disch:=omega) only [go_sem,g87,g86,g85,g1,hg0,hnx,bC hw ru NU DP hlt,bv vu hlt,AI,bp,hlt,r31,aF hr lC,aF hd mH,h]| ((first | apply aa | apply ab | apply Z)<;>intro h<;>(try simp only [spl] at h))| (refine bB hG _ (Fa _ _) rfl ?_))
     all_goals simp only [iC,bU,cU] at *
     all_goals first
      | (refine ax (.tup [aS 1, aS n]) (rj (hE _ ?_));rw [if_pos h0,h2,rU hlt (by simp only [yQ,cU];omega)];rfl)
      | (refine bd (m':=u.ways.length - (n+1)) (by omega) ⟨n+1,q+1,by omega,rfl,rfl,iT hlt ha (by simp only [yQ,bU];omega), ?_, ?_, ?_, ?_, ?_, ?_⟩<;>(first | rfl | (simp (disch:=omega) only [go_sem,g87,g86,g85,g1,hg0,hnx,dC]<;>rfl)))
    ·have h:=aW;repeat' (first | simp (disch:=omega) only [go_sem,g87,g86,g85,g1,hg0,hnx,bp,hlt,U',r31,h]| ((first | apply aa | apply ab | apply Z)<;>intro h<;>(try simp only [spl] at h)))
     refine ax (.tup [aS 0, aS (-1)]) (rj (hE _ ?_))
     rw [if_pos h0,h2,pu hlt ha];rfl
theorem dB {nt:Nat} {b:Code} {ro:Option Nat} {k:AEx->En->Hp->Bool} {e:En} {H:Hp}
  (h:kS nt b ro e H (fun x e' H'=>aY x (fun _=>false) (fun x=>k x e' H'))=true):kS nt (.loop b) ro e H k=true:=by
 refine aZ (fun m e' H'=>e'=e/\H'=H) (fun m e' H' hi=> ?_) (m:=0) ⟨rfl,rfl⟩
 obtain⟨rfl,rfl⟩:=hi
 refine xK (fun x e1 H1 hx=> ?_) h
 cases x<;>first | exact hx | cases hx
theorem ey {t e:TypeId} (hu:P.underlying t=some (.slice e)) (H:Hp) (k:AV->Bool):ak t .nils H k=k (O 0):=aF (xs:=([]:List Int)) (enc:=iw) (sz:=1) (d:= .nils) (.inl ⟨rfl,rfl⟩) hu
theorem gM:ofD D.nils=AV.nils:=rfl
theorem lD:((0:Int)<0)=False:=by simp
def ek (s:bo):List D:=cD s++[.nils,.nils]
theorem qu (s:bo) (hs:Sl 3 dx s.stops s.ds) (hl:s.stops.length<=9223372036854775807):bc 32 [.agg (ek s)] (·= .int .i64 (fQ s)):=by
 refine aH hG ?_
 have h:=aW;repeat' (first | simp (disch:=omega) only [go_sem,ek,cD,h32,r32,gM,lD,ey zt,ey Ff,lA,gv,Int.reduceLT,h]| ((first | apply aa | apply ab | apply Z)<;>intro h<;>(try simp only [spl] at h))| (refine bB hG _ (wc s hs hl) rfl ?_))
 all_goals first
  | exact ax (aS (fQ s)) rfl
  | skip
 all_goals refine dB (aV 200 ?_)
 all_goals rw [Vg]
 all_goals have h:=aW;repeat' (first | simp (disch:=omega) only [go_sem,Int.reduceLT,gM,lD,X5,r32,ey Ff,h]| ((first | apply aa | apply ab | apply Z)<;>intro h<;>(try simp only [spl] at h)))
 all_goals refine dB (aV 200 ?_)
 all_goals rw [TR]
 all_goals have h:=aW;repeat' (first | simp (disch:=omega) only [go_sem,Int.reduceLT,gM,lD,Ua,r32,h]| ((first | apply aa | apply ab | apply Z)<;>intro h<;>(try simp only [spl] at h)))
 all_goals exact ax (aS 0) rfl
theorem Ca (s:bo) (hs:Sl 3 dx s.stops s.ds) (hl:s.stops.length<=9223372036854775807):bc 42 [.agg (ek s)] (·= .int .i64 (fQ s)):=by
 refine aH hG ?_
 have h:=aW;repeat' (first | simp (disch:=omega) only [go_sem,ek,cD,h42,r42,gM,lD,ey zt,ey Ff,lA,gv,Int.reduceLT,h]| ((first | apply aa | apply ab | apply Z)<;>intro h<;>(try simp only [spl] at h))| (refine bB hG _ (Fq s hs hl) rfl ?_))
 all_goals first
  | exact ax (aS (fQ s)) rfl
  | skip
 all_goals refine dB (aV 200 ?_)
 all_goals rw [Vw]
 all_goals have h:=aW;repeat' (first | simp (disch:=omega) only [go_sem,Int.reduceLT,gM,lD,V8,r42,ey zt,ey Ff,h]| ((first | apply aa | apply ab | apply Z)<;>intro h<;>(try simp only [spl] at h)))
 all_goals refine dB (aV 200 ?_)
 all_goals rw [Xc]
 all_goals have h:=aW;repeat' (first | simp (disch:=omega) only [go_sem,Int.reduceLT,gM,lD,Wu,r42,ey Ff,h]| ((first | apply aa | apply ab | apply Z)<;>intro h<;>(try simp only [spl] at h)))
 all_goals exact ax (aS 0) rfl
def ji:Int->List Key->Bool
 | _,[]=>true
 | b,x::l=>if nh x then (if b<x.id then ji x.id l else false) else false
def iN (l:List Key):Bool:=ji 0 l&&decide (l.length<=40)
theorem Ln (b:Bool):((if b=true then (0:Int) else 1)=0)=(b=true):=by cases b<;>simp
theorem CZ {x:Key} (h:nh x=true):1<=x.id:=by simp only [nh,bU] at h;omega
theorem mU {b:Int} {x:Key} {l:List Key} (h:nh x=false):ji b (x::l)=false:=by simp [ji,h]
theorem tH {b:Int} {x:Key} {l:List Key} (h:x.id<=b):ji b (x::l)=false:=by simp only [ji];rw [if_neg (by omega:¬b<x.id)];simp
theorem pH {b:Int} {x:Key} {l:List Key} (h1:nh x=true) (h:b<x.id):ji b (x::l)=ji x.id l:=by simp only [ji];rw [if_pos h1,if_pos h]
theorem uv {l:List Key} {n:Nat} (h:n<l.length):∀k,n+1=k+1->∃h:k<l.length,l[k].id=l[n].id:=fun k hk=>by
 obtain rfl:n=k:=by omega
 exact⟨h,rfl⟩
def I43 (l:List Key) (d:D) (m:Nat) (e:En) (H:Hp):Prop:=∃(n:Nat) (b:Int),n<=l.length/\m=l.length - n/\e.dm=[]/\ji 0 l=ji b (l.drop n)/\
 (n=0->b=0)/\(∀k,n=k+1->∃h:k<l.length,l[k].id=b)/\e.t 3= O n/\e.t 0=ofD d
def aAM (l:List Key) (d:D) (m:Nat) (e:En) (H:Hp):Prop:=∃(n:Nat) (b:Int),n<=l.length/\m=l.length - n/\e.dm=[]/\ji 0 l=ji b (l.drop n)/\
 (n=0->b=0)/\(∀k,n=k+1->∃h:k<l.length,l[k].id=b)/\e.t 10= O n/\e.t 9= O l.length/\e.t 8=ofD d/\e.t 0=ofD d
theorem D8 (l:List Key) (d:D) (hs:Sl 3 fe l d) (hl:l.length<=9223372036854775807):bc 43 [d] (·= .bool (iN l)):=by
 refine aH hG ?_
 have h:=aW;repeat' (first | simp (disch:=omega) only [go_sem,h43,r43,aF hs jE,h]| ((first | apply aa | apply ab | apply Z)<;>intro h<;>(try simp only [spl] at h)))
 ·refine ax (.bool false) ?_
  congr 1;symm;simp only [iN];rw [fK (by omega)];simp
 have hE:∀b,ji 0 l=b->D.bool b= .bool (iN l):=fun b hb=>by
  congr 1;simp only [iN];rw [fM (by omega),hb];simp
 refine aZ (I43 l d) (fun m e H hi=> ?_) (m:=l.length) ?_
 rotate_left
 ·exact⟨0,0,bN _,rfl,rfl,rfl,fun _=>rfl,fun k hk=>absurd hk (by omega),eg rfl rfl,eg rfl rfl⟩
 ·obtain⟨n,b,hn,rfl,hdm,ho,hb0,hb1,g3,g0⟩:=hi
  obtain⟨t,dm⟩:=e
  dsimp only at hdm g3 g0
  subst hdm
  refine aV 200 ?_
  rw [Wc]
  by_cases hlt:n<l.length
  ·have hd:=hZ hlt
   rcases Nat.eq_zero_or_pos n with hz | hz
   ·have hb:=hb0 hz
    have hgt:decide ((0:Int)<(n:Int))=false:=by rw [cU];omega
    have h:=aW;repeat' (first | simp (disch:=omega) only [go_sem,g3,g0,hgt,aF hs jE,bC hs jE ur rE hlt,bv fA hlt,bG fA hlt (by decide:0<3),fe,bp,hlt,r43,OI,Oq,My,Mc,h]| ((first | apply aa | apply ab | apply Z)<;>intro h<;>(try simp only [spl] at h))| (refine bB hG _ (zq l[n]) rfl ?_))
    all_goals first
     | (refine ax (.bool false) (hE _ ?_);rw [ho,hd];exact mU (by assumption))
     | (refine bd (m':=l.length - (n+1)) (by omega) ⟨n+1,l[n].id,by omega,rfl,rfl,by rw [ho,hd];exact pH (by assumption) (by have:=CZ (by assumption:nh l[n]=true);omega),fun h=>absurd h (by omega),uv hlt, ?_, ?_⟩<;>(first | rfl | (simp (disch:=omega) only [go_sem,g3,g0]<;>rfl)))
   ·obtain⟨k,hnk⟩:∃k,n=k+1:=⟨n - 1,by omega⟩
    obtain⟨hk,hkb⟩:=hb1 k hnk
    have hgt:decide ((0:Int)<(n:Int))=true:=by rw [bU];omega
    have hks:(n:Int) - 1=(k:Int):=by omega
    have h:=aW;repeat' (first | simp (disch:=omega) only [go_sem,g3,g0,hgt,hks,hkb,aF hs jE,bC hs jE ur rE hlt,bv fA hlt,bG fA hlt (by decide:0<3),bC hs jE ur rE hk,bG fA hk (by decide:0<3),fe,bp,hlt,r43,OI,Oq,My,Mc,h]| ((first | apply aa | apply ab | apply Z)<;>intro h<;>(try simp only [spl] at h))| (refine bB hG _ (zq l[n]) rfl ?_))
    all_goals first
     | (refine ax (.bool false) (hE _ ?_);rw [ho,hd];first | exact mU (by assumption)| exact tH (by omega))
     | (refine bd (m':=l.length - (n+1)) (by omega) ⟨n+1,l[n].id,by omega,rfl,rfl,by rw [ho,hd];exact pH (by assumption) (by omega),fun h=>absurd h (by omega),uv hlt, ?_, ?_⟩<;>(first | rfl | (simp (disch:=omega) only [go_sem,g3,g0]<;>rfl)))
  ·have h:=aW;repeat' (first | simp (disch:=omega) only [go_sem,g3,g0,aF hs jE,bp,hlt,X9,r43,h]| ((first | apply aa | apply ab | apply Z)<;>intro h<;>(try simp only [spl] at h)))
   refine ax (.bool true) (hE _ ?_)
   rw [ho,iu (by omega)];rfl
theorem B0 (l:List Key) (d:D) (hs:Sl 3 fe l d) (hl:l.length<=9223372036854775807):bc 154 [d] (·= .bool (iN l)):=by
 refine aH hG ?_
 have h:=aW;repeat' (first | simp (disch:=omega) only [go_sem,Z5,Kx,aF hs jE,h]| ((first | apply aa | apply ab | apply Z)<;>intro h<;>(try simp only [spl] at h)))
 ·refine ax (.bool false) ?_
  congr 1;symm;simp only [iN];rw [fK (by omega)];simp
 have hE:∀b,ji 0 l=b->D.bool b= .bool (iN l):=fun b hb=>by
  congr 1;simp only [iN];rw [fM (by omega),hb];simp
 refine aZ (aAM l d) (fun m e H hi=> ?_) (m:=l.length) ?_
 rotate_left
 ·exact⟨0,0,bN _,rfl,rfl,rfl,fun _=>rfl,fun k hk=>absurd hk (by omega),eg rfl rfl,eg rfl rfl,eg rfl rfl,eg rfl rfl⟩
 ·obtain⟨n,b,hn,rfl,hdm,ho,hb0,hb1,g10,g9,g8,g0⟩:=hi
  obtain⟨t,dm⟩:=e
  dsimp only at hdm g10 g9 g8 g0
  subst hdm
  refine aV 200 ?_
  rw [EC]
  by_cases hlt:n<l.length
  ·have hd:=hZ hlt
   rcases Nat.eq_zero_or_pos n with hz | hz
   ·have hb:=hb0 hz
    have hgt:decide ((0:Int)<(n:Int))=false:=by rw [cU];omega
    have h:=aW;repeat' (first | simp (disch:=omega) only [go_sem,g10,g9,g8,g0,hgt,aF hs jE,bC hs jE ur rE hlt,bv fA hlt,bG fA hlt (by decide:0<3),fe,bp,hlt,Kx,Gm,Hg,Hh,Hc,h]| ((first | apply aa | apply ab | apply Z)<;>intro h<;>(try simp only [spl] at h))| (refine bB hG _ (lX l[n]) rfl ?_))
    all_goals simp only [Ln,fW] at *
    all_goals first
     | (refine ax (.bool false) (hE _ ?_);rw [ho,hd];exact mU (by assumption))
     | (refine bd (m':=l.length - (n+1)) (by omega) ⟨n+1,l[n].id,by omega,rfl,rfl,by rw [ho,hd];exact pH (by assumption) (by have:=CZ (by assumption:nh l[n]=true);omega),fun h=>absurd h (by omega),uv hlt, ?_, ?_, ?_, ?_⟩<;>(first | rfl | (simp (disch:=omega) only [go_sem,g10,g9,g8,g0]<;>rfl)))
   ·obtain⟨k,hnk⟩:∃k,n=k+1:=⟨n - 1,by omega⟩
    obtain⟨hk,hkb⟩:=hb1 k hnk
    have hgt:decide ((0:Int)<(n:Int))=true:=by rw [bU];omega
    have hks:(n:Int) - 1=(k:Int):=by omega
    have h:=aW;repeat' (first | simp (disch:=omega) only [go_sem,g10,g9,g8,g0,hgt,hks,hkb,aF hs jE,bC hs jE ur rE hlt,bv fA hlt,bG fA hlt (by decide:0<3),bC hs jE ur rE hk,bG fA hk (by decide:0<3),fe,bp,hlt,Kx,Gm,Hg,Hh,Hc,h]| ((first | apply aa | apply ab | apply Z)<;>intro h<;>(try simp only [spl] at h))| (refine bB hG _ (lX l[n]) rfl ?_))
    all_goals simp only [Ln,fW] at *
    all_goals first
     | (refine ax (.bool false) (hE _ ?_);rw [ho,hd];first | exact mU (by assumption)| exact tH (by omega))
     | (refine bd (m':=l.length - (n+1)) (by omega) ⟨n+1,l[n].id,by omega,rfl,rfl,by rw [ho,hd];exact pH (by assumption) (by omega),fun h=>absurd h (by omega),uv hlt, ?_, ?_, ?_, ?_⟩<;>(first | rfl | (simp (disch:=omega) only [go_sem,g10,g9,g8,g0]<;>rfl)))
  ·have h:=aW;repeat' (first | simp (disch:=omega) only [go_sem,g10,g9,g8,g0,bp,hlt,Ry,Kx,h]| ((first | apply aa | apply ab | apply Z)<;>intro h<;>(try simp only [spl] at h)))
   refine ax (.bool true) (hE _ ?_)
   rw [ho,iu (by omega)];rfl
def WV (n:Nat):Bool:=Nat.beq n 0||(decide (0<=gG n (p8 n (0 - n)))&&decide (gG n (p8 n (0 - n))<n))
theorem Ho:((List.range 64).all fun a=>(List.range 64).all fun b=>WV (64 * a+b))=true:=by kernel_rfl
theorem IG {n:Int} (h0:0<=n) (h1:n<=4095) (h2:n≠0):0<=gG n (p8 n (0 - n))/\gG n (p8 n (0 - n))<n:=by
 obtain⟨m,rfl⟩:∃m:Nat,n=m:=⟨n.toNat,by omega⟩
 have h:=eI.1 (eI.1 Ho (m/64) (List.mem_range.2 (by omega))) (m%64) (List.mem_range.2 (by omega))
 have e:64 * (m/64)+m%64=m:=by omega
 rw [e] at h
 unfold WV at h
 rcases (Bool.or_eq_true _ _).mp h with h | h
 ·have:=cw h
  omega
 ·rw [bX] at h
  exact⟨nF h.1,nF h.2⟩
theorem wn {n:Nat} (h:n<9223372036854775808):IntKind.wrap .i64 (n:Int)=n:=by rw [←oM];exact om (by omega)
theorem HY (a:Int):0<=p8 a 1/\p8 a 1<=1:=by
 unfold p8
 have h:((BitVec.ofInt 64 a)&&& (BitVec.ofInt 64 1)).toNat<=1:=by
  rw [BitVec.toNat_and]
  exact Nat.and_le_right
 rw [wn (by omega)]
 omega
theorem uO {a b:Int} (h0:0<=a) (h1:a<=4095):0<=gG a b/\gG a b<=4095:=by
 unfold gG
 have h:((BitVec.ofInt 64 a)&&& ~~~(BitVec.ofInt 64 b)).toNat<=4095:=by
  rw [BitVec.toNat_and]
  refine fC Nat.and_le_left ?_
  rw [BitVec.toNat_ofInt]
  omega
 rw [wn (by omega)]
 omega
theorem sJ {t e:TypeId} {n:Nat} {z:List AV} {k:AV->Bool} (h1:zro P t=some (.agg z)) (h2:P.underlying t=some (.array n e)) (h3:(P.info? e).isSome=true) (ps:List (Nat×AV)):aU t ps k=oD (oK (P.cellsOf e) ps z) k:=by
 unfold ma
 rw [h1,h2]
 dsimp only
 rw [h3]
 dsimp only
 cases oK (P.cellsOf e) ps z with
 | none=>rfl
 | some cs=>exact bH _ _
theorem RA (x y:Int) (k:AV->Bool):aU 278 [(0, O x),(1, O y)] k=k (.agg [O x, O y]):=by
 rw [sJ (z:=[O 0, O 0]) (by kernel_rfl) UO in3,ce3]
 rfl
theorem JL (x y:Int) (k:AV->Bool):ej P 278 (.agg [O x, O y]) (O 0) k=k (O x):=by kernel_rfl
theorem Kd (x y:Int) (k:AV->Bool):ej P 278 (.agg [O x, O y]) (O 1) k=k (O y):=by kernel_rfl
def Zr (a:Int) (m:Nat) (e:En) (H:Hp):Prop:=∃(n:Nat) (c:Int),n<=12/\m=12 - n/\0<=c/\c<=n/\e.dm=[]/\e.t 5= O n/\e.t 3= O c/\e.t 0= O a
theorem CD (a:Int):bc 303 [aS a] (fun d=>∃c:Int,d= aS c/\0<=c/\c<=12):=by
 refine aH hG ?_
 have h:=aW;repeat' (first | simp (disch:=omega) only [go_sem,aDV,SP,h]| ((first | apply aa | apply ab | apply Z)<;>intro h<;>(try simp only [spl] at h)))
 refine aZ (Zr a) (fun m e H hi=> ?_) (m:=12) ?_
 rotate_left
 ·exact⟨0,0,by omega,rfl,by omega,by omega,rfl,eg rfl rfl,eg rfl rfl,eg rfl rfl⟩
 ·obtain⟨n,c,hn,rfl,hc0,hcn,hdm,g5,g3,g0⟩:=hi
  obtain⟨t,dm⟩:=e
  dsimp only at hdm g5 g3 g0
  subst hdm
  refine aV 200 ?_
  rw [Qv]
  have hb:=HY (JI a n)
  by_cases hlt:n<12
  ·have h1:decide ((n:Int)<12)=true:=by rw [bU];omega
   have h:=aW;repeat' (first | simp (disch:=omega) only [go_sem,g5,g3,g0,h1,SP,h]| ((first | apply aa | apply ab | apply Z)<;>intro h<;>(try simp only [spl] at h)))
   refine bd (m':=12 - (n+1)) (by omega) ⟨n+1,c+p8 (JI a n) 1,by omega,rfl,by omega,by omega,rfl, ?_, ?_, ?_⟩<;>(first | rfl | (simp (disch:=omega) only [go_sem,g5,g3,g0]<;>rfl))
  ·have h1:decide ((n:Int)<12)=false:=by rw [cU];omega
   have h:=aW;repeat' (first | simp (disch:=omega) only [go_sem,g5,g3,g0,h1,QV,SP,h]| ((first | apply aa | apply ab | apply Z)<;>intro h<;>(try simp only [spl] at h)))
   exact ax (aS c) ⟨c,rfl,by omega,by omega⟩
theorem yN (a b c:Int) (i:Ink):bc 254 [aS a, aS b, aS c,.agg (lY i)] (fun d=>∃r,d= .bool r):=by
 refine aH hG ?_
 have h:=aW;repeat' (first | simp (disch:=omega) only [go_sem,lY,Y5,aDO,Pa,Tl,h]| ((first | apply aa | apply ab | apply Z)<;>intro h<;>(try simp only [spl] at h))| ((refine ei hG _ (CD _) rfl ?_;intro d hd;obtain⟨c,rfl,hc⟩:=hd)))
 all_goals exact ax (.bool _) ⟨_,rfl⟩
structure XZ (k0 k1 k2:List AV) (t:E2) (H:Hp):Prop where
 t3:t 3= .ptr 0 0
 t4:t 4= .ptr 1 0
 t5:t 5= .ptr 2 0
 t6:t 6= .ptr 3 0
 b0:H.get 0=some (ae 96 k0)
 b1:H.get 1=some (ae 96 k1)
 b2:H.get 2=some (ae 33 k2)
 b3:H.get 3=some (ae 50 [O 0, O 0, O 0, O 0, O 0])
 nx:H.nx=4
 t8:∃v:Int,t 8= O v
def aFF (k0 k1 k2:List AV) (x y:Int) (m:Nat) (e:En) (H:Hp):Prop:=∃n:Nat,n<=2/\m=2 - n/\e.dm=[]/\XZ k0 k1 k2 e.t H/\e.t 50= .agg [O x, O y]/\e.t 51= O n
def Vd (k0 k1 k2:List AV) (x y:Int) (n:Nat) (m:Nat) (e:En) (H:Hp):Prop:=∃o f:Int,0<=o/\o<=4095/\0<=f/\f<=4/\m=o.toNat/\e.dm=[]/\XZ k0 k1 k2 e.t H/\e.t 50= .agg [O x, O y]/\e.t 51= O n/\e.t 10= O o/\e.t 11= O f
theorem vL {H:Hp} (m:Ko) (r:Bool):mG (fun d=>∃m r,d=D.tup [D.agg (wo m),D.bool r]) (.ret (ofD (.tup [.agg (wo m),.bool r]))) H=true:=ax _ ⟨m,r,rfl⟩
theorem yB (a b:Key) (i:Ink):bc 216 [.agg (fe a),.agg (fe b),.agg (lY i)] (fun d=>∃m r,d= .tup [.agg (wo m),.bool r]):=by
 refine aH hG ?_
 have h:=aW;repeat' (first | simp (disch:=omega) only [go_sem,fe,lY,aEY,IK,UC,RA,h]| ((first | apply aa | apply ab | apply Z)<;>intro h<;>(try simp only [spl] at h))| (first | refine bB hG _ (lX a) rfl ?_ | refine bB hG _ (lX b) rfl ?_ | refine bB hG _ (wh i) rfl ?_))
 all_goals try simp only [Ln,fW] at *
 all_goals first
  | exact vL ⟨⟨0,0⟩,0,0,0⟩ false
  | skip
 rename_i ht ha hb
 have hi:=h
 have hpa:1<=a.pattern/\a.pattern<=4095:=by simp only [nh,bU] at ha;omega
 have hpb:1<=b.pattern/\b.pattern<=4095:=by simp only [nh,bU] at hb;omega
 have hif:0<=i.faint/\i.faint<=4:=by simp only [oi,bU] at hi;omega
 have hx:=uO (b:=b.pattern) (by omega:0<=a.pattern) hpa.2
 have hy:=uO (b:=a.pattern) (by omega:0<=b.pattern) hpb.2
 generalize gG a.pattern b.pattern=x at *
 generalize gG b.pattern a.pattern=y at *
 refine aZ (aFF [O a.id, O b.track, O a.pattern] [O b.id, O b.track, O b.pattern] [O i.faint, O i.stray, O i.slip] x y) (fun m e H hi=> ?_) (m:=2) ?_
 rotate_left
 ·refine⟨0,by omega,rfl,rfl,⟨?_, ?_, ?_, ?_, ?_, ?_, ?_, ?_, ?_,⟨p8 a.pattern b.pattern, ?_⟩⟩, ?_, ?_⟩<;>(first | rfl | (simp (disch:=omega) only [go_sem]<;>rfl))
 ·obtain⟨n,hn,rfl,hdm,⟨g3,g4,g5,g6,b0,b1,b2,b3,nx,v,g8⟩,g50,g51⟩:=hi
  obtain⟨t,dm⟩:=e
  dsimp only at hdm g3 g4 g5 g6 g8 g50 g51
  subst hdm
  refine aV 200 ?_
  rw [Ti]
  by_cases hlt:n<2
  ·have h1:decide ((n:Int)<2)=true:=by rw [bU];omega
   obtain⟨z,hz0,hz1,hz⟩:∃z:Int,0<=z/\z<=4095/\∀k:AV->Bool,ej P 278 (.agg [O x, O y]) (O n) k=k (O z):=by
    rcases (by omega:n=0∨n=1) with rfl | rfl
    ·exact⟨x,hx.1,hx.2,fun k=>JL x y k⟩
    ·exact⟨y,hy.1,hy.2,fun k=>Kd x y k⟩
   have h:=aW;repeat' (first | simp (disch:=omega) only [go_sem,g3,g4,g5,g6,b0,b1,b2,b3,nx,g8,g50,g51,h1,hz,IK,h]| ((first | apply aa | apply ab | apply Z)<;>intro h<;>(try simp only [spl] at h)))
   refine aZ (Vd [O a.id, O b.track, O a.pattern] [O b.id, O b.track, O b.pattern] [O i.faint, O i.stray, O i.slip] x y n) (fun m e H hi=> ?_) (m:=z.toNat) ?_
   rotate_left
   ·refine⟨z,0,hz0,hz1,by omega,by omega,rfl,rfl,⟨?_, ?_, ?_, ?_,b0,b1,b2,b3,nx,⟨v, ?_⟩⟩, ?_, ?_, ?_, ?_⟩<;>(first | rfl | (simp (disch:=omega) only [go_sem,g3,g4,g5,g6,g8,g50,g51]<;>rfl))
   clear g3 g4 g5 g6 b0 b1 b2 b3 nx g8 g50 g51
   obtain⟨o,f,ho0,ho1,hf0,hf1,rfl,hdm,⟨g3,g4,g5,g6,b0,b1,b2,b3,nx,v,g8⟩,g50,g51,g10,g11⟩:=hi
   obtain⟨t,dm⟩:=e
   dsimp only at hdm g3 g4 g5 g6 g8 g50 g51 g10 g11
   subst hdm
   refine aV 200 ?_
   rw [R']
   by_cases hz:o=0
   ·subst hz
    have h:=aW;repeat' (first | simp (disch:=omega) only [go_sem,g3,g4,g5,g6,b0,b1,b2,b3,nx,g8,g50,g51,g10,g11,HB,IK,h]| ((first | apply aa | apply ab | apply Z)<;>intro h<;>(try simp only [spl] at h)))
    refine bd (m':=2 - (n+1)) (by omega) ⟨n+1,by omega,rfl,rfl,⟨?_, ?_, ?_, ?_,b0,b1,b2,b3,nx,⟨v, ?_⟩⟩, ?_, ?_⟩<;>(first | rfl | (simp (disch:=omega) only [go_sem,g3,g4,g5,g6,g8,g50,g51]<;>rfl))
   ·have hp:=IG ho0 ho1 hz
    have h:=aW;repeat' (first | simp (disch:=omega) only [go_sem,g3,g4,g5,g6,b0,b1,b2,b3,nx,g8,g50,g51,g10,g11,hz,HB,IK,h]| ((first | apply aa | apply ab | apply Z)<;>intro h<;>(try simp only [spl] at h)))
    all_goals first
     | (refine bd (m':=(gG o (p8 o (0 - o))).toNat) (by omega) ⟨gG o (p8 o (0 - o)),f+1,by omega,by omega,by omega,by omega,rfl,rfl,⟨?_, ?_, ?_, ?_,b0,b1,b2,b3,nx,⟨v, ?_⟩⟩, ?_, ?_, ?_, ?_⟩<;>(first | rfl | (simp (disch:=omega) only [go_sem,g3,g4,g5,g6,g8,g50,g51,g10,g11]<;>rfl)))
     | (refine bd (m':=(gG o (p8 o (0 - o))).toNat) (by omega) ⟨gG o (p8 o (0 - o)),f,by omega,by omega,by omega,by omega,rfl,rfl,⟨?_, ?_, ?_, ?_,b0,b1,b2,b3,nx,⟨bOr v (p8 o (0 - o)), ?_⟩⟩, ?_, ?_, ?_, ?_⟩<;>(first | rfl | (simp (disch:=omega) only [go_sem,g3,g4,g5,g6,g8,g50,g51,g10,g11]<;>rfl)))
  ·have h1:decide ((n:Int)<2)=false:=by rw [cU];omega
   have h:=aW;repeat' (first | simp (disch:=omega) only [go_sem,g3,g4,g5,g6,b0,b1,b2,b3,nx,g8,g50,g51,h1,RJ,IK,UC,h]| ((first | apply aa | apply ab | apply Z)<;>intro h<;>(try simp only [spl] at h))| ((refine ei hG _ (yN _ _ _ i) rfl ?_;intro d hd;obtain⟨r,rfl⟩:=hd)))
   all_goals first
    | exact vL ⟨⟨0,0⟩,0,0,0⟩ false
    | exact vL ⟨⟨0,0⟩,b.track,v,gG 4095 v⟩ true
theorem ue (a b:Key) (i:Ink):bc 159 [.agg (fe a),.agg (fe b),.agg (lY i)] (fun d=>∃r,d= .bool r):=by
 refine aH hG ?_
 have h:=aW;repeat' (first | simp (disch:=omega) only [go_sem,fe,lY,aBF,h]| ((first | apply aa | apply ab | apply Z)<;>intro h<;>(try simp only [spl] at h)))
 refine ei hG [.agg (fe a),.agg (fe b),.agg (lY i)] (yB a b i) rfl fun d hd=> ?_
 obtain⟨m,r,rfl⟩:=hd
 have h:=aW;repeat' (first | simp (disch:=omega) only [go_sem,wo,h]| ((first | apply aa | apply ab | apply Z)<;>intro h<;>(try simp only [spl] at h)))
 exact ax (.bool r) ⟨r,rfl⟩
theorem yj (a b:Key) (i:Ink):bc 158 [.agg (fe a),.ptr (fe b) 0,.ptr (lY i) 0] (fun d=>∃r,d= .bool r):=by
 refine aH hG ?_
 have h:=aW;repeat' (first | simp (disch:=omega) only [go_sem,fe,lY,Zc,h]| ((first | apply aa | apply ab | apply Z)<;>intro h<;>(try simp only [spl] at h)))
 refine ei hG [.agg (fe a),.agg (fe b),.agg (lY i)] (ue a b i) rfl fun d hd=> ?_
 obtain⟨r,rfl⟩:=hd
 exact ax (.bool r) ⟨r,rfl⟩
def XL (xs:List Key) (d:D) (g:FuncId) (cap:List D) (m:Nat) (e:En) (H:Hp):Prop:=∃n:Nat,n<=xs.length/\m=xs.length - n/\e.dm=[]/\e.t 7=ofD d/\e.t 9= O n/\e.t 8= O xs.length/\e.t 1= .fn g [] (aq cap)/\e.t 0=ofD d
theorem FK (xs:List Key) (d:D) (hs:Sl 3 fe xs d) (hl:xs.length<=9223372036854775807) (g:FuncId) (cap:List D) (h1:kf P g=false) (h2:iz P g=true)
  (hp:∀x∈xs,bc g (.agg (fe x)::cap) (fun d=>∃r,d= .bool r)):bc 157 [d,.fn g [] cap] (fun d=>∃n:Int,d= aS n/\ -1<=n/\n<xs.length):=by
 refine aH hG ?_
 have h:=aW;repeat' (first | simp (disch:=omega) only [go_sem,Zy,aF hs jE,h]| ((first | apply aa | apply ab | apply Z)<;>intro h<;>(try simp only [spl] at h)))
 refine aZ (XL xs d g cap) (fun m e H hi=> ?_) (m:=xs.length) ?_
 ·obtain⟨n,hn,rfl,hdm,g7,g9,g8,g1,g0⟩:=hi
  obtain⟨t,dm⟩:=e
  dsimp only at hdm g7 g9 g8 g1 g0
  subst hdm
  refine aV 200 ?_
  rw [Qe]
  by_cases hlt:n<xs.length
  ·have h:=aW;repeat' (first | simp (disch:=omega) only [go_sem,g7,g9,g8,g1,g0,bC hs jE ur rE hlt,bv fA hlt,fe,bp,hlt,KJ,o4 h1 h2,h]| ((first | apply aa | apply ab | apply Z)<;>intro h<;>(try simp only [spl] at h)))
   refine ei hG (.agg (fe xs[n])::cap) (hp _ (cO hlt)) rfl fun d' hd=> ?_
   obtain⟨r,rfl⟩:=hd
   cases r with
   | true=>
    have h:=aW;repeat' (first | simp (disch:=omega) only [go_sem,KJ,h]| ((first | apply aa | apply ab | apply Z)<;>intro h<;>(try simp only [spl] at h)))
    exact ax (aS n) ⟨n,rfl,by omega,by omega⟩
   | false=>
    have h:=aW;repeat' (first | simp (disch:=omega) only [go_sem,KJ,h]| ((first | apply aa | apply ab | apply Z)<;>intro h<;>(try simp only [spl] at h)))
    refine bd (m':=xs.length - (n+1)) (by omega) ⟨n+1,by omega,rfl,rfl, ?_, ?_, ?_, ?_, ?_⟩<;>(first | rfl | (simp (disch:=omega) only [go_sem,g7,g9,g8,g1,g0]<;>rfl))
  ·have h:=aW;repeat' (first | simp (disch:=omega) only [go_sem,g7,g9,g8,g1,bp,hlt,OW,KJ,h]| ((first | apply aa | apply ab | apply Z)<;>intro h<;>(try simp only [spl] at h)))
   exact ax (aS (-1)) ⟨-1,rfl,by omega,by omega⟩
 ·exact⟨0,bN _,rfl,rfl,eg rfl rfl,eg rfl rfl,eg rfl rfl,eg rfl rfl,eg rfl rfl⟩
def ti (l:List Key) (k:Key) (i:Ink):Bool:=iN l&&nh k&&oi i
theorem EJ (l:List Key) (dl:D) (k:Key) (i:Ink) (hs:Sl 3 fe l dl) (hl:l.length<=9223372036854775807):bc 87 [dl,.agg (fe k),.agg (lY i)] (fun d=>∃n e:Int,d= .tup [aS n, aS e]/\(decide (e=1))= !ti l k i):=by
 refine aH hG ?_
 have h:=aW;repeat' (first | simp (disch:=omega) only [go_sem,fe,lY,h87,h]| ((first | apply aa | apply ab | apply Z)<;>intro h<;>(try simp only [spl] at h))| (first | refine bB hG _ (B0 l dl hs hl) rfl ?_ | refine bB hG _ (lX k) rfl ?_ | refine bB hG _ (wh i) rfl ?_))
 all_goals try simp only [Ln,fW] at *
 all_goals first
  | (refine ax (.tup [aS 0, aS 1]) ⟨0,1,rfl, ?_⟩;simp [ti, *];done)
  | skip
 refine CR hG (FK l dl hs hl 158 [.ptr (fe k) 0,.ptr (lY i) 0] (by kernel_rfl) (by kernel_rfl) (fun x _=>yj x k i)) (.cons _ _ [] _ _ _ (.fro dl) (.cons _ _ _ _ _ [] (.fn 158 [] [.ptr 0 0,.ptr 1 0] [] [.ptr (fe k) 0,.ptr (lY i) 0] [] _ .nil (.cons _ _ _ _ _ _ (.ptr 0 0 _ _ _ _ _ (by first | rfl | (simp (disch:=omega) only [go_sem]<;>rfl)) (.fro (fe k))) (.cons _ _ _ _ _ [] (.ptr 1 0 _ _ _ _ _ (by first | rfl | (simp (disch:=omega) only [go_sem]<;>rfl)) (.fro (lY i))) .nil))) .nil)) (fun d hd=> ?_)
 obtain⟨n,rfl,h1,h2⟩:=hd
 refine⟨.inr rfl, ?_⟩
 by_cases hn:n<0
 ·have h:=aW;repeat' (first | simp (disch:=omega) only [go_sem,hn,h]| ((first | apply aa | apply ab | apply Z)<;>intro h<;>(try simp only [spl] at h)))
  exact ax (.tup [aS 0, aS 5]) ⟨0,5,rfl,by simp [ti, *]⟩
 ·obtain⟨q,rfl⟩:∃q:Nat,n=q:=⟨n.toNat,by omega⟩
  have hq:q<l.length:=by omega
  have h0:((q:Int)<0)=False:=by simp
  have h:=aW;repeat' (first | simp (disch:=omega) only [go_sem,h0,bC hs jE ur rE hq,bG fA hq (by decide:0<3),fe,h]| ((first | apply aa | apply ab | apply Z)<;>intro h<;>(try simp only [spl] at h)))
  exact ax (.tup [aS l[q].id, aS 0]) ⟨_,0,rfl,by simp [ti, *]⟩
def HU:Key:=⟨1,0,1⟩
theorem El (c:eu) (hs:Sl 3 fe c.keys c.dk) (hl:c.keys.length<=9223372036854775807):bc 33 [.agg (aM c)] (·= .bool (iN c.keys&&oi c.ink)):=by
 refine aH hG ?_
 have h:=aW;repeat' (first | simp (disch:=omega) only [go_sem,cV,h33,aDH,h]| ((first | apply aa | apply ab | apply Z)<;>intro h<;>(try simp only [spl] at h)))
 refine ei hG [c.dk,.agg (fe HU),.agg (lY c.ink)] (EJ c.keys c.dk HU c.ink hs hl) rfl fun d hd=> ?_
 obtain⟨n,e,rfl,he⟩:=hd
 have h:=aW;repeat' (first | simp (disch:=omega) only [go_sem,h]| ((first | apply aa | apply ab | apply Z)<;>intro h<;>(try simp only [spl] at h)))
 refine ax (.bool _) ?_
 congr 1
 have hk:nh HU=true:=by simp [nh,HU]
 have:ti c.keys HU c.ink=(iN c.keys&&oi c.ink):=by simp [ti,hk]
 rw [←this,he,Bool.not_not]
inductive cZ:ai->Prop where
 | mk (kind:Int) (names:List Str) (dn:D) (gap:gB) (most lo hi:Int) (kids:List ai) (dk:D) (hn:Sl 1 fE names dn) (hnl:names.length<=9223372036854775807)
   (hl:∀s∈names,s.length<=9223372036854775807) (hk:Sl 8 aC kids dk) (hkl:kids.length<=9223372036854775807) (ho:∀k∈kids,cZ k):cZ (.mk kind names dn gap most lo hi kids dk)
mutual
def tO:ai->Nat
 | .mk _ _ _ _ _ _ _ kids _=>1+tOs kids
def tOs:List ai->Nat
 | []=>0
 | o::l=>tO o+tOs l
end
mutual
def hO:ai->Nat
 | .mk _ _ _ _ _ _ _ kids _=>1+hOs kids
def hOs:List ai->Nat
 | []=>0
 | o::l=>max (hO o) (hOs l)
end
theorem Bu (o:ai):1<=tO o:=by cases o;rw [tO];omega
theorem yh:∀(a b:List ai),tOs (a++b)=tOs a+tOs b
 | [],b=>by simp [tOs]
 | o::a,b=>by
  show tOs (o::(a++b))=_
  rw [tOs,tOs,yh a b];omega
theorem vC {l:List ai} {n:Nat} (h:n<l.length):tOs (l.take (n+1))=tOs (l.take n)+tO l[n]:=by
 rw [←jn h,yh];simp [tOs]
theorem BO (l:List ai) (n:Nat):tOs (l.take n)<=tOs l:=by
 have:=yh (l.take n) (l.drop n)
 rw [pS] at this
 omega
theorem cP:∀x:ai,(aC x).length=8:=fun _=>rfl
def I22 (o:ai) (most:Int) (m:Nat) (e:En) (H:Hp):Prop:=∃(n:Nat) (v:Int),n<=o.kids.length/\m=o.kids.length - n/\e.dm=[]/\v=min (1+(tOs (o.kids.take n):Int)) most/\e.t 6= O n/\e.t 5= O v/\e.t 1= O most/\e.t 2= .ptr 0 0/\H.get 0=some (ae 40 (aq (aC o)))
theorem AJ {o:ai} (ho:cZ o):∀most:Int,1<=most->most<=1000000->bc 22 [.agg (aC o), aS most] (·= .int .i64 (min (tO o:Int) most)):=by
 induction ho with
 | mk kind names dn gap ms lo hi kids dk hn hnl hl hk hkl ho ih=>
  intro most hm1 hm2
  refine aH hG ?_
  have h:=aW;repeat' (first | simp (disch:=omega) only [go_sem,aC,ai.kind,ai.names,ai.dn,ai.gap,ai.most,ai.lo,ai.hi,ai.kids,ai.dk,h22,r22,h]| ((first | apply aa | apply ab | apply Z)<;>intro h<;>(try simp only [spl] at h)))
  refine aZ (I22 (.mk kind names dn gap ms lo hi kids dk) most) (fun m e H hi=> ?_) (m:=kids.length) ?_
  rotate_left
  ·refine⟨0,1,bN _,rfl,rfl,by simp [ai.kids,tOs];omega, ?_, ?_, ?_, ?_, ?_⟩<;>(first | rfl | (simp (disch:=omega) only [go_sem,aC]<;>rfl))
  ·obtain⟨n,v,hn',rfl,hdm,hv,g6,g5,g1,g2,hg0⟩:=hi
   obtain⟨t,dm⟩:=e
   dsimp only [ai.kids] at hn' hv hdm g6 g5 g1 g2 hg0
   subst hdm
   simp only [aC,ai.kind,ai.names,ai.dn,ai.gap,ai.most,ai.lo,ai.hi,ai.kids,ai.dk,go_sem] at hg0
   refine aV 200 ?_
   rw [VX]
   have hend:∀w:Int,w=v->(¬n<kids.length∨¬v<most)->(D.int .i64 w= aS (min (tO (.mk kind names dn gap ms lo hi kids dk):Int) most)):=fun w hw hc=>by
    subst hw
    congr 1
    rw [tO,hv]
    have h1:=BO kids n
    rcases hc with hc | hc
    ·rw [cN (by omega)];simp
    ·omega
   by_cases hlt:n<kids.length
   ·have hih:=ih _ (cO hlt)
    have htk:=vC hlt
    have htp:=Bu kids[n]
    have h:=aW;repeat' (first | simp (disch:=omega) only [go_sem,g6,g5,g1,g2,hg0,aF hk ez,bC hk ez m9 jS hlt,bv cP hlt,aC,bp,hlt,r22,On,h]| ((first | apply aa | apply ab | apply Z)<;>intro h<;>(try simp only [spl] at h))| (refine bB hG _ (hih (most - v) (by omega) (by omega)) rfl ?_))
    ·refine bd (m':=kids.length - (n+1)) (by simp only [ai.kids];omega) ⟨n+1,v+min (tO kids[n]:Int) (most - v),by simp only [ai.kids];omega,rfl,rfl,by simp only [ai.kids];rw [htk];omega, ?_, ?_, ?_, ?_, ?_⟩<;>(first | rfl | (simp (disch:=omega) only [go_sem,g6,g5,g1,g2,hg0,aC,ai.kind,ai.names,ai.dn,ai.gap,ai.most,ai.lo,ai.hi,ai.kids,ai.dk]<;>rfl))
    ·exact ax (aS v) (hend v rfl (.inr h))
   ·have h:=aW;repeat' (first | simp (disch:=omega) only [go_sem,g6,g5,g1,g2,hg0,aF hk ez,bp,hlt,r22,On,h]| ((first | apply aa | apply ab | apply Z)<;>intro h<;>(try simp only [spl] at h)))
    exact ax (aS v) (hend v rfl (.inl hlt))
theorem Re (o:ai):1<=hO o:=by cases o;rw [hO];omega
theorem I4 {l:List ai} {d:Int}:(∀o∈l,(hO o:Int)<=d)->0<=d->(hOs l:Int)<=d:=by
 induction l with
 | nil=>intro _ h;rw [hOs];exact h
 | cons o l ih=>
  intro h h0
  rw [hOs]
  have h1:=h o cE
  have h2:=ih (fun x hx=>h x (co _ hx)) h0
  omega
theorem Gb {l:List ai} {o:ai} (h:o∈l):hO o<=hOs l:=by
 induction l with
 | nil=>cases h
 | cons x l ih=>
  rw [hOs]
  rcases cy.1 h with rfl | h
  ·omega
  ·have:=ih h;omega
def aDM (o:ai) (deep:Int) (m:Nat) (e:En) (H:Hp):Prop:=∃n:Nat,n<=o.kids.length/\m=o.kids.length - n/\e.dm=[]/\(∀k∈o.kids.take n,decide ((hO k:Int)<=deep - 1)=true)/\e.t 5= O n/\e.t 1= O deep/\e.t 2= .ptr 0 0/\H.get 0=some (ae 40 (aq (aC o)))
theorem EM {o:ai} (ho:cZ o):∀deep:Int,0<=deep->deep<=1000000->bc 106 [.agg (aC o), aS deep] (·= .bool (decide ((hO o:Int)<=deep))):=by
 induction ho with
 | mk kind names dn gap ms lo hi kids dk hn hnl hl hk hkl ho ih=>
  intro deep hm1 hm2
  refine aH hG ?_
  have h:=aW;repeat' (first | simp (disch:=omega) only [go_sem,aC,ai.kind,ai.names,ai.dn,ai.gap,ai.most,ai.lo,ai.hi,ai.kids,ai.dk,Zv,Qq,h]| ((first | apply aa | apply ab | apply Z)<;>intro h<;>(try simp only [spl] at h)))
  ·refine ax (.bool false) ?_
   congr 1;symm;rw [cU,hO];omega
  refine aZ (aDM (.mk kind names dn gap ms lo hi kids dk) deep) (fun m e H hi=> ?_) (m:=kids.length) ?_
  rotate_left
  ·refine⟨0,bN _,rfl,rfl,fun x hx=>by simp at hx, ?_, ?_, ?_, ?_⟩<;>(first | rfl | (simp (disch:=omega) only [go_sem,aC]<;>rfl))
  ·obtain⟨n,hn',rfl,hdm,ha,g5,g1,g2,hg0⟩:=hi
   obtain⟨t,dm⟩:=e
   dsimp only [ai.kids] at hn' ha hdm g5 g1 g2 hg0
   subst hdm
   simp only [aC,ai.kind,ai.names,ai.dn,ai.gap,ai.most,ai.lo,ai.hi,ai.kids,ai.dk,go_sem] at hg0
   refine aV 200 ?_
   rw [Ql]
   by_cases hlt:n<kids.length
   ·have hih:=ih _ (cO hlt)
    have h:=aW;repeat' (first | simp (disch:=omega) only [go_sem,g5,g1,g2,hg0,aF hk ez,bC hk ez m9 jS hlt,bv cP hlt,aC,bp,hlt,Qq,IH,h]| ((first | apply aa | apply ab | apply Z)<;>intro h<;>(try simp only [spl] at h))| (refine bB hG _ (hih (deep - 1) (by omega) (by omega)) rfl ?_))
    ·refine ax (.bool false) ?_
     congr 1;symm;rw [cU,hO]
     have:=Gb (cO hlt)
     omega
    ·refine bd (m':=kids.length - (n+1)) (by simp only [ai.kids];omega) ⟨n+1,by simp only [ai.kids];omega,rfl,rfl,iT (l:=kids) hlt ha (show decide ((hO kids[n]:Int)<=deep - 1)=true by rw [bU];omega), ?_, ?_, ?_, ?_⟩<;>(first | rfl | (simp (disch:=omega) only [go_sem,g5,g1,g2,hg0,aC,ai.kind,ai.names,ai.dn,ai.gap,ai.most,ai.lo,ai.hi,ai.kids,ai.dk]<;>rfl))
   ·have h:=aW;repeat' (first | simp (disch:=omega) only [go_sem,g5,g1,g2,hg0,aF hk ez,bp,hlt,Qq,IH,h]| ((first | apply aa | apply ab | apply Z)<;>intro h<;>(try simp only [spl] at h)))
    refine ax (.bool true) ?_
    congr 1;symm
    have h1:=eI.1 (pu hlt ha)
    have h2:=I4 (l:=kids) (d:=deep - 1) (fun o ho=>nF (h1 o ho)) (by omega)
    rw [bU,hO];omega
theorem cZ.sn {o:ai} (h:cZ o):Sl 1 fE o.names o.dn:=by cases h;assumption
theorem cZ.sk {o:ai} (h:cZ o):Sl 8 aC o.kids o.dk:=by cases h;assumption
def BX (a b:Int):Int:=wrp .i64 (a+b)
def LW (a b:Int):Int:=wrp .i64 (a * b)
theorem DC (a b:Int) (k:AV->Bool):aw .add 3 false (O a) (O b) k=k (O (BX a b)):=cA (BX a b) fun n=>k (O n)
theorem OP (a b:Int) (k:AV->Bool):aw .mul 3 false (O a) (O b) k=k (O (LW a b)):=cA (LW a b) fun n=>k (O n)
mutual
def qJ:ai->Int
 | .mk kind names _ _ _ _ hi kids _=>if kind=6 then LW (ju (names.length:Int) kids) hi else ju (names.length:Int) kids
def ju:Int->List ai->Int
 | v,[]=>v
 | v,o::l=>ju (BX v (qJ o)) l
end
theorem wP:∀(a b:List ai) (v:Int),ju v (a++b)=ju (ju v a) b
 | [],b,v=>by simp [ju]
 | o::a,b,v=>by
  show ju v (o::(a++b))=_
  rw [ju,ju,wP a b]
theorem uY {l:List ai} {n:Nat} (h:n<l.length) (v:Int):ju v (l.take (n+1))=BX (ju v (l.take n)) (qJ l[n]):=by
 rw [←jn h,wP];simp [ju]
def aBE (o:ai) (m:Nat) (e:En) (H:Hp):Prop:=∃n:Nat,n<=o.kids.length/\m=o.kids.length - n/\e.dm=[]/\e.t 4= O n/\e.t 3= O (ju (o.names.length:Int) (o.kids.take n))/\e.t 1= .ptr 0 0/\H.get 0=some (ae 40 (aq (aC o)))
theorem zI {o:ai} (ho:cZ o):bc 109 [.agg (aC o)] (·= .int .i64 (qJ o)):=by
 induction ho with
 | mk kind names dn gap ms lo hi kids dk hn hnl hl hk hkl ho ih=>
  refine aH hG ?_
  have h:=aW;repeat' (first | simp (disch:=omega) only [go_sem,aC,ai.kind,ai.names,ai.dn,ai.gap,ai.most,ai.lo,ai.hi,ai.kids,ai.dk,ZG,Rn,aF hn dA,h]| ((first | apply aa | apply ab | apply Z)<;>intro h<;>(try simp only [spl] at h)))
  refine aZ (aBE (.mk kind names dn gap ms lo hi kids dk)) (fun m e H hi=> ?_) (m:=kids.length) ?_
  rotate_left
  ·refine⟨0,bN _,rfl,rfl, ?_, ?_, ?_, ?_⟩<;>first | (first | rfl | (simp (disch:=omega) only [go_sem,aC]<;>rfl))| (first | rfl | (simp (disch:=omega) only [go_sem,aC,ai.kids,ai.names,List.take_zero,ju]<;>rfl))
  ·obtain⟨n,hn',rfl,hdm,g4,g3,g1,hg0⟩:=hi
   obtain⟨t,dm⟩:=e
   dsimp only [ai.kids,ai.names] at hn' hdm g4 g3 g1 hg0
   subst hdm
   simp only [aC,ai.kind,ai.names,ai.dn,ai.gap,ai.most,ai.lo,ai.hi,ai.kids,ai.dk,go_sem] at hg0
   refine aV 200 ?_
   rw [Sa]
   by_cases hlt:n<kids.length
   ·have hih:=ih _ (cO hlt)
    have htk:=uY hlt (names.length:Int)
    have h:=aW;repeat' (first | simp (disch:=omega) only [go_sem,g4,g3,g1,hg0,aF hk ez,bC hk ez m9 jS hlt,bv cP hlt,aC,bp,hlt,Rn,DC,h]| ((first | apply aa | apply ab | apply Z)<;>intro h<;>(try simp only [spl] at h))| (refine bB hG _ (hih) rfl ?_))
    refine bd (m':=kids.length - (n+1)) (by simp only [ai.kids];omega) ⟨n+1,by simp only [ai.kids];omega,rfl,rfl, ?_, ?_, ?_, ?_⟩<;>(first | rfl | (simp (disch:=omega) only [go_sem,g4,g3,g1,hg0,htk,aC,ai.kind,ai.names,ai.dn,ai.gap,ai.most,ai.lo,ai.hi,ai.kids,ai.dk]<;>rfl))
   ·have hke:kids.take n=kids:=cN (by omega)
    rw [hke] at g3
    have h:=aW;repeat' (first | simp (disch:=omega) only [go_sem,g4,g3,g1,hg0,aF hk ez,bp,hlt,Rn,RL,QL,OP,h]| ((first | apply aa | apply ab | apply Z)<;>intro h<;>(try simp only [spl] at h)))
    ·refine ax (aS _) ?_
     rw [qJ,if_pos (by first | assumption | rfl)]
    ·refine ax (aS _) ?_
     rw [qJ,if_neg (by assumption)]
def I97 (o:ai) (m:Nat) (e:En) (H:Hp):Prop:=∃n q:Nat,n<=o.kids.length/\m=o.kids.length - n/\e.dm=[]/\e.t 12= O n/\e.t 11= O o.kids.length/\e.t 10=ofD o.dk/\e.t 3= O (ju (o.names.length:Int) (o.kids.take n))/\e.t 1= .ptr 0 0/\H.get 0=some (ae 40 (aq (aC o)))/\H.nx=q+1
theorem Ce {o:ai} (ho:cZ o):bc 97 [.agg (aC o)] (·= .int .i64 (qJ o)):=by
 induction ho with
 | mk kind names dn gap ms lo hi kids dk hn hnl hl hk hkl ho ih=>
  refine aH hG ?_
  have h:=aW;repeat' (first | simp (disch:=omega) only [go_sem,aC,ai.kind,ai.names,ai.dn,ai.gap,ai.most,ai.lo,ai.hi,ai.kids,ai.dk,h97,r97,aF hn dA,aF hk ez,h]| ((first | apply aa | apply ab | apply Z)<;>intro h<;>(try simp only [spl] at h)))
  refine aZ (I97 (.mk kind names dn gap ms lo hi kids dk)) (fun m e H hi=> ?_) (m:=kids.length) ?_
  rotate_left
  ·refine⟨0,0,bN _,rfl,rfl, ?_, ?_, ?_, ?_, ?_, ?_, ?_⟩<;>first | (first | rfl | (simp (disch:=omega) only [go_sem,aC]<;>rfl))| (first | rfl | (simp (disch:=omega) only [go_sem,aC,ai.kids,ai.names,ai.dk,List.take_zero,ju]<;>rfl))
  ·obtain⟨n,q,hn',rfl,hdm,g12,g11,g10,g3,g1,hg0,hnx⟩:=hi
   obtain⟨t,dm⟩:=e
   dsimp only [ai.kids,ai.names,ai.dk] at hn' hdm g12 g11 g10 g3 g1 hg0
   subst hdm
   simp only [aC,ai.kind,ai.names,ai.dn,ai.gap,ai.most,ai.lo,ai.hi,ai.kids,ai.dk,go_sem] at hg0
   refine aV 200 ?_
   rw [VD]
   by_cases hlt:n<kids.length
   ·have hm:=cO hlt
    have hih:=ih _ hm
    have htk:=uY hlt (names.length:Int)
    have h1:one (ofD kids[n].dn)=true:=eT (ho _ hm).sn
    have h2:one (ofD kids[n].dk)=true:=eT (ho _ hm).sk
    have h:=aW;repeat' (first | simp (disch:=omega) only [go_sem,g12,g11,g10,g3,g1,hg0,hnx,h1,h2,bC hk ez m9 jS hlt,bv cP hlt,aC,bp,hlt,r97,DC,h]| ((first | apply aa | apply ab | apply Z)<;>intro h<;>(try simp only [spl] at h))| (refine bB hG _ (hih) rfl ?_))
    refine bd (m':=kids.length - (n+1)) (by simp only [ai.kids];omega) ⟨n+1,q+1,by simp only [ai.kids];omega,rfl,rfl, ?_, ?_, ?_, ?_, ?_, ?_, ?_⟩<;>(first | rfl | (simp (disch:=omega) only [go_sem,g12,g11,g10,g3,g1,hg0,hnx,htk,aC,ai.kind,ai.names,ai.dn,ai.gap,ai.most,ai.lo,ai.hi,ai.kids,ai.dk]<;>rfl))
   ·have hke:kids.take n=kids:=cN (by omega)
    rw [hke] at g3
    have h:=aW;repeat' (first | simp (disch:=omega) only [go_sem,g12,g11,g10,g3,g1,hg0,bp,hlt,r97,W6,VA,OP,h]| ((first | apply aa | apply ab | apply Z)<;>intro h<;>(try simp only [spl] at h)))
    ·refine ax (aS _) ?_
     rw [qJ,if_pos (by first | assumption | rfl)]
    ·refine ax (aS _) ?_
     rw [qJ,if_neg (by assumption)]
def iK (k:Int):Int:=if k=1∨k=2 then 0 else if k=3∨k=4 then 2 else if k=5∨k=6 then 1 else -1
theorem QZ {a b:Int} (h:a=b):D.int .i64 a= aS b:=by rw [h]
theorem pZ (n:Int):bc 175 [aS n] (·= .int .i64 (iK n)):=by
 refine aH hG ?_
 have h:=aW;repeat' (first | simp (disch:=omega) only [go_sem,aCC,aBT,SM,Sp,O9,Td,h]| ((first | apply aa | apply ab | apply Z)<;>intro h<;>(try simp only [spl] at h)))
 all_goals (refine ax (aS _) ?_;refine QZ ?_;simp only [iK];first | (simp;done)| (simp [*];done)| omega)
def oG:List Str->List Str->Bool
 | _,[]=>true
 | prev,x::l=>if iX x then (if prev.any (fun y=>decide (y=x)) then false else oG (prev++[x]) l) else false
theorem Ao {l:List Str} {n:Nat} (h:n<l.length) (hb:iX l[n]=false):oG (l.take n) (l.drop n)=false:=by
 rw [hZ h];simp [oG,hb]
theorem vm {l:List Str} {n:Nat} (h:n<l.length) (ha:(l.take n).any (fun y=>decide (y=l[n]))=true):oG (l.take n) (l.drop n)=false:=by
 rw [hZ h];simp only [oG];rw [ha];simp
theorem DM {l:List Str} {n:Nat} (h:n<l.length) (hb:iX l[n]=true) (ha:(l.take n).any (fun y=>decide (y=l[n]))=false):oG (l.take n) (l.drop n)=oG (l.take (n+1)) (l.drop (n+1)):=by
 rw [hZ h];simp only [oG];rw [if_pos hb,if_neg (by rw [ha];simp),jn h]
def mD (k:Int):Int:=if k=1 then 1 else if k=2 then 2 else 0
def qg (k:Int):Int:=if k=1 then 1 else if k=2 then 4 else 0
def jM (o:ai):Bool:=oG [] o.names&&decide (mD o.kind<=o.names.length/\(o.names.length:Int)<=qg o.kind)
theorem cZ.nl {o:ai} (h:cZ o):o.names.length<=9223372036854775807:=by cases h;assumption
theorem cZ.sl {o:ai} (h:cZ o):∀s∈o.names,s.length<=9223372036854775807:=by cases h;assumption
theorem cZ.kl {o:ai} (h:cZ o):o.kids.length<=9223372036854775807:=by cases h;assumption
def aDQ (o:ai) (m:Nat) (e:En) (H:Hp):Prop:=∃n:Nat,n<=o.names.length/\m=o.names.length - n/\e.dm=[]/\oG [] o.names=oG (o.names.take n) (o.names.drop n)/\e.t 5= O n/\e.t 3= O (mD o.kind)/\e.t 4= O (qg o.kind)/\e.t 1= .ptr 0 0/\H.get 0=some (ae 40 (aq (aC o)))
def TW (o:ai) (n:Nat) (x:Str) (m:Nat) (e:En) (H:Hp):Prop:=∃k:Nat,k<=n/\m=n - k/\e.dm=[]/\(∀y∈o.names.take k,(fun y:Str=>decide (y=x)) y=false)/\e.t 6= O k/\e.t 5= O n/\e.t 3= O (mD o.kind)/\e.t 4= O (qg o.kind)/\e.t 1= .ptr 0 0/\H.get 0=some (ae 40 (aq (aC o)))
theorem tz (o:ai) (ho:cZ o):bc 176 [.agg (aC o)] (·= .bool (jM o)):=by
 have hn:=ho.sn
 have hnl:=ho.nl
 have hl:=ho.sl
 refine aH hG ?_
 have h:=aW;repeat' (first | simp (disch:=omega) only [go_sem,aC,Zq,He,RZ,QO,h]| ((first | apply aa | apply ab | apply Z)<;>intro h<;>(try simp only [spl] at h)))
 all_goals first
  | (exfalso;omega)
  | skip
 all_goals refine aZ (aDQ o) (fun m e H hi=> ?_) (m:=o.names.length) ?_
 all_goals first
  | (refine⟨0,bN _,rfl,rfl,rfl, ?_, ?_, ?_, ?_, ?_⟩<;>first | (first | rfl | (simp (disch:=omega) only [go_sem,aC]<;>rfl))| (first | rfl | (simp (disch:=omega) only [go_sem,aC,mD,qg, *]<;>rfl)))
  | skip
 all_goals
  obtain⟨n,hn',rfl,hdm,hst,g5,g3,g4,g1,hg0⟩:=hi
  obtain⟨t,dm⟩:=e
  dsimp only at hdm g5 g3 g4 g1
  subst hdm
  simp only [aC,go_sem] at hg0
  refine aV 200 ?_
  rw [Sy]
  by_cases hlt:n<o.names.length
  ·have hnm:=hl _ (cO hlt)
   have h:=aW;repeat' (first | simp (disch:=omega) only [go_sem,g5,g3,g4,g1,hg0,aF hn dA,bC hn dA in9 ce9 hlt,bG ci hlt (by decide:0<1),fE,bp,hlt,He,h]| ((first | apply aa | apply ab | apply Z)<;>intro h<;>(try simp only [spl] at h))| (refine bB hG _ (BA _ hnm) rfl ?_))
   all_goals first
    | (refine ax (.bool false) ?_;congr 1;symm;simp only [jM];rw [hst,Ao hlt (by assumption)];rfl)
    | skip
   refine aZ (TW o n o.names[n]) (fun m e H hi=> ?_) (m:=n) ?_
   rotate_left
   ·refine⟨0,bN _,rfl,rfl,fun x hx=>by simp at hx, ?_, ?_, ?_, ?_, ?_, ?_⟩<;>(first | rfl | (simp (disch:=omega) only [go_sem,g5,g3,g4,g1,hg0,aC]<;>rfl))
   clear g5 g3 g4 g1 hg0
   obtain⟨k,hk',rfl,hdm,ha,g6,g5,g3,g4,g1,hg0⟩:=hi
   obtain⟨t,dm⟩:=e
   dsimp only at hdm g6 g5 g3 g4 g1
   subst hdm
   simp only [aC,go_sem] at hg0
   refine aV 200 ?_
   rw [S7]
   by_cases hkn:k<n
   ·have hkl:k<o.names.length:=by omega
    have h:=aW;repeat' (first | simp (disch:=omega) only [go_sem,g6,g5,g3,g4,g1,hg0,aF hn dA,bC hn dA in9 ce9 hlt,bG ci hlt (by decide:0<1),bC hn dA in9 ce9 hkl,bG ci hkl (by decide:0<1),fE,bp,hkn,He,h]| ((first | apply aa | apply ab | apply Z)<;>intro h<;>(try simp only [spl] at h)))
    all_goals first
     | (refine ax (.bool false) ?_;congr 1;symm;simp only [jM];rw [hst,vm hlt (o7 (n:=k) (by simp;omega) (by simp [*]))];rfl)
     | (refine bd (m':=n - (k+1)) (by omega) ⟨k+1,by omega,rfl,rfl,mE hkl ha (by simp [*]), ?_, ?_, ?_, ?_, ?_, ?_⟩<;>(first | rfl | (simp (disch:=omega) only [go_sem,g6,g5,g3,g4,g1,hg0,aC]<;>rfl)))
   ·have h:=aW;repeat' (first | simp (disch:=omega) only [go_sem,g6,g5,g3,g4,g1,hg0,bp,hkn,R3,He,h]| ((first | apply aa | apply ab | apply Z)<;>intro h<;>(try simp only [spl] at h)))
    have hkn':k=n:=by omega
    subst hkn'
    refine bd (m':=o.names.length - (k+1)) (by omega) ⟨k+1,by omega,rfl,rfl,by rw [hst,DM hlt (by assumption) (i0 ha)], ?_, ?_, ?_, ?_, ?_⟩<;>(first | rfl | (simp (disch:=omega) only [go_sem,g6,g5,g3,g4,g1,hg0,aC]<;>rfl))
  ·rw [iu (by omega)] at hst
   have h0:oG [] o.names=true:=hst
   have h:=aW;repeat' (first | simp (disch:=omega) only [go_sem,g5,g3,g4,g1,hg0,aF hn dA,bp,hlt,R5,He,h]| ((first | apply aa | apply ab | apply Z)<;>intro h<;>(try simp only [spl] at h)))
   all_goals (refine ax (.bool _) ?_;congr 1;rw [cg];simp only [jM,h0,kb,bU,dI,eJ,eL];omega)
theorem Cu {α:Type} (p:α->Bool) (xs:List α):decide (0<=gQ p xs)=xs.any p:=by
 cases h:xs.any p with
 | true=>exact fM (sK h)
 | false=>rw [vJ h];rfl
theorem wx (xs:List Str) (d:D) (hs:Sl 1 fE xs d) (hl:xs.length<=9223372036854775807) (v:Str):bc 167 [d,.str v] (·= .bool (xs.any (fun x=>decide (v=x)))):=by
 refine aH hG ?_
 have h:=aW;repeat' (first | simp (disch:=omega) only [go_sem,Zh,h]| ((first | apply aa | apply ab | apply Z)<;>intro h<;>(try simp only [spl] at h))| (refine bB hG _ (Cl xs d hs hl v) rfl ?_))
 refine ax (.bool _) ?_
 rw [←Cu]
end Go.S5
namespace Go.Ev
noncomputable section
section
variable {P : Program} {G : bg} {H : Hp} {α : Type} {sz : Nat} {enc : α -> List D} {xs : List α}
def Own (sz:Nat) (enc:α->List D) (el:TypeId) (lo:Nat) (H:Hp) (v:AV) (xs:List α):Prop:=
 (v= .nils/\xs=[])∨∃b c,v= .sl b 0 xs.length sz c/\(c=none∨(c=some 0/\xs=[]))/\lo<=b/\b<H.nx/\H.get b=some (ae el (aq (cC enc xs)))
structure ApT (P:Program) (t e:TypeId) (sz:Nat):Prop where
 h1:bS P t=some e
 h2:qy P t=false
 h3:pm P e=true
 h4:Nat.beq (P.cellsOf e) 0=false
 h5:Nat.ble (P.bytesOf e) 65536=true
 h6:P.cellsOf e=sz
theorem Own.frame {el:TypeId} {lo:Nat} {H H':Hp} {v:AV} (h:Own sz enc el lo H v xs) (hn:H.nx<=H'.nx) (hf:∀c,lo<=c->c<H.nx->H'.get c=H.get c):Own sz enc el lo H' v xs:=by
 rcases h with h | ⟨b,c,h1,hc,h2,h3,h5⟩
 ·exact .inl h
 ·exact .inr ⟨b,c,h1,hc,h2,by omega,by rw [hf b h2 h3];exact h5⟩
theorem Own.one {el:TypeId} {lo:Nat} {v:AV} (h:Own sz enc el lo H v xs):one v=true:=by
 rcases h with⟨rfl,_⟩| ⟨b,c,rfl,_⟩<;>rfl
theorem Own.cells {el:TypeId} {lo:Nat} {v:AV} (h:Own sz enc el lo H v xs):AV.cells v=[v]:=by
 rcases h with⟨rfl,_⟩| ⟨b,c,rfl,_⟩<;>rfl
theorem Mj {el:TypeId} {lo:Nat} {v:AV} (h:Own sz enc el lo H v xs) (n:Nat):av (n+1) v v=true:=by
 rcases h with⟨rfl,_⟩| ⟨b,c,rfl,_⟩
 ·rfl
 ·exact Cr _ _ _ _ _ _
theorem Own.rd {el:TypeId} {lo:Nat} {v:AV} (hs:∀x,(enc x).length=sz) (h:Own sz enc el lo H v xs):∃d I,Rd H v d I/\Sl sz enc xs d:=by
 rcases h with⟨rfl,rfl⟩| ⟨b,c,rfl,_,_,_,h5⟩
 ·exact⟨.nils,[],.fro .nils,.inl ⟨rfl,rfl⟩⟩
 ·refine⟨.sl sz (cC enc xs) xs.length,[b],.sl b 0 xs.length sz c _ _ _ (aq (cC enc xs)) (cC enc xs) [] h5 ?_ (.fro _),.inr rfl⟩
  have hl:(aq (cC enc xs)).length=xs.length * sz:=by rw [cL,fB hs]
  rw [fi,dP _ _ (by omega),cN (by omega)]
theorem Own.ret {el:TypeId} {lo:Nat} {v:AV} {Q:D->Prop} (hs:∀x,(enc x).length=sz) (h:Own sz enc el lo H v xs) (hq:∀d,Sl sz enc xs d->Q d):mG Q (.ret v) H=true:=by
 obtain⟨d,I,h1,h2⟩:=h.rd hs
 exact iy (hq d h2) h1
theorem Own.len {el:TypeId} {lo:Nat} {v:AV} (h:Own sz enc el lo H v xs) {t e:TypeId} (hu:P.underlying t=some (.slice e)) (H':Hp) (k:AV->Bool):kJ P t v H' k=k (O (xs.length:Int)):=by
 unfold kJ
 rw [hu]
 rcases h with⟨rfl,rfl⟩| ⟨b,c,rfl,_⟩<;>rfl
theorem Own.at {el:TypeId} {lo:Nat} {v:AV} (h:Own sz enc el lo H v xs) {n:Nat} (hn:n<xs.length):∃b,v= .sl b 0 xs.length sz none/\lo<=b/\b<H.nx/\H.get b=some (ae el (aq (cC enc xs))):=by
 rcases h with⟨_,rfl⟩| ⟨b,c,h1,hc,h2,h3,h5⟩
 ·simp at hn
 ·rcases hc with rfl | ⟨_,rfl⟩
  ·exact⟨b,h1,h2,h3,h5⟩
  ·simp at hn
theorem gX {b off len:Nat} {c:Option Nat} {t e:TypeId} {k:AV->Bool} (hu:P.underlying t=some (.slice e)) (hi:(P.info? e).isSome=true) (hc:P.cellsOf e=sz) {n:Nat} (hn:n<len) {i:IntKind}:
  gu P t (.sl b off len sz c) (.int i (n:Int)) k=k (.ptr b (off+n * sz)):=by
 unfold gu
 show (match P.underlying t,(AV.sl b off len sz c) with
  | some (.array len e),.ptr b off=>_
  | some (.array len e),.gptr b off=>_
  | some (.slice e),.sl b off len z _=>_
  | some (.slice e),.dat (.sl z cs len)=>_
  | _,_=>false)=_
 rw [hu]
 dsimp only
 rw [hi,hc,bW,show Nat.blt n len=true from by simpa [cT] using hn]
 exact bA (off+n * sz) fun o=>k (.ptr b o)
theorem nQ (hone:∀x,(aq (enc x)).all one=true):∀xs:List α,(aq (cC enc xs)).all one=true
 | []=>rfl
 | x::xs=>by
  show (aq (enc x++cC enc xs)).all one=true
  rw [fx,List.all_append,hone x,nQ hone xs];rfl
theorem ri (a b:List α):cC enc (a++b)=cC enc a++cC enc b:=by simp [cC]
theorem px (hs:∀x,(enc x).length=sz):∀(ys:List α) (j m:Nat),j+m<=ys.length->((aq (cC enc ys)).drop (j * sz)).take (m * sz)=aq (cC enc ((ys.drop j).take m))
 | ys,0,m,h=>by
  have h1:ys=ys.take m++ys.drop m:=(pS m ys).symm
  have h2:(cC enc (ys.take m)).length=m * sz:=by rw [fB hs,gW];congr 1;omega
  rw [kF,fi,fi]
  conv=>lhs;rw [h1,ri,fx]
  rw [List.take_append,cN (by rw [cL,h2];exact bh _),cL,h2,Nat.sub_self,List.take_zero,List.append_nil]
 | [],j+1,m,h=>by simp at h
 | y::ys,j+1,m,h=>by
  have ih:=px hs ys j m (by simp at h;omega)
  show ((aq (enc y++cC enc ys)).drop ((j+1) * sz)).take (m * sz)=aq (cC enc (((y::ys).drop (j+1)).take m))
  rw [fx,fV,List.drop_append,iu (by rw [cL,hs y];omega),cL,hs y,gv,List.drop_succ_cons,←ih]
  congr 2;omega
structure IL (sz:Nat) (enc:α->List D) (e:TypeId) (lo:Nat) (H:Hp) (v:AV) (zs:List α) (v':AV) (H':Hp):Prop where
 own:Own sz enc e lo H' v' zs
 nx1:H.nx<=H'.nx
 nx2:H'.nx<=H.nx+1
 keep:∀c,c<lo->H'.get c=H.get c
 keep2:∀c,(∀b z n q,v= .sl b z n sz q->c≠b)->c≠H.nx->H'.get c=H.get c
theorem AR {t e:TypeId} {lo:Nat} {v x:AV} {zs:List α} {k:AV->Hp->Bool} (hs:∀x,(enc x).length=sz) (hone:∀x,(aq (enc x)).all one=true) (ht:ApT P t e sz)
  (ho:Own sz enc e lo H v xs) (hlo:lo<=H.nx) (hcells:∀kk:Nat->List AV->Bool,dX H sz x kk=kk zs.length (aq (cC enc zs))) (hlen:xs.length+zs.length<=1048576)
  (hk:∀v' H',IL sz enc e lo H v (xs++zs) v' H'->k v' H'=true):fj P H t t v x k=true:=by
 have hall:(aq (cC enc zs)).all one=true:=nQ hone _
 unfold fj
 rw [ht.h1]
 dsimp only
 rw [ht.h2,ht.h3,ht.h4,ht.h5]
 dsimp only
 rw [ht.h6,hcells,hall]
 dsimp only
 cases zs with
 | nil=>
  have h0:∀v' H',Own sz enc e lo H' v' xs->H.nx<=H'.nx->H'.nx<=H.nx+1->(∀c,c<lo->H'.get c=H.get c)->(∀c,(∀b z n q,v= .sl b z n sz q->c≠b)->c≠H.nx->H'.get c=H.get c)->k v' H'=true:=fun v' H' h a b c d=>hk v' H' ⟨by simpa using h,a,b,c,d⟩
  rcases ho with⟨rfl,rfl⟩| ⟨b,c,rfl,h2⟩
  ·exact h0 _ _ (.inl ⟨rfl,rfl⟩) (bh _) (by omega) (fun _ _=>rfl) (fun _ _ _=>rfl)
  ·exact h0 _ _ (.inr ⟨b,c,rfl,h2⟩) (bh _) (by omega) (fun _ _=>rfl) (fun _ _ _=>rfl)
 | cons z zs=>
  simp only [dR] at hlen⊢
  rcases ho with⟨rfl,rfl⟩| ⟨b,c,rfl,hc,h2,h3,h5⟩
  ·dsimp only
   rw [show Nat.ble (zs.length+1) 1048576=true from by simp at hlen⊢;omega]
   dsimp only
   rw [aI]
   refine hk _ _ ⟨.inr ⟨H.nx,none, ?_,.inl rfl,hlo, ?_, ?_⟩, ?_, ?_, ?_, ?_⟩
   ·rw [gv];rfl
   ·rw [am];omega
   ·rw [af,if_pos rfl,gv]
   ·rw [am];omega
   ·rw [am];omega
   ·intro c hc;rw [af,if_neg (by omega)]
   ·intro c _ hc;rw [af,if_neg hc]
  ·dsimp only
   have hlen2:(aq (cC enc xs)).length=xs.length * sz:=by rw [cL,fB hs]
   rw [bW,show Nat.ble (xs.length+(zs.length+1)) 1048576=true from by simpa using hlen,h5]
   dsimp only
   rw [fi,dP _ _ (by omega),cN (by omega)]
   dsimp only
   have hpos:0<sz:=by have:=ht.h4;rw [ht.h6] at this;cases sz with | zero=>cases this | succ n=>omega
   rcases hc with rfl | ⟨rfl,rfl⟩
   ·have hgt:xs.length * sz<(xs.length+(zs.length+1)) * sz:=Nat.mul_lt_mul_of_pos_right (by omega) hpos
    dsimp only [lZ]
    rw [show Nat.ble (0+(xs.length+(zs.length+1)) * sz) (aq (cC enc xs)).length=false from by
     rw [hlen2,ca]
     cases hb:Nat.ble ((xs.length+(zs.length+1)) * sz) (xs.length * sz) with
     | false=>rfl
     | true=>have:=dK hb;omega]
    dsimp only
    rw [bH,cJ,aI,bA]
    have hel:oC 0 none (some e) e=some e:=by simp [oC,bW]
    rw [hel]
    refine hk _ _ ⟨.inr ⟨H.nx,none, ?_,.inl rfl,hlo, ?_, ?_⟩, ?_, ?_, ?_, ?_⟩
    ·rw [au,gZ];rfl
    ·rw [am,au];omega
    ·rw [af,au,if_pos rfl,ri,fx]
    ·rw [am,au];omega
    ·rw [am,au];omega
    ·intro c hc;rw [af,au,if_neg (by omega),V,if_neg (by omega)]
    ·intro c hb hc;rw [af,au,if_neg hc,V,if_neg (hb b 0 _ none rfl)]
   ·simp only [jG,ca]
    rw [show lZ (some 0) (zs.length+1)=true from by simp [lZ,cT]]
    dsimp only
    rw [bH,aI,bA]
    refine hk _ _ ⟨.inr ⟨H.nx,none, ?_,.inl rfl,hlo, ?_, ?_⟩, ?_, ?_, ?_, ?_⟩
    ·rw [gv];rfl
    ·rw [am];omega
    ·rw [af,if_pos rfl,gv];rfl
    ·rw [am];omega
    ·rw [am];omega
    ·intro c hc;rw [af,if_neg (by omega)]
    ·intro c _ hc;rw [af,if_neg hc]
theorem zX {b1 m j:Nat} {c1:Option Nat} {el1:Option TypeId} {ro1:Bool} {ys:List α} {kk:Nat->List AV->Bool} (hs:∀x,(enc x).length=sz) (hb1:H.get b1=some (.cells el1 ro1 (aq (cC enc ys)))) (hj:j+m<=ys.length):
  dX H sz (.sl b1 (j * sz) m sz c1) kk=kk ((ys.drop j).take m).length (aq (cC enc ((ys.drop j).take m))):=by
 have hlen1:(aq (cC enc ys)).length=ys.length * sz:=by rw [cL,fB hs]
 have hmul:(j+m) * sz<=ys.length * sz:=lu _ hj
 rw [jF] at hmul
 have hnew:ew (m * sz) ((aq (cC enc ys)).drop (j * sz))=some (aq (cC enc ((ys.drop j).take m))):=by
  rw [dP _ _ (by rw [mR,hlen1];omega),px hs ys j m hj]
 have hml:((ys.drop j).take m).length=m:=by rw [gW,mR];omega
 unfold dX
 dsimp only
 rw [bW,hb1]
 dsimp only
 rw [hnew,hml]
 exact bH _ _
theorem Fc {d:D} {ys:List α} {kk:Nat->List AV->Bool} (hs:∀x,(enc x).length=sz) (hd:Sl sz enc ys d):dX H sz (ofD d) kk=kk ys.length (aq (cC enc ys)):=by
 rcases hd with⟨rfl,rfl⟩| rfl
 ·rfl
 ·unfold dX
  simp only [ofD]
  rw [bW,dP _ _ (by rw [cL,fB hs];exact bh _),cN (by rw [cL,fB hs];exact bh _)]
  exact bH _ _
theorem KC {t e:TypeId} {lo:Nat} {v:AV} {b1 off1 m j:Nat} {c1:Option Nat} {el1:Option TypeId} {ro1:Bool} {ys:List α} {k:AV->Hp->Bool} (hs:∀x,(enc x).length=sz) (hone:∀x,(aq (enc x)).all one=true) (ht:ApT P t e sz)
  (ho:Own sz enc e lo H v xs) (hlo:lo<=H.nx) (hb1:H.get b1=some (.cells el1 ro1 (aq (cC enc ys)))) (hoff:off1=j * sz) (hj:j+m<=ys.length) (hlen:xs.length+m<=1048576)
  (hk:∀v' H',IL sz enc e lo H v (xs++(ys.drop j).take m) v' H'->k v' H'=true):fj P H t t v (.sl b1 off1 m sz c1) k=true:=by
 subst hoff
 exact AR hs hone ht ho hlo (fun kk=>zX hs hb1 hj) (by rw [gW,mR];omega) hk
theorem rI {t e:TypeId} {lo:Nat} {v:AV} {d:D} {ys:List α} {k:AV->Hp->Bool} (hs:∀x,(enc x).length=sz) (hone:∀x,(aq (enc x)).all one=true) (ht:ApT P t e sz)
  (ho:Own sz enc e lo H v xs) (hlo:lo<=H.nx) (hd:Sl sz enc ys d) (hlen:xs.length+ys.length<=1048576)
  (hk:∀v' H',IL sz enc e lo H v (xs++ys) v' H'->k v' H'=true):fj P H t t v (ofD d) k=true:=
 AR hs hone ht ho hlo (fun kk=>Fc hs hd) hlen hk
theorem pN {t e:TypeId} {lo:Nat} {v:AV} {b1:Nat} {c1:Option Nat} {el1:Option TypeId} {ro1:Bool} {x:α} {k:AV->Hp->Bool} (hs:∀x,(enc x).length=sz) (hone:∀x,(aq (enc x)).all one=true) (ht:ApT P t e sz)
  (ho:Own sz enc e lo H v xs) (hlo:lo<=H.nx) (hb1:H.get b1=some (.cells el1 ro1 (aq (enc x)))) (hlen:xs.length+1<=1048576)
  (hk:∀v' H',Own sz enc e lo H' v' (xs++[x])->H.nx<=H'.nx->H'.nx<=H.nx+1->(∀c,c<lo->H'.get c=H.get c)->(∀c,(∀b z n q,v= .sl b z n sz q->c≠b)->c≠H.nx->H'.get c=H.get c)->k v' H'=true):fj P H t t v (.sl b1 0 1 sz c1) k=true:=by
 refine KC (ys:=[x]) (j:=0) (el1:=el1) (ro1:=ro1) hs hone ht ho hlo (by rw [hb1];simp [cC]) (by simp) (by simp) hlen ?_
 intro v' H' ⟨h,a,b,c,d⟩
 exact hk v' H' (by simpa using h) a b c d
theorem bD {c:Prop} [Decidable c] {β:Type} {a b:β} (h:¬c):(if c then a else b)=b:=if_neg h
theorem bZ {c:Prop} [Decidable c] {β:Type} {a b:β} (h:c):(if c then a else b)=a:=if_pos h
end
end
end Go.Ev
