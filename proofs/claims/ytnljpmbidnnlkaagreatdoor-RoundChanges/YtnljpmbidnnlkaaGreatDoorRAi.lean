/- A part of the proof of RoundChanges. -/
import Derived.Test.YtnljpmbidnnlkaaGreatDoorRAc
import Derived.Test.YtnljpmbidnnlkaaGreatDoorRAd
import Derived.Test.YtnljpmbidnnlkaaGreatDoorRAe
import Derived.Test.YtnljpmbidnnlkaaGreatDoorRAf
import Derived.Test.YtnljpmbidnnlkaaGreatDoorRAg
import Derived.Test.YtnljpmbidnnlkaaGreatDoorRAh
set_option maxRecDepth 1000000
set_option linter.unusedVariables false
set_option linter.unusedSimpArgs false
set_option maxHeartbeats 8000000
namespace Go.S5
open Go.Ev Go.Proofs
abbrev Str:=List Nat
structure bU where
 lo:Int
 hi:Int
def bJ (s:bU):List D:=[.int .i64 s.lo,.int .i64 s.hi]
structure mO where
 name:Str
 floor:Int
def iN (s:mO):List D:=[.str s.name,.int .i64 s.floor]
structure Way where
 a:Int
 b:Int
 secs:Int
 back:Int
 door:Int
def oD (s:Way):List D:=[.int .i64 s.a,.int .i64 s.b,.int .i64 s.secs,.int .i64 s.back,.int .i64 s.door]
structure mK where
 hours:List bU
 dh:D
 shut:List bU
 ds:D
def eY (s:mK):List D:=[s.dh,s.ds]
structure gP where
 rooms:List mO
 dr:D
 doors:List mK
 dd:D
 ways:List Way
 dw:D
def cH (s:gP):List D:=[s.dr,s.dd,s.dw]
structure Stop where
 at_:Int
 secs:bU
def hZ (s:Stop):List D:=[.int .i64 s.at_,.int .i64 s.secs.lo,.int .i64 s.secs.hi]
structure dP where
 id:Int
 in_:bU
 out:bU
 zero:bU
 end_:bU
 rate:bU
 stops:List Stop
 ds:D
def eO (s:dP):List D:=[.int .i64 s.id,.int .i64 s.in_.lo,.int .i64 s.in_.hi,.int .i64 s.out.lo,.int .i64 s.out.hi,.int .i64 s.zero.lo,.int .i64 s.zero.hi,.int .i64 s.end_.lo,.int .i64 s.end_.hi,.int .i64 s.rate.lo,.int .i64 s.rate.hi,s.ds]
structure Ink where
 faint:Int
 stray:Int
 slip:Int
def iI (s:Ink):List D:=[.int .i64 s.faint,.int .i64 s.stray,.int .i64 s.slip]
structure Key where
 id:Int
 track:Int
 pattern:Int
def dJ (s:Key):List D:=[.int .i64 s.id,.int .i64 s.track,.int .i64 s.pattern]
structure eC where
 name:Str
 key:Int
 room:Int
def cN (s:eC):List D:=[.str s.name,.int .i64 s.key,.int .i64 s.room]
structure Arc where
 from_:Int
 len:Int
def cV (s:Arc):List D:=[.int .i64 s.from_,.int .i64 s.len]
structure dO where
 at_:Arc
 track:Int
 seen:Int
 blank:Int
def bS (s:dO):List D:=[.int .i64 s.at_.from_,.int .i64 s.at_.len,.int .i64 s.track,.int .i64 s.seen,.int .i64 s.blank]
inductive aF where
 | mk (kind:Int) (names:List Str) (dn:D) (gap:bU) (most lo hi:Int) (kids:List aF) (dk:D)
def aF.kind:aF->Int | .mk k _ _ _ _ _ _ _ _=>k
def aF.names:aF->List Str | .mk _ n _ _ _ _ _ _ _=>n
def aF.dn:aF->D | .mk _ _ d _ _ _ _ _ _=>d
def aF.gap:aF->bU | .mk _ _ _ g _ _ _ _ _=>g
def aF.most:aF->Int | .mk _ _ _ _ m _ _ _ _=>m
def aF.lo:aF->Int | .mk _ _ _ _ _ l _ _ _=>l
def aF.hi:aF->Int | .mk _ _ _ _ _ _ h _ _=>h
def aF.kids:aF->List aF | .mk _ _ _ _ _ _ _ k _=>k
def aF.dk:aF->D | .mk _ _ _ _ _ _ _ _ d=>d
def aV (o:aF):List D:=[.int .i64 o.kind,o.dn,.int .i64 o.gap.lo,.int .i64 o.gap.hi,.int .i64 o.most,.int .i64 o.lo,.int .i64 o.hi,o.dk]
structure cJ where
 house:gP
 session:dP
 ink:Ink
 keys:List Key
 dk:D
 stations:List eC
 dst:D
 marks:List dO
 dm:D
 start:Int
 since:Int
 order:aF
def bI (c:cJ):List D:=cH c.house++(eO c.session++(iI c.ink++([c.dk,c.dst,c.dm,.int .i64 c.start,.int .i64 c.since]++aV c.order)))
theorem jE (s:bU):(bJ s).length=2:=rfl
theorem kD (s:mO):(iN s).length=2:=rfl
theorem tL (s:Way):(oD s).length=5:=rfl
theorem cY (s:mK):(eY s).length=2:=rfl
theorem eJ (s:Stop):(hZ s).length=3:=rfl
theorem dR (s:Key):(dJ s).length=3:=rfl
theorem cF (s:eC):(cN s).length=3:=rfl
theorem aVX (s:Arc):(cV s).length=2:=rfl
theorem dG (s:dO):(bS s).length=5:=rfl
theorem akG (s:aF):(aV s).length=8:=rfl
def dW (s:bU) (lo hi:Int):Bool:=decide (lo<=s.lo/\s.lo<=s.hi/\s.hi<=hi)
theorem aHU (s:bU) (lo hi:Int):CQ P G 86 [.agg (bJ s),.int .i64 lo,.int .i64 hi] (·= .bool (dW s lo hi)):=by
 refine CQ.enter hG ?_
 have h:=trivial;repeat' (first | simp (disch:=first|exact bk rfl|omega) only [go_sem,bJ,h86,h]| ((first | apply aD | apply aE | apply aC)<;>intro h<;>(try simp only [spl] at h)))
 all_goals (refine aG (.bool _) ?_;first | (simp [dW, *];done)| (congr 1;rw [Bool.eq_iff_iff];simp [dW, *];omega)| (congr 1;rw [Bool.eq_iff_iff];simp [dW];omega)| (simp [dW, *]<;>omega))
theorem aNF (s:bU) (lo hi:Int):CQ P G 100 [.agg (bJ s),.int .i64 lo,.int .i64 hi] (·= .bool (dW s lo hi)):=by
 refine CQ.enter hG ?_
 have h:=trivial;repeat' (first | simp (disch:=first|exact bk rfl|omega) only [go_sem,bJ,a6E,h]| ((first | apply aD | apply aE | apply aC)<;>intro h<;>(try simp only [spl] at h)))
 all_goals (refine aG (.bool _) ?_;first | (simp [dW, *];done)| (congr 1;rw [Bool.eq_iff_iff];simp [dW, *];omega)| (congr 1;rw [Bool.eq_iff_iff];simp [dW];omega)| (simp [dW, *]<;>omega))
def inB (n lo hi:Int):Bool:=decide (lo<=n/\n<=hi)
theorem aNZ (n lo hi:Int):CQ P G 16 [.int .i64 n,.int .i64 lo,.int .i64 hi] (·= .bool (inB n lo hi)):=by
 refine CQ.enter hG ?_
 have h:=trivial;repeat' (first | simp (disch:=first|exact bk rfl|omega) only [go_sem,h16,h]| ((first | apply aD | apply aE | apply aC)<;>intro h<;>(try simp only [spl] at h)))
 all_goals (refine aG (.bool _) ?_;first | (simp [inB, *];done)| (congr 1;rw [Bool.eq_iff_iff];simp [inB, *];omega)| (congr 1;rw [Bool.eq_iff_iff];simp [inB];omega)| (simp [inB, *]<;>omega))
theorem uR (n lo hi:Int):CQ P G 103 [.int .i64 n,.int .i64 lo,.int .i64 hi] (·= .bool (inB n lo hi)):=by
 refine CQ.enter hG ?_
 have h:=trivial;repeat' (first | simp (disch:=first|exact bk rfl|omega) only [go_sem,a4O,h]| ((first | apply aD | apply aE | apply aC)<;>intro h<;>(try simp only [spl] at h)))
 all_goals (refine aG (.bool _) ?_;first | (simp [inB, *];done)| (congr 1;rw [Bool.eq_iff_iff];simp [inB, *];omega)| (congr 1;rw [Bool.eq_iff_iff];simp [inB];omega)| (simp [inB, *]<;>omega))
theorem vC (n lo hi:Int):CQ P G 105 [.int .i64 n,.int .i64 lo,.int .i64 hi] (·= .bool (inB n lo hi)):=by
 refine CQ.enter hG ?_
 have h:=trivial;repeat' (first | simp (disch:=first|exact bk rfl|omega) only [go_sem,a4A,h]| ((first | apply aD | apply aE | apply aC)<;>intro h<;>(try simp only [spl] at h)))
 all_goals (refine aG (.bool _) ?_;first | (simp [inB, *];done)| (congr 1;rw [Bool.eq_iff_iff];simp [inB, *];omega)| (congr 1;rw [Bool.eq_iff_iff];simp [inB];omega)| (simp [inB, *]<;>omega))
def fC (n t:Int):Bool:=decide (0<=n/\n<t)
theorem wJ (n t:Int):CQ P G 36 [.int .i64 n,.int .i64 t] (·= .bool (fC n t)):=by
 refine CQ.enter hG ?_
 have h:=trivial;repeat' (first | simp (disch:=first|exact bk rfl|omega) only [go_sem,h36,h]| ((first | apply aD | apply aE | apply aC)<;>intro h<;>(try simp only [spl] at h)))
 all_goals (refine aG (.bool _) ?_;first | (simp [fC, *];done)| (congr 1;rw [Bool.eq_iff_iff];simp [fC, *];omega)| (congr 1;rw [Bool.eq_iff_iff];simp [fC];omega)| (simp [fC, *]<;>omega))
theorem aSX (n t:Int):CQ P G 84 [.int .i64 n,.int .i64 t] (·= .bool (fC n t)):=by
 refine CQ.enter hG ?_
 have h:=trivial;repeat' (first | simp (disch:=first|exact bk rfl|omega) only [go_sem,h84,h]| ((first | apply aD | apply aE | apply aC)<;>intro h<;>(try simp only [spl] at h)))
 all_goals (refine aG (.bool _) ?_;first | (simp [fC, *];done)| (congr 1;rw [Bool.eq_iff_iff];simp [fC, *];omega)| (congr 1;rw [Bool.eq_iff_iff];simp [fC];omega)| (simp [fC, *]<;>omega))
def mQ (t:Int):Bool:=decide (0<=t/\t<=1073741823)
theorem aZG (n:Int):CQ P G 39 [.int .i64 n] (·= .bool (mQ n)):=by
 refine CQ.enter hG ?_
 have h:=trivial;repeat' (first | simp (disch:=first|exact bk rfl|omega) only [go_sem,h39,h]| ((first | apply aD | apply aE | apply aC)<;>intro h<;>(try simp only [spl] at h)))
 all_goals (refine aG (.bool _) ?_;first | (simp [mQ, *];done)| (congr 1;rw [Bool.eq_iff_iff];simp [mQ, *];omega)| (congr 1;rw [Bool.eq_iff_iff];simp [mQ];omega)| (simp [mQ, *]<;>omega))
def mV (t:Int):Bool:=decide (0<=t/\t<=4095)
theorem aKU (n:Int):CQ P G 91 [.int .i64 n] (·= .bool (mV n)):=by
 refine CQ.enter hG ?_
 have h:=trivial;repeat' (first | simp (disch:=first|exact bk rfl|omega) only [go_sem,h91,h]| ((first | apply aD | apply aE | apply aC)<;>intro h<;>(try simp only [spl] at h)))
 all_goals (refine aG (.bool _) ?_;first | (simp [mV, *];done)| (congr 1;rw [Bool.eq_iff_iff];simp [mV, *];omega)| (congr 1;rw [Bool.eq_iff_iff];simp [mV];omega)| (simp [mV, *]<;>omega))
def eQ (s:bU):Bool:=decide (0<=s.lo/\s.lo<=s.hi/\s.hi<=86400)
theorem aVJ (s:bU):CQ P G 168 [.agg (bJ s)] (·= .bool (eQ s)):=by
 refine CQ.enter hG ?_
 have h:=trivial;repeat' (first | simp (disch:=first|exact bk rfl|omega) only [go_sem,bJ,a0U,h]| ((first | apply aD | apply aE | apply aC)<;>intro h<;>(try simp only [spl] at h)))
 all_goals (refine aG (.bool _) ?_;first | (simp [eQ, *];done)| (congr 1;rw [Bool.eq_iff_iff];simp [eQ, *];omega)| (congr 1;rw [Bool.eq_iff_iff];simp [eQ];omega)| (simp [eQ, *]<;>omega))
theorem aZE (s:bU):CQ P G 177 [.agg (bJ s)] (·= .bool (eQ s)):=by
 refine CQ.enter hG ?_
 have h:=trivial;repeat' (first | simp (disch:=first|exact bk rfl|omega) only [go_sem,bJ,a5S,h]| ((first | apply aD | apply aE | apply aC)<;>intro h<;>(try simp only [spl] at h)))
 all_goals (refine aG (.bool _) ?_;first | (simp [eQ, *];done)| (congr 1;rw [Bool.eq_iff_iff];simp [eQ, *];omega)| (congr 1;rw [Bool.eq_iff_iff];simp [eQ];omega)| (simp [eQ, *]<;>omega))
def dZ (x:Arc):Bool:=decide (0<=x.from_/\x.from_<43200/\0<=x.len/\x.len<43200/\(x.len<43199∨x.from_=0))
theorem vL (s:Arc):CQ P G 90 [.agg (cV s)] (·= .bool (dZ s)):=by
 refine CQ.enter hG ?_
 have h:=trivial;repeat' (first | simp (disch:=first|exact bk rfl|omega) only [go_sem,cV,h90,h]| ((first | apply aD | apply aE | apply aC)<;>intro h<;>(try simp only [spl] at h)))
 all_goals (refine aG (.bool _) ?_;first | (simp [dZ, *];done)| (congr 1;rw [Bool.eq_iff_iff];simp [dZ, *];omega)| (congr 1;rw [Bool.eq_iff_iff];simp [dZ];omega)| (simp [dZ, *]<;>omega))
def mP (i:Ink):Bool:=decide (0<=i.faint/\i.faint<=4/\0<=i.stray/\i.stray<=4/\0<=i.slip/\i.slip<=600)
theorem zW (s:Ink):CQ P G 156 [.agg (iI s)] (·= .int .i64 (if mP s then 0 else 1)):=by
 refine CQ.enter hG ?_
 have h:=trivial;repeat' (first | simp (disch:=first|exact bk rfl|omega) only [go_sem,iI,a0R,h]| ((first | apply aD | apply aE | apply aC)<;>intro h<;>(try simp only [spl] at h)))
 all_goals first | (refine aG (.int .i64 _) ?_;simp [mP, *];done)| (refine aG (.int .i64 _) ?_;simp only [mP,decide_eq_true_eq];(repeat' split)<;>first | rfl | omega)| (refine aG (.int .i64 _) ?_;simp [mP, *]<;>omega)
theorem aYP (n:Int):CQ P G 47 [.int .i64 n] (·= .bool (mQ n)):=by
 refine CQ.enter hG ?_
 have h:=trivial;repeat' (first | simp (disch:=first|exact bk rfl|omega) only [go_sem,h47,h]| ((first | apply aD | apply aE | apply aC)<;>intro h<;>(try simp only [spl] at h))| (refine bE hG _ (vC _ _ _) rfl ?_))
 all_goals (refine aG (.bool _) ?_;first | (simp [mQ,inB, *];done)| (congr 1;rw [Bool.eq_iff_iff];simp [mQ,inB, *];omega)| (congr 1;rw [Bool.eq_iff_iff];simp [mQ,inB];omega)| (simp [mQ,inB, *]<;>omega))
theorem aTR (n:Int):CQ P G 131 [.int .i64 n] (·= .bool (mV n)):=by
 refine CQ.enter hG ?_
 have h:=trivial;repeat' (first | simp (disch:=first|exact bk rfl|omega) only [go_sem,a1D,h]| ((first | apply aD | apply aE | apply aC)<;>intro h<;>(try simp only [spl] at h))| (refine bE hG _ (uR _ _ _) rfl ?_))
 all_goals (refine aG (.bool _) ?_;first | (simp [mV,inB, *];done)| (congr 1;rw [Bool.eq_iff_iff];simp [mV,inB, *];omega)| (congr 1;rw [Bool.eq_iff_iff];simp [mV,inB];omega)| (simp [mV,inB, *]<;>omega))
def nC (k:Key):Bool:=decide (1<=k.id/\k.id<=1099511627776/\0<=k.track/\k.track<4/\1<=k.pattern/\k.pattern<=4095)
theorem lX (s:Key):CQ P G 155 [.agg (dJ s)] (·= .int .i64 (if nC s then 0 else 1)):=by
 refine CQ.enter hG ?_
 have h:=trivial;repeat' (first | simp (disch:=first|exact bk rfl|omega) only [go_sem,dJ,a2B,h]| ((first | apply aD | apply aE | apply aC)<;>intro h<;>(try simp only [spl] at h))| (refine bE hG _ (aKU _) rfl ?_))
 all_goals (try simp only [mV,decide_eq_true_eq,decide_eq_false_iff_not] at *)
 all_goals first | (refine aG (.int .i64 _) ?_;simp [nC, *];done)| (refine aG (.int .i64 _) ?_;simp only [nC,decide_eq_true_eq];(repeat' split)<;>first | rfl | omega)| (refine aG (.int .i64 _) ?_;simp [nC, *]<;>omega)
theorem aIX (s:Key):CQ P G 102 [.agg (dJ s)] (·= .bool (nC s)):=by
 refine CQ.enter hG ?_
 have h:=trivial;repeat' (first | simp (disch:=first|exact bk rfl|omega) only [go_sem,dJ,a0K,h]| ((first | apply aD | apply aE | apply aC)<;>intro h<;>(try simp only [spl] at h))| (refine bE hG _ (uR _ _ _) rfl ?_))
 all_goals (try simp only [inB,decide_eq_true_eq,decide_eq_false_iff_not] at *)
 all_goals (refine aG (.bool _) ?_;first | (simp [nC,inB, *];done)| (congr 1;rw [Bool.eq_iff_iff];simp [nC,inB, *];omega)| (congr 1;rw [Bool.eq_iff_iff];simp [nC,inB];omega)| (simp [nC,inB, *]<;>omega))
theorem abM (s:Ink):CQ P G 44 [.agg (iI s)] (·= .bool (mP s)):=by
 refine CQ.enter hG ?_
 have h:=trivial;repeat' (first | simp (disch:=first|exact bk rfl|omega) only [go_sem,iI,h44,h]| ((first | apply aD | apply aE | apply aC)<;>intro h<;>(try simp only [spl] at h))| (refine bE hG _ (uR _ _ _) rfl ?_))
 all_goals (try simp only [inB,decide_eq_true_eq,decide_eq_false_iff_not] at *)
 all_goals (refine aG (.bool _) ?_;first | (simp [mP,inB, *];done)| (congr 1;rw [Bool.eq_iff_iff];simp [mP,inB, *];omega)| (congr 1;rw [Bool.eq_iff_iff];simp [mP,inB];omega)| (simp [mP,inB, *]<;>omega))
theorem aWG (s:Arc):CQ P G 130 [.agg (cV s)] (·= .bool (dZ s)):=by
 refine CQ.enter hG ?_
 have h:=trivial;repeat' (first | simp (disch:=first|exact bk rfl|omega) only [go_sem,cV,a4F,h]| ((first | apply aD | apply aE | apply aC)<;>intro h<;>(try simp only [spl] at h))| (refine bE hG _ (uR _ _ _) rfl ?_))
 all_goals (try simp only [inB,decide_eq_true_eq,decide_eq_false_iff_not] at *)
 all_goals (refine aG (.bool _) ?_;first | (simp [dZ,inB, *];done)| (congr 1;rw [Bool.eq_iff_iff];simp [dZ,inB, *];omega)| (congr 1;rw [Bool.eq_iff_iff];simp [dZ,inB];omega)| (simp [dZ,inB, *]<;>omega))
def eH (m:dO):Bool:=dZ m.at_&&decide (0<=m.track/\m.track<4)&&mV m.seen&&mV m.blank&&decide (mJ m.seen m.blank=0)
theorem pN (s:dO):CQ P G 37 [.agg (bS s)] (·= .int .i64 (if eH s then 0 else 1)):=by
 obtain⟨⟨f,l⟩,tr,sn,bl⟩:=s
 refine CQ.enter hG ?_
 have h:=trivial;repeat' (first | simp (disch:=first|exact bk rfl|omega) only [go_sem,bS,h37,h]| ((first | apply aD | apply aE | apply aC)<;>intro h<;>(try simp only [spl] at h))| (first | refine bE hG _ (vL ⟨_,_⟩) rfl ?_ | refine bE hG _ (aKU _) rfl ?_))
 all_goals first | (refine aG (.int .i64 _) ?_;simp [eH, *];done)| (refine aG (.int .i64 _) ?_;simp only [eH,decide_eq_true_eq];(repeat' split)<;>first | rfl | omega)| (refine aG (.int .i64 _) ?_;simp [eH, *]<;>omega)
theorem vN (s:dO):CQ P G 57 [.agg (bS s)] (·= .bool (eH s)):=by
 obtain⟨⟨f,l⟩,tr,sn,bl⟩:=s
 refine CQ.enter hG ?_
 have h:=trivial;repeat' (first | simp (disch:=first|exact bk rfl|omega) only [go_sem,bS,h57,h]| ((first | apply aD | apply aE | apply aC)<;>intro h<;>(try simp only [spl] at h))| (first | refine bE hG _ (aWG ⟨_,_⟩) rfl ?_ | refine bE hG _ (aTR _) rfl ?_ | refine bE hG _ (uR _ _ _) rfl ?_))
 all_goals (try simp only [inB,decide_eq_true_eq,decide_eq_false_iff_not] at *)
 all_goals (refine aG (.bool _) ?_;first | (simp [eH,inB, *];done)| (congr 1;rw [Bool.eq_iff_iff];simp [eH,inB, *];omega)| (congr 1;rw [Bool.eq_iff_iff];simp [eH,inB];omega)| (simp [eH,inB, *]<;>omega))
theorem nJ (n:Int) (h:0<=n):n.tmod 43200=n%43200:=Int.tmod_eq_emod_of_nonneg h
theorem uI (n:Int) (h:n<0):n.tmod 43200= -((-n)%43200):=by
 have:=nJ (-n) (by omega)
 rw [Int.neg_tmod] at this
 omega
theorem aNG (n:Int):CQ P G 219 [.int .i64 n] (·= .int .i64 (n%43200)):=by
 refine CQ.enter hG ?_
 have h1: -43200<n.tmod 43200/\n.tmod 43200<43200:=by
  by_cases h:0<=n
  ·rw [nJ n h];omega
  ·rw [uI n (by omega)];omega
 have h2:(n.tmod 43200+43200).tmod 43200=n%43200:=by
  rw [nJ _ (by omega)]
  by_cases h:0<=n
  ·rw [nJ n h];omega
  ·rw [uI n (by omega)];omega
 have h:=trivial;repeat' (first | simp (disch:=first|exact bk rfl|omega) only [go_sem,a5Y,h]| ((first | apply aD | apply aE | apply aC)<;>intro h<;>(try simp only [spl] at h)))
 refine aG (.int .i64 _) ?_
 rw [h2]
theorem aLP (n:Int):CQ P G 289 [.int .i64 n] (·= .int .i64 (n%43200)):=by
 refine CQ.enter hG ?_
 have h1: -43200<n.tmod 43200/\n.tmod 43200<43200:=by
  by_cases h:0<=n
  ·rw [nJ n h];omega
  ·rw [uI n (by omega)];omega
 have h3:(0<=n.tmod 43200->n.tmod 43200=n%43200)/\(n.tmod 43200<0->n.tmod 43200+43200=n%43200):=by
  by_cases h:0<=n
  ·rw [nJ n h];omega
  ·rw [uI n (by omega)];omega
 have h:=trivial;repeat' (first | simp (disch:=first|exact bk rfl|omega) only [go_sem,a5R,a1F,amT,h]| ((first | apply aD | apply aE | apply aC)<;>intro h<;>(try simp only [spl] at h)))
 all_goals (refine aG (.int .i64 _) ?_;congr 1;omega)
def chB (c:Nat):Bool:=decide ((97<=c/\c<=122)∨(48<=c/\c<=57))
def iQ (s:Str):Bool:=s.all chB&&decide (1<=s.length/\s.length<=16)
theorem vM {s:Str} {n:Nat} (h:n<s.length) (hc:chB s[n]=false):iQ s=false:=by
 have:s.all chB=false:=List.all_eq_false.2 ⟨s[n],List.getElem_mem _,by simp [hc]⟩
 unfold iQ;rw [this];rfl
theorem pZ {s:Str} {n:Nat} (h:n<s.length) (ha:(s.take n).all chB=true) (hc:chB s[n]=true):(s.take (n+1)).all chB=true:=by
 rw [List.take_succ_eq_append_getElem h,List.all_append,ha];simp [hc]
theorem uQ {s:Str} {n:Nat} (h:¬n<s.length) (ha:(s.take n).all chB=true):s.all chB=true:=by
 rwa [List.take_of_length_le (by omega)] at ha
theorem aWF {c:Nat} (h:(¬((97:Int)<=c/\(c:Int)<=122))/\¬((48:Int)<=c/\(c:Int)<=57)):chB c=false:=by unfold chB;rw [decide_eq_false_iff_not];omega
theorem aYM {c:Nat} (h:((97:Int)<=c/\(c:Int)<=122)∨((48:Int)<=c/\(c:Int)<=57)):chB c=true:=by unfold chB;rw [decide_eq_true_eq];omega
def I35 (s:Str) (m:Nat) (e:En) (H:Hp):Prop:=∃n:Nat,n<=s.length/\m=s.length - n/\e.dm=[]/\(s.take n).all chB=true/\E2.get e.t 6= .int .i64 n/\E2.get e.t 5= .int .i64 s.length/\E2.get e.t 0= .str s
set_option maxHeartbeats 1000000 in
theorem aRH (s:Str) (hl:s.length<=9223372036854775807):CQ P G 35 [.str s] (·= .bool (iQ s)):=by
 refine CQ.enter hG ?_
 have h:=trivial;repeat' (first | simp (disch:=first|exact bk rfl|omega) only [go_sem,h35,gK un9,h]| ((first | apply aD | apply aE | apply aC)<;>intro h<;>(try simp only [spl] at h)))
 refine bA (I35 s) (fun m e H hi=> ?_) (m:=s.length) ?_
 ·obtain⟨n,hn,rfl,hdm,ha,g6,g5,g0⟩:=hi
  obtain⟨t,dm⟩:=e
  dsimp only at hdm g6 g5 g0
  subst hdm
  refine bC 200 ?_
  rw [asS]
  by_cases hlt:n<s.length
  ·have h:=trivial;repeat' (first | simp (disch:=first|exact bk rfl|omega) only [go_sem,g6,g5,g0,gK un9,vS un9 hlt,Int.ofNat_lt,hlt,r35,h]| ((first | apply aD | apply aE | apply aC)<;>intro h<;>(try simp only [spl] at h)))
   all_goals first
    | (refine aG (.bool false) ?_;rw [vM hlt (aWF (by omega))])
    | (refine aZ (m':=s.length - (n+1)) (by omega) ⟨n+1,by omega,rfl,rfl,pZ hlt ha (aYM (by omega)), ?_, ?_, ?_⟩<;>(first | rfl | (simp (disch:=first|exact bk rfl|omega) only [go_sem,g6,g5,g0]<;>rfl)))
  ·have ha':=uQ hlt ha
   have h:=trivial;repeat' (first | simp (disch:=first|exact bk rfl|omega) only [go_sem,g6,g5,g0,gK un9,Int.ofNat_lt,hlt,asB,r35,h]| ((first | apply aD | apply aE | apply aC)<;>intro h<;>(try simp only [spl] at h)))
   all_goals (refine aG (.bool _) ?_;congr 1;rw [Bool.eq_iff_iff];simp [iQ,ha', *];try omega)
 ·exact⟨0,Nat.zero_le _,rfl,rfl,rfl,eg rfl rfl,eg rfl rfl,eg rfl rfl⟩
def I82 (s:Str) (m:Nat) (e:En) (H:Hp):Prop:=∃n:Nat,n<=s.length/\m=s.length - n/\e.dm=[]/\(s.take n).all chB=true/\E2.get e.t 6= .int .i64 n/\E2.get e.t 5= .int .i64 s.length/\E2.get e.t 0= .str s
set_option maxHeartbeats 1000000 in
theorem aTE (s:Str) (hl:s.length<=9223372036854775807):CQ P G 82 [.str s] (·= .bool (iQ s)):=by
 refine CQ.enter hG ?_
 have h:=trivial;repeat' (first | simp (disch:=first|exact bk rfl|omega) only [go_sem,h82,gK un9,h]| ((first | apply aD | apply aE | apply aC)<;>intro h<;>(try simp only [spl] at h)))
 refine bA (I82 s) (fun m e H hi=> ?_) (m:=s.length) ?_
 ·obtain⟨n,hn,rfl,hdm,ha,g6,g5,g0⟩:=hi
  obtain⟨t,dm⟩:=e
  dsimp only at hdm g6 g5 g0
  subst hdm
  refine bC 200 ?_
  rw [apR]
  by_cases hlt:n<s.length
  ·have h:=trivial;repeat' (first | simp (disch:=first|exact bk rfl|omega) only [go_sem,g6,g5,g0,gK un9,vS un9 hlt,Int.ofNat_lt,hlt,r82,h]| ((first | apply aD | apply aE | apply aC)<;>intro h<;>(try simp only [spl] at h)))
   all_goals first
    | (refine aG (.bool false) ?_;rw [vM hlt (aWF (by omega))])
    | (refine aZ (m':=s.length - (n+1)) (by omega) ⟨n+1,by omega,rfl,rfl,pZ hlt ha (aYM (by omega)), ?_, ?_, ?_⟩<;>(first | rfl | (simp (disch:=first|exact bk rfl|omega) only [go_sem,g6,g5,g0]<;>rfl)))
  ·have ha':=uQ hlt ha
   have h:=trivial;repeat' (first | simp (disch:=first|exact bk rfl|omega) only [go_sem,g6,g5,g0,gK un9,Int.ofNat_lt,hlt,asI,r82,h]| ((first | apply aD | apply aE | apply aC)<;>intro h<;>(try simp only [spl] at h)))
   all_goals (refine aG (.bool _) ?_;congr 1;rw [Bool.eq_iff_iff];simp [iQ,ha', *];try omega)
 ·exact⟨0,Nat.zero_le _,rfl,rfl,rfl,eg rfl rfl,eg rfl rfl,eg rfl rfl⟩
def a4K (s:Str) (m:Nat) (e:En) (H:Hp):Prop:=∃n:Nat,n<=s.length/\m=s.length - n/\e.dm=[]/\(s.take n).all chB=true/\E2.get e.t 6= .int .i64 n/\E2.get e.t 5= .int .i64 s.length/\E2.get e.t 0= .str s
set_option maxHeartbeats 1000000 in
theorem aMP (s:Str) (hl:s.length<=9223372036854775807):CQ P G 166 [.str s] (·= .bool (iQ s)):=by
 refine CQ.enter hG ?_
 have h:=trivial;repeat' (first | simp (disch:=first|exact bk rfl|omega) only [go_sem,a4S,gK un9,h]| ((first | apply aD | apply aE | apply aC)<;>intro h<;>(try simp only [spl] at h)))
 refine bA (a4K s) (fun m e H hi=> ?_) (m:=s.length) ?_
 ·obtain⟨n,hn,rfl,hdm,ha,g6,g5,g0⟩:=hi
  obtain⟨t,dm⟩:=e
  dsimp only at hdm g6 g5 g0
  subst hdm
  refine bC 200 ?_
  rw [anR]
  by_cases hlt:n<s.length
  ·have h:=trivial;repeat' (first | simp (disch:=first|exact bk rfl|omega) only [go_sem,g6,g5,g0,gK un9,vS un9 hlt,Int.ofNat_lt,hlt,awD,h]| ((first | apply aD | apply aE | apply aC)<;>intro h<;>(try simp only [spl] at h)))
   all_goals first
    | (refine aG (.bool false) ?_;rw [vM hlt (aWF (by omega))])
    | (refine aZ (m':=s.length - (n+1)) (by omega) ⟨n+1,by omega,rfl,rfl,pZ hlt ha (aYM (by omega)), ?_, ?_, ?_⟩<;>(first | rfl | (simp (disch:=first|exact bk rfl|omega) only [go_sem,g6,g5,g0]<;>rfl)))
  ·have ha':=uQ hlt ha
   have h:=trivial;repeat' (first | simp (disch:=first|exact bk rfl|omega) only [go_sem,g6,g5,g0,gK un9,Int.ofNat_lt,hlt,akO,awD,h]| ((first | apply aD | apply aE | apply aC)<;>intro h<;>(try simp only [spl] at h)))
   all_goals (refine aG (.bool _) ?_;congr 1;rw [Bool.eq_iff_iff];simp [iQ,ha', *];try omega)
 ·exact⟨0,Nat.zero_le _,rfl,rfl,rfl,eg rfl rfl,eg rfl rfl,eg rfl rfl⟩
def a2J (s:Str) (m:Nat) (e:En) (H:Hp):Prop:=∃n:Nat,n<=s.length/\m=s.length - n/\e.dm=[]/\(s.take n).all chB=true/\E2.get e.t 3= .int .i64 n/\E2.get e.t 0= .str s
set_option maxHeartbeats 1000000 in
theorem aKW (s:Str) (hl:s.length<=9223372036854775807):CQ P G 227 [.str s] (·= .bool (iQ s)):=by
 refine CQ.enter hG ?_
 have h:=trivial;repeat' (first | simp (disch:=first|exact bk rfl|omega) only [go_sem,a6J,gK un9,h]| ((first | apply aD | apply aE | apply aC)<;>intro h<;>(try simp only [spl] at h)))
 refine bA (a2J s) (fun m e H hi=> ?_) (m:=s.length) ?_
 ·obtain⟨n,hn,rfl,hdm,ha,g3,g0⟩:=hi
  obtain⟨t,dm⟩:=e
  dsimp only at hdm g3 g0
  subst hdm
  refine bC 200 ?_
  rw [ahZ]
  by_cases hlt:n<s.length
  ·have h:=trivial;repeat' (first | simp (disch:=first|exact bk rfl|omega) only [go_sem,g3,g0,gK un9,vS un9 hlt,Int.ofNat_lt,hlt,auK,h]| ((first | apply aD | apply aE | apply aC)<;>intro h<;>(try simp only [spl] at h)))
   all_goals first
    | (refine aG (.bool false) ?_;rw [vM hlt (aWF (by omega))])
    | (refine aZ (m':=s.length - (n+1)) (by omega) ⟨n+1,by omega,rfl,rfl,pZ hlt ha (aYM (by omega)), ?_, ?_⟩<;>(first | rfl | (simp (disch:=first|exact bk rfl|omega) only [go_sem,g3,g0]<;>rfl)))
  ·have ha':=uQ hlt ha
   have h:=trivial;repeat' (first | simp (disch:=first|exact bk rfl|omega) only [go_sem,g3,g0,gK un9,Int.ofNat_lt,hlt,aiL,auK,h]| ((first | apply aD | apply aE | apply aC)<;>intro h<;>(try simp only [spl] at h)))
   all_goals (refine aG (.bool _) ?_;congr 1;rw [Bool.eq_iff_iff];simp [iQ,ha', *];try omega)
 ·exact⟨0,Nat.zero_le _,rfl,rfl,rfl,eg rfl rfl,eg rfl rfl⟩
def a0D (s:Str) (m:Nat) (e:En) (H:Hp):Prop:=∃n:Nat,n<=s.length/\m=s.length - n/\e.dm=[]/\(s.take n).all chB=true/\E2.get e.t 3= .int .i64 n/\E2.get e.t 0= .str s
set_option maxHeartbeats 1000000 in
theorem aAC (s:Str) (hl:s.length<=9223372036854775807):CQ P G 172 [.str s] (·= .bool (iQ s)):=by
 refine CQ.enter hG ?_
 have h:=trivial;repeat' (first | simp (disch:=first|exact bk rfl|omega) only [go_sem,a4P,gK un9,alR,h]| ((first | apply aD | apply aE | apply aC)<;>intro h<;>(try simp only [spl] at h)))
 all_goals first
  | (refine aG (.bool false) ?_;congr 1;symm;rw [←Bool.not_eq_true,iQ,Bool.and_eq_true,decide_eq_true_eq];omega)
  | skip
 refine bA (a0D s) (fun m e H hi=> ?_) (m:=s.length) ?_
 ·obtain⟨n,hn,rfl,hdm,ha,g3,g0⟩:=hi
  obtain⟨t,dm⟩:=e
  dsimp only at hdm g3 g0
  subst hdm
  refine bC 200 ?_
  rw [amA]
  by_cases hlt:n<s.length
  ·have h:=trivial;repeat' (first | simp (disch:=first|exact bk rfl|omega) only [go_sem,g3,g0,gK un9,vS un9 hlt,Int.ofNat_lt,hlt,alR,h]| ((first | apply aD | apply aE | apply aC)<;>intro h<;>(try simp only [spl] at h)))
   all_goals first
    | (refine aG (.bool false) ?_;rw [vM hlt (aWF (by omega))])
    | (refine aZ (m':=s.length - (n+1)) (by omega) ⟨n+1,by omega,rfl,rfl,pZ hlt ha (aYM (by omega)), ?_, ?_⟩<;>(first | rfl | (simp (disch:=first|exact bk rfl|omega) only [go_sem,g3,g0]<;>rfl)))
  ·have ha':=uQ hlt ha
   have h:=trivial;repeat' (first | simp (disch:=first|exact bk rfl|omega) only [go_sem,g3,g0,gK un9,Int.ofNat_lt,hlt,ajE,alR,h]| ((first | apply aD | apply aE | apply aC)<;>intro h<;>(try simp only [spl] at h)))
   all_goals (refine aG (.bool _) ?_;congr 1;symm;rw [iQ,ha',Bool.true_and,decide_eq_true_eq];omega)
 ·exact⟨0,Nat.zero_le _,rfl,rfl,rfl,eg rfl rfl,eg rfl rfl⟩
def fH (s:Str):List D:=[.str s]
def tP (n:Int):List D:=[.int .i64 n]
theorem cC (s:Str):(fH s).length=1:=rfl
theorem aAZ (n:Int):(tP n).length=1:=rfl
def eA {α:Type} (p:α->Bool):List α->Int
 | []=> -1
 | x::xs=>if p x then 0 else (let r:=eA p xs;if r<0 then -1 else r+1)
theorem wE {α:Type} (p:α->Bool):∀xs:List α, -1<=eA p xs/\eA p xs<xs.length
 | []=>by simp [eA]
 | x::xs=>by
  have:=wE p xs
  simp only [eA,List.length_cons]
  split
  ·omega
  ·split<;>omega
theorem hP {α:Type} {p:α->Bool}:∀{xs:List α},(∀x∈xs,p x=false)->eA p xs= -1
 | [],_=>rfl
 | x::xs,h=>by simp [eA,h x List.mem_cons_self,hP fun y hy=>h y (List.mem_cons_of_mem _ hy)]
theorem iB {α:Type} {p:α->Bool}:∀{xs:List α} {n:Nat} (hn:n<xs.length),(∀x∈xs.take n,p x=false)->p xs[n]=true->eA p xs=n
 | x::xs,0,_,_,h=>by simp at h;simp [eA,h]
 | x::xs,n+1,hn,ha,h=>by
  have h1:p x=false:=ha x (by simp)
  have h2:=iB (p:=p) (xs:=xs) (n:=n) (by simpa using hn) (fun y hy=>ha y (by simp [hy])) (by simpa using h)
  simp only [eA,h1,h2]
  simp
  omega
theorem iM {α:Type} {p:α->Bool} {xs:List α} {n:Nat} (hn:n<xs.length) (ha:∀x∈xs.take n,p x=false) (h:p xs[n]=false):∀x∈xs.take (n+1),p x=false:=by
 rw [List.take_succ_eq_append_getElem hn]
 intro x hx
 rcases List.mem_append.1 hx with hx | hx
 ·exact ha x hx
 ·simp at hx;subst hx;exact h
theorem lO {α:Type} {p:α->Bool} {xs:List α} {n:Nat} (hn:¬n<xs.length) (ha:∀x∈xs.take n,p x=false):∀x∈xs,p x=false:=by
 rwa [List.take_of_length_le (by omega)] at ha
def I88 (xs:List Key) (d:D) (g:FuncId) (cap:List D) (p:Key->Bool) (m:Nat) (e:En) (H:Hp):Prop:=∃n:Nat,n<=xs.length/\m=xs.length - n/\e.dm=[]/\(∀x∈xs.take n,p x=false)/\E2.get e.t 0=ofD d/\E2.get e.t 8= .int .i64 n/\E2.get e.t 7= .int .i64 xs.length/\E2.get e.t 1= .fn g [] (bD cap)
theorem aEC (xs:List Key) (d:D) (hs:Sl 3 dJ xs d) (hl:xs.length<=9223372036854775807) (g:FuncId) (cap:List D) (p:Key->Bool) (h1:jN P g=false) (h2:iF P g=true)
  (hp:∀x∈xs,CQ P G g (.agg (dJ x)::cap) (·= .bool (p x))):CQ P G 88 [d,.fn g [] cap] (·= .int .i64 (eA p xs)):=by
 refine CQ.enter hG ?_
 have h:=trivial;repeat' (first | simp (disch:=first|exact bk rfl|omega) only [go_sem,h88,aK hs gO,h]| ((first | apply aD | apply aE | apply aC)<;>intro h<;>(try simp only [spl] at h)))
 refine bA (I88 xs d g cap p) (fun m e H hi=> ?_) (m:=xs.length) ?_
 ·obtain⟨n,hn,rfl,hdm,ha,g0,g8,g7,g1⟩:=hi
  obtain⟨t,dm⟩:=e
  dsimp only at hdm g0 g8 g7 g1
  subst hdm
  refine bC 200 ?_
  rw [awK]
  by_cases hlt:n<xs.length
  ·have h:=trivial;repeat' (first | simp (disch:=first|exact bk rfl|omega) only [go_sem,g0,g8,g7,g1,aX hs gO rK oV hlt,aY dR hlt,dJ,Int.ofNat_lt,hlt,r88,wQ h1 h2,h]| ((first | apply aD | apply aE | apply aC)<;>intro h<;>(try simp only [spl] at h)))
   refine bE hG (.agg (dJ xs[n])::cap) (hp _ (List.getElem_mem hlt)) rfl ?_
   have h:=trivial;repeat' (first | simp (disch:=first|exact bk rfl|omega) only [go_sem,g0,g8,g7,g1,r88,h]| ((first | apply aD | apply aE | apply aC)<;>intro h<;>(try simp only [spl] at h)))
   ·refine aG (.int .i64 n) ?_
    rw [iB hlt ha h]
   ·refine aZ (m':=xs.length - (n+1)) (by omega) ⟨n+1,by omega,rfl,rfl,iM hlt ha h, ?_, ?_, ?_, ?_⟩<;>(first | rfl | (simp (disch:=first|exact bk rfl|omega) only [go_sem,g0,g8,g7,g1]<;>rfl))
  ·have h:=trivial;repeat' (first | simp (disch:=first|exact bk rfl|omega) only [go_sem,g0,g8,g7,g1,Int.ofNat_lt,hlt,avG,r88,h]| ((first | apply aD | apply aE | apply aC)<;>intro h<;>(try simp only [spl] at h)))
   refine aG (.int .i64 (-1)) ?_
   rw [hP (lO hlt ha)]
 ·exact⟨0,Nat.zero_le _,rfl,rfl,fun x hx=>by simp at hx,eg rfl rfl,eg rfl rfl,eg rfl rfl,eg rfl rfl⟩
def a2U (xs:List Key) (d:D) (g:FuncId) (cap:List D) (p:Key->Bool) (m:Nat) (e:En) (H:Hp):Prop:=∃n:Nat,n<=xs.length/\m=xs.length - n/\e.dm=[]/\(∀x∈xs.take n,p x=false)/\E2.get e.t 7=ofD d/\E2.get e.t 9= .int .i64 n/\E2.get e.t 8= .int .i64 xs.length/\E2.get e.t 1= .fn g [] (bD cap)
theorem akZ (xs:List Key) (d:D) (hs:Sl 3 dJ xs d) (hl:xs.length<=9223372036854775807) (g:FuncId) (cap:List D) (p:Key->Bool) (h1:jN P g=false) (h2:iF P g=true)
  (hp:∀x∈xs,CQ P G g (.agg (dJ x)::cap) (·= .bool (p x))):CQ P G 157 [d,.fn g [] cap] (·= .int .i64 (eA p xs)):=by
 refine CQ.enter hG ?_
 have h:=trivial;repeat' (first | simp (disch:=first|exact bk rfl|omega) only [go_sem,auO,aK hs gO,h]| ((first | apply aD | apply aE | apply aC)<;>intro h<;>(try simp only [spl] at h)))
 refine bA (a2U xs d g cap p) (fun m e H hi=> ?_) (m:=xs.length) ?_
 ·obtain⟨n,hn,rfl,hdm,ha,g7,g9,g8,g1⟩:=hi
  obtain⟨t,dm⟩:=e
  dsimp only at hdm g7 g9 g8 g1
  subst hdm
  refine bC 200 ?_
  rw [aZU]
  by_cases hlt:n<xs.length
  ·have h:=trivial;repeat' (first | simp (disch:=first|exact bk rfl|omega) only [go_sem,g7,g9,g8,g1,aX hs gO rK oV hlt,aY dR hlt,dJ,Int.ofNat_lt,hlt,aNQ,wQ h1 h2,h]| ((first | apply aD | apply aE | apply aC)<;>intro h<;>(try simp only [spl] at h)))
   refine bE hG (.agg (dJ xs[n])::cap) (hp _ (List.getElem_mem hlt)) rfl ?_
   have h:=trivial;repeat' (first | simp (disch:=first|exact bk rfl|omega) only [go_sem,g7,g9,g8,g1,aNQ,h]| ((first | apply aD | apply aE | apply aC)<;>intro h<;>(try simp only [spl] at h)))
   ·refine aG (.int .i64 n) ?_
    rw [iB hlt ha h]
   ·refine aZ (m':=xs.length - (n+1)) (by omega) ⟨n+1,by omega,rfl,rfl,iM hlt ha h, ?_, ?_, ?_, ?_⟩<;>(first | rfl | (simp (disch:=first|exact bk rfl|omega) only [go_sem,g7,g9,g8,g1]<;>rfl))
  ·have h:=trivial;repeat' (first | simp (disch:=first|exact bk rfl|omega) only [go_sem,g7,g9,g8,g1,Int.ofNat_lt,hlt,aXA,aNQ,h]| ((first | apply aD | apply aE | apply aC)<;>intro h<;>(try simp only [spl] at h)))
   refine aG (.int .i64 (-1)) ?_
   rw [hP (lO hlt ha)]
 ·exact⟨0,Nat.zero_le _,rfl,rfl,fun x hx=>by simp at hx,eg rfl rfl,eg rfl rfl,eg rfl rfl,eg rfl rfl⟩
def a6B (xs:List Arc) (d:D) (g:FuncId) (cap:List D) (p:Arc->Bool) (m:Nat) (e:En) (H:Hp):Prop:=∃n:Nat,n<=xs.length/\m=xs.length - n/\e.dm=[]/\(∀x∈xs.take n,p x=false)/\E2.get e.t 7=ofD d/\E2.get e.t 9= .int .i64 n/\E2.get e.t 8= .int .i64 xs.length/\E2.get e.t 1= .fn g [] (bD cap)
theorem aOE (xs:List Arc) (d:D) (hs:Sl 2 cV xs d) (hl:xs.length<=9223372036854775807) (g:FuncId) (cap:List D) (p:Arc->Bool) (h1:jN P g=false) (h2:iF P g=true)
  (hp:∀x∈xs,CQ P G g (.agg (cV x)::cap) (·= .bool (p x))):CQ P G 217 [d,.fn g [] cap] (·= .int .i64 (eA p xs)):=by
 refine CQ.enter hG ?_
 have h:=trivial;repeat' (first | simp (disch:=first|exact bk rfl|omega) only [go_sem,a4Y,aK hs jL,h]| ((first | apply aD | apply aE | apply aC)<;>intro h<;>(try simp only [spl] at h)))
 refine bA (a6B xs d g cap p) (fun m e H hi=> ?_) (m:=xs.length) ?_
 ·obtain⟨n,hn,rfl,hdm,ha,g7,g9,g8,g1⟩:=hi
  obtain⟨t,dm⟩:=e
  dsimp only at hdm g7 g9 g8 g1
  subst hdm
  refine bC 200 ?_
  rw [anC]
  by_cases hlt:n<xs.length
  ·have h:=trivial;repeat' (first | simp (disch:=first|exact bk rfl|omega) only [go_sem,g7,g9,g8,g1,aX hs jL aTP aCE hlt,aY aVX hlt,cV,Int.ofNat_lt,hlt,alP,wQ h1 h2,h]| ((first | apply aD | apply aE | apply aC)<;>intro h<;>(try simp only [spl] at h)))
   refine bE hG (.agg (cV xs[n])::cap) (hp _ (List.getElem_mem hlt)) rfl ?_
   have h:=trivial;repeat' (first | simp (disch:=first|exact bk rfl|omega) only [go_sem,g7,g9,g8,g1,alP,h]| ((first | apply aD | apply aE | apply aC)<;>intro h<;>(try simp only [spl] at h)))
   ·refine aG (.int .i64 n) ?_
    rw [iB hlt ha h]
   ·refine aZ (m':=xs.length - (n+1)) (by omega) ⟨n+1,by omega,rfl,rfl,iM hlt ha h, ?_, ?_, ?_, ?_⟩<;>(first | rfl | (simp (disch:=first|exact bk rfl|omega) only [go_sem,g7,g9,g8,g1]<;>rfl))
  ·have h:=trivial;repeat' (first | simp (disch:=first|exact bk rfl|omega) only [go_sem,g7,g9,g8,g1,Int.ofNat_lt,hlt,aiA,alP,h]| ((first | apply aD | apply aE | apply aC)<;>intro h<;>(try simp only [spl] at h)))
   refine aG (.int .i64 (-1)) ?_
   rw [hP (lO hlt ha)]
 ·exact⟨0,Nat.zero_le _,rfl,rfl,fun x hx=>by simp at hx,eg rfl rfl,eg rfl rfl,eg rfl rfl,eg rfl rfl⟩
def a4T (xs:List Str) (d:D) (v:Str) (m:Nat) (e:En) (H:Hp):Prop:=∃n:Nat,n<=xs.length/\m=xs.length - n/\e.dm=[]/\(∀x∈xs.take n,(decide (v=x))=false)/\E2.get e.t 0=ofD d/\E2.get e.t 8= .int .i64 n/\E2.get e.t 7= .int .i64 xs.length/\E2.get e.t 1= .str v
theorem aNY (xs:List Str) (d:D) (hs:Sl 1 fH xs d) (hl:xs.length<=9223372036854775807) (v:Str):CQ P G 223 [d,.str v] (·= .int .i64 (eA (fun x=>decide (v=x)) xs)):=by
 refine CQ.enter hG ?_
 have h:=trivial;repeat' (first | simp (disch:=first|exact bk rfl|omega) only [go_sem,a2Y,aK hs dE,h]| ((first | apply aD | apply aE | apply aC)<;>intro h<;>(try simp only [spl] at h)))
 refine bA (a4T xs d v) (fun m e H hi=> ?_) (m:=xs.length) ?_
 ·obtain⟨n,hn,rfl,hdm,ha,g0,g8,g7,g1⟩:=hi
  obtain⟨t,dm⟩:=e
  dsimp only at hdm g0 g8 g7 g1
  subst hdm
  refine bC 200 ?_
  rw [ajA]
  by_cases hlt:n<xs.length
  ·have h:=trivial;repeat' (first | simp (disch:=first|exact bk rfl|omega) only [go_sem,g0,g8,g7,g1,aX hs dE in9 ce9 hlt,bL cC hlt (by decide),fH,Int.ofNat_lt,hlt,auC,h]| ((first | apply aD | apply aE | apply aC)<;>intro h<;>(try simp only [spl] at h)))
   ·refine aG (.int .i64 n) ?_
    rw [←h,iB hlt ha (decide_eq_true h)]
   ·refine aZ (m':=xs.length - (n+1)) (by omega) ⟨n+1,by omega,rfl,rfl,iM hlt ha (by simp [h]), ?_, ?_, ?_, ?_⟩<;>(first | rfl | (simp (disch:=first|exact bk rfl|omega) only [go_sem,g0,g8,g7,g1]<;>rfl))
  ·have h:=trivial;repeat' (first | simp (disch:=first|exact bk rfl|omega) only [go_sem,g0,g8,g7,g1,Int.ofNat_lt,hlt,anB,auC,h]| ((first | apply aD | apply aE | apply aC)<;>intro h<;>(try simp only [spl] at h)))
   refine aG (.int .i64 (-1)) ?_
   rw [hP (lO hlt ha)]
 ·exact⟨0,Nat.zero_le _,rfl,rfl,fun x hx=>by simp at hx,eg rfl rfl,eg rfl rfl,eg rfl rfl,eg rfl rfl⟩
def a5H (xs:List Int) (d:D) (v:Int) (m:Nat) (e:En) (H:Hp):Prop:=∃n:Nat,n<=xs.length/\m=xs.length - n/\e.dm=[]/\(∀x∈xs.take n,(decide (v=x))=false)/\E2.get e.t 0=ofD d/\E2.get e.t 8= .int .i64 n/\E2.get e.t 7= .int .i64 xs.length/\E2.get e.t 1= .int .i64 v
theorem aNJ (xs:List Int) (d:D) (hs:Sl 1 tP xs d) (hl:xs.length<=9223372036854775807) (v:Int):CQ P G 196 [d,.int .i64 v] (·= .int .i64 (eA (fun x=>decide (v=x)) xs)):=by
 refine CQ.enter hG ?_
 have h:=trivial;repeat' (first | simp (disch:=first|exact bk rfl|omega) only [go_sem,a4W,aK hs aFL,h]| ((first | apply aD | apply aE | apply aC)<;>intro h<;>(try simp only [spl] at h)))
 refine bA (a5H xs d v) (fun m e H hi=> ?_) (m:=xs.length) ?_
 ·obtain⟨n,hn,rfl,hdm,ha,g0,g8,g7,g1⟩:=hi
  obtain⟨t,dm⟩:=e
  dsimp only at hdm g0 g8 g7 g1
  subst hdm
  refine bC 200 ?_
  rw [alI]
  by_cases hlt:n<xs.length
  ·have h:=trivial;repeat' (first | simp (disch:=first|exact bk rfl|omega) only [go_sem,g0,g8,g7,g1,aX hs aFL in3 ce3 hlt,bL aAZ hlt (by decide),tP,Int.ofNat_lt,hlt,axL,h]| ((first | apply aD | apply aE | apply aC)<;>intro h<;>(try simp only [spl] at h)))
   ·refine aG (.int .i64 n) ?_
    rw [←h,iB hlt ha (decide_eq_true h)]
   ·refine aZ (m':=xs.length - (n+1)) (by omega) ⟨n+1,by omega,rfl,rfl,iM hlt ha (by simp [h]), ?_, ?_, ?_, ?_⟩<;>(first | rfl | (simp (disch:=first|exact bk rfl|omega) only [go_sem,g0,g8,g7,g1]<;>rfl))
  ·have h:=trivial;repeat' (first | simp (disch:=first|exact bk rfl|omega) only [go_sem,g0,g8,g7,g1,Int.ofNat_lt,hlt,ahM,axL,h]| ((first | apply aD | apply aE | apply aC)<;>intro h<;>(try simp only [spl] at h)))
   refine aG (.int .i64 (-1)) ?_
   rw [hP (lO hlt ha)]
 ·exact⟨0,Nat.zero_le _,rfl,rfl,fun x hx=>by simp at hx,eg rfl rfl,eg rfl rfl,eg rfl rfl,eg rfl rfl⟩
def fA (most:Int):Int->List bU->Bool
 | _,[]=>true
 | least,s::l=>if s.lo<least then false else if s.hi<s.lo then false else if most<s.hi then false else fA most (s.hi+2) l
def iV (l:List bU) (most:Int):Bool:=fA most 0 l&&decide (l.length<=8)
theorem fF {α:Type} {l:List α} {n:Nat} (h:n<l.length):l.drop n=l[n]::l.drop (n+1):=List.drop_eq_getElem_cons h
def I83 (l:List bU) (d:D) (most:Int) (m:Nat) (e:En) (H:Hp):Prop:=∃(n:Nat) (least:Int),n<=l.length/\m=l.length - n/\0<=least/\least<=4611686018427387906/\e.dm=[]/\E2.get e.t 10= .int .i64 n/\E2.get e.t 9= .int .i64 l.length/\E2.get e.t 8=ofD d/\E2.get e.t 0=ofD d/\E2.get e.t 1= .int .i64 most/\E2.get e.t 5= .int .i64 least/\
  fA most 0 l=fA most least (l.drop n)
theorem aEE (l:List bU) (d:D) (most:Int) (hs:Sl 2 bJ l d) (hm:most<=4611686018427387904) (hl:l.length<=9223372036854775807):CQ P G 83 [d,.int .i64 most] (·= .bool (iV l most)):=by
 refine CQ.enter hG ?_
 have h:=trivial;repeat' (first | simp (disch:=first|exact bk rfl|omega) only [go_sem,h83,aK hs cO,h]| ((first | apply aD | apply aE | apply aC)<;>intro h<;>(try simp only [spl] at h)))
 refine bA (I83 l d most) (fun m e H hi=> ?_) (m:=l.length) ?_
 ·obtain⟨n,least,hn,rfl,h0,hlb,hdm,g10,g9,g8,g0,g1,g5,ho⟩:=hi
  obtain⟨t,dm⟩:=e
  dsimp only at hdm g10 g9 g8 g0 g1 g5
  subst hdm
  refine bC 200 ?_
  rw [arA]
  by_cases hlt:n<l.length
  ·have hd:=fF hlt
   have h:=trivial;repeat' (first | simp (disch:=first|exact bk rfl|omega) only [go_sem,g10,g9,g8,g0,g1,g5,aX hs cO gD eP hlt,aY jE hlt,bJ,Int.ofNat_lt,hlt,r83,h]| ((first | apply aD | apply aE | apply aC)<;>intro h<;>(try simp only [spl] at h)))
   all_goals first
    | exact aG (.bool false) (by rw [iV,ho,hd];simp [fA, *])
    | (refine aZ (m':=l.length - (n+1)) (by omega) ⟨n+1,l[n].hi+2,by omega,rfl,by omega,by omega,rfl, ?_, ?_, ?_, ?_, ?_, ?_, ?_⟩<;>first | (first | rfl | (simp (disch:=first|exact bk rfl|omega) only [go_sem,g10,g9,g8,g0,g1,g5]<;>rfl))| (rw [ho,hd];simp [fA, *]))
  ·have h:=trivial;repeat' (first | simp (disch:=first|exact bk rfl|omega) only [go_sem,g10,g9,g8,g0,g1,g5,Int.ofNat_lt,hlt,auN,aK hs cO,r83,h]| ((first | apply aD | apply aE | apply aC)<;>intro h<;>(try simp only [spl] at h)))
   exact aG (.bool (decide ((l.length:Int)<=8))) (by
    rw [iV,ho,List.drop_of_length_le (by omega)]
    simp only [fA,Bool.true_and]
    rw [decide_eq_decide.2];omega)
 ·exact⟨0,0,Nat.zero_le _,rfl,by omega,by omega,rfl,eg rfl rfl,eg rfl rfl,eg rfl rfl,eg rfl rfl,eg rfl rfl,eg rfl rfl,rfl⟩
def gB (hi:Int):Int->List Stop->Bool
 | _,[]=>true
 | b,x::l=>if x.at_<=b then false else if hi<=x.at_ then false else if dW x.secs 0 36000 then gB hi x.at_ l else false
def uD (s:dP):Bool:=decide (1<=s.id/\s.id<=1099511627776)&&dW s.in_ 0 1073741823&&dW s.out 0 1073741823&&dW s.zero 0 43199&&dW s.end_ s.zero.lo 43199&&decide (s.zero.hi<=s.end_.hi)&&dW s.rate 900000 1100000&&gB s.end_.lo s.zero.hi s.stops
def gE (s:dP):Int:=if s.stops.length>4 then 2 else if uD s then 0 else 1
def I85 (stops:List Stop) (ds:D) (hi z:Int) (cells:List AV) (m:Nat) (e:En) (H:Hp):Prop:=∃(n q:Nat) (b:Int),n<=stops.length/\m=stops.length - n/\e.dm=[]/\H.nx=q+1/\H.get 0=some (.cells (some 31) false cells)/\gB hi z stops=gB hi b (stops.drop n)/\
 E2.get e.t 64= .int .i64 n/\E2.get e.t 63= .int .i64 stops.length/\E2.get e.t 62=ofD ds/\E2.get e.t 3= .int .i64 b/\E2.get e.t 1= .ptr 0 0
theorem aBV (s:dP) (hs:Sl 3 hZ s.stops s.ds) (hl:s.stops.length<=9223372036854775807):CQ P G 85 [.agg (eO s)] (·= .int .i64 (gE s)):=by
 obtain⟨id,⟨il,ih⟩,⟨ol,oh⟩,⟨zl,zh⟩,⟨el,eh⟩,⟨rl,rh⟩,stops,ds⟩:=s
 dsimp only at hs hl
 refine CQ.enter hG ?_
 have h:=trivial;repeat' (first | simp (disch:=first|exact bk rfl|omega) only [go_sem,eO,h85,r85,aK hs kQ,h]| ((first | apply aD | apply aE | apply aC)<;>intro h<;>(try simp only [spl] at h))| (refine bE hG _ (aHU ⟨_,_⟩ _ _) rfl ?_))
 all_goals first
  | (refine aG (.int .i64 _) ?_;simp only [gE];congr 1;symm;first | (rw [if_pos (by omega)];done)| (rw [if_neg (by omega),if_neg];simp [uD, *]<;>omega))
  | skip
 have hsB:∀b,uD ⟨id,⟨il,ih⟩,⟨ol,oh⟩,⟨zl,zh⟩,⟨el,eh⟩,⟨rl,rh⟩,stops,ds⟩=b↔gB el zh stops=b:=fun b=>by
  have h1:decide (1<=id/\id<=1099511627776)=true:=by rw [decide_eq_true_eq];omega
  have h2:decide (zh<=eh)=true:=by rw [decide_eq_true_eq];omega
  simp only [uD, *,Bool.true_and]
 have hE:∀v:Int,(v=if gB el zh stops then 0 else 1)->v=gE ⟨id,⟨il,ih⟩,⟨ol,oh⟩,⟨zl,zh⟩,⟨el,eh⟩,⟨rl,rh⟩,stops,ds⟩:=fun v hv=>by
  have h5:¬stops.length>4:=by omega
  simp only [gE]
  rw [if_neg h5,hv]
  cases hx:gB el zh stops with
  | true=>rw [(hsB true).2 hx]
  | false=>rw [(hsB false).2 hx]
 refine bA (I85 stops ds el zh [.int .i64 id,.int .i64 il,.int .i64 ih,.int .i64 ol,.int .i64 oh,.int .i64 zl,.int .i64 zh,.int .i64 el,.int .i64 eh,.int .i64 rl,.int .i64 rh,ofD ds]) (fun m e H hi=> ?_) (m:=stops.length) ?_
 ·obtain⟨n,q,b,hn,rfl,hdm,hnx,hg,hst,g64,g63,g62,g3,g1⟩:=hi
  obtain⟨t,dm⟩:=e
  dsimp only at hdm g64 g63 g62 g3 g1
  subst hdm
  refine bC 200 ?_
  rw [axX]
  by_cases hlt:n<stops.length
  ·have hd:=fF hlt
   have h:=trivial;repeat' (first | simp (disch:=first|exact bk rfl|omega) only [go_sem,g64,g63,g62,g3,g1,hnx,hg,aX hs kQ sD oQ hlt,aY eJ hlt,hZ,Int.ofNat_lt,hlt,r85,h]| ((first | apply aD | apply aE | apply aC)<;>intro h<;>(try simp only [spl] at h))| (refine bE hG _ (aHU ⟨_,_⟩ _ _) rfl ?_))
   all_goals first
    | (refine aG (.int .i64 1) ?_;congr 1;refine hE _ ?_;rw [hst,hd];clear hst hd hE hsB hs hg;simp [gB, *];done)
    | (refine aZ (m':=stops.length - (n+1)) (by omega) ⟨n+1,q+1,stops[n].at_,by omega,rfl,rfl, ?_, ?_, ?_, ?_, ?_, ?_, ?_, ?_⟩<;>first | (first | rfl | (simp (disch:=first|exact bk rfl|omega) only [go_sem,g64,g63,g62,g3,g1,hnx,hg]<;>rfl))| (rw [hst,hd];clear hst hd hE hsB hs hg;simp [gB, *];done))
  ·have h:=trivial;repeat' (first | simp (disch:=first|exact bk rfl|omega) only [go_sem,g64,g63,g62,g3,g1,Int.ofNat_lt,hlt,apL,r85,h]| ((first | apply aD | apply aE | apply aC)<;>intro h<;>(try simp only [spl] at h)))
   refine aG (.int .i64 0) ?_
   congr 1
   refine hE _ ?_
   rw [hst,List.drop_of_length_le (by omega)]
   rfl
 ·exact⟨0,0,zh,Nat.zero_le _,rfl,rfl,by first | rfl | (simp (disch:=first|exact bk rfl|omega) only [go_sem]<;>rfl),by first | rfl | (simp (disch:=first|exact bk rfl|omega) only [go_sem]<;>rfl),rfl,eg rfl rfl,eg rfl rfl,eg rfl rfl,eg rfl rfl,eg rfl rfl⟩
def I99 (stops:List Stop) (hi z:Int) (cells:List AV) (m:Nat) (e:En) (H:Hp):Prop:=∃(n q:Nat) (b:Int),n<=stops.length/\m=stops.length - n/\e.dm=[]/\H.nx=q+1/\H.get 0=some (.cells (some 31) false cells)/\gB hi z stops=gB hi b (stops.drop n)/\
 z<=b/\(n=0->b=z)/\(∀k,n=k+1->∃h:k<stops.length,stops[k].at_=b)/\E2.get e.t 3= .int .i64 n/\E2.get e.t 1= .ptr 0 0
theorem aEX {hi b:Int} {x:Stop} {l:List Stop} (h:x.at_<=b∨hi<=x.at_∨dW x.secs 0 36000=false):(1:Int)=if gB hi b (x::l) then 0 else 1:=by
 have:gB hi b (x::l)=false:=by
  simp only [gB]
  rcases h with h | h | h
  ·rw [if_pos h]
  ·by_cases h2:x.at_<=b
   ·rw [if_pos h2]
   ·rw [if_neg h2,if_pos h]
  ·simp [h]
 rw [this];rfl
theorem aIE {hi b:Int} {x:Stop} {l:List Stop} (h1:¬x.at_<=b) (h2:¬hi<=x.at_) (h3:dW x.secs 0 36000=true):gB hi b (x::l)=gB hi x.at_ l:=by
 simp only [gB]
 rw [if_neg h1,if_neg h2,if_pos h3]
theorem aQL {stops:List Stop} {n:Nat} (h:n<stops.length):∀k,n+1=k+1->∃h:k<stops.length,stops[k].at_=stops[n].at_:=fun k hk=>by
 obtain rfl:n=k:=by omega
 exact⟨h,rfl⟩
theorem aTF (s:dP) (hs:Sl 3 hZ s.stops s.ds) (hl:s.stops.length<=9223372036854775807):CQ P G 99 [.agg (eO s)] (·= .int .i64 (gE s)):=by
 obtain⟨id,⟨il,ih⟩,⟨ol,oh⟩,⟨zl,zh⟩,⟨el,eh⟩,⟨rl,rh⟩,stops,ds⟩:=s
 dsimp only at hs hl
 refine CQ.enter hG ?_
 (try simp (maxSteps:=10000000) (disch:=first|exact bk rfl|omega) only [go_sem,eO,h99,r99,aK hs kQ]);repeat' (first | ((first | apply aD | apply aE | apply aC)<;>intro h<;>(try simp only [spl] at h)<;>try simp (maxSteps:=10000000) (disch:=first|exact bk rfl|omega) only [go_sem,eO,h99,r99,aK hs kQ,h])| ((refine bE hG _ (aNF ⟨_,_⟩ _ _) rfl ?_)<;>try simp (maxSteps:=10000000) (disch:=first|exact bk rfl|omega) only [go_sem,eO,h99,r99,aK hs kQ]))
 all_goals first
  | (refine aG (.int .i64 _) ?_;simp only [gE];congr 1;symm;first | (rw [if_pos (by omega)];done)| (rw [if_neg (by omega),if_neg];simp [uD, *]<;>omega)| (rw [if_neg (by omega),if_neg];simp only [uD,dW,Bool.and_eq_true,decide_eq_true_eq,decide_eq_false_iff_not] at *;omega))
  | skip
 have hz:0<=zl/\zl<=zh/\zh<=43199/\0<=el/\el<=eh/\eh<=43199/\zl<=el/\zh<=eh:=by simp only [dW,decide_eq_true_eq] at *;omega
 have hsB:∀b,uD ⟨id,⟨il,ih⟩,⟨ol,oh⟩,⟨zl,zh⟩,⟨el,eh⟩,⟨rl,rh⟩,stops,ds⟩=b↔gB el zh stops=b:=fun b=>by
  have h1:decide (1<=id/\id<=1099511627776)=true:=by rw [decide_eq_true_eq];omega
  have h2:decide (zh<=eh)=true:=by rw [decide_eq_true_eq];omega
  have h3:dW ⟨el,eh⟩ zl 43199=true:=by simp only [dW];rw [decide_eq_true_eq];omega
  simp only [uD,h1,h2,h3,Bool.true_and,Bool.and_true,decide_true, *]
 have hE:∀v:Int,(v=if gB el zh stops then 0 else 1)->v=gE ⟨id,⟨il,ih⟩,⟨ol,oh⟩,⟨zl,zh⟩,⟨el,eh⟩,⟨rl,rh⟩,stops,ds⟩:=fun v hv=>by
  have h5:¬stops.length>4:=by omega
  simp only [gE]
  rw [if_neg h5,hv]
  cases hx:gB el zh stops with
  | true=>rw [(hsB true).2 hx]
  | false=>rw [(hsB false).2 hx]
 refine bA (I99 stops el zh [.int .i64 id,.int .i64 il,.int .i64 ih,.int .i64 ol,.int .i64 oh,.int .i64 zl,.int .i64 zh,.int .i64 el,.int .i64 eh,.int .i64 rl,.int .i64 rh,ofD ds]) (fun m e H hi=> ?_) (m:=stops.length) ?_
 ·obtain⟨n,q,b,hn,rfl,hdm,hnx,hg,hst,hzb,hb0,hb1,g3,g1⟩:=hi
  obtain⟨t,dm⟩:=e
  dsimp only at hdm g3 g1
  subst hdm
  refine bC 200 ?_
  rw [apX]
  by_cases hlt:n<stops.length
  ·have hd:=fF hlt
   rcases Nat.eq_zero_or_pos n with h0 | h0
   ·have hb:=hb0 h0
    have hgt:decide ((0:Int)<(n:Int))=false:=by rw [decide_eq_false_iff_not];omega
    (try simp (maxSteps:=10000000) (disch:=first|exact bk rfl|omega) only [go_sem,g3,g1,hnx,hg,hgt,aK hs kQ,aX hs kQ sD oQ hlt,aY eJ hlt,hZ,Int.ofNat_lt,hlt,r99,aEI,aDT,aEM,aCU]);repeat' (first | ((first | apply aD | apply aE | apply aC)<;>intro h<;>(try simp only [spl] at h)<;>try simp (maxSteps:=10000000) (disch:=first|exact bk rfl|omega) only [go_sem,g3,g1,hnx,hg,hgt,aK hs kQ,aX hs kQ sD oQ hlt,aY eJ hlt,hZ,Int.ofNat_lt,hlt,r99,aEI,aDT,aEM,aCU,h])| ((refine bE hG _ (aNF ⟨_,_⟩ _ _) rfl ?_)<;>try simp (maxSteps:=10000000) (disch:=first|exact bk rfl|omega) only [go_sem,g3,g1,hnx,hg,hgt,aK hs kQ,aX hs kQ sD oQ hlt,aY eJ hlt,hZ,Int.ofNat_lt,hlt,r99,aEI,aDT,aEM,aCU]))
    all_goals first
     | (refine aG (.int .i64 1) ?_;congr 1;refine hE _ ?_;rw [hst,hd];refine aEX ?_;first | (right;right;assumption)| omega)
     | (refine aZ (m':=stops.length - (n+1)) (by omega) ⟨n+1,q+1,stops[n].at_,by omega,rfl,rfl, ?_, ?_, ?_,by omega,fun h=>absurd h (by omega),aQL hlt, ?_, ?_⟩<;>first | (first | rfl | (simp (maxSteps:=10000000) (disch:=first|exact bk rfl|omega) only [go_sem,g3,g1,hnx,hg]<;>rfl))| (rw [hst,hd];exact aIE (by omega) (by omega) (by assumption)))
   ·obtain⟨k,hnk⟩:∃k,n=k+1:=⟨n - 1,by omega⟩
    obtain⟨hk,hkb⟩:=hb1 k hnk
    have hgt:decide ((0:Int)<(n:Int))=true:=by rw [decide_eq_true_eq];omega
    have hks:(n:Int) - 1=(k:Int):=by omega
    (try simp (maxSteps:=10000000) (disch:=first|exact bk rfl|omega) only [go_sem,g3,g1,hnx,hg,hgt,aK hs kQ,aX hs kQ sD oQ hlt,aY eJ hlt,hZ,Int.ofNat_lt,hlt,r99,aEI,aDT,aEM,aCU,hks,hkb,aX hs kQ sD oQ hk,aY eJ hk,bL eJ hk (by decide:0<3)]);repeat' (first | ((first | apply aD | apply aE | apply aC)<;>intro h<;>(try simp only [spl] at h)<;>try simp (maxSteps:=10000000) (disch:=first|exact bk rfl|omega) only [go_sem,g3,g1,hnx,hg,hgt,aK hs kQ,aX hs kQ sD oQ hlt,aY eJ hlt,hZ,Int.ofNat_lt,hlt,r99,aEI,aDT,aEM,aCU,hks,hkb,aX hs kQ sD oQ hk,aY eJ hk,bL eJ hk (by decide:0<3),h])| ((refine bE hG _ (aNF ⟨_,_⟩ _ _) rfl ?_)<;>try simp (maxSteps:=10000000) (disch:=first|exact bk rfl|omega) only [go_sem,g3,g1,hnx,hg,hgt,aK hs kQ,aX hs kQ sD oQ hlt,aY eJ hlt,hZ,Int.ofNat_lt,hlt,r99,aEI,aDT,aEM,aCU,hks,hkb,aX hs kQ sD oQ hk,aY eJ hk,bL eJ hk (by decide:0<3)]))
    all_goals first
     | (refine aG (.int .i64 1) ?_;congr 1;refine hE _ ?_;rw [hst,hd];refine aEX ?_;first | (right;right;assumption)| omega)
     | (refine aZ (m':=stops.length - (n+1)) (by omega) ⟨n+1,q+1,stops[n].at_,by omega,rfl,rfl, ?_, ?_, ?_,by omega,fun h=>absurd h (by omega),aQL hlt, ?_, ?_⟩<;>first | (first | rfl | (simp (maxSteps:=10000000) (disch:=first|exact bk rfl|omega) only [go_sem,g3,g1,hnx,hg]<;>rfl))| (rw [hst,hd];exact aIE (by omega) (by omega) (by assumption)))
  ·(try simp (maxSteps:=10000000) (disch:=first|exact bk rfl|omega) only [go_sem,g3,g1,hnx,hg,aK hs kQ,Int.ofNat_lt,hlt,agN,r99]);repeat' ((first | apply aD | apply aE | apply aC)<;>intro h<;>(try simp only [spl] at h)<;>try simp (maxSteps:=10000000) (disch:=first|exact bk rfl|omega) only [go_sem,g3,g1,hnx,hg,aK hs kQ,Int.ofNat_lt,hlt,agN,r99,h])
   refine aG (.int .i64 0) ?_
   congr 1
   refine hE _ ?_
   rw [hst,List.drop_of_length_le (by omega)]
   rfl
 ·exact⟨0,0,zh,Nat.zero_le _,rfl,rfl,by first | rfl | (simp (maxSteps:=10000000) (disch:=first|exact bk rfl|omega) only [go_sem]<;>rfl),by first | rfl | (simp (maxSteps:=10000000) (disch:=first|exact bk rfl|omega) only [go_sem]<;>rfl),by first | rfl | simp,Int.le_refl _,fun _=>rfl,fun k hk=>absurd hk (by omega),eg rfl rfl,eg rfl rfl⟩
end Go.S5
namespace Go.Ev
noncomputable section
section
variable {P : Program} {G : bK} {H : Hp} {k : AV -> Bool} {α : Type} {sz : Nat} {enc : α -> List D} {xs : List α} {d : D}
def stP (P:Program) (t:TypeId):Option (Bool×List (Nat×Nat)):=match P.underlying t with
 | some (.struct fs)=>some (fs.toList.all (fun f=>(P.info? f.type).isSome),fs.toList.map fun f=>(f.offset,P.cellsOf f.type))
 | _=>none
theorem jB {t:TypeId} {z:List AV} {pl:List (Nat×Nat)} (h1:zro P t=some (.agg z)) (h2:stP P t=some (true,pl)) (ps:List (Nat×AV)):bO P t ps k=nP pl ps z k:=by
 unfold stP at h2
 unfold bO nP
 rw [h1]
 split at h2
 next fs hu=>
  rw [hu]
  simp only [Option.some.injEq,Prod.mk.injEq] at h2
  dsimp only
  rw [h2.1,h2.2]
  dsimp only
  cases xI pl ps z with
  | none=>rfl
  | some cs=>exact bY _ _
 next=>cases h2
end
end
end Go.Ev
namespace Go.S5
open Go.Ev Go.Proofs
@[go_sem ↓] theorem jX (ps:List (Nat×AV)) (k:AV->Bool):bO P 28 ps k=nP [(0,1),(1,1)] ps [.int .i64 0,.int .i64 0] k:=jB (by kernel_rfl) (by kernel_rfl) ps
@[go_sem ↓] theorem bAI (ps:List (Nat×AV)) (k:AV->Bool):bO P 42 ps k=nP [(0,3),(3,12),(15,3),(18,1),(19,1),(20,1),(21,1),(22,1),(23,8)] ps [.nils,.nils,.nils,.int .i64 0,.int .i64 0,.int .i64 0,.int .i64 0,.int .i64 0,.int .i64 0,.int .i64 0,.int .i64 0,.int .i64 0,.int .i64 0,.int .i64 0,.nils,.int .i64 0,.int .i64 0,.int .i64 0,.nils,.nils,.nils,.int .i64 0,.int .i64 0,.int .i64 0,.nils,.int .i64 0,.int .i64 0,.int .i64 0,.int .i64 0,.int .i64 0,.nils] k:=jB (by kernel_rfl) (by kernel_rfl) ps
@[go_sem ↓] theorem uM (ps:List (Nat×AV)) (k:AV->Bool):bO P 48 ps k=nP [(0,1),(1,1)] ps [.int .i64 0,.int .i64 0] k:=jB (by kernel_rfl) (by kernel_rfl) ps
@[go_sem ↓] theorem oX (ps:List (Nat×AV)) (k:AV->Bool):bO P 50 ps k=nP [(0,2),(2,1),(3,1),(4,1)] ps [.int .i64 0,.int .i64 0,.int .i64 0,.int .i64 0,.int .i64 0] k:=jB (by kernel_rfl) (by kernel_rfl) ps
@[go_sem ↓] theorem arU (ps:List (Nat×AV)) (k:AV->Bool):bO P 74 ps k=nP [(0,12),(12,1),(13,1)] ps [.int .i64 0,.int .i64 0,.int .i64 0,.int .i64 0,.int .i64 0,.int .i64 0,.int .i64 0,.int .i64 0,.int .i64 0,.int .i64 0,.int .i64 0,.nils,.nils,.nils] k:=jB (by kernel_rfl) (by kernel_rfl) ps
@[go_sem ↓] theorem bBN (ps:List (Nat×AV)) (k:AV->Bool):bO P 78 ps k=nP [(0,1),(1,1)] ps [.nils,.nils] k:=jB (by kernel_rfl) (by kernel_rfl) ps
@[go_sem ↓] theorem a3N (ps:List (Nat×AV)) (k:AV->Bool):bO P 96 ps k=nP [(0,1),(1,1),(2,1)] ps [.int .i64 0,.int .i64 0,.int .i64 0] k:=jB (by kernel_rfl) (by kernel_rfl) ps
theorem aCR (o:aF):aV o=[.int .i64 o.kind,o.dn,.int .i64 o.gap.lo,.int .i64 o.gap.hi,.int .i64 o.most,.int .i64 o.lo,.int .i64 o.hi,o.dk]:=rfl
theorem bG (c:cJ):bI c=[c.house.dr,c.house.dd,c.house.dw,.int .i64 c.session.id,.int .i64 c.session.in_.lo,.int .i64 c.session.in_.hi,.int .i64 c.session.out.lo,.int .i64 c.session.out.hi,.int .i64 c.session.zero.lo,.int .i64 c.session.zero.hi,.int .i64 c.session.end_.lo,.int .i64 c.session.end_.hi,.int .i64 c.session.rate.lo,.int .i64 c.session.rate.hi,c.session.ds,
   .int .i64 c.ink.faint,.int .i64 c.ink.stray,.int .i64 c.ink.slip,c.dk,c.dst,c.dm,.int .i64 c.start,.int .i64 c.since,.int .i64 c.order.kind,c.order.dn,.int .i64 c.order.gap.lo,.int .i64 c.order.gap.hi,.int .i64 c.order.most,.int .i64 c.order.lo,.int .i64 c.order.hi,c.order.dk]:=by
 rfl
theorem aJQ (x:Key) (id:Int):CQ P G 89 [.agg (dJ x),.ptr [.int .i64 id] 0] (·= .bool (decide (x.id=id))):=by
 refine CQ.enter hG ?_
 have h:=trivial;repeat' (first | simp (disch:=first|exact bk rfl|omega) only [go_sem,dJ,h89,h]| ((first | apply aD | apply aE | apply aC)<;>intro h<;>(try simp only [spl] at h)))
 all_goals (refine aG (.bool _) ?_;first | (simp [*];done)| (congr 1;rw [Bool.eq_iff_iff];simp [*];omega)| (congr 1;rw [Bool.eq_iff_iff];simp [];omega)| (simp [*]<;>omega))
def sM (l:List Key) (id:Int):Bool:=l.any fun k=>decide (k.id=id)
theorem qQ {α:Type} {p:α->Bool}:∀{xs:List α},xs.any p=true->0<=eA p xs
 | [],h=>by simp at h
 | x::xs,h=>by
  unfold eA
  cases hx:p x with
  | true=>simp
  | false=>
   have:=qQ (xs:=xs) (p:=p) (by simpa [hx] using h)
   simp only []
   (repeat' split)<;>omega
theorem sS {α:Type} {p:α->Bool} {xs:List α} (h:xs.any p=false):eA p xs= -1:=hP fun x hx=>by
 cases hp:p x with
 | false=>rfl
 | true=>rw [List.any_eq_true.2 ⟨x,hx,hp⟩] at h;cases h
theorem ayW (c:cJ) (id:Int) (hs:Sl 3 dJ c.keys c.dk) (hl:c.keys.length<=9223372036854775807):CQ P G 34 [.agg (bI c),.int .i64 id] (fun d=>∃k,d= .tup [k,.bool (sM c.keys id)]):=by
 refine CQ.enter hG ?_
 have h:=trivial;repeat' (first | simp (disch:=first|exact bk rfl|omega) only [go_sem,bG,h34,h]| ((first | apply aD | apply aE | apply aC)<;>intro h<;>(try simp only [spl] at h)))
 refine aJM hG (aEC c.keys c.dk hs hl 89 [.ptr [.int .i64 id] 0] (fun k=>decide (k.id=id)) (by kernel_rfl) (by kernel_rfl) (fun x _=>aJQ x id)) (.cons _ _ [] _ _ _ (.fro c.dk) (.cons _ _ _ _ _ [] (.fn 89 [] [.ptr 1 0] [] [.ptr [.int .i64 id] 0] [] _ .nil (.cons _ _ _ _ _ [] (.ptr 1 0 _ _ _ _ _ (by first | rfl | (simp (disch:=first|exact bk rfl|omega) only [go_sem]<;>rfl)) (.fro [.int .i64 id])) .nil)) .nil)) (fun d hd=>⟨.inr (by rw [hd];rfl), ?_⟩)
 subst hd
 cases hh:sM c.keys id with
 | true=>
  have h1:0<=eA (fun k=>decide (k.id=id)) c.keys:=qQ hh
  have h2:=(wE (fun k=>decide (k.id=id)) c.keys).2
  obtain⟨n,hn⟩:∃n:Nat,eA (fun k=>decide (k.id=id)) c.keys=(n:Int):=⟨_,(Int.toNat_of_nonneg h1).symm⟩
  have hlt:n<c.keys.length:=by omega
  have h0:((n:Int)<0)=False:=by simp
  have h:=trivial;repeat' (first | simp (disch:=first|exact bk rfl|omega) only [go_sem,hn,h0,aX hs gO rK oV hlt,aY dR hlt,dJ,h]| ((first | apply aD | apply aE | apply aC)<;>intro h<;>(try simp only [spl] at h)))
  exact aG (.tup [.agg (dJ c.keys[n]),.bool true]) ⟨_,rfl⟩
 | false=>
  have h1:eA (fun k=>decide (k.id=id)) c.keys= -1:=sS hh
  have h:=trivial;repeat' (first | simp (disch:=first|exact bk rfl|omega) only [go_sem,h1,Int.reduceLT,Int.reduceNeg,h]| ((first | apply aD | apply aE | apply aC)<;>intro h<;>(try simp only [spl] at h)))
  exact aG (.tup [.agg (dJ ⟨0,0,0⟩),.bool false]) ⟨_,rfl⟩
def eE (c:cJ) (s:eC):Bool:=iQ s.name&&inB s.room 0 ((c.house.rooms.length:Int) - 1)&&sM c.keys s.key
def a3J (c:cJ) (s:eC) (m:Nat) (e:En) (H:Hp):Prop:=∃n:Nat,n<=c.keys.length/\m=c.keys.length - n/\e.dm=[]/\(∀x∈c.keys.take n,decide (x.id=s.key)=false)/\E2.get e.t 6= .int .i64 n/\E2.get e.t 2= .ptr 0 0/\E2.get e.t 3= .ptr 1 0/\H.get 0=some (.cells (some 42) false (bD (bI c)))/\H.get 1=some (.cells (some 94) false (bD (cN s)))
theorem iR {α:Type} {p:α->Bool} {xs:List α} (h:∀x∈xs,p x=false):xs.any p=false:=by
 rw [List.any_eq_false];intro x hx;rw [h x hx];simp
theorem qD {α:Type} {p:α->Bool} {xs:List α} {n:Nat} (hn:n<xs.length) (h:p xs[n]=true):xs.any p=true:=List.any_eq_true.2 ⟨_,List.getElem_mem hn,h⟩
theorem aGJ (c:cJ) (s:eC) (hs:Sl 3 dJ c.keys c.dk) (hl:c.keys.length<=9223372036854775807) (hr:Sl 2 iN c.house.rooms c.house.dr) (hrl:c.house.rooms.length<=9223372036854775807) (hn:s.name.length<=9223372036854775807):
  CQ P G 104 [.agg (bI c),.agg (cN s)] (·= .bool (eE c s)):=by
 refine CQ.enter hG ?_
 have h:=trivial;repeat' (first | simp (disch:=first|exact bk rfl|omega) only [go_sem,bG,cN,a0W,anZ,aK hr jC,h]| ((first | apply aD | apply aE | apply aC)<;>intro h<;>(try simp only [spl] at h))| (first | refine bE hG _ (aAC _ hn) rfl ?_ | refine bE hG _ (aNZ _ _ _) rfl ?_))
 all_goals first
  | (refine aG (.bool _) ?_;simp [eE, *];done)
  | skip
 have hB:∀b,sM c.keys s.key=b->eE c s=b:=fun b hb=>by simp [eE, *]
 refine bA (a3J c s) (fun m e H hi=> ?_) (m:=c.keys.length) ?_
 rotate_left
 ·exact⟨0,Nat.zero_le _,rfl,rfl,fun x hx=>by simp at hx,eg rfl rfl,eg rfl rfl,eg rfl rfl,by first | rfl | (simp (disch:=first|exact bk rfl|omega) only [go_sem,bG]<;>rfl),by first | rfl | (simp (disch:=first|exact bk rfl|omega) only [go_sem,cN]<;>rfl)⟩
 ·obtain⟨n,hn',rfl,hdm,ha,g6,g2,g3,hg0,hg1⟩:=hi
  obtain⟨t,dm⟩:=e
  dsimp only at hdm g6 g2 g3
  subst hdm
  rw [bG] at hg0
  simp only [cN,go_sem] at hg0 hg1
  refine bC 200 ?_
  rw [ajI]
  by_cases hlt:n<c.keys.length
  ·have h:=trivial;repeat' (first | simp (disch:=first|exact bk rfl|omega) only [go_sem,g6,g2,g3,hg0,hg1,aK hs gO,aX hs gO rK oV hlt,bL dR hlt (by decide:0<3),dJ,Int.ofNat_lt,hlt,anZ,h]| ((first | apply aD | apply aE | apply aC)<;>intro h<;>(try simp only [spl] at h)))
   ·refine aG (.bool true) ?_
    rw [hB true (qD hlt (decide_eq_true h))]
   ·refine aZ (m':=c.keys.length - (n+1)) (by omega) ⟨n+1,by omega,rfl,rfl,iM hlt ha (decide_eq_false h), ?_, ?_, ?_, ?_, ?_⟩<;>(first | rfl | (simp (disch:=first|exact bk rfl|omega) only [go_sem,g6,g2,g3,hg0,hg1,bG,cN]<;>rfl))
  ·have h:=trivial;repeat' (first | simp (disch:=first|exact bk rfl|omega) only [go_sem,g6,g2,g3,hg0,hg1,aK hs gO,Int.ofNat_lt,hlt,anN,anZ,h]| ((first | apply aD | apply aE | apply aC)<;>intro h<;>(try simp only [spl] at h)))
   refine aG (.bool false) ?_
   rw [hB false (iR (lO hlt ha))]
def jP (x y:eC):Bool:=decide (y.name=x.name)||decide (y.key=x.key)
def stE (c:cJ):List eC->List eC->Int
 | _,[]=>0
 | prev,x::l=>if eE c x then (if prev.any (jP x) then 6 else stE c (prev++[x]) l) else 1
def dQ (c:cJ):Int:=if c.stations.length>8 then 2 else stE c [] c.stations
theorem fY {α:Type} {l:List α} {n:Nat} (h:n<l.length):l.take n++[l[n]]=l.take (n+1):=by simp
theorem aQH {c:cJ} {l:List eC} {n:Nat} (h:n<l.length) (hb:eE c l[n]=false):stE c (l.take n) (l.drop n)=1:=by
 rw [fF h];simp [stE,hb]
theorem aCY {c:cJ} {l:List eC} {n:Nat} (h:n<l.length) (hb:eE c l[n]=true) (ha:(l.take n).any (jP l[n])=true):stE c (l.take n) (l.drop n)=6:=by
 rw [fF h];simp only [stE];rw [if_pos hb,if_pos ha]
theorem aXW {c:cJ} {l:List eC} {n:Nat} (h:n<l.length) (hb:eE c l[n]=true) (ha:(l.take n).any (jP l[n])=false):stE c (l.take n) (l.drop n)=stE c (l.take (n+1)) (l.drop (n+1)):=by
 rw [fF h];simp only [stE];rw [if_pos hb,if_neg (by rw [ha];simp),fY h]
structure asN (c:cJ):Prop where
 keys:Sl 3 dJ c.keys c.dk
 keysL:c.keys.length<=9223372036854775807
 rooms:Sl 2 iN c.house.rooms c.house.dr
 roomsL:c.house.rooms.length<=9223372036854775807
 sts:Sl 3 cN c.stations c.dst
 stsL:c.stations.length<=9223372036854775807
 names:∀s∈c.stations,s.name.length<=9223372036854775807
def I45 (c:cJ) (m:Nat) (e:En) (H:Hp):Prop:=∃n:Nat,n<=c.stations.length/\m=c.stations.length - n/\e.dm=[]/\stE c [] c.stations=stE c (c.stations.take n) (c.stations.drop n)/\E2.get e.t 3= .int .i64 n/\E2.get e.t 1= .ptr 0 0/\H.get 0=some (.cells (some 42) false (bD (bI c)))
def a0E (c:cJ) (n:Nat) (x:eC) (m:Nat) (e:En) (H:Hp):Prop:=∃k:Nat,k<=n/\m=n - k/\e.dm=[]/\(∀y∈c.stations.take k,jP x y=false)/\E2.get e.t 5= .int .i64 k/\E2.get e.t 3= .int .i64 n/\E2.get e.t 1= .ptr 0 0/\H.get 0=some (.cells (some 42) false (bD (bI c)))
theorem aFG (c:cJ) (ho:asN c):CQ P G 45 [.agg (bI c)] (·= .int .i64 (dQ c)):=by
 obtain⟨hk,hkl,hr,hrl,hs,hsl,hnl⟩:=ho
 refine CQ.enter hG ?_
 (try simp (maxSteps:=10000000) (disch:=first|exact bk rfl|omega) only [go_sem,bG,h45,r45,aK hs gZ]);repeat' ((first | apply aD | apply aE | apply aC)<;>intro h<;>(try simp only [spl] at h)<;>try simp (maxSteps:=10000000) (disch:=first|exact bk rfl|omega) only [go_sem,bG,h45,r45,aK hs gZ,h])
 ·refine aG (.int .i64 2) ?_
  simp only [dQ];rw [if_pos (by omega)]
 have hE:∀v,v=stE c [] c.stations->v=dQ c:=fun v hv=>by
  simp only [dQ];rw [if_neg (by omega)];exact hv
 refine bA (I45 c) (fun m e H hi=> ?_) (m:=c.stations.length) ?_
 rotate_left
 ·exact⟨0,Nat.zero_le _,rfl,rfl,rfl,eg rfl rfl,eg rfl rfl,by first | rfl | (simp (maxSteps:=10000000) (disch:=first|exact bk rfl|omega) only [go_sem,bG]<;>rfl)⟩
 ·obtain⟨n,hn',rfl,hdm,hst,g3,g1,hg0⟩:=hi
  obtain⟨t,dm⟩:=e
  dsimp only at hdm g3 g1
  subst hdm
  rw [bG] at hg0
  simp only [go_sem] at hg0
  refine bC 200 ?_
  rw [avZ]
  by_cases hlt:n<c.stations.length
  ·have hnm:=hnl _ (List.getElem_mem hlt)
   (try simp (maxSteps:=10000000) (disch:=first|exact bk rfl|omega) only [go_sem,g3,g1,hg0,aK hs gZ,aX hs gZ xF rM hlt,aY cF hlt,cN,Int.ofNat_lt,hlt,r45]);repeat' (first | ((first | apply aD | apply aE | apply aC)<;>intro h<;>(try simp only [spl] at h)<;>try simp (maxSteps:=10000000) (disch:=first|exact bk rfl|omega) only [go_sem,g3,g1,hg0,aK hs gZ,aX hs gZ xF rM hlt,aY cF hlt,cN,Int.ofNat_lt,hlt,r45,h])| ((refine bE hG _ (aGJ c c.stations[n] hk hkl hr hrl hnm) rfl ?_)<;>try simp (maxSteps:=10000000) (disch:=first|exact bk rfl|omega) only [go_sem,g3,g1,hg0,aK hs gZ,aX hs gZ xF rM hlt,aY cF hlt,cN,Int.ofNat_lt,hlt,r45]))
   ·refine aG (.int .i64 1) ?_
    congr 1
    exact hE _ (by rw [hst,aQH hlt h])
   refine bA (a0E c n c.stations[n]) (fun m e H hi=> ?_) (m:=n) ?_
   rotate_left
   ·refine⟨0,Nat.zero_le _,rfl,rfl,fun x hx=>by simp at hx, ?_, ?_, ?_, ?_⟩<;>(first | rfl | (simp (maxSteps:=10000000) (disch:=first|exact bk rfl|omega) only [go_sem,g3,g1,hg0,bG]<;>rfl))
   clear g3 g1 hg0
   ·obtain⟨k,hk',rfl,hdm,ha,g5,g3,g1,hg0⟩:=hi
    obtain⟨t,dm⟩:=e
    dsimp only at hdm g5 g3 g1
    subst hdm
    rw [bG] at hg0
    simp only [go_sem] at hg0
    refine bC 200 ?_
    rw [avX]
    by_cases hkn:k<n
    ·have hkl:k<c.stations.length:=by omega
     (try simp (maxSteps:=10000000) (disch:=first|exact bk rfl|omega) only [go_sem,g5,g3,g1,hg0,aK hs gZ,aX hs gZ xF rM hlt,aY cF hlt,bL cF hlt (by decide:0<3),aX hs gZ xF rM hkl,aY cF hkl,bL cF hkl (by decide:0<3),dF cF c.stations k 1 hkl (by decide),dF cF c.stations n 1 hlt (by decide),cN,Int.ofNat_lt,hkn,r45,afL,agK,agC,ahE]);repeat' ((first | apply aD | apply aE | apply aC)<;>intro h<;>(try simp only [spl] at h)<;>try simp (maxSteps:=10000000) (disch:=first|exact bk rfl|omega) only [go_sem,g5,g3,g1,hg0,aK hs gZ,aX hs gZ xF rM hlt,aY cF hlt,bL cF hlt (by decide:0<3),aX hs gZ xF rM hkl,aY cF hkl,bL cF hkl (by decide:0<3),dF cF c.stations k 1 hkl (by decide),dF cF c.stations n 1 hlt (by decide),cN,Int.ofNat_lt,hkn,r45,afL,agK,agC,ahE,h])
     all_goals first
      | (refine aG (.int .i64 6) ?_;congr 1;refine hE _ ?_;rw [hst,aCY hlt (by assumption) (qD (n:=k) (by simp;omega) (by simp [jP, *]))];done)
      | (refine aZ (m':=n - (k+1)) (by omega) ⟨k+1,by omega,rfl,rfl,iM hkl ha (by simp [jP, *]), ?_, ?_, ?_, ?_⟩<;>(first | rfl | (simp (maxSteps:=10000000) (disch:=first|exact bk rfl|omega) only [go_sem,g5,g3,g1,hg0,bG]<;>rfl)))
    ·(try simp (maxSteps:=10000000) (disch:=first|exact bk rfl|omega) only [go_sem,g5,g3,g1,hg0,Int.ofNat_lt,hkn,afK,r45]);repeat' ((first | apply aD | apply aE | apply aC)<;>intro h<;>(try simp only [spl] at h)<;>try simp (maxSteps:=10000000) (disch:=first|exact bk rfl|omega) only [go_sem,g5,g3,g1,hg0,Int.ofNat_lt,hkn,afK,r45,h])
     have hkn':k=n:=by omega
     subst hkn'
     refine aZ (m':=c.stations.length - (k+1)) (by omega) ⟨k+1,by omega,rfl,rfl,by rw [hst,aXW hlt (by assumption) (iR ha)], ?_, ?_, ?_⟩<;>(first | rfl | (simp (maxSteps:=10000000) (disch:=first|exact bk rfl|omega) only [go_sem,g5,g3,g1,hg0,bG]<;>rfl))
  ·(try simp (maxSteps:=10000000) (disch:=first|exact bk rfl|omega) only [go_sem,g3,g1,hg0,aK hs gZ,Int.ofNat_lt,hlt,agV,r45]);repeat' ((first | apply aD | apply aE | apply aC)<;>intro h<;>(try simp only [spl] at h)<;>try simp (maxSteps:=10000000) (disch:=first|exact bk rfl|omega) only [go_sem,g3,g1,hg0,aK hs gZ,Int.ofNat_lt,hlt,agV,r45,h])
   refine aG (.int .i64 0) ?_
   congr 1
   refine hE _ ?_
   rw [hst,List.drop_of_length_le (by omega)]
   rfl
theorem aIU {most least:Int} {x:bU} {l:List bU} (h:x.lo<least∨x.hi<x.lo∨most<x.hi):fA most least (x::l)=false:=by
 simp only [fA];split;rfl;split;rfl;split;rfl;omega
theorem aPU {most least:Int} {x:bU} {l:List bU} (h:least<=x.lo/\x.lo<=x.hi/\x.hi<=most):fA most least (x::l)=fA most (x.hi+2) l:=by
 simp only [fA];rw [if_neg (by omega),if_neg (by omega),if_neg (by omega)]
def a3H (l:List bU) (d:D) (most:Int) (m:Nat) (e:En) (H:Hp):Prop:=∃(n:Nat) (least:Int),n<=l.length/\m=l.length - n/\0<=least/\least<=4611686018427387906/\e.dm=[]/\fA most 0 l=fA most least (l.drop n)/\
 (n=0->least=0)/\(∀k,n=k+1->∃h:k<l.length,l[k].hi=least - 2)/\E2.get e.t 5= .int .i64 n/\E2.get e.t 0=ofD d/\E2.get e.t 1= .int .i64 most
theorem aOX {l:List bU} {n:Nat} (h:n<l.length):∀k,n+1=k+1->∃h:k<l.length,l[k].hi=(l[n].hi+2) - 2:=fun k hk=>by
 obtain rfl:n=k:=by omega
 exact⟨h,by omega⟩
theorem uB (l:List bU) (d:D) (most:Int) (hs:Sl 2 bJ l d) (hm:most<=4611686018427387904) (hl:l.length<=9223372036854775807):CQ P G 173 [d,.int .i64 most] (·= .bool (iV l most)):=by
 refine CQ.enter hG ?_
 have h:=trivial;repeat' (first | simp (disch:=first|exact bk rfl|omega) only [go_sem,a1E,abR,aK hs cO,h]| ((first | apply aD | apply aE | apply aC)<;>intro h<;>(try simp only [spl] at h)))
 ·refine aG (.bool false) ?_
  congr 1;symm;simp only [iV];rw [decide_eq_false (by omega)];simp
 have hE:∀b,fA most 0 l=b->D.bool b= .bool (iV l most):=fun b hb=>by
  congr 1;simp only [iV];rw [decide_eq_true (by omega),hb];simp
 refine bA (a3H l d most) (fun m e H hi=> ?_) (m:=l.length) ?_
 rotate_left
 ·exact⟨0,0,Nat.zero_le _,rfl,by omega,by omega,rfl,rfl,fun _=>rfl,fun k hk=>absurd hk (by omega),eg rfl rfl,eg rfl rfl,eg rfl rfl⟩
 ·obtain⟨n,least,hn,rfl,h0,hlb,hdm,ho,hb0,hb1,g5,g0,g1⟩:=hi
  obtain⟨t,dm⟩:=e
  dsimp only at hdm g5 g0 g1
  subst hdm
  refine bC 200 ?_
  rw [anW]
  by_cases hlt:n<l.length
  ·have hd:=fF hlt
   rcases Nat.eq_zero_or_pos n with hz | hz
   ·have hb:=hb0 hz
    have hgt:decide ((0:Int)<(n:Int))=false:=by rw [decide_eq_false_iff_not];omega
    have h:=trivial;repeat' (first | simp (disch:=first|exact bk rfl|omega) only [go_sem,g5,g0,g1,hgt,aK hs cO,aX hs cO gD eP hlt,bL jE hlt (by decide:0<2),dF jE l n 1 hlt (by decide),bJ,Int.ofNat_lt,hlt,abR,aXD,aYR,aXS,aYX,aaB,aVC,aYH,aXH,h]| ((first | apply aD | apply aE | apply aC)<;>intro h<;>(try simp only [spl] at h))| (refine bE hG _ (vC _ _ _) rfl ?_))
    all_goals simp only [inB,decide_eq_true_eq,decide_eq_false_iff_not] at *
    all_goals first
     | (refine aG (.bool false) (hE _ ?_);rw [ho,hd];exact aIU (by omega))
     | (refine aZ (m':=l.length - (n+1)) (by omega) ⟨n+1,l[n].hi+2,by omega,rfl,by omega,by omega,rfl,by rw [ho,hd];exact aPU (by omega),fun h=>absurd h (by omega),aOX hlt, ?_, ?_, ?_⟩<;>(first | rfl | (simp (disch:=first|exact bk rfl|omega) only [go_sem,g5,g0,g1]<;>rfl)))
   ·obtain⟨k,hnk⟩:∃k,n=k+1:=⟨n - 1,by omega⟩
    obtain⟨hk,hkb⟩:=hb1 k hnk
    have hgt:decide ((0:Int)<(n:Int))=true:=by rw [decide_eq_true_eq];omega
    have hks:(n:Int) - 1=(k:Int):=by omega
    have h:=trivial;repeat' (first | simp (disch:=first|exact bk rfl|omega) only [go_sem,g5,g0,g1,hgt,hks,hkb,aK hs cO,aX hs cO gD eP hlt,bL jE hlt (by decide:0<2),dF jE l n 1 hlt (by decide),aX hs cO gD eP hk,dF jE l k 1 hk (by decide),bJ,Int.ofNat_lt,hlt,abR,aXD,aYR,aXS,aYX,aaB,aVC,aYH,aXH,h]| ((first | apply aD | apply aE | apply aC)<;>intro h<;>(try simp only [spl] at h))| (refine bE hG _ (vC _ _ _) rfl ?_))
    all_goals simp only [inB,decide_eq_true_eq,decide_eq_false_iff_not] at *
    all_goals first
     | (refine aG (.bool false) (hE _ ?_);rw [ho,hd];exact aIU (by omega))
     | (refine aZ (m':=l.length - (n+1)) (by omega) ⟨n+1,l[n].hi+2,by omega,rfl,by omega,by omega,rfl,by rw [ho,hd];exact aPU (by omega),fun h=>absurd h (by omega),aOX hlt, ?_, ?_, ?_⟩<;>(first | rfl | (simp (disch:=first|exact bk rfl|omega) only [go_sem,g5,g0,g1]<;>rfl)))
  ·have h:=trivial;repeat' (first | simp (disch:=first|exact bk rfl|omega) only [go_sem,g5,g0,g1,aK hs cO,Int.ofNat_lt,hlt,ajP,abR,h]| ((first | apply aD | apply aE | apply aC)<;>intro h<;>(try simp only [spl] at h)))
   refine aG (.bool true) (hE _ ?_)
   rw [ho,List.drop_of_length_le (by omega)];rfl
def aGT (rooms doors:Nat) (w:Way):Bool:=decide (0<=w.a/\w.a<rooms/\0<=w.b/\w.b<rooms/\w.a≠w.b/\1<=w.secs/\w.secs<=3600/\0<=w.back/\w.back<=3600/\ -1<=w.door/\w.door<doors)
theorem aZN (h:gP) (w:Way) (hr:Sl 2 iN h.rooms h.dr) (hrl:h.rooms.length<=9223372036854775807) (hd:Sl 2 eY h.doors h.dd) (hdl:h.doors.length<=9223372036854775807):CQ P G 174 [.agg (cH h),.agg (oD w)] (·= .bool (aGT h.rooms.length h.doors.length w)):=by
 refine CQ.enter hG ?_
 have h:=trivial;repeat' (first | simp (disch:=first|exact bk rfl|omega) only [go_sem,cH,oD,a2Q,aK hr jC,aK hd gR,h]| ((first | apply aD | apply aE | apply aC)<;>intro h<;>(try simp only [spl] at h))| (refine bE hG _ (vC _ _ _) rfl ?_))
 all_goals simp only [inB,decide_eq_true_eq,decide_eq_false_iff_not] at *
 all_goals (refine aG (.bool _) ?_;congr 1;rw [Bool.eq_iff_iff];simp only [aGT,inB,decide_eq_true_eq,Bool.false_eq_true,false_iff,true_iff];omega)
def pE (x:mO):Bool:=iQ x.name&&inB x.floor (-60) 60
def jH:List mO->List mO->Int
 | _,[]=>0
 | prev,x::l=>if pE x then (if prev.any (fun y=>decide (y.name=x.name)) then 6 else jH (prev++[x]) l) else 1
def mY (d:mK):Bool:=iV d.hours 86399&&iV d.shut 1073741823
def eV (h:gP):Int:=if h.rooms.length=0 then 1 else if h.rooms.length>24∨h.doors.length>16∨h.ways.length>60 then 2 else
 if jH [] h.rooms=0 then (if h.doors.all mY&&h.ways.all (aGT h.rooms.length h.doors.length) then 0 else 1) else jH [] h.rooms
structure tN (h:gP):Prop where
 rooms:Sl 2 iN h.rooms h.dr
 roomsL:h.rooms.length<=9223372036854775807
 names:∀s∈h.rooms,s.name.length<=9223372036854775807
 doors:Sl 2 eY h.doors h.dd
 doorsL:h.doors.length<=9223372036854775807
 hours:∀d∈h.doors,Sl 2 bJ d.hours d.dh
 hoursL:∀d∈h.doors,d.hours.length<=9223372036854775807
 shut:∀d∈h.doors,Sl 2 bJ d.shut d.ds
 shutL:∀d∈h.doors,d.shut.length<=9223372036854775807
 ways:Sl 5 oD h.ways h.dw
 waysL:h.ways.length<=9223372036854775807
theorem aCX {l:List mO} {n:Nat} (h:n<l.length) (hb:pE l[n]=false):jH (l.take n) (l.drop n)=1:=by
 rw [fF h];simp [jH,hb]
theorem xO {l:List mO} {n:Nat} (h:n<l.length) (hb:pE l[n]=true) (ha:(l.take n).any (fun y=>decide (y.name=l[n].name))=true):jH (l.take n) (l.drop n)=6:=by
 rw [fF h];simp only [jH];rw [if_pos hb,if_pos ha]
theorem aIY {l:List mO} {n:Nat} (h:n<l.length) (hb:pE l[n]=true) (ha:(l.take n).any (fun y=>decide (y.name=l[n].name))=false):jH (l.take n) (l.drop n)=jH (l.take (n+1)) (l.drop (n+1)):=by
 rw [fF h];simp only [jH];rw [if_pos hb,if_neg (by rw [ha];simp),fY h]
theorem uC {α:Type} {p:α->Bool} {l:List α} {n:Nat} (h:n<l.length) (hb:p l[n]=false):l.all p=false:=by
 rw [List.all_eq_false];exact⟨l[n],List.getElem_mem h,by rw [hb];simp⟩
theorem iP {α:Type} {p:α->Bool} {l:List α} {n:Nat} (h:n<l.length) (ha:∀x∈l.take n,p x=true) (hb:p l[n]=true):∀x∈l.take (n+1),p x=true:=by
 intro x hx
 rw [←fY h,List.mem_append] at hx
 rcases hx with hx | hx
 ·exact ha x hx
 ·rw [List.mem_singleton] at hx;rw [hx];exact hb
theorem pR {α:Type} {p:α->Bool} {l:List α} {n:Nat} (h:¬n<l.length) (ha:∀x∈l.take n,p x=true):l.all p=true:=by
 rw [List.all_eq_true]
 rw [List.take_of_length_le (by omega)] at ha
 exact ha
def I98 (h:gP) (m:Nat) (e:En) (H:Hp):Prop:=∃n:Nat,n<=h.rooms.length/\m=h.rooms.length - n/\e.dm=[]/\jH [] h.rooms=jH (h.rooms.take n) (h.rooms.drop n)/\E2.get e.t 4= .int .i64 n/\E2.get e.t 1= .ptr 0 0/\H.get 0=some (.cells (some 26) false (bD (cH h)))
def a0V (h:gP) (n:Nat) (x:mO) (m:Nat) (e:En) (H:Hp):Prop:=∃k:Nat,k<=n/\m=n - k/\e.dm=[]/\(∀y∈h.rooms.take k,(fun y:mO=>decide (y.name=x.name)) y=false)/\E2.get e.t 6= .int .i64 k/\E2.get e.t 4= .int .i64 n/\E2.get e.t 1= .ptr 0 0/\H.get 0=some (.cells (some 26) false (bD (cH h)))
def a1P (h:gP) (m:Nat) (e:En) (H:Hp):Prop:=∃n:Nat,n<=h.doors.length/\m=h.doors.length - n/\e.dm=[]/\(∀y∈h.doors.take n,mY y=true)/\E2.get e.t 7= .int .i64 n/\E2.get e.t 1= .ptr 0 0/\H.get 0=some (.cells (some 26) false (bD (cH h)))
def a2T (h:gP) (m:Nat) (e:En) (H:Hp):Prop:=∃n:Nat,n<=h.ways.length/\m=h.ways.length - n/\e.dm=[]/\(∀y∈h.ways.take n,aGT h.rooms.length h.doors.length y=true)/\E2.get e.t 10= .int .i64 n/\E2.get e.t 1= .ptr 0 0/\H.get 0=some (.cells (some 26) false (bD (cH h)))
theorem tU {e v i:Int} (h:e=v):∃i',D.tup [.int .i64 e,.int .i64 i]=D.tup [.int .i64 v,.int .i64 i']:=⟨i,by rw [h]⟩
theorem aSG (u:gP) (ho:tN u):CQ P G 98 [.agg (cH u)] (fun d=>∃i,d= .tup [.int .i64 (eV u),.int .i64 i]):=by
 obtain⟨hr,hrl,hnl,hd,hdl,hho,hhl,hsh,hsl,hw,hwl⟩:=ho
 refine CQ.enter hG ?_
 have h:=trivial;repeat' (first | simp (disch:=first|exact bk rfl|omega) only [go_sem,cH,h98,r98,aK hr jC,aK hd gR,aK hw nY,h]| ((first | apply aD | apply aE | apply aC)<;>intro h<;>(try simp only [spl] at h)))
 all_goals first
  | (refine aG (.tup [.int .i64 1,.int .i64 (-1)]) (tU ?_);simp only [eV];rw [if_pos (by omega)];done)
  | (refine aG (.tup [.int .i64 2,.int .i64 (-1)]) (tU ?_);simp only [eV];rw [if_neg (by omega),if_pos (by omega)];done)
  | skip
 have hE:∀v,v=(if jH [] u.rooms=0 then (if u.doors.all mY&&u.ways.all (aGT u.rooms.length u.doors.length) then 0 else 1) else jH [] u.rooms)->v=eV u:=fun v hv=>by
  simp only [eV];rw [if_neg (by omega),if_neg (by omega)];exact hv
 refine bA (I98 u) (fun m e H hi=> ?_) (m:=u.rooms.length) ?_
 rotate_left
 ·exact⟨0,Nat.zero_le _,rfl,rfl,rfl,eg rfl rfl,eg rfl rfl,by first | rfl | (simp (disch:=first|exact bk rfl|omega) only [go_sem,cH]<;>rfl)⟩
 ·obtain⟨n,hn',rfl,hdm,hst,g4,g1,hg0⟩:=hi
  obtain⟨t,dm⟩:=e
  dsimp only at hdm g4 g1
  subst hdm
  simp only [cH,go_sem] at hg0
  refine bC 200 ?_
  rw [axY]
  by_cases hlt:n<u.rooms.length
  ·have hnm:=hnl _ (List.getElem_mem hlt)
   have h:=trivial;repeat' (first | simp (disch:=first|exact bk rfl|omega) only [go_sem,g4,g1,hg0,aK hr jC,aX hr jC aCS xT hlt,bL kD hlt (by decide:0<2),dF kD u.rooms n 1 hlt (by decide),iN,Int.ofNat_lt,hlt,r98,h]| ((first | apply aD | apply aE | apply aC)<;>intro h<;>(try simp only [spl] at h))| (first | refine bE hG _ (aAC _ hnm) rfl ?_ | refine bE hG _ (vC _ _ _) rfl ?_))
   all_goals first
    | (refine aG (.tup [.int .i64 1,.int .i64 n]) (tU (hE _ ?_));rw [hst,aCX hlt (by simp only [pE, *];simp)];rfl)
    | skip
   refine bA (a0V u n u.rooms[n]) (fun m e H hi=> ?_) (m:=n) ?_
   rotate_left
   ·refine⟨0,Nat.zero_le _,rfl,rfl,fun x hx=>by simp at hx, ?_, ?_, ?_, ?_⟩<;>(first | rfl | (simp (disch:=first|exact bk rfl|omega) only [go_sem,g4,g1,hg0,cH]<;>rfl))
   clear g4 g1 hg0
   ·obtain⟨k,hk',rfl,hdm,ha,g6,g4,g1,hg0⟩:=hi
    obtain⟨t,dm⟩:=e
    dsimp only at hdm g6 g4 g1
    subst hdm
    simp only [cH,go_sem] at hg0
    refine bC 200 ?_
    rw [apD]
    by_cases hkn:k<n
    ·have hkl:k<u.rooms.length:=by omega
     have h:=trivial;repeat' (first | simp (disch:=first|exact bk rfl|omega) only [go_sem,g6,g4,g1,hg0,aK hr jC,aX hr jC aCS xT hlt,bL kD hlt (by decide:0<2),aX hr jC aCS xT hkl,bL kD hkl (by decide:0<2),iN,Int.ofNat_lt,hkn,r98,h]| ((first | apply aD | apply aE | apply aC)<;>intro h<;>(try simp only [spl] at h)))
     all_goals first
      | (refine aG (.tup [.int .i64 6,.int .i64 n]) (tU (hE _ ?_));rw [hst,xO hlt (by simp [pE, *]) (qD (n:=k) (by simp;omega) (by simp [*]))];rfl)
      | (refine aZ (m':=n - (k+1)) (by omega) ⟨k+1,by omega,rfl,rfl,iM hkl ha (by simp [*]), ?_, ?_, ?_, ?_⟩<;>(first | rfl | (simp (disch:=first|exact bk rfl|omega) only [go_sem,g6,g4,g1,hg0,cH]<;>rfl)))
    ·have h:=trivial;repeat' (first | simp (disch:=first|exact bk rfl|omega) only [go_sem,g6,g4,g1,hg0,Int.ofNat_lt,hkn,apG,r98,h]| ((first | apply aD | apply aE | apply aC)<;>intro h<;>(try simp only [spl] at h)))
     have hkn':k=n:=by omega
     subst hkn'
     refine aZ (m':=u.rooms.length - (k+1)) (by omega) ⟨k+1,by omega,rfl,rfl,by rw [hst,aIY hlt (by simp [pE, *]) (iR ha)], ?_, ?_, ?_⟩<;>(first | rfl | (simp (disch:=first|exact bk rfl|omega) only [go_sem,g6,g4,g1,hg0,cH]<;>rfl))
  ·have h:=trivial;repeat' (first | simp (disch:=first|exact bk rfl|omega) only [go_sem,g4,g1,hg0,aK hr jC,Int.ofNat_lt,hlt,auU,r98,h]| ((first | apply aD | apply aE | apply aC)<;>intro h<;>(try simp only [spl] at h)))
   rw [List.drop_of_length_le (by omega)] at hst
   have h0:jH [] u.rooms=0:=hst
   refine bA (a1P u) (fun m e H hi=> ?_) (m:=u.doors.length) ?_
   rotate_left
   ·refine⟨0,Nat.zero_le _,rfl,rfl,fun x hx=>by simp at hx, ?_, ?_, ?_⟩<;>(first | rfl | (simp (disch:=first|exact bk rfl|omega) only [go_sem,g4,g1,hg0,cH]<;>rfl))
   clear hn' hst g4 g1 hg0 hlt
   obtain⟨n,hn',rfl,hdm,ha,g7,g1,hg0⟩:=hi
   obtain⟨t,dm⟩:=e
   dsimp only at hdm g7 g1
   subst hdm
   simp only [cH,go_sem] at hg0
   refine bC 200 ?_
   rw [awC]
   by_cases hlt:n<u.doors.length
   ·have hm:=List.getElem_mem hlt
    have h:=trivial;repeat' (first | simp (disch:=first|exact bk rfl|omega) only [go_sem,g7,g1,hg0,aK hd gR,aX hd gR vW tB hlt,bL cY hlt (by decide:0<2),dF cY u.doors n 1 hlt (by decide),eY,Int.ofNat_lt,hlt,r98,h]| ((first | apply aD | apply aE | apply aC)<;>intro h<;>(try simp only [spl] at h))| (first | refine bE hG _ (uB _ _ _ (hho _ hm) (by omega) (hhl _ hm)) rfl ?_ | refine bE hG _ (uB _ _ _ (hsh _ hm) (by omega) (hsl _ hm)) rfl ?_))
    all_goals first
     | (refine aG (.tup [.int .i64 1,.int .i64 n]) (tU (hE _ ?_));rw [if_pos h0,uC hlt (by simp [mY, *])];rfl)
     | (refine aZ (m':=u.doors.length - (n+1)) (by omega) ⟨n+1,by omega,rfl,rfl,iP hlt ha (by simp [mY, *]), ?_, ?_, ?_⟩<;>(first | rfl | (simp (disch:=first|exact bk rfl|omega) only [go_sem,g7,g1,hg0,cH]<;>rfl)))
   ·have h:=trivial;repeat' (first | simp (disch:=first|exact bk rfl|omega) only [go_sem,g7,g1,hg0,aK hd gR,Int.ofNat_lt,hlt,aqQ,r98,h]| ((first | apply aD | apply aE | apply aC)<;>intro h<;>(try simp only [spl] at h)))
    have h2:=pR hlt ha
    refine bA (a2T u) (fun m e H hi=> ?_) (m:=u.ways.length) ?_
    rotate_left
    ·refine⟨0,Nat.zero_le _,rfl,rfl,fun x hx=>by simp at hx, ?_, ?_, ?_⟩<;>(first | rfl | (simp (disch:=first|exact bk rfl|omega) only [go_sem,g7,g1,hg0,cH]<;>rfl))
    clear hn' ha g7 g1 hg0 hlt
    obtain⟨n,hn',rfl,hdm,ha,g10,g1,hg0⟩:=hi
    obtain⟨t,dm⟩:=e
    dsimp only at hdm g10 g1
    subst hdm
    simp only [cH,go_sem] at hg0
    refine bC 200 ?_
    rw [atM]
    by_cases hlt:n<u.ways.length
    ·have h:=trivial;repeat' (first | simp (disch:=first|exact bk rfl|omega) only [go_sem,g10,g1,hg0,aK hw nY,aX hw nY aPP aEG hlt,aY tL hlt,oD,Int.ofNat_lt,hlt,r98,h]| ((first | apply aD | apply aE | apply aC)<;>intro h<;>(try simp only [spl] at h))| (refine bE hG _ (aZN u u.ways[n] hr hrl hd hdl) rfl ?_))
     all_goals first
      | (refine aG (.tup [.int .i64 1,.int .i64 n]) (tU (hE _ ?_));rw [if_pos h0,h2,uC hlt (by assumption)];rfl)
      | (refine aZ (m':=u.ways.length - (n+1)) (by omega) ⟨n+1,by omega,rfl,rfl,iP hlt ha (by assumption), ?_, ?_, ?_⟩<;>(first | rfl | (simp (disch:=first|exact bk rfl|omega) only [go_sem,g10,g1,hg0,cH]<;>rfl)))
    ·have h:=trivial;repeat' (first | simp (disch:=first|exact bk rfl|omega) only [go_sem,g10,g1,hg0,aK hw nY,Int.ofNat_lt,hlt,apB,r98,h]| ((first | apply aD | apply aE | apply aC)<;>intro h<;>(try simp only [spl] at h)))
     refine aG (.tup [.int .i64 0,.int .i64 (-1)]) (tU (hE _ ?_))
     rw [if_pos h0,h2,pR hlt ha];rfl
theorem aQZ (u:gP) (ho:tN u):CQ P G 41 [.agg (cH u)] (·= .int .i64 (eV u)):=by
 refine CQ.enter hG ?_
 have h:=trivial;repeat' (first | simp (disch:=first|exact bk rfl|omega) only [go_sem,cH,h41,h]| ((first | apply aD | apply aE | apply aC)<;>intro h<;>(try simp only [spl] at h)))
 refine cS hG [.agg (cH u)] (aSG u ho) rfl fun d hd=> ?_
 obtain⟨i,rfl⟩:=hd
 have h:=trivial;repeat' (first | simp (disch:=first|exact bk rfl|omega) only [go_sem,h]| ((first | apply aD | apply aE | apply aC)<;>intro h<;>(try simp only [spl] at h)))
 exact aG (.int .i64 (eV u)) rfl
end Go.S5
namespace Go.Ev
noncomputable section
section
variable {P : Program} {G : bK} {H : Hp} {k : AV -> Bool}
def sE:List (List Nat×AV)->Nat->List (AV×AV×Nat)
 | [],_=>[]
 | (s,v)::l,i=>(.str s,v,i)::sE l (i+1)
theorem aPC (s:List Nat) (v:AV):∀(l:List (List Nat×AV)) (i:Nat),sE (l++[(s,v)]) i=sE l i++[(.str s,v,i+l.length)]
 | [],i=>rfl
 | (s',v')::l,i=>by
  show (_::sE (l++[(s,v)]) (i+1))=_::(sE l (i+1)++_)
  rw [aPC s v l (i+1),List.length_cons]
  have:i+1+l.length=i+(l.length+1):=by omega
  rw [this]
theorem amI (a b:List Nat):aQY ⟨false,[.s]⟩ (.str a) (.str b)=some (decide (a=b)):=by
 show fL [.s] [.str a] [.str b]=_
 simp only [fL,yG,rE]
 try (cases decide (a=b)<;>rfl)
theorem zZ (s:List Nat):∀(l:List (List Nat×AV)) (j i:Nat),(∀p∈l,p.2= .bool true)->
  (l.any (fun p=>decide (p.1=s))=false->findKey ⟨false,[.s]⟩ (.str s) (sE l j) i=some none)/\(l.any (fun p=>decide (p.1=s))=true->∃n,findKey ⟨false,[.s]⟩ (.str s) (sE l j) i=some (some (n,.bool true)))
 | [],j,i,_=>⟨fun _=>rfl,fun h=>by simp at h⟩
 | (s',v')::l,j,i,hv=>by
  have ih:=zZ s l (j+1) (i+1) fun p hp=>hv p (List.mem_cons_of_mem _ hp)
  have hv':v'= .bool true:=hv _ List.mem_cons_self
  subst hv'
  simp only [sE,findKey,amI,List.any_cons]
  by_cases h:s=s'
  ·subst h
   exact⟨fun h=>by simp at h,fun _=>⟨i,by simp⟩⟩
  ·have h':¬s'=s:=fun e=>h e.symm
   simp only [h,h',decide_false,Bool.false_or]
   exact ih
def xU (P:Program) (t:TypeId) (i:AV) (ok:Bool) (k:AV->Bool) (o:Option Blk):Bool:=match iT P t,o with
 | some mt,some (.map _ es _)=>kB P es mt i ok k
 | _,_=>false
@[go_sem ↓] theorem aoE (t:TypeId) (b:Nat) (i:AV) (ok:Bool):iU P H t (.map b) i ok k=xU P t i ok k (H.get b):=by
 unfold iU xU
 cases iT P t with
 | none=>rfl
 | some mt=>
  dsimp only
  cases H.get b with
  | none=>rfl
  | some x=>cases x<;>rfl
@[congr] theorem ahH {t:TypeId} {i i':AV} {ok:Bool} {o o':Option Blk} (hi:i=i') (ho:o=o'):xU P t i ok k o=xU P t i' ok k o':=by rw [hi,ho]
@[congr] theorem aaN {t:TypeId} {m m' i i':AV} {ok:Bool} (hm:m=m') (hi:i=i'):iU P H t m i ok k=iU P H t m' i' ok k:=by rw [hm,hi]
theorem aaA {t el:TypeId} (hm:iT P t=some ⟨el,⟨false,[.s]⟩⟩) (hz:zro P el=some (.bool false)) {l:List (List Nat×AV)} (hv:∀p∈l,p.2= .bool true) (s:List Nat) (ro:Bool) (cl:Nat):
  xU P t (.str s) false k (some (.map ro (sE l 0) cl))=k (.bool (l.any (fun p=>decide (p.1=s)))):=by
 unfold xU
 rw [hm]
 show kB P (sE l 0) ⟨el,⟨false,[.s]⟩⟩ (.str s) false k=_
 unfold kB
 have hk:rV ⟨el,⟨false,[.s]⟩⟩ (sE l 0) (.str s)=findKey ⟨false,[.s]⟩ (.str s) (sE l 0) 0:=rfl
 rw [hk]
 cases h:l.any (fun p=>decide (p.1=s)) with
 | false=>
  rw [(zZ s l 0 0 hv).1 h]
  dsimp only
  rw [hz]
 | true=>
  obtain⟨n,hn⟩:=(zZ s l 0 0 hv).2 h
  rw [hn]
def aAV (P:Program) (H:Hp) (b:Nat) (t:TypeId) (i v:AV) (k:Hp->Bool) (o:Option Blk):Bool:=match iT P t,o with
 | some mt,some (.map false es cl)=>match rV mt es i with
   | some (some (j,_))=>k (H.setb b (some (.map false (setVal v es j) cl)))
   | some none=>k (H.setb b (some (.map false (es++[(i,v,cl)]) (cl+1))))
   | none=>false
 | _,_=>false
@[go_sem ↓] theorem acD (t:TypeId) (b:Nat) (i v:AV) (k:Hp->Bool):dV P H t (.map b) i v k=aAV P H b t i v k (H.get b):=by
 unfold dV aAV
 cases iT P t with
 | none=>rfl
 | some mt=>
  dsimp only
  cases H.get b with
  | none=>rfl
  | some x=>
   cases x with
   | map ro es cl=>
    cases ro with
    | true=>rfl
    | false=>
     dsimp only
     cases rV mt es i with
     | none=>rfl
     | some o=>cases o with
      | none=>dsimp only;rw [bY,bQ,Hp.put_r]
      | some p=>obtain⟨j,w⟩:=p;dsimp only;rw [bY,Hp.put_r]
   | _=>rfl
@[congr] theorem alD {b:Nat} {t:TypeId} {i i' v v':AV} {k:Hp->Bool} {o o':Option Blk} (hi:i=i') (hv:v=v') (ho:o=o'):aAV P H b t i v k o=aAV P H b t i' v' k o':=by rw [hi,hv,ho]
@[congr] theorem aQX {t:TypeId} {m m' i i' v v':AV} {k:Hp->Bool} (hm:m=m') (hi:i=i') (hv:v=v'):dV P H t m i v k=dV P H t m' i' v' k:=by rw [hm,hi,hv]
theorem aPZ {t el:TypeId} {b:Nat} (hm:iT P t=some ⟨el,⟨false,[.s]⟩⟩) {l:List (List Nat×AV)} (hv:∀p∈l,p.2= .bool true) {s:List Nat} (h:l.any (fun p=>decide (p.1=s))=false) (v:AV) (k:Hp->Bool):
  aAV P H b t (.str s) v k (some (.map false (sE l 0) l.length))=k (H.setb b (some (.map false (sE (l++[(s,v)]) 0) (l++[(s,v)]).length))):=by
 unfold aAV
 rw [hm]
 dsimp only
 have hk:rV ⟨el,⟨false,[.s]⟩⟩ (sE l 0) (.str s)=findKey ⟨false,[.s]⟩ (.str s) (sE l 0) 0:=rfl
 rw [hk,(zZ s l 0 0 hv).1 h,aPC,Nat.zero_add,List.length_append,List.length_singleton]
end
end
end Go.Ev
namespace Go.S5
open Go.Ev Go.Proofs
theorem aOZ:iT P 155=some ⟨4,⟨false,[.s]⟩⟩:=by kernel_rfl
theorem zr4:zro P 4=some (.bool false):=by kernel_rfl
def xL (l:List mO):List (Str×AV):=l.map fun x=>(x.name,.bool true)
theorem aDJ (l:List mO):∀p∈xL l,p.2= .bool true:=fun p hp=>by
 obtain⟨x,_,rfl⟩:=List.mem_map.1 hp;rfl
theorem aJG (l:List mO) (s:Str):(xL l).any (fun p=>decide (p.1=s))=l.any (fun y=>decide (y.name=s)):=by
 simp [xL,List.any_map,Function.comp_def]
theorem aRJ (l:List mO) (x:mO):xL l++[(x.name,.bool true)]=xL (l++[x]):=by simp [xL]
theorem aaT {x:mO} (h1:iQ x.name=true) (h2: -60<=x.floor/\x.floor<=60):pE x=true:=by
 simp only [pE,inB,Bool.and_eq_true,decide_eq_true_eq]
 exact⟨h1,h2⟩
theorem bW {α:Type} {sz:Nat} {enc:α->List D} {xs:List α} {d:D} (h:Sl sz enc xs d):one (ofD d)=true:=by
 rcases h with⟨rfl,_⟩| rfl<;>rfl
theorem aUW (q:Nat):(1=q+2)=False:=by simp
def I31 (h:gP) (m:Nat) (e:En) (H:Hp):Prop:=∃n q:Nat,n<=h.rooms.length/\m=h.rooms.length - n/\e.dm=[]/\jH [] h.rooms=jH (h.rooms.take n) (h.rooms.drop n)/\E2.get e.t 35= .int .i64 n/\E2.get e.t 34= .int .i64 h.rooms.length/\E2.get e.t 33=ofD h.dr/\E2.get e.t 4= .map 1/\E2.get e.t 1= .ptr 0 0/\H.get 0=some (.cells (some 26) false (bD (cH h)))/\H.nx=q+2/\H.get 1=some (.map false (sE (xL (h.rooms.take n)) 0) (xL (h.rooms.take n)).length)
def a3O (h:gP) (m:Nat) (e:En) (H:Hp):Prop:=∃n q:Nat,n<=h.doors.length/\m=h.doors.length - n/\e.dm=[]/\(∀y∈h.doors.take n,mY y=true)/\E2.get e.t 67= .int .i64 n/\E2.get e.t 66= .int .i64 h.doors.length/\E2.get e.t 65=ofD h.dd/\E2.get e.t 1= .ptr 0 0/\H.get 0=some (.cells (some 26) false (bD (cH h)))/\H.nx=q+1
def a0Y (h:gP) (m:Nat) (e:En) (H:Hp):Prop:=∃n q:Nat,n<=h.ways.length/\m=h.ways.length - n/\e.dm=[]/\(∀y∈h.ways.take n,aGT h.rooms.length h.doors.length y=true)/\E2.get e.t 87= .int .i64 n/\E2.get e.t 86= .int .i64 h.ways.length/\E2.get e.t 85=ofD h.dw/\E2.get e.t 1= .ptr 0 0/\H.get 0=some (.cells (some 26) false (bD (cH h)))/\H.nx=q+1
theorem aRT (u:gP) (ho:tN u):CQ P G 31 [.agg (cH u)] (fun d=>∃i,d= .tup [.int .i64 (eV u),.int .i64 i]):=by
 obtain⟨hr,hrl,hnl,hd,hdl,hho,hhl,hsh,hsl,hw,hwl⟩:=ho
 refine CQ.enter hG ?_
 have h:=trivial;repeat' (first | simp (disch:=first|exact bk rfl|omega) only [go_sem,cH,h31,r31,aK hr jC,aK hd gR,aK hw nY,h]| ((first | apply aD | apply aE | apply aC)<;>intro h<;>(try simp only [spl] at h)))
 all_goals first
  | (refine aG (.tup [.int .i64 1,.int .i64 (-1)]) (tU ?_);simp only [eV];rw [if_pos (by omega)];done)
  | (refine aG (.tup [.int .i64 2,.int .i64 (-1)]) (tU ?_);simp only [eV];rw [if_neg (by omega),if_pos (by omega)];done)
  | skip
 have hE:∀v,v=(if jH [] u.rooms=0 then (if u.doors.all mY&&u.ways.all (aGT u.rooms.length u.doors.length) then 0 else 1) else jH [] u.rooms)->v=eV u:=fun v hv=>by
  simp only [eV];rw [if_neg (by omega),if_neg (by omega)];exact hv
 refine bA (I31 u) (fun m e H hi=> ?_) (m:=u.rooms.length) ?_
 rotate_left
 ·refine⟨0,0,Nat.zero_le _,rfl,rfl,rfl, ?_, ?_, ?_, ?_, ?_, ?_, ?_, ?_⟩<;>first | (first | rfl | (simp (disch:=first|exact bk rfl|omega) only [go_sem,cH]<;>rfl))| simp
 ·obtain⟨n,q,hn',rfl,hdm,hst,g35,g34,g33,g4,g1,hg0,hnx,hg1⟩:=hi
  obtain⟨t,dm⟩:=e
  dsimp only at hdm g35 g34 g33 g4 g1
  subst hdm
  simp only [cH,go_sem] at hg0
  refine bC 200 ?_
  rw [asT]
  by_cases hlt:n<u.rooms.length
  ·have hnm:=hnl _ (List.getElem_mem hlt)
   have h:=trivial;repeat' (first | simp (disch:=first|exact bk rfl|omega) only [go_sem,g35,g34,g33,g4,g1,hg0,hg1,hnx,aUW,aaA aOZ zr4 (aDJ _),aJG,aX hr jC aCS xT hlt,aY kD hlt,iN,Int.ofNat_lt,hlt,r31,h]| ((first | apply aD | apply aE | apply aC)<;>intro h<;>(try simp only [spl] at h))| (refine bE hG _ (aTE _ hnm) rfl ?_))
   all_goals first
    | (refine aG (.tup [.int .i64 1,.int .i64 n]) (tU (hE _ ?_));rw [hst,aCX hlt (by simp only [pE,inB,Bool.and_eq_false_iff,decide_eq_false_iff_not];first | (left;assumption)| (right;omega))];rfl)
    | skip
   all_goals have hB:pE u.rooms[n]=true:=aaT (by assumption) (by omega)
   all_goals first
    | (refine aG (.tup [.int .i64 6,.int .i64 n]) (tU (hE _ ?_));rw [hst,xO hlt hB (by assumption)];rfl)
    | skip
   rw [aPZ aOZ (aDJ _) (by rw [aJG];assumption),aRJ,fY hlt]
   refine aZ (m':=u.rooms.length - (n+1)) (by omega) ⟨n+1,q+1,by omega,rfl,rfl,by rw [hst,aIY hlt hB (by assumption)], ?_, ?_, ?_, ?_, ?_, ?_, ?_, ?_⟩<;>(first | rfl | (simp (disch:=first|exact bk rfl|omega) only [go_sem,g35,g34,g33,g4,g1,hg0,hg1,hnx,aUW,cH]<;>rfl))
  ·have h:=trivial;repeat' (first | simp (disch:=first|exact bk rfl|omega) only [go_sem,g35,g34,g33,g1,hg0,Int.ofNat_lt,hlt,apM,r31,aK hd gR,h]| ((first | apply aD | apply aE | apply aC)<;>intro h<;>(try simp only [spl] at h)))
   rw [List.drop_of_length_le (by omega)] at hst
   have h0:jH [] u.rooms=0:=hst
   refine bA (a3O u) (fun m e H hi=> ?_) (m:=u.doors.length) ?_
   rotate_left
   ·refine⟨0,q+1,Nat.zero_le _,rfl,rfl,fun x hx=>by simp at hx, ?_, ?_, ?_, ?_, ?_, ?_⟩<;>(first | rfl | (simp (disch:=first|exact bk rfl|omega) only [go_sem,g1,hg0,hnx,cH]<;>rfl))
   clear hn' hst g35 g34 g33 g4 g1 hg0 hg1 hnx hlt
   obtain⟨n,q,hn',rfl,hdm,ha,g67,g66,g65,g1,hg0,hnx⟩:=hi
   obtain⟨t,dm⟩:=e
   dsimp only at hdm g67 g66 g65 g1
   subst hdm
   simp only [cH,go_sem] at hg0
   refine bC 200 ?_
   rw [avM]
   by_cases hlt:n<u.doors.length
   ·have hm:=List.getElem_mem hlt
    have h:=trivial;repeat' (first | simp (disch:=first|exact bk rfl|omega) only [go_sem,g67,g66,g65,g1,hg0,hnx,aX hd gR vW tB hlt,aY cY hlt,eY,bW (hho _ hm),bW (hsh _ hm),Int.ofNat_lt,hlt,r31,h]| ((first | apply aD | apply aE | apply aC)<;>intro h<;>(try simp only [spl] at h))| (first | refine bE hG _ (aEE _ _ _ (hho _ hm) (by omega) (hhl _ hm)) rfl ?_ | refine bE hG _ (aEE _ _ _ (hsh _ hm) (by omega) (hsl _ hm)) rfl ?_))
    all_goals first
     | (refine aG (.tup [.int .i64 1,.int .i64 n]) (tU (hE _ ?_));rw [if_pos h0,uC hlt (by simp [mY, *])];rfl)
     | (refine aZ (m':=u.doors.length - (n+1)) (by omega) ⟨n+1,q+1,by omega,rfl,rfl,iP hlt ha (by simp [mY, *]), ?_, ?_, ?_, ?_, ?_, ?_⟩<;>(first | rfl | (simp (disch:=first|exact bk rfl|omega) only [go_sem,g67,g66,g65,g1,hg0,hnx,cH]<;>rfl)))
   ·have h:=trivial;repeat' (first | simp (disch:=first|exact bk rfl|omega) only [go_sem,g67,g66,g65,g1,hg0,hnx,Int.ofNat_lt,hlt,avP,r31,aK hw nY,h]| ((first | apply aD | apply aE | apply aC)<;>intro h<;>(try simp only [spl] at h)))
    have h2:=pR hlt ha
    refine bA (a0Y u) (fun m e H hi=> ?_) (m:=u.ways.length) ?_
    rotate_left
    ·refine⟨0,q,Nat.zero_le _,rfl,rfl,fun x hx=>by simp at hx, ?_, ?_, ?_, ?_, ?_, ?_⟩<;>(first | rfl | (simp (disch:=first|exact bk rfl|omega) only [go_sem,g1,hg0,hnx,cH]<;>rfl))
    clear hn' ha g67 g66 g65 g1 hg0 hlt hnx
    obtain⟨n,q,hn',rfl,hdm,ha,g87,g86,g85,g1,hg0,hnx⟩:=hi
    obtain⟨t,dm⟩:=e
    dsimp only at hdm g87 g86 g85 g1
    subst hdm
    simp only [cH,go_sem] at hg0
    refine bC 200 ?_
    rw [awZ]
    by_cases hlt:n<u.ways.length
    ·have h:=trivial;repeat' (first | simp (disch:=first|exact bk rfl|omega) only [go_sem,g87,g86,g85,g1,hg0,hnx,aX hw nY aPP aEG hlt,aY tL hlt,oD,Int.ofNat_lt,hlt,r31,aK hr jC,aK hd gR,h]| ((first | apply aD | apply aE | apply aC)<;>intro h<;>(try simp only [spl] at h))| (refine bE hG _ (aSX _ _) rfl ?_))
     all_goals simp only [fC,decide_eq_true_eq,decide_eq_false_iff_not] at *
     all_goals first
      | (refine aG (.tup [.int .i64 1,.int .i64 n]) (tU (hE _ ?_));rw [if_pos h0,h2,uC hlt (by simp only [aGT,decide_eq_false_iff_not];omega)];rfl)
      | (refine aZ (m':=u.ways.length - (n+1)) (by omega) ⟨n+1,q+1,by omega,rfl,rfl,iP hlt ha (by simp only [aGT,decide_eq_true_eq];omega), ?_, ?_, ?_, ?_, ?_, ?_⟩<;>(first | rfl | (simp (disch:=first|exact bk rfl|omega) only [go_sem,g87,g86,g85,g1,hg0,hnx,cH]<;>rfl)))
    ·have h:=trivial;repeat' (first | simp (disch:=first|exact bk rfl|omega) only [go_sem,g87,g86,g85,g1,hg0,hnx,Int.ofNat_lt,hlt,asE,r31,h]| ((first | apply aD | apply aE | apply aC)<;>intro h<;>(try simp only [spl] at h)))
     refine aG (.tup [.int .i64 0,.int .i64 (-1)]) (tU (hE _ ?_))
     rw [if_pos h0,h2,pR hlt ha];rfl
theorem qZ {nt:Nat} {b:Code} {ro:Option Nat} {k:AEx->En->Hp->Bool} {e:En} {H:Hp}
  (h:cI P G nt b ro e H (fun x e' H'=>aO x (fun _=>false) (fun x=>k x e' H'))=true):cI P G nt (.loop b) ro e H k=true:=by
 refine bA (fun m e' H'=>e'=e/\H'=H) (fun m e' H' hi=> ?_) (m:=0) ⟨rfl,rfl⟩
 obtain⟨rfl,rfl⟩:=hi
 refine aES (fun x e1 H1 hx=> ?_) h
 cases x<;>first | exact hx | cases hx
theorem jQ {t e:TypeId} (hu:P.underlying t=some (.slice e)) (H:Hp) (k:AV->Bool):bH P t .nils H k=k (.int .i64 0):=aK (xs:=([]:List Int)) (enc:=tP) (sz:=1) (d:= .nils) (.inl ⟨rfl,rfl⟩) hu
theorem oA:ofD D.nils=AV.nils:=rfl
theorem aSQ:((0:Int)<0)=False:=by simp
def aRK (s:dP):List D:=eO s++[.nils,.nils]
theorem aLF (s:dP) (hs:Sl 3 hZ s.stops s.ds) (hl:s.stops.length<=9223372036854775807):CQ P G 32 [.agg (aRK s)] (·= .int .i64 (gE s)):=by
 refine CQ.enter hG ?_
 have h:=trivial;repeat' (first | simp (disch:=first|exact bk rfl|omega) only [go_sem,aRK,eO,h32,r32,oA,aSQ,jQ anV,jQ aWH,List.cons_append,List.nil_append,Int.reduceLT,h]| ((first | apply aD | apply aE | apply aC)<;>intro h<;>(try simp only [spl] at h))| (refine bE hG _ (aBV s hs hl) rfl ?_))
 all_goals first
  | exact aG (.int .i64 (gE s)) rfl
  | skip
 all_goals refine qZ (bC 200 ?_)
 all_goals rw [arC]
 all_goals have h:=trivial;repeat' (first | simp (disch:=first|exact bk rfl|omega) only [go_sem,Int.reduceLT,oA,aSQ,aqY,r32,jQ aWH,h]| ((first | apply aD | apply aE | apply aC)<;>intro h<;>(try simp only [spl] at h)))
 all_goals refine qZ (bC 200 ?_)
 all_goals rw [avB]
 all_goals have h:=trivial;repeat' (first | simp (disch:=first|exact bk rfl|omega) only [go_sem,Int.reduceLT,oA,aSQ,aqB,r32,h]| ((first | apply aD | apply aE | apply aC)<;>intro h<;>(try simp only [spl] at h)))
 all_goals exact aG (.int .i64 0) rfl
theorem aOK (s:dP) (hs:Sl 3 hZ s.stops s.ds) (hl:s.stops.length<=9223372036854775807):CQ P G 42 [.agg (aRK s)] (·= .int .i64 (gE s)):=by
 refine CQ.enter hG ?_
 have h:=trivial;repeat' (first | simp (disch:=first|exact bk rfl|omega) only [go_sem,aRK,eO,h42,r42,oA,aSQ,jQ anV,jQ aWH,List.cons_append,List.nil_append,Int.reduceLT,h]| ((first | apply aD | apply aE | apply aC)<;>intro h<;>(try simp only [spl] at h))| (refine bE hG _ (aTF s hs hl) rfl ?_))
 all_goals first
  | exact aG (.int .i64 (gE s)) rfl
  | skip
 all_goals refine qZ (bC 200 ?_)
 all_goals rw [arN]
 all_goals have h:=trivial;repeat' (first | simp (disch:=first|exact bk rfl|omega) only [go_sem,Int.reduceLT,oA,aSQ,awX,r42,jQ anV,jQ aWH,h]| ((first | apply aD | apply aE | apply aC)<;>intro h<;>(try simp only [spl] at h)))
 all_goals refine qZ (bC 200 ?_)
 all_goals rw [arR]
 all_goals have h:=trivial;repeat' (first | simp (disch:=first|exact bk rfl|omega) only [go_sem,Int.reduceLT,oA,aSQ,asK,r42,jQ aWH,h]| ((first | apply aD | apply aE | apply aC)<;>intro h<;>(try simp only [spl] at h)))
 all_goals exact aG (.int .i64 0) rfl
def iW:Int->List Key->Bool
 | _,[]=>true
 | b,x::l=>if nC x then (if b<x.id then iW x.id l else false) else false
def iE (l:List Key):Bool:=iW 0 l&&decide (l.length<=40)
theorem abE (b:Bool):((if b=true then (0:Int) else 1)=0)=(b=true):=by cases b<;>simp
theorem aQR {x:Key} (h:nC x=true):1<=x.id:=by simp only [nC,decide_eq_true_eq] at h;omega
theorem mR {b:Int} {x:Key} {l:List Key} (h:nC x=false):iW b (x::l)=false:=by simp [iW,h]
theorem xN {b:Int} {x:Key} {l:List Key} (h:x.id<=b):iW b (x::l)=false:=by simp only [iW];rw [if_neg (by omega:¬b<x.id)];simp
theorem rF {b:Int} {x:Key} {l:List Key} (h1:nC x=true) (h:b<x.id):iW b (x::l)=iW x.id l:=by simp only [iW];rw [if_pos h1,if_pos h]
theorem yQ {l:List Key} {n:Nat} (h:n<l.length):∀k,n+1=k+1->∃h:k<l.length,l[k].id=l[n].id:=fun k hk=>by
 obtain rfl:n=k:=by omega
 exact⟨h,rfl⟩
def I43 (l:List Key) (d:D) (m:Nat) (e:En) (H:Hp):Prop:=∃(n:Nat) (b:Int),n<=l.length/\m=l.length - n/\e.dm=[]/\iW 0 l=iW b (l.drop n)/\
 (n=0->b=0)/\(∀k,n=k+1->∃h:k<l.length,l[k].id=b)/\E2.get e.t 3= .int .i64 n/\E2.get e.t 0=ofD d
def a3U (l:List Key) (d:D) (m:Nat) (e:En) (H:Hp):Prop:=∃(n:Nat) (b:Int),n<=l.length/\m=l.length - n/\e.dm=[]/\iW 0 l=iW b (l.drop n)/\
 (n=0->b=0)/\(∀k,n=k+1->∃h:k<l.length,l[k].id=b)/\E2.get e.t 10= .int .i64 n/\E2.get e.t 9= .int .i64 l.length/\E2.get e.t 8=ofD d/\E2.get e.t 0=ofD d
theorem aTK (l:List Key) (d:D) (hs:Sl 3 dJ l d) (hl:l.length<=9223372036854775807):CQ P G 43 [d] (·= .bool (iE l)):=by
 refine CQ.enter hG ?_
 have h:=trivial;repeat' (first | simp (disch:=first|exact bk rfl|omega) only [go_sem,h43,r43,aK hs gO,h]| ((first | apply aD | apply aE | apply aC)<;>intro h<;>(try simp only [spl] at h)))
 ·refine aG (.bool false) ?_
  congr 1;symm;simp only [iE];rw [decide_eq_false (by omega)];simp
 have hE:∀b,iW 0 l=b->D.bool b= .bool (iE l):=fun b hb=>by
  congr 1;simp only [iE];rw [decide_eq_true (by omega),hb];simp
 refine bA (I43 l d) (fun m e H hi=> ?_) (m:=l.length) ?_
 rotate_left
 ·exact⟨0,0,Nat.zero_le _,rfl,rfl,rfl,fun _=>rfl,fun k hk=>absurd hk (by omega),eg rfl rfl,eg rfl rfl⟩
 ·obtain⟨n,b,hn,rfl,hdm,ho,hb0,hb1,g3,g0⟩:=hi
  obtain⟨t,dm⟩:=e
  dsimp only at hdm g3 g0
  subst hdm
  refine bC 200 ?_
  rw [arY]
  by_cases hlt:n<l.length
  ·have hd:=fF hlt
   rcases Nat.eq_zero_or_pos n with hz | hz
   ·have hb:=hb0 hz
    have hgt:decide ((0:Int)<(n:Int))=false:=by rw [decide_eq_false_iff_not];omega
    have h:=trivial;repeat' (first | simp (disch:=first|exact bk rfl|omega) only [go_sem,g3,g0,hgt,aK hs gO,aX hs gO rK oV hlt,aY dR hlt,bL dR hlt (by decide:0<3),dJ,Int.ofNat_lt,hlt,r43,afN,afF,aeZ,agR,h]| ((first | apply aD | apply aE | apply aC)<;>intro h<;>(try simp only [spl] at h))| (refine bE hG _ (aIX l[n]) rfl ?_))
    all_goals first
     | (refine aG (.bool false) (hE _ ?_);rw [ho,hd];exact mR (by assumption))
     | (refine aZ (m':=l.length - (n+1)) (by omega) ⟨n+1,l[n].id,by omega,rfl,rfl,by rw [ho,hd];exact rF (by assumption) (by have:=aQR (by assumption:nC l[n]=true);omega),fun h=>absurd h (by omega),yQ hlt, ?_, ?_⟩<;>(first | rfl | (simp (disch:=first|exact bk rfl|omega) only [go_sem,g3,g0]<;>rfl)))
   ·obtain⟨k,hnk⟩:∃k,n=k+1:=⟨n - 1,by omega⟩
    obtain⟨hk,hkb⟩:=hb1 k hnk
    have hgt:decide ((0:Int)<(n:Int))=true:=by rw [decide_eq_true_eq];omega
    have hks:(n:Int) - 1=(k:Int):=by omega
    have h:=trivial;repeat' (first | simp (disch:=first|exact bk rfl|omega) only [go_sem,g3,g0,hgt,hks,hkb,aK hs gO,aX hs gO rK oV hlt,aY dR hlt,bL dR hlt (by decide:0<3),aX hs gO rK oV hk,bL dR hk (by decide:0<3),dJ,Int.ofNat_lt,hlt,r43,afN,afF,aeZ,agR,h]| ((first | apply aD | apply aE | apply aC)<;>intro h<;>(try simp only [spl] at h))| (refine bE hG _ (aIX l[n]) rfl ?_))
    all_goals first
     | (refine aG (.bool false) (hE _ ?_);rw [ho,hd];first | exact mR (by assumption)| exact xN (by omega))
     | (refine aZ (m':=l.length - (n+1)) (by omega) ⟨n+1,l[n].id,by omega,rfl,rfl,by rw [ho,hd];exact rF (by assumption) (by omega),fun h=>absurd h (by omega),yQ hlt, ?_, ?_⟩<;>(first | rfl | (simp (disch:=first|exact bk rfl|omega) only [go_sem,g3,g0]<;>rfl)))
  ·have h:=trivial;repeat' (first | simp (disch:=first|exact bk rfl|omega) only [go_sem,g3,g0,aK hs gO,Int.ofNat_lt,hlt,asR,r43,h]| ((first | apply aD | apply aE | apply aC)<;>intro h<;>(try simp only [spl] at h)))
   refine aG (.bool true) (hE _ ?_)
   rw [ho,List.drop_of_length_le (by omega)];rfl
theorem aMJ (l:List Key) (d:D) (hs:Sl 3 dJ l d) (hl:l.length<=9223372036854775807):CQ P G 154 [d] (·= .bool (iE l)):=by
 refine CQ.enter hG ?_
 have h:=trivial;repeat' (first | simp (disch:=first|exact bk rfl|omega) only [go_sem,a4J,acK,aK hs gO,h]| ((first | apply aD | apply aE | apply aC)<;>intro h<;>(try simp only [spl] at h)))
 ·refine aG (.bool false) ?_
  congr 1;symm;simp only [iE];rw [decide_eq_false (by omega)];simp
 have hE:∀b,iW 0 l=b->D.bool b= .bool (iE l):=fun b hb=>by
  congr 1;simp only [iE];rw [decide_eq_true (by omega),hb];simp
 refine bA (a3U l d) (fun m e H hi=> ?_) (m:=l.length) ?_
 rotate_left
 ·exact⟨0,0,Nat.zero_le _,rfl,rfl,rfl,fun _=>rfl,fun k hk=>absurd hk (by omega),eg rfl rfl,eg rfl rfl,eg rfl rfl,eg rfl rfl⟩
 ·obtain⟨n,b,hn,rfl,hdm,ho,hb0,hb1,g10,g9,g8,g0⟩:=hi
  obtain⟨t,dm⟩:=e
  dsimp only at hdm g10 g9 g8 g0
  subst hdm
  refine bC 200 ?_
  rw [ajC]
  by_cases hlt:n<l.length
  ·have hd:=fF hlt
   rcases Nat.eq_zero_or_pos n with hz | hz
   ·have hb:=hb0 hz
    have hgt:decide ((0:Int)<(n:Int))=false:=by rw [decide_eq_false_iff_not];omega
    have h:=trivial;repeat' (first | simp (disch:=first|exact bk rfl|omega) only [go_sem,g10,g9,g8,g0,hgt,aK hs gO,aX hs gO rK oV hlt,aY dR hlt,bL dR hlt (by decide:0<3),dJ,Int.ofNat_lt,hlt,acK,aVN,aXP,aZK,aXB,h]| ((first | apply aD | apply aE | apply aC)<;>intro h<;>(try simp only [spl] at h))| (refine bE hG _ (lX l[n]) rfl ?_))
    all_goals simp only [abE,Bool.not_eq_true] at *
    all_goals first
     | (refine aG (.bool false) (hE _ ?_);rw [ho,hd];exact mR (by assumption))
     | (refine aZ (m':=l.length - (n+1)) (by omega) ⟨n+1,l[n].id,by omega,rfl,rfl,by rw [ho,hd];exact rF (by assumption) (by have:=aQR (by assumption:nC l[n]=true);omega),fun h=>absurd h (by omega),yQ hlt, ?_, ?_, ?_, ?_⟩<;>(first | rfl | (simp (disch:=first|exact bk rfl|omega) only [go_sem,g10,g9,g8,g0]<;>rfl)))
   ·obtain⟨k,hnk⟩:∃k,n=k+1:=⟨n - 1,by omega⟩
    obtain⟨hk,hkb⟩:=hb1 k hnk
    have hgt:decide ((0:Int)<(n:Int))=true:=by rw [decide_eq_true_eq];omega
    have hks:(n:Int) - 1=(k:Int):=by omega
    have h:=trivial;repeat' (first | simp (disch:=first|exact bk rfl|omega) only [go_sem,g10,g9,g8,g0,hgt,hks,hkb,aK hs gO,aX hs gO rK oV hlt,aY dR hlt,bL dR hlt (by decide:0<3),aX hs gO rK oV hk,bL dR hk (by decide:0<3),dJ,Int.ofNat_lt,hlt,acK,aVN,aXP,aZK,aXB,h]| ((first | apply aD | apply aE | apply aC)<;>intro h<;>(try simp only [spl] at h))| (refine bE hG _ (lX l[n]) rfl ?_))
    all_goals simp only [abE,Bool.not_eq_true] at *
    all_goals first
     | (refine aG (.bool false) (hE _ ?_);rw [ho,hd];first | exact mR (by assumption)| exact xN (by omega))
     | (refine aZ (m':=l.length - (n+1)) (by omega) ⟨n+1,l[n].id,by omega,rfl,rfl,by rw [ho,hd];exact rF (by assumption) (by omega),fun h=>absurd h (by omega),yQ hlt, ?_, ?_, ?_, ?_⟩<;>(first | rfl | (simp (disch:=first|exact bk rfl|omega) only [go_sem,g10,g9,g8,g0]<;>rfl)))
  ·have h:=trivial;repeat' (first | simp (disch:=first|exact bk rfl|omega) only [go_sem,g10,g9,g8,g0,Int.ofNat_lt,hlt,anO,acK,h]| ((first | apply aD | apply aE | apply aC)<;>intro h<;>(try simp only [spl] at h)))
   refine aG (.bool true) (hE _ ?_)
   rw [ho,List.drop_of_length_le (by omega)];rfl
def axH (n:Nat):Bool:=Nat.beq n 0||(decide (0<=fU n (mJ n (0 - n)))&&decide (fU n (mJ n (0 - n))<n))
theorem aXC:((List.range 64).all fun a=>(List.range 64).all fun b=>axH (64 * a+b))=true:=by kernel_rfl
theorem aZM {n:Int} (h0:0<=n) (h1:n<=4095) (h2:n≠0):0<=fU n (mJ n (0 - n))/\fU n (mJ n (0 - n))<n:=by
 obtain⟨m,rfl⟩:∃m:Nat,n=m:=⟨n.toNat,by omega⟩
 have h:=List.all_eq_true.1 (List.all_eq_true.1 aXC (m/64) (List.mem_range.2 (by omega))) (m%64) (List.mem_range.2 (by omega))
 have e:64 * (m/64)+m%64=m:=by omega
 rw [e] at h
 unfold axH at h
 rcases (Bool.or_eq_true _ _).mp h with h | h
 ·have:=Nat.eq_of_beq_eq_true h
  omega
 ·rw [Bool.and_eq_true] at h
  exact⟨of_decide_eq_true h.1,of_decide_eq_true h.2⟩
theorem tI {n:Nat} (h:n<9223372036854775808):IntKind.wrap .i64 (n:Int)=n:=by rw [←qE];exact aBM (by omega)
theorem aTY (a:Int):0<=mJ a 1/\mJ a 1<=1:=by
 unfold mJ
 have h:((BitVec.ofInt 64 a)&&& (BitVec.ofInt 64 1)).toNat<=1:=by
  rw [BitVec.toNat_and]
  exact Nat.and_le_right
 rw [tI (by omega)]
 omega
theorem zD {a b:Int} (h0:0<=a) (h1:a<=4095):0<=fU a b/\fU a b<=4095:=by
 unfold fU
 have h:((BitVec.ofInt 64 a)&&& ~~~(BitVec.ofInt 64 b)).toNat<=4095:=by
  rw [BitVec.toNat_and]
  refine Nat.le_trans Nat.and_le_left ?_
  rw [BitVec.toNat_ofInt]
  omega
 rw [tI (by omega)]
 omega
theorem qY {t e:TypeId} {n:Nat} {z:List AV} {k:AV->Bool} (h1:zro P t=some (.agg z)) (h2:P.underlying t=some (.array n e)) (h3:(P.info? e).isSome=true) (ps:List (Nat×AV)):bO P t ps k=oT (oN (P.cellsOf e) ps z) k:=by
 unfold bO
 rw [h1,h2]
 dsimp only
 rw [h3]
 dsimp only
 cases oN (P.cellsOf e) ps z with
 | none=>rfl
 | some cs=>exact bY _ _
theorem aiX (x y:Int) (k:AV->Bool):bO P 278 [(0,.int .i64 x),(1,.int .i64 y)] k=k (.agg [.int .i64 x,.int .i64 y]):=by
 rw [qY (z:=[.int .i64 0,.int .i64 0]) (by kernel_rfl) atN in3,ce3]
 rfl
theorem abU (x y:Int) (k:AV->Bool):dM P 278 (.agg [.int .i64 x,.int .i64 y]) (.int .i64 0) k=k (.int .i64 x):=by kernel_rfl
theorem adC (x y:Int) (k:AV->Bool):dM P 278 (.agg [.int .i64 x,.int .i64 y]) (.int .i64 1) k=k (.int .i64 y):=by kernel_rfl
def a0F (a:Int) (m:Nat) (e:En) (H:Hp):Prop:=∃(n:Nat) (c:Int),n<=12/\m=12 - n/\0<=c/\c<=n/\e.dm=[]/\E2.get e.t 5= .int .i64 n/\E2.get e.t 3= .int .i64 c/\E2.get e.t 0= .int .i64 a
theorem aLY (a:Int):CQ P G 303 [.int .i64 a] (fun d=>∃c:Int,d= .int .i64 c/\0<=c/\c<=12):=by
 refine CQ.enter hG ?_
 have h:=trivial;repeat' (first | simp (disch:=first|exact bk rfl|omega) only [go_sem,a5D,ahW,h]| ((first | apply aD | apply aE | apply aC)<;>intro h<;>(try simp only [spl] at h)))
 refine bA (a0F a) (fun m e H hi=> ?_) (m:=12) ?_
 rotate_left
 ·exact⟨0,0,by omega,rfl,by omega,by omega,rfl,eg rfl rfl,eg rfl rfl,eg rfl rfl⟩
 ·obtain⟨n,c,hn,rfl,hc0,hcn,hdm,g5,g3,g0⟩:=hi
  obtain⟨t,dm⟩:=e
  dsimp only at hdm g5 g3 g0
  subst hdm
  refine bC 200 ?_
  rw [amD]
  have hb:=aTY (adO a n)
  by_cases hlt:n<12
  ·have h1:decide ((n:Int)<12)=true:=by rw [decide_eq_true_eq];omega
   have h:=trivial;repeat' (first | simp (disch:=first|exact bk rfl|omega) only [go_sem,g5,g3,g0,h1,ahW,h]| ((first | apply aD | apply aE | apply aC)<;>intro h<;>(try simp only [spl] at h)))
   refine aZ (m':=12 - (n+1)) (by omega) ⟨n+1,c+mJ (adO a n) 1,by omega,rfl,by omega,by omega,rfl, ?_, ?_, ?_⟩<;>(first | rfl | (simp (disch:=first|exact bk rfl|omega) only [go_sem,g5,g3,g0]<;>rfl))
  ·have h1:decide ((n:Int)<12)=false:=by rw [decide_eq_false_iff_not];omega
   have h:=trivial;repeat' (first | simp (disch:=first|exact bk rfl|omega) only [go_sem,g5,g3,g0,h1,alC,ahW,h]| ((first | apply aD | apply aE | apply aC)<;>intro h<;>(try simp only [spl] at h)))
   exact aG (.int .i64 c) ⟨c,rfl,by omega,by omega⟩
theorem aFZ (a b c:Int) (i:Ink):CQ P G 254 [.int .i64 a,.int .i64 b,.int .i64 c,.agg (iI i)] (fun d=>∃r,d= .bool r):=by
 refine CQ.enter hG ?_
 have h:=trivial;repeat' (first | simp (disch:=first|exact bk rfl|omega) only [go_sem,iI,a5B,a0N,aiI,ajL,h]| ((first | apply aD | apply aE | apply aC)<;>intro h<;>(try simp only [spl] at h))| ((refine cS hG _ (aLY _) rfl ?_;intro d hd;obtain⟨c,rfl,hc⟩:=hd)))
 all_goals exact aG (.bool _) ⟨_,rfl⟩
structure avU (k0 k1 k2:List AV) (t:E2) (H:Hp):Prop where
 t3:E2.get t 3= .ptr 0 0
 t4:E2.get t 4= .ptr 1 0
 t5:E2.get t 5= .ptr 2 0
 t6:E2.get t 6= .ptr 3 0
 b0:H.get 0=some (.cells (some 96) false k0)
 b1:H.get 1=some (.cells (some 96) false k1)
 b2:H.get 2=some (.cells (some 33) false k2)
 b3:H.get 3=some (.cells (some 50) false [.int .i64 0,.int .i64 0,.int .i64 0,.int .i64 0,.int .i64 0])
 nx:H.nx=4
 t8:∃v:Int,E2.get t 8= .int .i64 v
def a1L (k0 k1 k2:List AV) (x y:Int) (m:Nat) (e:En) (H:Hp):Prop:=∃n:Nat,n<=2/\m=2 - n/\e.dm=[]/\avU k0 k1 k2 e.t H/\E2.get e.t 50= .agg [.int .i64 x,.int .i64 y]/\E2.get e.t 51= .int .i64 n
def aqZ (k0 k1 k2:List AV) (x y:Int) (n:Nat) (m:Nat) (e:En) (H:Hp):Prop:=∃o f:Int,0<=o/\o<=4095/\0<=f/\f<=4/\m=o.toNat/\e.dm=[]/\avU k0 k1 k2 e.t H/\E2.get e.t 50= .agg [.int .i64 x,.int .i64 y]/\E2.get e.t 51= .int .i64 n/\E2.get e.t 10= .int .i64 o/\E2.get e.t 11= .int .i64 f
theorem zU {H:Hp} (m:dO) (r:Bool):kU (fun d=>∃m r,d=D.tup [D.agg (bS m),D.bool r]) (.ret (ofD (.tup [.agg (bS m),.bool r]))) H=true:=aG _ ⟨m,r,rfl⟩
theorem aFS (a b:Key) (i:Ink):CQ P G 216 [.agg (dJ a),.agg (dJ b),.agg (iI i)] (fun d=>∃m r,d= .tup [.agg (bS m),.bool r]):=by
 refine CQ.enter hG ?_
 have h:=trivial;repeat' (first | simp (disch:=first|exact bk rfl|omega) only [go_sem,dJ,iI,a4U,aUU,oX,aiX,h]| ((first | apply aD | apply aE | apply aC)<;>intro h<;>(try simp only [spl] at h))| (first | refine bE hG _ (lX a) rfl ?_ | refine bE hG _ (lX b) rfl ?_ | refine bE hG _ (zW i) rfl ?_))
 all_goals try simp only [abE,Bool.not_eq_true] at *
 all_goals first
  | exact zU ⟨⟨0,0⟩,0,0,0⟩ false
  | skip
 rename_i ht ha hb
 have hi:=h
 have hpa:1<=a.pattern/\a.pattern<=4095:=by simp only [nC,decide_eq_true_eq] at ha;omega
 have hpb:1<=b.pattern/\b.pattern<=4095:=by simp only [nC,decide_eq_true_eq] at hb;omega
 have hif:0<=i.faint/\i.faint<=4:=by simp only [mP,decide_eq_true_eq] at hi;omega
 have hx:=zD (b:=b.pattern) (by omega:0<=a.pattern) hpa.2
 have hy:=zD (b:=a.pattern) (by omega:0<=b.pattern) hpb.2
 generalize fU a.pattern b.pattern=x at *
 generalize fU b.pattern a.pattern=y at *
 refine bA (a1L [.int .i64 a.id,.int .i64 b.track,.int .i64 a.pattern] [.int .i64 b.id,.int .i64 b.track,.int .i64 b.pattern] [.int .i64 i.faint,.int .i64 i.stray,.int .i64 i.slip] x y) (fun m e H hi=> ?_) (m:=2) ?_
 rotate_left
 ·refine⟨0,by omega,rfl,rfl,⟨?_, ?_, ?_, ?_, ?_, ?_, ?_, ?_, ?_,⟨mJ a.pattern b.pattern, ?_⟩⟩, ?_, ?_⟩<;>(first | rfl | (simp (disch:=first|exact bk rfl|omega) only [go_sem]<;>rfl))
 ·obtain⟨n,hn,rfl,hdm,⟨g3,g4,g5,g6,b0,b1,b2,b3,nx,v,g8⟩,g50,g51⟩:=hi
  obtain⟨t,dm⟩:=e
  dsimp only at hdm g3 g4 g5 g6 g8 g50 g51
  subst hdm
  refine bC 200 ?_
  rw [ajG]
  by_cases hlt:n<2
  ·have h1:decide ((n:Int)<2)=true:=by rw [decide_eq_true_eq];omega
   obtain⟨z,hz0,hz1,hz⟩:∃z:Int,0<=z/\z<=4095/\∀k:AV->Bool,dM P 278 (.agg [.int .i64 x,.int .i64 y]) (.int .i64 n) k=k (.int .i64 z):=by
    rcases (by omega:n=0∨n=1) with rfl | rfl
    ·exact⟨x,hx.1,hx.2,fun k=>abU x y k⟩
    ·exact⟨y,hy.1,hy.2,fun k=>adC x y k⟩
   have h:=trivial;repeat' (first | simp (disch:=first|exact bk rfl|omega) only [go_sem,g3,g4,g5,g6,b0,b1,b2,b3,nx,g8,g50,g51,h1,hz,aUU,h]| ((first | apply aD | apply aE | apply aC)<;>intro h<;>(try simp only [spl] at h)))
   refine bA (aqZ [.int .i64 a.id,.int .i64 b.track,.int .i64 a.pattern] [.int .i64 b.id,.int .i64 b.track,.int .i64 b.pattern] [.int .i64 i.faint,.int .i64 i.stray,.int .i64 i.slip] x y n) (fun m e H hi=> ?_) (m:=z.toNat) ?_
   rotate_left
   ·refine⟨z,0,hz0,hz1,by omega,by omega,rfl,rfl,⟨?_, ?_, ?_, ?_,b0,b1,b2,b3,nx,⟨v, ?_⟩⟩, ?_, ?_, ?_, ?_⟩<;>(first | rfl | (simp (disch:=first|exact bk rfl|omega) only [go_sem,g3,g4,g5,g6,g8,g50,g51]<;>rfl))
   clear g3 g4 g5 g6 b0 b1 b2 b3 nx g8 g50 g51
   obtain⟨o,f,ho0,ho1,hf0,hf1,rfl,hdm,⟨g3,g4,g5,g6,b0,b1,b2,b3,nx,v,g8⟩,g50,g51,g10,g11⟩:=hi
   obtain⟨t,dm⟩:=e
   dsimp only at hdm g3 g4 g5 g6 g8 g50 g51 g10 g11
   subst hdm
   refine bC 200 ?_
   rw [akN]
   by_cases hz:o=0
   ·subst hz
    have h:=trivial;repeat' (first | simp (disch:=first|exact bk rfl|omega) only [go_sem,g3,g4,g5,g6,b0,b1,b2,b3,nx,g8,g50,g51,g10,g11,aXY,aUU,h]| ((first | apply aD | apply aE | apply aC)<;>intro h<;>(try simp only [spl] at h)))
    refine aZ (m':=2 - (n+1)) (by omega) ⟨n+1,by omega,rfl,rfl,⟨?_, ?_, ?_, ?_,b0,b1,b2,b3,nx,⟨v, ?_⟩⟩, ?_, ?_⟩<;>(first | rfl | (simp (disch:=first|exact bk rfl|omega) only [go_sem,g3,g4,g5,g6,g8,g50,g51]<;>rfl))
   ·have hp:=aZM ho0 ho1 hz
    have h:=trivial;repeat' (first | simp (disch:=first|exact bk rfl|omega) only [go_sem,g3,g4,g5,g6,b0,b1,b2,b3,nx,g8,g50,g51,g10,g11,hz,aXY,aUU,h]| ((first | apply aD | apply aE | apply aC)<;>intro h<;>(try simp only [spl] at h)))
    all_goals first
     | (refine aZ (m':=(fU o (mJ o (0 - o))).toNat) (by omega) ⟨fU o (mJ o (0 - o)),f+1,by omega,by omega,by omega,by omega,rfl,rfl,⟨?_, ?_, ?_, ?_,b0,b1,b2,b3,nx,⟨v, ?_⟩⟩, ?_, ?_, ?_, ?_⟩<;>(first | rfl | (simp (disch:=first|exact bk rfl|omega) only [go_sem,g3,g4,g5,g6,g8,g50,g51,g10,g11]<;>rfl)))
     | (refine aZ (m':=(fU o (mJ o (0 - o))).toNat) (by omega) ⟨fU o (mJ o (0 - o)),f,by omega,by omega,by omega,by omega,rfl,rfl,⟨?_, ?_, ?_, ?_,b0,b1,b2,b3,nx,⟨bOr v (mJ o (0 - o)), ?_⟩⟩, ?_, ?_, ?_, ?_⟩<;>(first | rfl | (simp (disch:=first|exact bk rfl|omega) only [go_sem,g3,g4,g5,g6,g8,g50,g51,g10,g11]<;>rfl)))
  ·have h1:decide ((n:Int)<2)=false:=by rw [decide_eq_false_iff_not];omega
   have h:=trivial;repeat' (first | simp (disch:=first|exact bk rfl|omega) only [go_sem,g3,g4,g5,g6,b0,b1,b2,b3,nx,g8,g50,g51,h1,akD,aUU,oX,h]| ((first | apply aD | apply aE | apply aC)<;>intro h<;>(try simp only [spl] at h))| ((refine cS hG _ (aFZ _ _ _ i) rfl ?_;intro d hd;obtain⟨r,rfl⟩:=hd)))
   all_goals first
    | exact zU ⟨⟨0,0⟩,0,0,0⟩ false
    | exact zU ⟨⟨0,0⟩,b.track,v,fU 4095 v⟩ true
theorem yI (a b:Key) (i:Ink):CQ P G 159 [.agg (dJ a),.agg (dJ b),.agg (iI i)] (fun d=>∃r,d= .bool r):=by
 refine CQ.enter hG ?_
 have h:=trivial;repeat' (first | simp (disch:=first|exact bk rfl|omega) only [go_sem,dJ,iI,a1W,h]| ((first | apply aD | apply aE | apply aC)<;>intro h<;>(try simp only [spl] at h)))
 refine cS hG [.agg (dJ a),.agg (dJ b),.agg (iI i)] (aFS a b i) rfl fun d hd=> ?_
 obtain⟨m,r,rfl⟩:=hd
 have h:=trivial;repeat' (first | simp (disch:=first|exact bk rfl|omega) only [go_sem,bS,h]| ((first | apply aD | apply aE | apply aC)<;>intro h<;>(try simp only [spl] at h)))
 exact aG (.bool r) ⟨r,rfl⟩
theorem aFR (a b:Key) (i:Ink):CQ P G 158 [.agg (dJ a),.ptr (dJ b) 0,.ptr (iI i) 0] (fun d=>∃r,d= .bool r):=by
 refine CQ.enter hG ?_
 have h:=trivial;repeat' (first | simp (disch:=first|exact bk rfl|omega) only [go_sem,dJ,iI,a4R,h]| ((first | apply aD | apply aE | apply aC)<;>intro h<;>(try simp only [spl] at h)))
 refine cS hG [.agg (dJ a),.agg (dJ b),.agg (iI i)] (yI a b i) rfl fun d hd=> ?_
 obtain⟨r,rfl⟩:=hd
 exact aG (.bool r) ⟨r,rfl⟩
def axQ (xs:List Key) (d:D) (g:FuncId) (cap:List D) (m:Nat) (e:En) (H:Hp):Prop:=∃n:Nat,n<=xs.length/\m=xs.length - n/\e.dm=[]/\E2.get e.t 7=ofD d/\E2.get e.t 9= .int .i64 n/\E2.get e.t 8= .int .i64 xs.length/\E2.get e.t 1= .fn g [] (bD cap)/\E2.get e.t 0=ofD d
theorem aYD (xs:List Key) (d:D) (hs:Sl 3 dJ xs d) (hl:xs.length<=9223372036854775807) (g:FuncId) (cap:List D) (h1:jN P g=false) (h2:iF P g=true)
  (hp:∀x∈xs,CQ P G g (.agg (dJ x)::cap) (fun d=>∃r,d= .bool r)):CQ P G 157 [d,.fn g [] cap] (fun d=>∃n:Int,d= .int .i64 n/\ -1<=n/\n<xs.length):=by
 refine CQ.enter hG ?_
 have h:=trivial;repeat' (first | simp (disch:=first|exact bk rfl|omega) only [go_sem,auO,aK hs gO,h]| ((first | apply aD | apply aE | apply aC)<;>intro h<;>(try simp only [spl] at h)))
 refine bA (axQ xs d g cap) (fun m e H hi=> ?_) (m:=xs.length) ?_
 ·obtain⟨n,hn,rfl,hdm,g7,g9,g8,g1,g0⟩:=hi
  obtain⟨t,dm⟩:=e
  dsimp only at hdm g7 g9 g8 g1 g0
  subst hdm
  refine bC 200 ?_
  rw [aZU]
  by_cases hlt:n<xs.length
  ·have h:=trivial;repeat' (first | simp (disch:=first|exact bk rfl|omega) only [go_sem,g7,g9,g8,g1,g0,aX hs gO rK oV hlt,aY dR hlt,dJ,Int.ofNat_lt,hlt,aNQ,wQ h1 h2,h]| ((first | apply aD | apply aE | apply aC)<;>intro h<;>(try simp only [spl] at h)))
   refine cS hG (.agg (dJ xs[n])::cap) (hp _ (List.getElem_mem hlt)) rfl fun d' hd=> ?_
   obtain⟨r,rfl⟩:=hd
   cases r with
   | true=>
    have h:=trivial;repeat' (first | simp (disch:=first|exact bk rfl|omega) only [go_sem,aNQ,h]| ((first | apply aD | apply aE | apply aC)<;>intro h<;>(try simp only [spl] at h)))
    exact aG (.int .i64 n) ⟨n,rfl,by omega,by omega⟩
   | false=>
    have h:=trivial;repeat' (first | simp (disch:=first|exact bk rfl|omega) only [go_sem,aNQ,h]| ((first | apply aD | apply aE | apply aC)<;>intro h<;>(try simp only [spl] at h)))
    refine aZ (m':=xs.length - (n+1)) (by omega) ⟨n+1,by omega,rfl,rfl, ?_, ?_, ?_, ?_, ?_⟩<;>(first | rfl | (simp (disch:=first|exact bk rfl|omega) only [go_sem,g7,g9,g8,g1,g0]<;>rfl))
  ·have h:=trivial;repeat' (first | simp (disch:=first|exact bk rfl|omega) only [go_sem,g7,g9,g8,g1,Int.ofNat_lt,hlt,aXA,aNQ,h]| ((first | apply aD | apply aE | apply aC)<;>intro h<;>(try simp only [spl] at h)))
   exact aG (.int .i64 (-1)) ⟨-1,rfl,by omega,by omega⟩
 ·exact⟨0,Nat.zero_le _,rfl,rfl,eg rfl rfl,eg rfl rfl,eg rfl rfl,eg rfl rfl,eg rfl rfl⟩
def wT (l:List Key) (k:Key) (i:Ink):Bool:=iE l&&nC k&&mP i
theorem aRV (l:List Key) (dl:D) (k:Key) (i:Ink) (hs:Sl 3 dJ l dl) (hl:l.length<=9223372036854775807):CQ P G 87 [dl,.agg (dJ k),.agg (iI i)] (fun d=>∃n e:Int,d= .tup [.int .i64 n,.int .i64 e]/\(decide (e=1))= !wT l k i):=by
 refine CQ.enter hG ?_
 have h:=trivial;repeat' (first | simp (disch:=first|exact bk rfl|omega) only [go_sem,dJ,iI,h87,h]| ((first | apply aD | apply aE | apply aC)<;>intro h<;>(try simp only [spl] at h))| (first | refine bE hG _ (aMJ l dl hs hl) rfl ?_ | refine bE hG _ (lX k) rfl ?_ | refine bE hG _ (zW i) rfl ?_))
 all_goals try simp only [abE,Bool.not_eq_true] at *
 all_goals first
  | (refine aG (.tup [.int .i64 0,.int .i64 1]) ⟨0,1,rfl, ?_⟩;simp [wT, *];done)
  | skip
 refine aJM hG (aYD l dl hs hl 158 [.ptr (dJ k) 0,.ptr (iI i) 0] (by kernel_rfl) (by kernel_rfl) (fun x _=>aFR x k i)) (.cons _ _ [] _ _ _ (.fro dl) (.cons _ _ _ _ _ [] (.fn 158 [] [.ptr 0 0,.ptr 1 0] [] [.ptr (dJ k) 0,.ptr (iI i) 0] [] _ .nil (.cons _ _ _ _ _ _ (.ptr 0 0 _ _ _ _ _ (by first | rfl | (simp (disch:=first|exact bk rfl|omega) only [go_sem]<;>rfl)) (.fro (dJ k))) (.cons _ _ _ _ _ [] (.ptr 1 0 _ _ _ _ _ (by first | rfl | (simp (disch:=first|exact bk rfl|omega) only [go_sem]<;>rfl)) (.fro (iI i))) .nil))) .nil)) (fun d hd=> ?_)
 obtain⟨n,rfl,h1,h2⟩:=hd
 refine⟨.inr rfl, ?_⟩
 by_cases hn:n<0
 ·have h:=trivial;repeat' (first | simp (disch:=first|exact bk rfl|omega) only [go_sem,hn,h]| ((first | apply aD | apply aE | apply aC)<;>intro h<;>(try simp only [spl] at h)))
  exact aG (.tup [.int .i64 0,.int .i64 5]) ⟨0,5,rfl,by simp [wT, *]⟩
 ·obtain⟨q,rfl⟩:∃q:Nat,n=q:=⟨n.toNat,by omega⟩
  have hq:q<l.length:=by omega
  have h0:((q:Int)<0)=False:=by simp
  have h:=trivial;repeat' (first | simp (disch:=first|exact bk rfl|omega) only [go_sem,h0,aX hs gO rK oV hq,bL dR hq (by decide:0<3),dJ,h]| ((first | apply aD | apply aE | apply aC)<;>intro h<;>(try simp only [spl] at h)))
  exact aG (.tup [.int .i64 l[q].id,.int .i64 0]) ⟨_,0,rfl,by simp [wT, *]⟩
def aTW:Key:=⟨1,0,1⟩
theorem aRR (c:cJ) (hs:Sl 3 dJ c.keys c.dk) (hl:c.keys.length<=9223372036854775807):CQ P G 33 [.agg (bI c)] (·= .bool (iE c.keys&&mP c.ink)):=by
 refine CQ.enter hG ?_
 have h:=trivial;repeat' (first | simp (disch:=first|exact bk rfl|omega) only [go_sem,bG,h33,a3N,h]| ((first | apply aD | apply aE | apply aC)<;>intro h<;>(try simp only [spl] at h)))
 refine cS hG [c.dk,.agg (dJ aTW),.agg (iI c.ink)] (aRV c.keys c.dk aTW c.ink hs hl) rfl fun d hd=> ?_
 obtain⟨n,e,rfl,he⟩:=hd
 have h:=trivial;repeat' (first | simp (disch:=first|exact bk rfl|omega) only [go_sem,h]| ((first | apply aD | apply aE | apply aC)<;>intro h<;>(try simp only [spl] at h)))
 refine aG (.bool _) ?_
 congr 1
 have hk:nC aTW=true:=by simp [nC,aTW]
 have:wT c.keys aTW c.ink=(iE c.keys&&mP c.ink):=by simp [wT,hk]
 rw [←this,he,Bool.not_not]
inductive dC:aF->Prop where
 | mk (kind:Int) (names:List Str) (dn:D) (gap:bU) (most lo hi:Int) (kids:List aF) (dk:D) (hn:Sl 1 fH names dn) (hnl:names.length<=9223372036854775807)
   (hl:∀s∈names,s.length<=9223372036854775807) (hk:Sl 8 aV kids dk) (hkl:kids.length<=9223372036854775807) (ho:∀k∈kids,dC k):dC (.mk kind names dn gap most lo hi kids dk)
mutual
def tO:aF->Nat
 | .mk _ _ _ _ _ _ _ kids _=>1+tOs kids
def tOs:List aF->Nat
 | []=>0
 | o::l=>tO o+tOs l
end
mutual
def hO:aF->Nat
 | .mk _ _ _ _ _ _ _ kids _=>1+hOs kids
def hOs:List aF->Nat
 | []=>0
 | o::l=>max (hO o) (hOs l)
end
theorem aUE (o:aF):1<=tO o:=by cases o;rw [tO];omega
theorem aFX:∀(a b:List aF),tOs (a++b)=tOs a+tOs b
 | [],b=>by simp [tOs]
 | o::a,b=>by
  show tOs (o::(a++b))=_
  rw [tOs,tOs,aFX a b];omega
theorem aKI {l:List aF} {n:Nat} (h:n<l.length):tOs (l.take (n+1))=tOs (l.take n)+tO l[n]:=by
 rw [←fY h,aFX];simp [tOs]
theorem aXM (l:List aF) (n:Nat):tOs (l.take n)<=tOs l:=by
 have:=aFX (l.take n) (l.drop n)
 rw [List.take_append_drop] at this
 omega
theorem cG:∀x:aF,(aV x).length=8:=fun _=>rfl
def I22 (o:aF) (most:Int) (m:Nat) (e:En) (H:Hp):Prop:=∃(n:Nat) (v:Int),n<=o.kids.length/\m=o.kids.length - n/\e.dm=[]/\v=min (1+(tOs (o.kids.take n):Int)) most/\E2.get e.t 6= .int .i64 n/\E2.get e.t 5= .int .i64 v/\E2.get e.t 1= .int .i64 most/\E2.get e.t 2= .ptr 0 0/\H.get 0=some (.cells (some 40) false (bD (aV o)))
theorem aKG {o:aF} (ho:dC o):∀most:Int,1<=most->most<=1000000->CQ P G 22 [.agg (aV o),.int .i64 most] (·= .int .i64 (min (tO o:Int) most)):=by
 induction ho with
 | mk kind names dn gap ms lo hi kids dk hn hnl hl hk hkl ho ih=>
  intro most hm1 hm2
  refine CQ.enter hG ?_
  have h:=trivial;repeat' (first | simp (disch:=first|exact bk rfl|omega) only [go_sem,aV,aF.kind,aF.names,aF.dn,aF.gap,aF.most,aF.lo,aF.hi,aF.kids,aF.dk,h22,r22,h]| ((first | apply aD | apply aE | apply aC)<;>intro h<;>(try simp only [spl] at h)))
  refine bA (I22 (.mk kind names dn gap ms lo hi kids dk) most) (fun m e H hi=> ?_) (m:=kids.length) ?_
  rotate_left
  ·refine⟨0,1,Nat.zero_le _,rfl,rfl,by simp [aF.kids,tOs];omega, ?_, ?_, ?_, ?_, ?_⟩<;>(first | rfl | (simp (disch:=first|exact bk rfl|omega) only [go_sem,aV]<;>rfl))
  ·obtain⟨n,v,hn',rfl,hdm,hv,g6,g5,g1,g2,hg0⟩:=hi
   obtain⟨t,dm⟩:=e
   dsimp only [aF.kids] at hn' hv hdm g6 g5 g1 g2 hg0
   subst hdm
   simp only [aV,aF.kind,aF.names,aF.dn,aF.gap,aF.most,aF.lo,aF.hi,aF.kids,aF.dk,go_sem] at hg0
   refine bC 200 ?_
   rw [apK]
   have hend:∀w:Int,w=v->(¬n<kids.length∨¬v<most)->(D.int .i64 w= .int .i64 (min (tO (.mk kind names dn gap ms lo hi kids dk):Int) most)):=fun w hw hc=>by
    subst hw
    congr 1
    rw [tO,hv]
    have h1:=aXM kids n
    rcases hc with hc | hc
    ·rw [List.take_of_length_le (by omega)];simp
    ·omega
   by_cases hlt:n<kids.length
   ·have hih:=ih _ (List.getElem_mem hlt)
    have htk:=aKI hlt
    have htp:=aUE kids[n]
    have h:=trivial;repeat' (first | simp (disch:=first|exact bk rfl|omega) only [go_sem,g6,g5,g1,g2,hg0,aK hk dS,aX hk dS mM kC hlt,aY cG hlt,aV,Int.ofNat_lt,hlt,r22,afA,h]| ((first | apply aD | apply aE | apply aC)<;>intro h<;>(try simp only [spl] at h))| (refine bE hG _ (hih (most - v) (by omega) (by omega)) rfl ?_))
    ·refine aZ (m':=kids.length - (n+1)) (by simp only [aF.kids];omega) ⟨n+1,v+min (tO kids[n]:Int) (most - v),by simp only [aF.kids];omega,rfl,rfl,by simp only [aF.kids];rw [htk];omega, ?_, ?_, ?_, ?_, ?_⟩<;>(first | rfl | (simp (disch:=first|exact bk rfl|omega) only [go_sem,g6,g5,g1,g2,hg0,aV,aF.kind,aF.names,aF.dn,aF.gap,aF.most,aF.lo,aF.hi,aF.kids,aF.dk]<;>rfl))
    ·exact aG (.int .i64 v) (hend v rfl (.inr h))
   ·have h:=trivial;repeat' (first | simp (disch:=first|exact bk rfl|omega) only [go_sem,g6,g5,g1,g2,hg0,aK hk dS,Int.ofNat_lt,hlt,r22,afA,h]| ((first | apply aD | apply aE | apply aC)<;>intro h<;>(try simp only [spl] at h)))
    exact aG (.int .i64 v) (hend v rfl (.inl hlt))
theorem amW (o:aF):1<=hO o:=by cases o;rw [hO];omega
theorem aZT {l:List aF} {d:Int}:(∀o∈l,(hO o:Int)<=d)->0<=d->(hOs l:Int)<=d:=by
 induction l with
 | nil=>intro _ h;rw [hOs];exact h
 | cons o l ih=>
  intro h h0
  rw [hOs]
  have h1:=h o List.mem_cons_self
  have h2:=ih (fun x hx=>h x (List.mem_cons_of_mem _ hx)) h0
  omega
theorem aWL {l:List aF} {o:aF} (h:o∈l):hO o<=hOs l:=by
 induction l with
 | nil=>cases h
 | cons x l ih=>
  rw [hOs]
  rcases List.mem_cons.1 h with rfl | h
  ·omega
  ·have:=ih h;omega
def a1N (o:aF) (deep:Int) (m:Nat) (e:En) (H:Hp):Prop:=∃n:Nat,n<=o.kids.length/\m=o.kids.length - n/\e.dm=[]/\(∀k∈o.kids.take n,decide ((hO k:Int)<=deep - 1)=true)/\E2.get e.t 5= .int .i64 n/\E2.get e.t 1= .int .i64 deep/\E2.get e.t 2= .ptr 0 0/\H.get 0=some (.cells (some 40) false (bD (aV o)))
theorem aRF {o:aF} (ho:dC o):∀deep:Int,0<=deep->deep<=1000000->CQ P G 106 [.agg (aV o),.int .i64 deep] (·= .bool (decide ((hO o:Int)<=deep))):=by
 induction ho with
 | mk kind names dn gap ms lo hi kids dk hn hnl hl hk hkl ho ih=>
  intro deep hm1 hm2
  refine CQ.enter hG ?_
  have h:=trivial;repeat' (first | simp (disch:=first|exact bk rfl|omega) only [go_sem,aV,aF.kind,aF.names,aF.dn,aF.gap,aF.most,aF.lo,aF.hi,aF.kids,aF.dk,a1J,amP,h]| ((first | apply aD | apply aE | apply aC)<;>intro h<;>(try simp only [spl] at h)))
  ·refine aG (.bool false) ?_
   congr 1;symm;rw [decide_eq_false_iff_not,hO];omega
  refine bA (a1N (.mk kind names dn gap ms lo hi kids dk) deep) (fun m e H hi=> ?_) (m:=kids.length) ?_
  rotate_left
  ·refine⟨0,Nat.zero_le _,rfl,rfl,fun x hx=>by simp at hx, ?_, ?_, ?_, ?_⟩<;>(first | rfl | (simp (disch:=first|exact bk rfl|omega) only [go_sem,aV]<;>rfl))
  ·obtain⟨n,hn',rfl,hdm,ha,g5,g1,g2,hg0⟩:=hi
   obtain⟨t,dm⟩:=e
   dsimp only [aF.kids] at hn' ha hdm g5 g1 g2 hg0
   subst hdm
   simp only [aV,aF.kind,aF.names,aF.dn,aF.gap,aF.most,aF.lo,aF.hi,aF.kids,aF.dk,go_sem] at hg0
   refine bC 200 ?_
   rw [ahT]
   by_cases hlt:n<kids.length
   ·have hih:=ih _ (List.getElem_mem hlt)
    have h:=trivial;repeat' (first | simp (disch:=first|exact bk rfl|omega) only [go_sem,g5,g1,g2,hg0,aK hk dS,aX hk dS mM kC hlt,aY cG hlt,aV,Int.ofNat_lt,hlt,amP,aZW,h]| ((first | apply aD | apply aE | apply aC)<;>intro h<;>(try simp only [spl] at h))| (refine bE hG _ (hih (deep - 1) (by omega) (by omega)) rfl ?_))
    ·refine aG (.bool false) ?_
     congr 1;symm;rw [decide_eq_false_iff_not,hO]
     have:=aWL (List.getElem_mem hlt)
     omega
    ·refine aZ (m':=kids.length - (n+1)) (by simp only [aF.kids];omega) ⟨n+1,by simp only [aF.kids];omega,rfl,rfl,iP (l:=kids) hlt ha (show decide ((hO kids[n]:Int)<=deep - 1)=true by rw [decide_eq_true_eq];omega), ?_, ?_, ?_, ?_⟩<;>(first | rfl | (simp (disch:=first|exact bk rfl|omega) only [go_sem,g5,g1,g2,hg0,aV,aF.kind,aF.names,aF.dn,aF.gap,aF.most,aF.lo,aF.hi,aF.kids,aF.dk]<;>rfl))
   ·have h:=trivial;repeat' (first | simp (disch:=first|exact bk rfl|omega) only [go_sem,g5,g1,g2,hg0,aK hk dS,Int.ofNat_lt,hlt,amP,aZW,h]| ((first | apply aD | apply aE | apply aC)<;>intro h<;>(try simp only [spl] at h)))
    refine aG (.bool true) ?_
    congr 1;symm
    have h1:=List.all_eq_true.1 (pR hlt ha)
    have h2:=aZT (l:=kids) (d:=deep - 1) (fun o ho=>of_decide_eq_true (h1 o ho)) (by omega)
    rw [decide_eq_true_eq,hO];omega
theorem dC.sn {o:aF} (h:dC o):Sl 1 fH o.names o.dn:=by cases h;assumption
theorem dC.sk {o:aF} (h:dC o):Sl 8 aV o.kids o.dk:=by cases h;assumption
def aVL (a b:Int):Int:=wrp .i64 (a+b)
def amF (a b:Int):Int:=wrp .i64 (a * b)
theorem aQN (a b:Int) (k:AV->Bool):aH P .add 3 false (.int .i64 a) (.int .i64 b) k=k (.int .i64 (aVL a b)):=cZ (aVL a b) fun n=>k (.int .i64 n)
theorem agQ (a b:Int) (k:AV->Bool):aH P .mul 3 false (.int .i64 a) (.int .i64 b) k=k (.int .i64 (amF a b)):=cZ (amF a b) fun n=>k (.int .i64 n)
mutual
def pG:aF->Int
 | .mk kind names _ _ _ _ hi kids _=>if kind=6 then amF (iK (names.length:Int) kids) hi else iK (names.length:Int) kids
def iK:Int->List aF->Int
 | v,[]=>v
 | v,o::l=>iK (aVL v (pG o)) l
end
theorem aDO:∀(a b:List aF) (v:Int),iK v (a++b)=iK (iK v a) b
 | [],b,v=>by simp [iK]
 | o::a,b,v=>by
  show iK v (o::(a++b))=_
  rw [iK,iK,aDO a b]
theorem aBN {l:List aF} {n:Nat} (h:n<l.length) (v:Int):iK v (l.take (n+1))=aVL (iK v (l.take n)) (pG l[n]):=by
 rw [←fY h,aDO];simp [iK]
def a1O (o:aF) (m:Nat) (e:En) (H:Hp):Prop:=∃n:Nat,n<=o.kids.length/\m=o.kids.length - n/\e.dm=[]/\E2.get e.t 4= .int .i64 n/\E2.get e.t 3= .int .i64 (iK (o.names.length:Int) (o.kids.take n))/\E2.get e.t 1= .ptr 0 0/\H.get 0=some (.cells (some 40) false (bD (aV o)))
theorem aIT {o:aF} (ho:dC o):CQ P G 109 [.agg (aV o)] (·= .int .i64 (pG o)):=by
 induction ho with
 | mk kind names dn gap ms lo hi kids dk hn hnl hl hk hkl ho ih=>
  refine CQ.enter hG ?_
  have h:=trivial;repeat' (first | simp (disch:=first|exact bk rfl|omega) only [go_sem,aV,aF.kind,aF.names,aF.dn,aF.gap,aF.most,aF.lo,aF.hi,aF.kids,aF.dk,a5Q,anA,aK hn dE,h]| ((first | apply aD | apply aE | apply aC)<;>intro h<;>(try simp only [spl] at h)))
  refine bA (a1O (.mk kind names dn gap ms lo hi kids dk)) (fun m e H hi=> ?_) (m:=kids.length) ?_
  rotate_left
  ·refine⟨0,Nat.zero_le _,rfl,rfl, ?_, ?_, ?_, ?_⟩<;>first | (first | rfl | (simp (disch:=first|exact bk rfl|omega) only [go_sem,aV]<;>rfl))| (first | rfl | (simp (disch:=first|exact bk rfl|omega) only [go_sem,aV,aF.kids,aF.names,List.take_zero,iK]<;>rfl))
  ·obtain⟨n,hn',rfl,hdm,g4,g3,g1,hg0⟩:=hi
   obtain⟨t,dm⟩:=e
   dsimp only [aF.kids,aF.names] at hn' hdm g4 g3 g1 hg0
   subst hdm
   simp only [aV,aF.kind,aF.names,aF.dn,aF.gap,aF.most,aF.lo,aF.hi,aF.kids,aF.dk,go_sem] at hg0
   refine bC 200 ?_
   rw [alV]
   by_cases hlt:n<kids.length
   ·have hih:=ih _ (List.getElem_mem hlt)
    have htk:=aBN hlt (names.length:Int)
    have h:=trivial;repeat' (first | simp (disch:=first|exact bk rfl|omega) only [go_sem,g4,g3,g1,hg0,aK hk dS,aX hk dS mM kC hlt,aY cG hlt,aV,Int.ofNat_lt,hlt,anA,aQN,h]| ((first | apply aD | apply aE | apply aC)<;>intro h<;>(try simp only [spl] at h))| (refine bE hG _ (hih) rfl ?_))
    refine aZ (m':=kids.length - (n+1)) (by simp only [aF.kids];omega) ⟨n+1,by simp only [aF.kids];omega,rfl,rfl, ?_, ?_, ?_, ?_⟩<;>(first | rfl | (simp (disch:=first|exact bk rfl|omega) only [go_sem,g4,g3,g1,hg0,htk,aV,aF.kind,aF.names,aF.dn,aF.gap,aF.most,aF.lo,aF.hi,aF.kids,aF.dk]<;>rfl))
   ·have hke:kids.take n=kids:=List.take_of_length_le (by omega)
    rw [hke] at g3
    have h:=trivial;repeat' (first | simp (disch:=first|exact bk rfl|omega) only [go_sem,g4,g3,g1,hg0,aK hk dS,Int.ofNat_lt,hlt,anA,anP,akM,agQ,h]| ((first | apply aD | apply aE | apply aC)<;>intro h<;>(try simp only [spl] at h)))
    ·refine aG (.int .i64 _) ?_
     rw [pG,if_pos (by first | assumption | rfl)]
    ·refine aG (.int .i64 _) ?_
     rw [pG,if_neg (by assumption)]
def I97 (o:aF) (m:Nat) (e:En) (H:Hp):Prop:=∃n q:Nat,n<=o.kids.length/\m=o.kids.length - n/\e.dm=[]/\E2.get e.t 12= .int .i64 n/\E2.get e.t 11= .int .i64 o.kids.length/\E2.get e.t 10=ofD o.dk/\E2.get e.t 3= .int .i64 (iK (o.names.length:Int) (o.kids.take n))/\E2.get e.t 1= .ptr 0 0/\H.get 0=some (.cells (some 40) false (bD (aV o)))/\H.nx=q+1
theorem aOF {o:aF} (ho:dC o):CQ P G 97 [.agg (aV o)] (·= .int .i64 (pG o)):=by
 induction ho with
 | mk kind names dn gap ms lo hi kids dk hn hnl hl hk hkl ho ih=>
  refine CQ.enter hG ?_
  have h:=trivial;repeat' (first | simp (disch:=first|exact bk rfl|omega) only [go_sem,aV,aF.kind,aF.names,aF.dn,aF.gap,aF.most,aF.lo,aF.hi,aF.kids,aF.dk,h97,r97,aK hn dE,aK hk dS,h]| ((first | apply aD | apply aE | apply aC)<;>intro h<;>(try simp only [spl] at h)))
  refine bA (I97 (.mk kind names dn gap ms lo hi kids dk)) (fun m e H hi=> ?_) (m:=kids.length) ?_
  rotate_left
  ·refine⟨0,0,Nat.zero_le _,rfl,rfl, ?_, ?_, ?_, ?_, ?_, ?_, ?_⟩<;>first | (first | rfl | (simp (disch:=first|exact bk rfl|omega) only [go_sem,aV]<;>rfl))| (first | rfl | (simp (disch:=first|exact bk rfl|omega) only [go_sem,aV,aF.kids,aF.names,aF.dk,List.take_zero,iK]<;>rfl))
  ·obtain⟨n,q,hn',rfl,hdm,g12,g11,g10,g3,g1,hg0,hnx⟩:=hi
   obtain⟨t,dm⟩:=e
   dsimp only [aF.kids,aF.names,aF.dk] at hn' hdm g12 g11 g10 g3 g1 hg0
   subst hdm
   simp only [aV,aF.kind,aF.names,aF.dn,aF.gap,aF.most,aF.lo,aF.hi,aF.kids,aF.dk,go_sem] at hg0
   refine bC 200 ?_
   rw [auW]
   by_cases hlt:n<kids.length
   ·have hm:=List.getElem_mem hlt
    have hih:=ih _ hm
    have htk:=aBN hlt (names.length:Int)
    have h1:one (ofD kids[n].dn)=true:=bW (ho _ hm).sn
    have h2:one (ofD kids[n].dk)=true:=bW (ho _ hm).sk
    have h:=trivial;repeat' (first | simp (disch:=first|exact bk rfl|omega) only [go_sem,g12,g11,g10,g3,g1,hg0,hnx,h1,h2,aX hk dS mM kC hlt,aY cG hlt,aV,Int.ofNat_lt,hlt,r97,aQN,h]| ((first | apply aD | apply aE | apply aC)<;>intro h<;>(try simp only [spl] at h))| (refine bE hG _ (hih) rfl ?_))
    refine aZ (m':=kids.length - (n+1)) (by simp only [aF.kids];omega) ⟨n+1,q+1,by simp only [aF.kids];omega,rfl,rfl, ?_, ?_, ?_, ?_, ?_, ?_, ?_⟩<;>(first | rfl | (simp (disch:=first|exact bk rfl|omega) only [go_sem,g12,g11,g10,g3,g1,hg0,hnx,htk,aV,aF.kind,aF.names,aF.dn,aF.gap,aF.most,aF.lo,aF.hi,aF.kids,aF.dk]<;>rfl))
   ·have hke:kids.take n=kids:=List.take_of_length_le (by omega)
    rw [hke] at g3
    have h:=trivial;repeat' (first | simp (disch:=first|exact bk rfl|omega) only [go_sem,g12,g11,g10,g3,g1,hg0,Int.ofNat_lt,hlt,r97,atL,auG,agQ,h]| ((first | apply aD | apply aE | apply aC)<;>intro h<;>(try simp only [spl] at h)))
    ·refine aG (.int .i64 _) ?_
     rw [pG,if_pos (by first | assumption | rfl)]
    ·refine aG (.int .i64 _) ?_
     rw [pG,if_neg (by assumption)]
def sB (k:Int):Int:=if k=1∨k=2 then 0 else if k=3∨k=4 then 2 else if k=5∨k=6 then 1 else -1
theorem anG {a b:Int} (h:a=b):D.int .i64 a= .int .i64 b:=by rw [h]
theorem rG (n:Int):CQ P G 175 [.int .i64 n] (·= .int .i64 (sB n)):=by
 refine CQ.enter hG ?_
 have h:=trivial;repeat' (first | simp (disch:=first|exact bk rfl|omega) only [go_sem,a5E,a4C,ahO,amS,amQ,anE,h]| ((first | apply aD | apply aE | apply aC)<;>intro h<;>(try simp only [spl] at h)))
 all_goals (refine aG (.int .i64 _) ?_;refine anG ?_;simp only [sB];first | (simp;done)| (simp [*];done)| omega)
def pA:List Str->List Str->Bool
 | _,[]=>true
 | prev,x::l=>if iQ x then (if prev.any (fun y=>decide (y=x)) then false else pA (prev++[x]) l) else false
theorem aHO {l:List Str} {n:Nat} (h:n<l.length) (hb:iQ l[n]=false):pA (l.take n) (l.drop n)=false:=by
 rw [fF h];simp [pA,hb]
theorem aBF {l:List Str} {n:Nat} (h:n<l.length) (ha:(l.take n).any (fun y=>decide (y=l[n]))=true):pA (l.take n) (l.drop n)=false:=by
 rw [fF h];simp only [pA];rw [ha];simp
theorem aPD {l:List Str} {n:Nat} (h:n<l.length) (hb:iQ l[n]=true) (ha:(l.take n).any (fun y=>decide (y=l[n]))=false):pA (l.take n) (l.drop n)=pA (l.take (n+1)) (l.drop (n+1)):=by
 rw [fF h];simp only [pA];rw [if_pos hb,if_neg (by rw [ha];simp),fY h]
def aAD (k:Int):Int:=if k=1 then 1 else if k=2 then 2 else 0
def aKQ (k:Int):Int:=if k=1 then 1 else if k=2 then 4 else 0
def kJ (o:aF):Bool:=pA [] o.names&&decide (aAD o.kind<=o.names.length/\(o.names.length:Int)<=aKQ o.kind)
theorem dC.nl {o:aF} (h:dC o):o.names.length<=9223372036854775807:=by cases h;assumption
theorem dC.sl {o:aF} (h:dC o):∀s∈o.names,s.length<=9223372036854775807:=by cases h;assumption
theorem dC.kl {o:aF} (h:dC o):o.kids.length<=9223372036854775807:=by cases h;assumption
theorem dC.ko {o:aF} (h:dC o):∀k∈o.kids,dC k:=by cases h;assumption
def a3E (o:aF) (m:Nat) (e:En) (H:Hp):Prop:=∃n:Nat,n<=o.names.length/\m=o.names.length - n/\e.dm=[]/\pA [] o.names=pA (o.names.take n) (o.names.drop n)/\E2.get e.t 5= .int .i64 n/\E2.get e.t 3= .int .i64 (aAD o.kind)/\E2.get e.t 4= .int .i64 (aKQ o.kind)/\E2.get e.t 1= .ptr 0 0/\H.get 0=some (.cells (some 40) false (bD (aV o)))
def awB (o:aF) (n:Nat) (x:Str) (m:Nat) (e:En) (H:Hp):Prop:=∃k:Nat,k<=n/\m=n - k/\e.dm=[]/\(∀y∈o.names.take k,(fun y:Str=>decide (y=x)) y=false)/\E2.get e.t 6= .int .i64 k/\E2.get e.t 5= .int .i64 n/\E2.get e.t 3= .int .i64 (aAD o.kind)/\E2.get e.t 4= .int .i64 (aKQ o.kind)/\E2.get e.t 1= .ptr 0 0/\H.get 0=some (.cells (some 40) false (bD (aV o)))
theorem yA (o:aF) (ho:dC o):CQ P G 176 [.agg (aV o)] (·= .bool (kJ o)):=by
 have hn:=ho.sn
 have hnl:=ho.nl
 have hl:=ho.sl
 refine CQ.enter hG ?_
 have h:=trivial;repeat' (first | simp (disch:=first|exact bk rfl|omega) only [go_sem,aV,a4X,aYY,akA,anY,h]| ((first | apply aD | apply aE | apply aC)<;>intro h<;>(try simp only [spl] at h)))
 all_goals first
  | (exfalso;omega)
  | skip
 all_goals refine bA (a3E o) (fun m e H hi=> ?_) (m:=o.names.length) ?_
 all_goals first
  | (refine⟨0,Nat.zero_le _,rfl,rfl,rfl, ?_, ?_, ?_, ?_, ?_⟩<;>first | (first | rfl | (simp (disch:=first|exact bk rfl|omega) only [go_sem,aV]<;>rfl))| (first | rfl | (simp (disch:=first|exact bk rfl|omega) only [go_sem,aV,aAD,aKQ, *]<;>rfl)))
  | skip
 all_goals
  obtain⟨n,hn',rfl,hdm,hst,g5,g3,g4,g1,hg0⟩:=hi
  obtain⟨t,dm⟩:=e
  dsimp only at hdm g5 g3 g4 g1
  subst hdm
  simp only [aV,go_sem] at hg0
  refine bC 200 ?_
  rw [anL]
  by_cases hlt:n<o.names.length
  ·have hnm:=hl _ (List.getElem_mem hlt)
   have h:=trivial;repeat' (first | simp (disch:=first|exact bk rfl|omega) only [go_sem,g5,g3,g4,g1,hg0,aK hn dE,aX hn dE in9 ce9 hlt,bL cC hlt (by decide:0<1),fH,Int.ofNat_lt,hlt,aYY,h]| ((first | apply aD | apply aE | apply aC)<;>intro h<;>(try simp only [spl] at h))| (refine bE hG _ (aKW _ hnm) rfl ?_))
   all_goals first
    | (refine aG (.bool false) ?_;congr 1;symm;simp only [kJ];rw [hst,aHO hlt (by assumption)];rfl)
    | skip
   refine bA (awB o n o.names[n]) (fun m e H hi=> ?_) (m:=n) ?_
   rotate_left
   ·refine⟨0,Nat.zero_le _,rfl,rfl,fun x hx=>by simp at hx, ?_, ?_, ?_, ?_, ?_, ?_⟩<;>(first | rfl | (simp (disch:=first|exact bk rfl|omega) only [go_sem,g5,g3,g4,g1,hg0,aV]<;>rfl))
   clear g5 g3 g4 g1 hg0
   obtain⟨k,hk',rfl,hdm,ha,g6,g5,g3,g4,g1,hg0⟩:=hi
   obtain⟨t,dm⟩:=e
   dsimp only at hdm g6 g5 g3 g4 g1
   subst hdm
   simp only [aV,go_sem] at hg0
   refine bC 200 ?_
   rw [akL]
   by_cases hkn:k<n
   ·have hkl:k<o.names.length:=by omega
    have h:=trivial;repeat' (first | simp (disch:=first|exact bk rfl|omega) only [go_sem,g6,g5,g3,g4,g1,hg0,aK hn dE,aX hn dE in9 ce9 hlt,bL cC hlt (by decide:0<1),aX hn dE in9 ce9 hkl,bL cC hkl (by decide:0<1),fH,Int.ofNat_lt,hkn,aYY,h]| ((first | apply aD | apply aE | apply aC)<;>intro h<;>(try simp only [spl] at h)))
    all_goals first
     | (refine aG (.bool false) ?_;congr 1;symm;simp only [kJ];rw [hst,aBF hlt (qD (n:=k) (by simp;omega) (by simp [*]))];rfl)
     | (refine aZ (m':=n - (k+1)) (by omega) ⟨k+1,by omega,rfl,rfl,iM hkl ha (by simp [*]), ?_, ?_, ?_, ?_, ?_, ?_⟩<;>(first | rfl | (simp (disch:=first|exact bk rfl|omega) only [go_sem,g6,g5,g3,g4,g1,hg0,aV]<;>rfl)))
   ·have h:=trivial;repeat' (first | simp (disch:=first|exact bk rfl|omega) only [go_sem,g6,g5,g3,g4,g1,hg0,Int.ofNat_lt,hkn,akX,aYY,h]| ((first | apply aD | apply aE | apply aC)<;>intro h<;>(try simp only [spl] at h)))
    have hkn':k=n:=by omega
    subst hkn'
    refine aZ (m':=o.names.length - (k+1)) (by omega) ⟨k+1,by omega,rfl,rfl,by rw [hst,aPD hlt (by assumption) (iR ha)], ?_, ?_, ?_, ?_, ?_⟩<;>(first | rfl | (simp (disch:=first|exact bk rfl|omega) only [go_sem,g6,g5,g3,g4,g1,hg0,aV]<;>rfl))
  ·rw [List.drop_of_length_le (by omega)] at hst
   have h0:pA [] o.names=true:=hst
   have h:=trivial;repeat' (first | simp (disch:=first|exact bk rfl|omega) only [go_sem,g5,g3,g4,g1,hg0,aK hn dE,Int.ofNat_lt,hlt,aiN,aYY,h]| ((first | apply aD | apply aE | apply aC)<;>intro h<;>(try simp only [spl] at h)))
   all_goals (refine aG (.bool _) ?_;congr 1;rw [Bool.eq_iff_iff];simp only [kJ,h0,Bool.true_and,decide_eq_true_eq,Bool.false_eq_true,false_iff,true_iff];omega)
theorem aAX {α:Type} (p:α->Bool) (xs:List α):decide (0<=eA p xs)=xs.any p:=by
 cases h:xs.any p with
 | true=>exact decide_eq_true (qQ h)
 | false=>rw [sS h];rfl
theorem aCG (xs:List Str) (d:D) (hs:Sl 1 fH xs d) (hl:xs.length<=9223372036854775807) (v:Str):CQ P G 167 [d,.str v] (·= .bool (xs.any (fun x=>decide (v=x)))):=by
 refine CQ.enter hG ?_
 have h:=trivial;repeat' (first | simp (disch:=first|exact bk rfl|omega) only [go_sem,a4D,h]| ((first | apply aD | apply aE | apply aC)<;>intro h<;>(try simp only [spl] at h))| (refine bE hG _ (aNY xs d hs hl v) rfl ?_))
 refine aG (.bool _) ?_
 rw [←aAX]
end Go.S5
namespace Go.Ev
noncomputable section
section
variable {P : Program} {G : bK} {H : Hp} {α : Type} {sz : Nat} {enc : α -> List D} {xs : List α}
def Own (sz:Nat) (enc:α->List D) (el:TypeId) (lo:Nat) (H:Hp) (v:AV) (xs:List α):Prop:=
 (v= .nils/\xs=[])∨∃b c,v= .sl b 0 xs.length sz c/\(c=none∨(c=some 0/\xs=[]))/\lo<=b/\b<H.nx/\H.get b=some (.cells (some el) false (bD (cB enc xs)))
structure ApT (P:Program) (t e:TypeId) (sz:Nat):Prop where
 h1:cK P t=some e
 h2:wX P t=false
 h3:tF P e=true
 h4:Nat.beq (P.cellsOf e) 0=false
 h5:Nat.ble (P.bytesOf e) 65536=true
 h6:P.cellsOf e=sz
theorem Own.frame {el:TypeId} {lo:Nat} {H H':Hp} {v:AV} (h:Own sz enc el lo H v xs) (hn:H.nx<=H'.nx) (hf:∀c,lo<=c->c<H.nx->H'.get c=H.get c):Own sz enc el lo H' v xs:=by
 rcases h with h | ⟨b,c,h1,hc,h2,h3,h5⟩
 ·exact .inl h
 ·exact .inr ⟨b,c,h1,hc,h2,by omega,by rw [hf b h2 h3];exact h5⟩
theorem Own.one {el:TypeId} {lo:Nat} {v:AV} (h:Own sz enc el lo H v xs):one v=true:=by
 rcases h with⟨rfl,_⟩| ⟨b,c,rfl,_⟩<;>rfl
theorem Own.cells {el:TypeId} {lo:Nat} {v:AV} (h:Own sz enc el lo H v xs):AV.cells v=[v]:=by
 rcases h with⟨rfl,_⟩| ⟨b,c,rfl,_⟩<;>rfl
theorem Own.same {el:TypeId} {lo:Nat} {v:AV} (h:Own sz enc el lo H v xs) (n:Nat):aR (n+1) v v=true:=by
 rcases h with⟨rfl,_⟩| ⟨b,c,rfl,_⟩
 ·rfl
 ·exact aiZ _ _ _ _ _ _
theorem Own.rd {el:TypeId} {lo:Nat} {v:AV} (hs:∀x,(enc x).length=sz) (h:Own sz enc el lo H v xs):∃d I,Rd H v d I/\Sl sz enc xs d:=by
 rcases h with⟨rfl,rfl⟩| ⟨b,c,rfl,_,_,_,h5⟩
 ·exact⟨.nils,[],.fro .nils,.inl ⟨rfl,rfl⟩⟩
 ·refine⟨.sl sz (cB enc xs) xs.length,[b],.sl b 0 xs.length sz c _ _ _ (bD (cB enc xs)) (cB enc xs) [] h5 ?_ (.fro _),.inr rfl⟩
  have hl:(bD (cB enc xs)).length=xs.length * sz:=by rw [cT,eG hs]
  rw [List.drop_zero,fR _ _ (by omega),List.take_of_length_le (by omega)]
theorem Own.ret {el:TypeId} {lo:Nat} {v:AV} {Q:D->Prop} (hs:∀x,(enc x).length=sz) (h:Own sz enc el lo H v xs) (hq:∀d,Sl sz enc xs d->Q d):kU Q (.ret v) H=true:=by
 obtain⟨d,I,h1,h2⟩:=h.rd hs
 exact iO (hq d h2) h1
theorem Own.len {el:TypeId} {lo:Nat} {v:AV} (h:Own sz enc el lo H v xs) {t e:TypeId} (hu:P.underlying t=some (.slice e)) (H':Hp) (k:AV->Bool):bH P t v H' k=k (.int .i64 (xs.length:Int)):=by
 unfold bH
 rw [hu]
 rcases h with⟨rfl,rfl⟩| ⟨b,c,rfl,_⟩<;>rfl
theorem Own.at {el:TypeId} {lo:Nat} {v:AV} (h:Own sz enc el lo H v xs) {n:Nat} (hn:n<xs.length):∃b,v= .sl b 0 xs.length sz none/\lo<=b/\b<H.nx/\H.get b=some (.cells (some el) false (bD (cB enc xs))):=by
 rcases h with⟨_,rfl⟩| ⟨b,c,h1,hc,h2,h3,h5⟩
 ·simp at hn
 ·rcases hc with rfl | ⟨_,rfl⟩
  ·exact⟨b,h1,h2,h3,h5⟩
  ·simp at hn
theorem eI {b off len:Nat} {c:Option Nat} {t e:TypeId} {k:AV->Bool} (hu:P.underlying t=some (.slice e)) (hi:(P.info? e).isSome=true) (hc:P.cellsOf e=sz) {n:Nat} (hn:n<len) {i:IntKind}:
  aN P t (.sl b off len sz c) (.int i (n:Int)) k=k (.ptr b (off+n * sz)):=by
 unfold aN
 show (match P.underlying t,(AV.sl b off len sz c) with
  | some (.array len e),.ptr b off=>_
  | some (.array len e),.gptr b off=>_
  | some (.slice e),.sl b off len z _=>_
  | some (.slice e),.dat (.sl z cs len)=>_
  | _,_=>false)=_
 rw [hu]
 dsimp only
 rw [hi,hc,Nat.beq_refl,show Nat.blt n len=true from by simpa [Nat.blt_eq] using hn]
 exact bQ (off+n * sz) fun o=>k (.ptr b o)
theorem uG (hone:∀x,(bD (enc x)).all one=true):∀xs:List α,(bD (cB enc xs)).all one=true
 | []=>rfl
 | x::xs=>by
  show (bD (enc x++cB enc xs)).all one=true
  rw [eF,List.all_append,hone x,uG hone xs];rfl
theorem aAN (a b:List α):cB enc (a++b)=cB enc a++cB enc b:=by simp [cB]
theorem mA (hs:∀x,(enc x).length=sz):∀(ys:List α) (j m:Nat),j+m<=ys.length->((bD (cB enc ys)).drop (j * sz)).take (m * sz)=bD (cB enc ((ys.drop j).take m))
 | ys,0,m,h=>by
  have h1:ys=ys.take m++ys.drop m:=(List.take_append_drop m ys).symm
  have h2:(cB enc (ys.take m)).length=m * sz:=by rw [eG hs,List.length_take];congr 1;omega
  rw [Nat.zero_mul,List.drop_zero,List.drop_zero]
  conv=>lhs;rw [h1,aAN,eF]
  rw [List.take_append,List.take_of_length_le (by rw [cT,h2];exact Nat.le_refl _),cT,h2,Nat.sub_self,List.take_zero,List.append_nil]
 | [],j+1,m,h=>by simp at h
 | y::ys,j+1,m,h=>by
  have ih:=mA hs ys j m (by simp at h;omega)
  show ((bD (enc y++cB enc ys)).drop ((j+1) * sz)).take (m * sz)=bD (cB enc (((y::ys).drop (j+1)).take m))
  rw [eF,Nat.succ_mul,List.drop_append,List.drop_of_length_le (by rw [cT,hs y];omega),cT,hs y,List.nil_append,List.drop_succ_cons,←ih]
  congr 2;omega
structure aQD (sz:Nat) (enc:α->List D) (e:TypeId) (lo:Nat) (H:Hp) (v:AV) (zs:List α) (v':AV) (H':Hp):Prop where
 own:Own sz enc e lo H' v' zs
 nx1:H.nx<=H'.nx
 nx2:H'.nx<=H.nx+1
 keep:∀c,c<lo->H'.get c=H.get c
 keep2:∀c,(∀b z n q,v= .sl b z n sz q->c≠b)->c≠H.nx->H'.get c=H.get c
theorem zH {t e:TypeId} {lo:Nat} {v x:AV} {zs:List α} {k:AV->Hp->Bool} (hs:∀x,(enc x).length=sz) (hone:∀x,(bD (enc x)).all one=true) (ht:ApT P t e sz)
  (ho:Own sz enc e lo H v xs) (hlo:lo<=H.nx) (hcells:∀kk:Nat->List AV->Bool,fN H sz x kk=kk zs.length (bD (cB enc zs))) (hlen:xs.length+zs.length<=1048576)
  (hk:∀v' H',aQD sz enc e lo H v (xs++zs) v' H'->k v' H'=true):cE P H t t v x k=true:=by
 have hall:(bD (cB enc zs)).all one=true:=uG hone _
 unfold cE
 rw [ht.h1]
 dsimp only
 rw [ht.h2,ht.h3,ht.h4,ht.h5]
 dsimp only
 rw [ht.h6,hcells,hall]
 dsimp only
 cases zs with
 | nil=>
  have h0:∀v' H',Own sz enc e lo H' v' xs->H.nx<=H'.nx->H'.nx<=H.nx+1->(∀c,c<lo->H'.get c=H.get c)->(∀c,(∀b z n q,v= .sl b z n sz q->c≠b)->c≠H.nx->H'.get c=H.get c)->k v' H'=true:=fun v' H' h a b c d=>hk v' H' ⟨by simpa using h,a,b,c,d⟩
  rcases ho with⟨rfl,rfl⟩| ⟨b,c,rfl,h2⟩
  ·exact h0 _ _ (.inl ⟨rfl,rfl⟩) (Nat.le_refl _) (by omega) (fun _ _=>rfl) (fun _ _ _=>rfl)
  ·exact h0 _ _ (.inr ⟨b,c,rfl,h2⟩) (Nat.le_refl _) (by omega) (fun _ _=>rfl) (fun _ _ _=>rfl)
 | cons z zs=>
  simp only [List.length_cons] at hlen⊢
  rcases ho with⟨rfl,rfl⟩| ⟨b,c,rfl,hc,h2,h3,h5⟩
  ·dsimp only
   rw [show Nat.ble (zs.length+1) 1048576=true from by simp at hlen⊢;omega]
   dsimp only
   rw [Hp.new_r]
   refine hk _ _ ⟨.inr ⟨H.nx,none, ?_,.inl rfl,hlo, ?_, ?_⟩, ?_, ?_, ?_, ?_⟩
   ·rw [List.nil_append];rfl
   ·rw [Hp.nx_push];omega
   ·rw [Hp.get_push,if_pos rfl,List.nil_append]
   ·rw [Hp.nx_push];omega
   ·rw [Hp.nx_push];omega
   ·intro c hc;rw [Hp.get_push,if_neg (by omega)]
   ·intro c _ hc;rw [Hp.get_push,if_neg hc]
  ·dsimp only
   have hlen2:(bD (cB enc xs)).length=xs.length * sz:=by rw [cT,eG hs]
   rw [Nat.beq_refl,show Nat.ble (xs.length+(zs.length+1)) 1048576=true from by simpa using hlen,h5]
   dsimp only
   rw [List.drop_zero,fR _ _ (by omega),List.take_of_length_le (by omega)]
   dsimp only
   have hpos:0<sz:=by have:=ht.h4;rw [ht.h6] at this;cases sz with | zero=>cases this | succ n=>omega
   rcases hc with rfl | ⟨rfl,rfl⟩
   ·have hgt:xs.length * sz<(xs.length+(zs.length+1)) * sz:=Nat.mul_lt_mul_of_pos_right (by omega) hpos
    dsimp only [xW]
    rw [show Nat.ble (0+(xs.length+(zs.length+1)) * sz) (bD (cB enc xs)).length=false from by
     rw [hlen2,Nat.zero_add]
     cases hb:Nat.ble ((xs.length+(zs.length+1)) * sz) (xs.length * sz) with
     | false=>rfl
     | true=>have:=Nat.le_of_ble_eq_true hb;omega]
    dsimp only
    rw [bY,Hp.put_r,Hp.new_r,bQ]
    have hel:yC 0 none (some e) e=some e:=by simp [yC,Nat.beq_refl]
    rw [hel]
    refine hk _ _ ⟨.inr ⟨H.nx,none, ?_,.inl rfl,hlo, ?_, ?_⟩, ?_, ?_, ?_, ?_⟩
    ·rw [Hp.nx_setb,List.length_append];rfl
    ·rw [Hp.nx_push,Hp.nx_setb];omega
    ·rw [Hp.get_push,Hp.nx_setb,if_pos rfl,aAN,eF]
    ·rw [Hp.nx_push,Hp.nx_setb];omega
    ·rw [Hp.nx_push,Hp.nx_setb];omega
    ·intro c hc;rw [Hp.get_push,Hp.nx_setb,if_neg (by omega),Hp.get_setb,if_neg (by omega)]
    ·intro c hb hc;rw [Hp.get_push,Hp.nx_setb,if_neg hc,Hp.get_setb,if_neg (hb b 0 _ none rfl)]
   ·simp only [List.length_nil,Nat.zero_add]
    rw [show xW (some 0) (zs.length+1)=true from by simp [xW,Nat.blt_eq]]
    dsimp only
    rw [bY,Hp.new_r,bQ]
    refine hk _ _ ⟨.inr ⟨H.nx,none, ?_,.inl rfl,hlo, ?_, ?_⟩, ?_, ?_, ?_, ?_⟩
    ·rw [List.nil_append];rfl
    ·rw [Hp.nx_push];omega
    ·rw [Hp.get_push,if_pos rfl,List.nil_append];rfl
    ·rw [Hp.nx_push];omega
    ·rw [Hp.nx_push];omega
    ·intro c hc;rw [Hp.get_push,if_neg (by omega)]
    ·intro c _ hc;rw [Hp.get_push,if_neg hc]
theorem aJC {b1 m j:Nat} {c1:Option Nat} {el1:Option TypeId} {ro1:Bool} {ys:List α} {kk:Nat->List AV->Bool} (hs:∀x,(enc x).length=sz) (hb1:H.get b1=some (.cells el1 ro1 (bD (cB enc ys)))) (hj:j+m<=ys.length):
  fN H sz (.sl b1 (j * sz) m sz c1) kk=kk ((ys.drop j).take m).length (bD (cB enc ((ys.drop j).take m))):=by
 have hlen1:(bD (cB enc ys)).length=ys.length * sz:=by rw [cT,eG hs]
 have hmul:(j+m) * sz<=ys.length * sz:=Nat.mul_le_mul_right _ hj
 rw [Nat.add_mul] at hmul
 have hnew:fK (m * sz) ((bD (cB enc ys)).drop (j * sz))=some (bD (cB enc ((ys.drop j).take m))):=by
  rw [fR _ _ (by rw [List.length_drop,hlen1];omega),mA hs ys j m hj]
 have hml:((ys.drop j).take m).length=m:=by rw [List.length_take,List.length_drop];omega
 unfold fN
 dsimp only
 rw [Nat.beq_refl,hb1]
 dsimp only
 rw [hnew,hml]
 exact bY _ _
theorem aSP {d:D} {ys:List α} {kk:Nat->List AV->Bool} (hs:∀x,(enc x).length=sz) (hd:Sl sz enc ys d):fN H sz (ofD d) kk=kk ys.length (bD (cB enc ys)):=by
 rcases hd with⟨rfl,rfl⟩| rfl
 ·rfl
 ·unfold fN
  simp only [ofD]
  rw [Nat.beq_refl,fR _ _ (by rw [cT,eG hs];exact Nat.le_refl _),List.take_of_length_le (by rw [cT,eG hs];exact Nat.le_refl _)]
  exact bY _ _
theorem abD {t e:TypeId} {lo:Nat} {v:AV} {b1 off1 m j:Nat} {c1:Option Nat} {el1:Option TypeId} {ro1:Bool} {ys:List α} {k:AV->Hp->Bool} (hs:∀x,(enc x).length=sz) (hone:∀x,(bD (enc x)).all one=true) (ht:ApT P t e sz)
  (ho:Own sz enc e lo H v xs) (hlo:lo<=H.nx) (hb1:H.get b1=some (.cells el1 ro1 (bD (cB enc ys)))) (hoff:off1=j * sz) (hj:j+m<=ys.length) (hlen:xs.length+m<=1048576)
  (hk:∀v' H',aQD sz enc e lo H v (xs++(ys.drop j).take m) v' H'->k v' H'=true):cE P H t t v (.sl b1 off1 m sz c1) k=true:=by
 subst hoff
 exact zH hs hone ht ho hlo (fun kk=>aJC hs hb1 hj) (by rw [List.length_take,List.length_drop];omega) hk
theorem qU {t e:TypeId} {lo:Nat} {v:AV} {d:D} {ys:List α} {k:AV->Hp->Bool} (hs:∀x,(enc x).length=sz) (hone:∀x,(bD (enc x)).all one=true) (ht:ApT P t e sz)
  (ho:Own sz enc e lo H v xs) (hlo:lo<=H.nx) (hd:Sl sz enc ys d) (hlen:xs.length+ys.length<=1048576)
  (hk:∀v' H',aQD sz enc e lo H v (xs++ys) v' H'->k v' H'=true):cE P H t t v (ofD d) k=true:=
 zH hs hone ht ho hlo (fun kk=>aSP hs hd) hlen hk
theorem fV {t e:TypeId} {lo:Nat} {v:AV} {b1:Nat} {c1:Option Nat} {el1:Option TypeId} {ro1:Bool} {x:α} {k:AV->Hp->Bool} (hs:∀x,(enc x).length=sz) (hone:∀x,(bD (enc x)).all one=true) (ht:ApT P t e sz)
  (ho:Own sz enc e lo H v xs) (hlo:lo<=H.nx) (hb1:H.get b1=some (.cells el1 ro1 (bD (enc x)))) (hlen:xs.length+1<=1048576)
  (hk:∀v' H',Own sz enc e lo H' v' (xs++[x])->H.nx<=H'.nx->H'.nx<=H.nx+1->(∀c,c<lo->H'.get c=H.get c)->(∀c,(∀b z n q,v= .sl b z n sz q->c≠b)->c≠H.nx->H'.get c=H.get c)->k v' H'=true):cE P H t t v (.sl b1 0 1 sz c1) k=true:=by
 refine abD (ys:=[x]) (j:=0) (el1:=el1) (ro1:=ro1) hs hone ht ho hlo (by rw [hb1];simp [cB]) (by simp) (by simp) hlen ?_
 intro v' H' ⟨h,a,b,c,d⟩
 exact hk v' H' (by simpa using h) a b c d
theorem aM {c:Prop} [Decidable c] {β:Type} {a b:β} (h:¬c):(if c then a else b)=b:=if_neg h
theorem aI {c:Prop} [Decidable c] {β:Type} {a b:β} (h:c):(if c then a else b)=a:=if_pos h
end
def Mk:Prop:=True
@[go_sem] theorem a8Y:Mk=True:=eq_true trivial
section
variable {P : Program} {G : bK} {H : Hp} {k : AV -> Bool} {α : Type} {sz : Nat} {enc : α -> List D} {xs : List α} {d : D}
@[congr] theorem acH {t:TypeId} {a a':AV} (h:a=a') {pM:Prop} (hM:Mk=pM):aB P G H t a k=aB P G H t a' k:=by rw [h]
@[congr] theorem adQ {t:TypeId} {off:Nat} {o o':Option Blk} (h:o=o') {pM:Prop} (hM:Mk=pM):sC P t off k o=sC P t off k o':=by rw [h]
@[congr] theorem adA {a a':Option Bool} {n n':Nat} {cs:List AV} {off off':Nat} (h:a=a') (hn:n=n') (ho:off=off') {pM:Prop} (hM:Mk=pM):nA a n cs off k=nA a' n' cs off' k:=by rw [h,hn,ho]
@[congr] theorem afM {o o':Option AV} (h:o=o') {pM:Prop} (hM:Mk=pM):aGB o k=aGB o' k:=by rw [h]
@[congr] theorem adG {o o':Option (List AV)} (h:o=o') {pM:Prop} (hM:Mk=pM):oT o k=oT o' k:=by rw [h]
@[congr] theorem aaJ {t:TypeId} {a a' v v':AV} {k:Hp->Bool} (h:a=a') (hv:v=v') {pM:Prop} (hM:Mk=pM):bB P H t a v k=bB P H t a' v' k:=by rw [h,hv]
@[congr] theorem aaE {a a':Option Bool} {n n' b off off':Nat} {vs vs':List AV} {k:Hp->Bool} {o o':Option Blk} (ha:a=a') (hn:n=n') (hf:off=off') (hv:vs=vs') (h:o=o') {pM:Prop} (hM:Mk=pM):pW a n H b off vs k o=pW a' n' H b off' vs' k o':=by rw [ha,hn,hf,hv,h]
@[congr] theorem ahB {b:Nat} {el:Option TypeId} {k:Hp->Bool} {g g':Bool} {o o':Option (List AV)} (hg:g=g') (h:o=o') {pM:Prop} (hM:Mk=pM):aHM H b el k g o=aHM H b el k g' o':=by rw [hg,h]
@[congr] theorem aYB {a a':AV} {n:Nat} (h:a=a') {pM:Prop} (hM:Mk=pM):aA a n k=aA a' n k:=by rw [h]
@[congr] theorem aeY {op:BinOp} {t:TypeId} {nc:Bool} {a a' b b':AV} (ha:a=a') (hb:b=b') {pM:Prop} (hM:Mk=pM):aH P op t nc a b k=aH P op t nc a' b' k:=by rw [ha,hb]
@[congr] theorem aiT {op:UnOp} {a a':AV} (h:a=a') {pM:Prop} (hM:Mk=pM):unK op a k=unK op a' k:=by rw [h]
@[congr] theorem aaZ {c c' a a' b b':AV} (h:c=c') (ha:a=a') (hb:b=b') {pM:Prop} (hM:Mk=pM):aT c a b k=aT c' a' b' k:=by rw [h,ha,hb]
@[congr] theorem abK {c c':AV} {a b:Unit->Bool} (h:c=c') {pM:Prop} (hM:Mk=pM):aQ c a b=aQ c' a b:=by rw [h]
@[congr] theorem adD {w w':Bool} {F:AV->Hp->Bool} {run:(AV->Hp->Bool)->Bool} (h:w=w') {pM:Prop} (hM:Mk=pM):mU w F run H=mU w' F run H:=by rw [h]
@[congr] theorem aaG {w w':Bool} {F:DJ} {run:DJ->Bool} {L:fJ} {Q:fM} (h:w=w') {pM:Prop} (hM:Mk=pM):jU w F run H L Q=jU w' F run H L Q:=by rw [h]
@[congr] theorem aTV {x x':AEx} {y:Unit->Bool} {n:AEx->Bool} (h:x=x') {pM:Prop} (hM:Mk=pM):aO x y n=aO x' y n:=by rw [h]
@[congr] theorem aaK {i:Nat} {x x':AEx} {y:Unit->Bool} {n:AEx->Bool} (h:x=x') {pM:Prop} (hM:Mk=pM):aW i x y n=aW i x' y n:=by rw [h]
@[congr] theorem anH {n:Nat} {f f':AV} {a a':List AV} {k:AV->Hp->Bool} (hf:f=f') (h:a=a') {pM:Prop} (hM:Mk=pM):clv P G n f a H k=clv P G n f' a' H k:=by rw [hf,h]
@[congr] theorem aaC {fn:Func} {i:Evs} {k:fE->Hp->Bool} {x x':AEx} {e:En} (h:x=x') {pM:Prop} (hM:Mk=pM):aS P G fn i k x e H=aS P G fn i k x' e H:=by rw [h]
@[congr] theorem aeX {t:TypeId} {a a':AV} (h:a=a') {pM:Prop} (hM:Mk=pM):bH P t a H k=bH P t a' H k:=by rw [h]
@[congr] theorem aTS {t:TypeId} {a a' i i':AV} (h:a=a') (hi:i=i') {pM:Prop} (hM:Mk=pM):aN P t a i k=aN P t a' i' k:=by rw [h,hi]
@[congr] theorem aaL {t:TypeId} {a a' i i':AV} (h:a=a') (hi:i=i') {pM:Prop} (hM:Mk=pM):dM P t a i k=dM P t a' i' k:=by rw [h,hi]
@[congr] theorem aTU {t:TypeId} {x x':AV} {lo lo' hi hi' mx mx':Option AV} (h:x=x') (hl:lo=lo') (hh:hi=hi') (hm:mx=mx') {pM:Prop} (hM:Mk=pM):cQ P H t x lo hi mx k=cQ P H t x' lo' hi' mx' k:=by rw [h,hl,hh,hm]
@[congr] theorem aTT {x x':AV} {i:Nat} (h:x=x') {pM:Prop} (hM:Mk=pM):bR x i k=bR x' i k:=by rw [h]
@[congr] theorem agZ {pl:List (Nat×Nat)} {ps ps':List (Nat×AV)} {z:List AV} (h:ps=ps') {pM:Prop} (hM:Mk=pM):nP pl ps z k=nP pl ps' z k:=by rw [h]
@[congr] theorem aaM {t:TypeId} {ps ps':List (Nat×AV)} (h:ps=ps') {pM:Prop} (hM:Mk=pM):bO P t ps k=bO P t ps' k:=by rw [h]
@[congr] theorem afH {pl:List (Nat×Nat)} {ps:List (Nat×AV)} {g g':Bool} {o o':Option (List AV)} (hg:g=g') (ho:o=o') {pM:Prop} (hM:Mk=pM):aLS pl ps k g o=aLS pl ps k g' o':=by rw [hg,ho]
@[congr] theorem acC {t:TypeId} {i i':AV} {ok:Bool} {o o':Option Blk} (hi:i=i') (ho:o=o') {pM:Prop} (hM:Mk=pM):xU P t i ok k o=xU P t i' ok k o':=by rw [hi,ho]
@[congr] theorem aUN {t:TypeId} {m m' i i':AV} {ok:Bool} (hm:m=m') (hi:i=i') {pM:Prop} (hM:Mk=pM):iU P H t m i ok k=iU P H t m' i' ok k:=by rw [hm,hi]
@[congr] theorem afY {b:Nat} {t:TypeId} {i i' v v':AV} {k:Hp->Bool} {o o':Option Blk} (hi:i=i') (hv:v=v') (ho:o=o') {pM:Prop} (hM:Mk=pM):aAV P H b t i v k o=aAV P H b t i' v' k o':=by rw [hi,hv,ho]
@[congr] theorem aQB {t:TypeId} {m m' i i' v v':AV} {k:Hp->Bool} (hm:m=m') (hi:i=i') (hv:v=v') {pM:Prop} (hM:Mk=pM):dV P H t m i v k=dV P H t m' i' v' k:=by rw [hm,hi,hv]
@[congr] theorem anJ {x y b b':Bool} {pM:Prop} (h:b=b') (hM:Mk=pM): @Bool.rec (fun _=>Bool) x y b= @Bool.rec (fun _=>Bool) x y b':=by rw [h]
@[congr] theorem acI {x y b b':Bool} {pM:Prop} (h:b=b') (hM:Mk=pM): @Bool.casesOn (fun _=>Bool) b x y= @Bool.casesOn (fun _=>Bool) b' x y:=by rw [h]
@[go_sem ↓ high] theorem agU (y:Unit->Bool) (n:AEx->Bool):aO .normal y n=y ():=Bool.eq_iff_iff.mpr Iff.rfl
@[go_sem ↓ high] theorem afV (i:Nat) (y:Unit->Bool) (n:AEx->Bool):aO (.exit i) y n=n (.exit i):=Bool.eq_iff_iff.mpr Iff.rfl
@[go_sem ↓ high] theorem aeL (y:Unit->Bool) (n:AEx->Bool):aO .ret y n=n .ret:=Bool.eq_iff_iff.mpr Iff.rfl
@[go_sem ↓ high] theorem aoR (i:Nat) (y:Unit->Bool) (n:AEx->Bool):aW i .normal y n=n .normal:=Bool.eq_iff_iff.mpr Iff.rfl
@[go_sem ↓ high] theorem aoK (i:Nat) (y:Unit->Bool) (n:AEx->Bool):aW i .ret y n=n .ret:=Bool.eq_iff_iff.mpr Iff.rfl
@[go_sem ↓ high] theorem ayZ (a b:Unit->Bool):aQ (.bool true) a b=a ():=Bool.eq_iff_iff.mpr Iff.rfl
@[go_sem ↓ high] theorem ayX (a b:Unit->Bool):aQ (.bool false) a b=b ():=Bool.eq_iff_iff.mpr Iff.rfl
@[go_sem ↓ high] theorem avW (F:AV->Hp->Bool) (run:(AV->Hp->Bool)->Bool):mU true F run H=run F:=Bool.eq_iff_iff.mpr Iff.rfl
@[go_sem ↓ high] theorem atV (F:AV->Hp->Bool) (run:(AV->Hp->Bool)->Bool):mU false F run H=F (.tup []) H:=Bool.eq_iff_iff.mpr Iff.rfl
@[go_sem ↓ high] theorem aoV (F:DJ) (run:DJ->Bool) (L:fJ) (Q:fM):jU true F run H L Q=run F:=Bool.eq_iff_iff.mpr Iff.rfl
@[go_sem ↓ high] theorem aoO (F:DJ) (run:DJ->Bool) (L:fJ) (Q:fM):jU false F run H L Q=F (.tup []) H L Q:=Bool.eq_iff_iff.mpr Iff.rfl
@[go_sem ↓ high] theorem ayP (a b:AV):aT (.bool true) a b k=k a:=Bool.eq_iff_iff.mpr Iff.rfl
@[go_sem ↓ high] theorem ayJ (a b:AV):aT (.bool false) a b k=k b:=Bool.eq_iff_iff.mpr Iff.rfl
@[go_sem ↓ high] theorem agG (k:Hp->Bool):cP [] H k=k H:=Bool.eq_iff_iff.mpr Iff.rfl
@[go_sem ↓ high] theorem ahG (a:Nat) (k:fM->Hp->Bool):cA a [] H k=k [] H:=Bool.eq_iff_iff.mpr Iff.rfl
@[go_sem ↓ high] theorem azO (x k:Bool): @Bool.rec (fun _=>Bool) x k true=k:=Bool.eq_iff_iff.mpr Iff.rfl
@[go_sem ↓ high] theorem azL (x k:Bool): @Bool.casesOn (fun _=>Bool) true x k=k:=Bool.eq_iff_iff.mpr Iff.rfl
@[go_sem ↓ high] theorem azX (v:AV):aGB (some v) k=k v:=Bool.eq_iff_iff.mpr Iff.rfl
@[go_sem ↓ high] theorem aqC (v:List AV):oT (some v) k=k (.agg v):=Bool.eq_iff_iff.mpr Iff.rfl
@[go_sem ↓ high] theorem avI (n:Nat) (cs:List AV) (off:Nat):nA (some true) n cs off k=oT (fK n (cs.drop off)) k:=Bool.eq_iff_iff.mpr Iff.rfl
@[go_sem ↓ high] theorem auM (n:Nat) (cs:List AV) (off:Nat):nA (some false) n cs off k=aGB cs[off]? k:=Bool.eq_iff_iff.mpr Iff.rfl
@[go_sem ↓ high] theorem adE (t:TypeId) (off:Nat) (el:Option TypeId) (ro:Bool) (cs:List AV):sC P t off k (some (.cells el ro cs))=nA (dI P t) (P.cellsOf t) cs off k:=Bool.eq_iff_iff.mpr Iff.rfl
@[go_sem ↓ high] theorem ayH (b:Nat) (el:Option TypeId) (cs:List AV) (k:Hp->Bool):aHM H b el k true (some cs)=k (H.setb b (some (.cells el false cs))):=Bool.eq_iff_iff.mpr Iff.rfl
@[go_sem ↓ high] theorem aoG (pl:List (Nat×Nat)) (z:List AV):nP pl [] z k=k (.agg z):=Bool.eq_iff_iff.mpr Iff.rfl
@[go_sem ↓ high] theorem ayR (pl:List (Nat×Nat)) (ps:List (Nat×AV)) (z:List AV):aLS pl ps k true (some z)=nP pl ps z k:=Bool.eq_iff_iff.mpr Iff.rfl
@[go_sem ↓ high] theorem a7U (v:AV) (vs:List AV):bR (.tup (v::vs)) 0 k=k v:=Bool.eq_iff_iff.mpr Iff.rfl
@[go_sem ↓ high] theorem a8N (v u:AV) (vs:List AV):bR (.tup (v::u::vs)) 1 k=k u:=Bool.eq_iff_iff.mpr Iff.rfl
@[go_sem ↓ high] theorem a6Y (v u x:AV) (vs:List AV):bR (.tup (v::u::x::vs)) 2 k=k x:=Bool.eq_iff_iff.mpr Iff.rfl
@[congr] theorem aoJ {m nt:Nat} {c:Code} {ro:Option Nat} {e e':En} {H H':Hp} {k:AEx->En->Hp->Bool} {pM:Prop} (he:e=e') (hH:H=H') (hM:Mk=pM):cd P G m nt c ro e H k=cd P G m nt c ro e' H' k:=by rw [he,hH]
@[congr] theorem agT {nt:Nat} {c:Code} {ro:Option Nat} {e e':En} {H H':Hp} {k:AEx->En->Hp->Bool} {pM:Prop} (he:e=e') (hH:H=H') (hM:Mk=pM):cI P G nt c ro e H k=cI P G nt c ro e' H' k:=by rw [he,hH]
@[congr] theorem aoQ {g:FuncId} {a a':List AV} {H H':Hp} {k:AV->Hp->Bool} {pM:Prop} (h:a=a') (hH:H=H') (hM:Mk=pM):cl P G g a H k=cl P G g a' H' k:=by rw [h,hH]
@[congr] theorem abZ {Inv:Nat->En->Hp->Prop} {m:Nat} {e e':En} {H H':Hp} {pM:Prop} (he:e=e') (hH:H=H') (hM:Mk=pM):yB Inv m e H=yB Inv m e' H':=by rw [he,hH]
theorem aoS {l:List (Nat×AV)} (h:nE l=true):nE l=true:=h
theorem akK {a i:Nat} (h:a.testBit i=true):a.testBit i=true:=h
theorem aiY {a i:Nat} (h:a.testBit i=false):a.testBit i=false:=h
theorem cR {f:FuncId} {args:List AV} {k:AV->Hp->Bool} (h:cl P G f args H k=true):cl P G f args H k=true:=h
@[congr] theorem aXJ {t u:TypeId} {s s' x x':AV} {k:AV->Hp->Bool} {pM:Prop} (h:s=s') (h':x=x') (hM:Mk=pM):cE P H t u s x k=cE P H t u s' x' k:=by rw [h,h']
@[congr] theorem aMM {t n:Nat} {ps ps':List (Nat×AV)} {k:Blk->(Nat->AV)->Bool} {pM:Prop} (h:ps=ps') (hM:Mk=pM):bF P t n ps k=bF P t n ps' k:=by rw [h]
@[congr] theorem aaH {a:Nat} {Q Q':fM} {k:fM->Hp->Bool} {pM:Prop} (h:Q=Q') (hM:Mk=pM):cA a Q H k=cA a Q' H k:=by rw [h]
@[congr] theorem aaF {Q Q':fM} {k:Hp->Bool} {pM:Prop} (h:Q=Q') (hM:Mk=pM):cP Q H k=cP Q' H k:=by rw [h]
@[congr] theorem aeV {Q:D->Prop} {e e':fE} {pM:Prop} {H H':Hp} (h:e=e') (hH:H=H') (hM:Mk=pM):kU Q e H=kU Q e' H':=by rw [h,hH]
end
section
variable {P : Program} {G : bK} {H : Hp} {k : AV -> Bool} {α : Type} {sz : Nat} {enc : α -> List D} {xs : List α} {d : D}
@[go_sem ↓] theorem a8L (i:IntKind) (a b:Int):rL false [.int i a,.int i b] k=k (.int i (min a b)):=by
 show k (match ilt b a with | true=>.int i b | false=>.int i a)=_
 rw [jW]
 by_cases h:b<a
 ·rw [decide_eq_true h];dsimp only;rw [Int.min_eq_right (by omega)]
 ·rw [decide_eq_false h];dsimp only;rw [Int.min_eq_left (by omega)]
@[go_sem ↓] theorem a8D (i:IntKind) (a b:Int):rL true [.int i a,.int i b] k=k (.int i (max a b)):=by
 show k (match ilt a b with | true=>.int i b | false=>.int i a)=_
 rw [jW]
 by_cases h:a<b
 ·rw [decide_eq_true h];dsimp only;rw [Int.max_eq_right (by omega)]
 ·rw [decide_eq_false h];dsimp only;rw [Int.max_eq_left (by omega)]
@[congr] theorem ajV {mx:Bool} {l l':List AV} (h:l=l'):rL mx l k=rL mx l' k:=by rw [h]
end
end
end Go.Ev
namespace Go.S5
open Go.Ev Go.Proofs
def fD (x:Arc) (by_:Int):Arc:=if 43199<=x.len+2 * by_ then⟨0,43199⟩ else⟨(x.from_ - by_)%43200,x.len+2 * by_⟩
theorem aQE {x y:Arc} (h1:x.from_=y.from_) (h2:x.len=y.len):D.agg (cV x)=D.agg (cV y):=by simp only [cV,h1,h2]
theorem aON (x:Arc) (hx:dZ x=true) (by_:Int) (hb:0<=by_/\by_<=43200):CQ P G 161 [.agg (cV x),.int .i64 by_] (·= .agg (cV (fD x by_))):=by
 obtain⟨f,l⟩:=x
 simp only [dZ,decide_eq_true_eq] at hx
 refine CQ.enter hG ?_
 (try simp (disch:=first|exact bk rfl|omega) only [go_sem,cV,aiB]);repeat' (first | ((with_reducible first | apply aD | apply aE | apply aC)<;>intro h<;>(try simp only [spl] at h)<;>try simp (disch:=first|exact bk rfl|omega) only [go_sem,cV,aiB,h])| ((with_reducible refine cR ?_;refine bE hG _ (aNG _) rfl ?_)<;>try simp (disch:=first|exact bk rfl|omega) only [go_sem,cV,aiB]))
 all_goals refine aG (.agg (cV ⟨_,_⟩)) (aQE ?_ ?_)
 all_goals (simp only [fD];split<;>first | rfl | omega)
theorem aSK (x:Arc) (hx:dZ x=true) (by_:Int) (hb:0<=by_/\by_<=43200):CQ P G 249 [.agg (cV x),.int .i64 by_] (·= .agg (cV (fD x by_))):=by
 obtain⟨f,l⟩:=x
 simp only [dZ,decide_eq_true_eq] at hx
 refine CQ.enter hG ?_
 (try simp (disch:=first|exact bk rfl|omega) only [go_sem,cV,alX]);repeat' (first | ((with_reducible first | apply aD | apply aE | apply aC)<;>intro h<;>(try simp only [spl] at h)<;>try simp (disch:=first|exact bk rfl|omega) only [go_sem,cV,alX,h])| ((with_reducible refine cR ?_;refine bE hG _ (aLP _) rfl ?_)<;>try simp (disch:=first|exact bk rfl|omega) only [go_sem,cV,alX]))
 all_goals refine aG (.agg (cV ⟨_,_⟩)) (aQE ?_ ?_)
 all_goals (simp only [fD];split<;>first | rfl | omega)
theorem aVI (x:Arc):CQ P G 218 [.agg (cV x)] (·= .bool (!dZ x)):=by
 obtain⟨f,l⟩:=x
 refine CQ.enter hG ?_
 (try simp (disch:=first|exact bk rfl|omega) only [go_sem,cV,ajR]);repeat' (first | ((with_reducible first | apply aD | apply aE | apply aC)<;>intro h<;>(try simp only [spl] at h)<;>try simp (disch:=first|exact bk rfl|omega) only [go_sem,cV,ajR,h])| ((with_reducible refine cR ?_;refine bE hG _ (vL ⟨f,l⟩) rfl ?_)<;>try simp (disch:=first|exact bk rfl|omega) only [go_sem,cV,ajR]))
 exact aG (.bool _) rfl
theorem aAM (x:Arc) (hx:dZ x=true) (d:D) (hs:Sl 2 cV [x] d):CQ P G 160 [d] (·= .int .i64 0):=by
 have h1:=aOE [x] d hs (by simp) 218 [] (fun x=> !dZ x) (by kernel_rfl) (by kernel_rfl) fun x _=>aVI x
 have h2:eA (fun x=> !dZ x) [x]= -1:=by simp [eA,hx]
 rw [h2] at h1
 refine CQ.enter hG ?_
 (try simp (disch:=first|exact bk rfl|omega) only [go_sem,axC,aK hs jL,List.length_singleton,Int.ofNat_one,Int.reduceLT]);repeat' ((with_reducible first | apply aD | apply aE | apply aC)<;>intro h<;>(try simp only [spl] at h)<;>try simp (disch:=first|exact bk rfl|omega) only [go_sem,axC,aK hs jL,List.length_singleton,Int.ofNat_one,Int.reduceLT,h])
 refine bE hG [d,.fn 218 [] []] h1 rfl ?_
 (try simp (disch:=first|exact bk rfl|omega) only [go_sem,Int.reduceLE,Int.reduceLT,Int.reduceNeg]);repeat' ((with_reducible first | apply aD | apply aE | apply aC)<;>intro h<;>(try simp only [spl] at h)<;>try simp (disch:=first|exact bk rfl|omega) only [go_sem,Int.reduceLE,Int.reduceLT,Int.reduceNeg,h])
 exact aG (.int .i64 0) rfl
theorem dB {α:Type} {sz:Nat} {enc:α->List D} {xs:List α} {d:D} (h:Sl sz enc xs d) (n:Nat):aR (n+1) (ofD d) (ofD d)=true:=by
 rcases h with⟨rfl,_⟩| rfl
 ·rfl
 ·exact adS n _
theorem aiC (a b c d:Int) (k:AV->Bool):aH P .neq 28 false (.agg [.int .i64 a,.int .i64 b]) (.agg [.int .i64 c,.int .i64 d]) k=(match fL [.i,.i] [.int .i64 a,.int .i64 b] [.int .i64 c,.int .i64 d] with | some r=>eT (!r) fun r=>k (.bool r)| none=>false):=by kernel_rfl
theorem aIJ (a b c d:Int) (k:AV->Bool):aH P .neq 28 false (.agg [.int .i64 a,.int .i64 b]) (.agg [.int .i64 c,.int .i64 d]) k=k (.bool (!(decide (a=c)&&decide (b=d)))):=by
 rw [aiC]
 have h:fL [.i,.i] [.int .i64 a,.int .i64 b] [.int .i64 c,.int .i64 d]=some (decide (a=c)&&decide (b=d)):=by
  simp only [fL,yG,Nat.beq_refl,oR,Bool.and_true]
 rw [h]
 exact cD _ _
def aQA (k:Int) (gap:bU) (most lo hi:Int):Bool:=decide (((k=3∨k=6)->0<=gap.lo/\gap.lo<=gap.hi/\gap.hi<=86400)/\(¬(k=3∨k=6)->gap.lo=0/\gap.hi=0)/\(k=5->0<=most/\most<=86399)/\(k≠5->most=0)/\(k=6->1<=lo/\lo<=hi/\hi<=6)/\(k≠6->lo=0/\hi=0))
def nM (o:aF):Bool:=decide ((o.kids.length:Int)=sB o.kind)&&decide (o.names.length<=4)&&kJ o&&aQA o.kind o.gap o.most o.lo o.hi
mutual
def eB:aF->Bool
 | .mk kind names dn gap most lo hi kids dk=>nM (.mk kind names dn gap most lo hi kids dk)&&oG kids
def oG:List aF->Bool
 | []=>true
 | o::l=>eB o&&oG l
end
theorem aAY:∀l:List aF,oG l=l.all eB
 | []=>by simp [oG]
 | o::l=>by rw [oG,aAY l];simp
theorem jV (o:aF):eB o=(nM o&&o.kids.all eB):=by
 cases o with | mk kind names dn gap most lo hi kids dk=>rw [eB,aAY];rfl
def a5X (o:aF) (m:Nat) (e:En) (H:Hp):Prop:=∃n:Nat,n<=o.kids.length/\m=o.kids.length - n/\e.dm=[]/\(∀y∈o.kids.take n,eB y=true)/\E2.get e.t 4= .int .i64 n/\E2.get e.t 1= .ptr 0 0/\H.get 0=some (.cells (some 40) false (bD (aV o)))
theorem kE {o:aF} (h:nM o=true->False):eB o=false:=by
 rw [jV]
 cases hx:nM o
 ·rfl
 ·exact (h hx).elim
theorem kL {o:aF}:nM o=true->((o.kids.length:Int)=sB o.kind/\o.names.length<=4/\kJ o=true)/\(((o.kind=3∨o.kind=6)->0<=o.gap.lo/\o.gap.lo<=o.gap.hi/\o.gap.hi<=86400)/\(¬(o.kind=3∨o.kind=6)->o.gap.lo=0/\o.gap.hi=0)/\(o.kind=5->0<=o.most/\o.most<=86399)/\(o.kind≠5->o.most=0)/\(o.kind=6->1<=o.lo/\o.lo<=o.hi/\o.hi<=6)/\(o.kind≠6->o.lo=0/\o.hi=0)):=by
 intro h
 simp only [nM,aQA,Bool.and_eq_true,decide_eq_true_eq] at h
 exact⟨⟨h.1.1.1,h.1.1.2,h.1.2⟩,h.2⟩
theorem aVP {o:aF} (h1:(o.kids.length:Int)=sB o.kind) (h2:o.names.length<=4) (h3:kJ o=true) (h4:((o.kind=3∨o.kind=6)->0<=o.gap.lo/\o.gap.lo<=o.gap.hi/\o.gap.hi<=86400)/\(¬(o.kind=3∨o.kind=6)->o.gap.lo=0/\o.gap.hi=0)/\(o.kind=5->0<=o.most/\o.most<=86399)/\(o.kind≠5->o.most=0)/\(o.kind=6->1<=o.lo/\o.lo<=o.hi/\o.hi<=6)/\(o.kind≠6->o.lo=0/\o.hi=0)):nM o=true:=by
 simp only [nM,aQA,Bool.and_eq_true,decide_eq_true_eq]
 exact⟨⟨⟨h1,h2⟩,h3⟩,h4⟩
def bP (o:aF):List AV:=[.int .i64 o.kind,ofD o.dn,.int .i64 o.gap.lo,.int .i64 o.gap.hi,.int .i64 o.most,.int .i64 o.lo,.int .i64 o.hi,ofD o.dk]
section
variable {o : aF} {t : E2} {H : Hp} {k : AEx -> En -> Hp -> Bool}
theorem akT (g1:E2.get t 1= .ptr 0 0) (hg0:H.get 0=some (.cells (some 40) false (bP o))) (hk:∀t',E2.get t' 1= .ptr 0 0->E2.get t' 3= .bool (decide (o.kind=3)||decide (o.kind=6))->k .normal ⟨t',[]⟩ H=true):
  cd P G 197 120 (aJ 107 [1,1,0]) none ⟨t,[]⟩ H k=true:=by
 rw [amR]
 (try simp (disch:=first|exact bk rfl|omega) only [go_sem,bP, *]);repeat' ((with_reducible first | apply aD | apply aE | apply aC)<;>intro h<;>(try simp only [spl] at h)<;>try simp (disch:=first|exact bk rfl|omega) only [go_sem,bP, *])
 all_goals (refine hk _ ?_ ?_<;>(first | rfl | (simp (disch:=first|exact bk rfl|omega) only [go_sem,g1,h,Bool.or_true,Bool.true_or,Bool.false_or,Bool.or_false]<;>rfl)))
theorem alN {g:Bool} (g1:E2.get t 1= .ptr 0 0) (g3:E2.get t 3= .bool g) (hg0:H.get 0=some (.cells (some 40) false (bP o))) (hk:∀t',E2.get t' 1= .ptr 0 0->E2.get t' 47= .bool ((g&& !eQ o.gap)||(!g&& !(decide (o.gap.lo=0)&&decide (o.gap.hi=0))))->k .normal ⟨t',[]⟩ H=true):
  cd P G 195 120 (aJ 107 [1,1,1,0,0]) none ⟨t,[]⟩ H k=true:=by
 rw [amG]
 have hgap:(⟨o.gap.lo,o.gap.hi⟩:bU)=o.gap:=rfl
 cases g
 ·(try simp (disch:=first|exact bk rfl|omega) only [go_sem,bP,jX,aIJ, *]);repeat' ((with_reducible first | apply aD | apply aE | apply aC)<;>intro h<;>(try simp only [spl] at h)<;>try simp (disch:=first|exact bk rfl|omega) only [go_sem,bP,jX,aIJ, *])
  all_goals (refine hk _ ?_ ?_<;>(first | rfl | (simp (disch:=first|exact bk rfl|omega) only [go_sem,g1,Bool.or_true,Bool.true_or,Bool.false_or,Bool.or_false, *]<;>rfl)))
 ·have hgc:=aZE o.gap
  cases hb:eQ o.gap<;>rw [hb] at hgc
  ·(try simp (disch:=first|exact bk rfl|omega) only [go_sem,bP, *]);repeat' (first | ((with_reducible first | apply aD | apply aE | apply aC)<;>intro h<;>(try simp only [spl] at h)<;>try simp (disch:=first|exact bk rfl|omega) only [go_sem,bP, *])| ((with_reducible refine cR ?_;refine bE hG _ (hgc) rfl ?_)<;>try simp (disch:=first|exact bk rfl|omega) only [go_sem,bP, *]))
   all_goals (refine hk _ ?_ ?_<;>(first | rfl | (simp (disch:=first|exact bk rfl|omega) only [go_sem,g1,Bool.or_true,Bool.true_or,Bool.false_or,Bool.or_false, *]<;>rfl)))
  ·(try simp (disch:=first|exact bk rfl|omega) only [go_sem,bP, *]);repeat' (first | ((with_reducible first | apply aD | apply aE | apply aC)<;>intro h<;>(try simp only [spl] at h)<;>try simp (disch:=first|exact bk rfl|omega) only [go_sem,bP, *])| ((with_reducible refine cR ?_;refine bE hG _ (hgc) rfl ?_)<;>try simp (disch:=first|exact bk rfl|omega) only [go_sem,bP, *]))
   all_goals (refine hk _ ?_ ?_<;>(first | rfl | (simp (disch:=first|exact bk rfl|omega) only [go_sem,g1,Bool.or_true,Bool.true_or,Bool.false_or,Bool.or_false, *]<;>rfl)))
theorem abB (g1:E2.get t 1= .ptr 0 0) (hg0:H.get 0=some (.cells (some 40) false (bP o))) (hk:∀t' r,E2.get t' 1= .ptr 0 0->E2.get t' 70= .bool r->(r=true↔((o.kind=5/\(o.most<0∨86399<o.most))∨(o.kind≠5/\o.most≠0)))->k .normal ⟨t',[]⟩ H=true):
  cd P G 194 120 (aJ 107 [1,1,1,1,0,0]) none ⟨t,[]⟩ H k=true:=by
 rw [aeA]
 (try simp (disch:=first|exact bk rfl|omega) only [go_sem,bP, *]);repeat' ((with_reducible first | apply aD | apply aE | apply aC)<;>intro h<;>(try simp only [spl] at h)<;>try simp (disch:=first|exact bk rfl|omega) only [go_sem,bP, *])
 all_goals first
  | (refine hk _ true ?_ ?_ ?_<;>first | (first | rfl | (simp (disch:=first|exact bk rfl|omega) only [go_sem,g1, *]<;>rfl))| (exact⟨fun _=>by omega,fun _=>rfl⟩)| (exact⟨fun hx=>by simp at hx,fun hx=>by exfalso;omega⟩))
  | (refine hk _ false ?_ ?_ ?_<;>first | (first | rfl | (simp (disch:=first|exact bk rfl|omega) only [go_sem,g1, *]<;>rfl))| (exact⟨fun _=>by omega,fun _=>rfl⟩)| (exact⟨fun hx=>by simp at hx,fun hx=>by exfalso;omega⟩))
  | (refine hk _ (!decide (o.most=0)) ?_ ?_ ?_<;>first | (first | rfl | (simp (disch:=first|exact bk rfl|omega) only [go_sem,g1, *]<;>rfl))| (simp only [Bool.not_eq_true',decide_eq_true_eq,decide_eq_false_iff_not];omega))
  | (refine hk _ (decide (86399<o.most)) ?_ ?_ ?_<;>first | (first | rfl | (simp (disch:=first|exact bk rfl|omega) only [go_sem,g1, *]<;>rfl))| (simp only [Bool.not_eq_true',decide_eq_true_eq,decide_eq_false_iff_not];omega))
theorem aeH (g1:E2.get t 1= .ptr 0 0) (hg0:H.get 0=some (.cells (some 40) false (bP o))) (hk:∀t' r,E2.get t' 1= .ptr 0 0->E2.get t' 105= .bool r->(r=true↔((o.kind=6/\(o.lo<1∨o.hi<o.lo∨6<o.hi))∨(o.kind≠6/\(o.lo≠0∨o.hi≠0))))->k .normal ⟨t',[]⟩ H=true):
  cd P G 193 120 (aJ 107 [1,1,1,1,1,0,0]) none ⟨t,[]⟩ H k=true:=by
 rw [abQ]
 (try simp (disch:=first|exact bk rfl|omega) only [go_sem,bP, *]);repeat' ((with_reducible first | apply aD | apply aE | apply aC)<;>intro h<;>(try simp only [spl] at h)<;>try simp (disch:=first|exact bk rfl|omega) only [go_sem,bP, *])
 all_goals first
  | (refine hk _ true ?_ ?_ ?_<;>first | (first | rfl | (simp (disch:=first|exact bk rfl|omega) only [go_sem,g1, *]<;>rfl))| (exact⟨fun _=>by omega,fun _=>rfl⟩)| (exact⟨fun hx=>by simp at hx,fun hx=>by exfalso;omega⟩))
  | (refine hk _ false ?_ ?_ ?_<;>first | (first | rfl | (simp (disch:=first|exact bk rfl|omega) only [go_sem,g1, *]<;>rfl))| (exact⟨fun _=>by omega,fun _=>rfl⟩)| (exact⟨fun hx=>by simp at hx,fun hx=>by exfalso;omega⟩))
  | (refine hk _ (!decide (o.hi=0)) ?_ ?_ ?_<;>first | (first | rfl | (simp (disch:=first|exact bk rfl|omega) only [go_sem,g1, *]<;>rfl))| (simp only [Bool.not_eq_true',decide_eq_true_eq,decide_eq_false_iff_not];omega))
  | (refine hk _ (decide (6<o.hi)) ?_ ?_ ?_<;>first | (first | rfl | (simp (disch:=first|exact bk rfl|omega) only [go_sem,g1, *]<;>rfl))| (simp only [Bool.not_eq_true',decide_eq_true_eq,decide_eq_false_iff_not];omega))
end
theorem arO {o:aF} (h:¬(nM o=true)):eB o=false:=kE h
theorem aHN {o:aF} (ho:dC o):CQ P G 107 [.agg (aV o)] (·= .bool (eB o)):=by
 induction ho with
 | mk kind names dn gap ms lo hi kids dk hn hnl hl hk hkl ho ih=>
  have hO:dC (.mk kind names dn gap ms lo hi kids dk):= .mk kind names dn gap ms lo hi kids dk hn hnl hl hk hkl ho
  refine CQ.enter hG ?_
  by_cases hA:(kids.length:Int)=sB kind
  rotate_left
  ·have hA':((kids.length:Int)=sB kind)=False:=eq_false hA
   (try simp (disch:=first|exact bk rfl|omega) only [go_sem,hA',aV,aF.kind,aF.names,aF.dn,aF.gap,aF.most,aF.lo,aF.hi,aF.kids,aF.dk,yL,lT,kT,kS,kW,aK hn dE,aK hk dS,dB hn,dB hk]);repeat' (first | ((with_reducible first | apply aD | apply aE | apply aC)<;>intro h<;>(try simp only [spl] at h)<;>try simp (disch:=first|exact bk rfl|omega) only [go_sem,hA',aV,aF.kind,aF.names,aF.dn,aF.gap,aF.most,aF.lo,aF.hi,aF.kids,aF.dk,yL,lT,kT,kS,kW,aK hn dE,aK hk dS,dB hn,dB hk,h])| ((with_reducible refine cR ?_;refine bE hG _ (rG _) rfl ?_)<;>try simp (disch:=first|exact bk rfl|omega) only [go_sem,hA',aV,aF.kind,aF.names,aF.dn,aF.gap,aF.most,aF.lo,aF.hi,aF.kids,aF.dk,yL,lT,kT,kS,kW,aK hn dE,aK hk dS,dB hn,dB hk]))
   all_goals (refine aG (.bool false) ?_;congr 1;symm;exact kE fun hx=>hA (kL hx).1.1)
  have hA':((kids.length:Int)=sB kind)=True:=eq_true hA
  by_cases hN:names.length<=4
  rotate_left
  ·have hN':((4:Int)<(names.length:Int))=True:=eq_true (by omega)
   (try simp (disch:=first|exact bk rfl|omega) only [go_sem,hA',hN',aV,aF.kind,aF.names,aF.dn,aF.gap,aF.most,aF.lo,aF.hi,aF.kids,aF.dk,yL,lT,kT,kS,kW,aK hn dE,aK hk dS,dB hn,dB hk]);repeat' (first | ((with_reducible first | apply aD | apply aE | apply aC)<;>intro h<;>(try simp only [spl] at h)<;>try simp (disch:=first|exact bk rfl|omega) only [go_sem,hA',hN',aV,aF.kind,aF.names,aF.dn,aF.gap,aF.most,aF.lo,aF.hi,aF.kids,aF.dk,yL,lT,kT,kS,kW,aK hn dE,aK hk dS,dB hn,dB hk,h])| ((with_reducible refine cR ?_;refine bE hG _ (rG _) rfl ?_)<;>try simp (disch:=first|exact bk rfl|omega) only [go_sem,hA',hN',aV,aF.kind,aF.names,aF.dn,aF.gap,aF.most,aF.lo,aF.hi,aF.kids,aF.dk,yL,lT,kT,kS,kW,aK hn dE,aK hk dS,dB hn,dB hk]))
   all_goals (refine aG (.bool false) ?_;congr 1;symm;exact kE fun hx=>hN (kL hx).1.2.1)
  have hN':((4:Int)<(names.length:Int))=False:=eq_false (by omega)
  cases hB:kJ (.mk kind names dn gap ms lo hi kids dk)
  ·(try simp (disch:=first|exact bk rfl|omega) only [go_sem,hA',hN',hB,aV,aF.kind,aF.names,aF.dn,aF.gap,aF.most,aF.lo,aF.hi,aF.kids,aF.dk,yL,lT,kT,kS,kW,aK hn dE,aK hk dS,dB hn,dB hk]);repeat' (first | ((with_reducible first | apply aD | apply aE | apply aC)<;>intro h<;>(try simp only [spl] at h)<;>try simp (disch:=first|exact bk rfl|omega) only [go_sem,hA',hN',hB,aV,aF.kind,aF.names,aF.dn,aF.gap,aF.most,aF.lo,aF.hi,aF.kids,aF.dk,yL,lT,kT,kS,kW,aK hn dE,aK hk dS,dB hn,dB hk,h])| ((with_reducible refine cR ?_;first | refine bE hG _ (rG _) rfl ?_ | refine bE hG _ (yA (.mk kind names dn gap ms lo hi kids dk) hO) rfl ?_)<;>try simp (disch:=first|exact bk rfl|omega) only [go_sem,hA',hN',hB,aV,aF.kind,aF.names,aF.dn,aF.gap,aF.most,aF.lo,aF.hi,aF.kids,aF.dk,yL,lT,kT,kS,kW,aK hn dE,aK hk dS,dB hn,dB hk]))
   all_goals (refine aG (.bool false) ?_;congr 1;symm;exact kE fun hx=>by have:=(kL hx).1.2.2;rw [hB] at this;cases this)
  simp (disch:=first|exact bk rfl|omega) only [go_sem,hA',hN',hB,aV,aF.kind,aF.names,aF.dn,aF.gap,aF.most,aF.lo,aF.hi,aF.kids,aF.dk,yL,lT,kT,kS,kW,aK hn dE,aK hk dS,dB hn,dB hk]
  refine bE hG _ (rG _) rfl ?_
  simp (disch:=first|exact bk rfl|omega) only [go_sem,hA',hN',hB,aV,aF.kind,aF.names,aF.dn,aF.gap,aF.most,aF.lo,aF.hi,aF.kids,aF.dk,yL,lT,kT,kS,kW,aK hn dE,aK hk dS,dB hn,dB hk]
  refine bE hG _ (yA (.mk kind names dn gap ms lo hi kids dk) hO) rfl ?_
  simp (disch:=first|exact bk rfl|omega) only [go_sem,hA',hN',hB,aV,aF.kind,aF.names,aF.dn,aF.gap,aF.most,aF.lo,aF.hi,aF.kids,aF.dk,yL,lT,kT,kS,kW,anX,aK hn dE,aK hk dS,dB hn,dB hk]
  generalize hH:(Hp.empty.push _:Hp)=H
  have hg0:H.get 0=some (.cells (some 40) false (bP (.mk kind names dn gap ms lo hi kids dk))):=by subst hH;simp (disch:=first|exact bk rfl|omega) only [go_sem,bP,aF.kind,aF.names,aF.dn,aF.gap,aF.most,aF.lo,aF.hi,aF.kids,aF.dk]
  refine akT (o:= .mk kind names dn gap ms lo hi kids dk) (eg rfl rfl) hg0 fun t g1 g3=> ?_
  simp (disch:=first|exact bk rfl|omega) only [go_sem,alK,alH]
  refine alN g1 g3 hg0 fun t g1 g47=> ?_
  simp (disch:=first|exact bk rfl|omega) only [go_sem,acZ,g47]
  refine aE (fun hc=> ?_) (fun hc=> ?_)
  ·simp (disch:=first|exact bk rfl|omega) only [go_sem,lT]
   refine aG (.bool false) ?_
   congr 1;symm;refine kE fun hx=> ?_
   have hx:=(kL hx).2
   simp only [eQ,Bool.or_eq_true,Bool.and_eq_true,Bool.not_eq_true',decide_eq_true_eq,decide_eq_false_iff_not,Bool.or_eq_false_iff,Bool.and_eq_false_iff] at hc
   omega
  simp (disch:=first|exact bk rfl|omega) only [go_sem,anT,aeB]
  refine abB (o:= .mk kind names dn gap ms lo hi kids dk) g1 hg0 fun t r g1 g70 hr=> ?_
  simp (disch:=first|exact bk rfl|omega) only [go_sem,aaS,g70]
  refine aE (fun hc2=> ?_) (fun hc2=> ?_)
  ·simp (disch:=first|exact bk rfl|omega) only [go_sem,lT]
   refine aG (.bool false) ?_
   congr 1;symm;refine kE fun hx=> ?_
   have hx:=(kL hx).2
   have hr:=hr.1 hc2
   omega
  have hr:¬_:=fun hx=>by have:=hr.2 hx;rw [hc2] at this;cases this
  simp (disch:=first|exact bk rfl|omega) only [go_sem,abT,adF]
  refine aeH (o:= .mk kind names dn gap ms lo hi kids dk) g1 hg0 fun t r2 g1 g105 hr2=> ?_
  simp (disch:=first|exact bk rfl|omega) only [go_sem,acG,g105]
  refine aE (fun hc3=> ?_) (fun hc3=> ?_)
  ·simp (disch:=first|exact bk rfl|omega) only [go_sem,lT]
   refine aG (.bool false) ?_
   congr 1;symm;refine kE fun hx=> ?_
   have hx:=(kL hx).2
   have hr2:=hr2.1 hc3
   omega
  have hr2:¬_:=fun hx=>by have:=hr2.2 hx;rw [hc3] at this;cases this
  have hnode:nM (.mk kind names dn gap ms lo hi kids dk)=true:=by
   refine aVP hA hN hB ?_
   simp only [eQ,Bool.or_eq_false_iff,Bool.and_eq_false_iff,Bool.not_eq_false',decide_eq_true_eq,decide_eq_false_iff_not,Bool.and_eq_true,Bool.or_eq_true,Bool.not_eq_true'] at hc
   simp only [aF.kind,aF.names,aF.dn,aF.gap,aF.most,aF.lo,aF.hi,aF.kids,aF.dk] at *
   omega
  simp (disch:=first|exact bk rfl|omega) only [go_sem,aaX]
  refine bA (a5X (.mk kind names dn gap ms lo hi kids dk)) (fun m e H hi=> ?_) (m:=kids.length) ?_
  rotate_left
  ·refine⟨0,Nat.zero_le _,rfl,rfl,fun y hy=>by simp at hy, ?_, ?_, ?_⟩<;>first | (first | rfl | (simp (disch:=first|exact bk rfl|omega) only [go_sem,g1]<;>rfl))| (rw [hg0];rfl)
  obtain⟨n,hn',rfl,hdm,ha,g4,g1,hg0⟩:=hi
  obtain⟨t,dm⟩:=e
  dsimp only [aF.kids] at hn' hdm ha g4 g1 hg0
  subst hdm
  simp only [aV,aF.kind,aF.names,aF.dn,aF.gap,aF.most,aF.lo,aF.hi,aF.kids,aF.dk,go_sem] at hg0
  refine bC 200 ?_
  rw [alF]
  by_cases hlt:n<kids.length
  ·have hih:=ih _ (List.getElem_mem hlt)
   cases hf:eB kids[n]<;>rw [hf] at hih
   ·(try simp (disch:=first|exact bk rfl|omega) only [go_sem,g4,g1,hg0,aK hk dS,aX hk dS mM kC hlt,aY cG hlt,aV,Int.ofNat_lt,hlt,lT]);repeat' (first | ((with_reducible first | apply aD | apply aE | apply aC)<;>intro h<;>(try simp only [spl] at h)<;>try simp (disch:=first|exact bk rfl|omega) only [go_sem,g4,g1,hg0,aK hk dS,aX hk dS mM kC hlt,aY cG hlt,aV,Int.ofNat_lt,hlt,lT,h])| ((with_reducible refine cR ?_;refine bE hG _ (hih) rfl ?_)<;>try simp (disch:=first|exact bk rfl|omega) only [go_sem,g4,g1,hg0,aK hk dS,aX hk dS mM kC hlt,aY cG hlt,aV,Int.ofNat_lt,hlt,lT]))
    refine aG (.bool false) ?_
    congr 1;symm;rw [jV,hnode,Bool.true_and]
    exact List.all_eq_false.2 ⟨kids[n],List.getElem_mem hlt,by simp [hf]⟩
   ·(try simp (disch:=first|exact bk rfl|omega) only [go_sem,g4,g1,hg0,aK hk dS,aX hk dS mM kC hlt,aY cG hlt,aV,Int.ofNat_lt,hlt,lT]);repeat' (first | ((with_reducible first | apply aD | apply aE | apply aC)<;>intro h<;>(try simp only [spl] at h)<;>try simp (disch:=first|exact bk rfl|omega) only [go_sem,g4,g1,hg0,aK hk dS,aX hk dS mM kC hlt,aY cG hlt,aV,Int.ofNat_lt,hlt,lT,h])| ((with_reducible refine cR ?_;refine bE hG _ (hih) rfl ?_)<;>try simp (disch:=first|exact bk rfl|omega) only [go_sem,g4,g1,hg0,aK hk dS,aX hk dS mM kC hlt,aY cG hlt,aV,Int.ofNat_lt,hlt,lT]))
    refine aZ (m':=kids.length - (n+1)) (by simp only [aF.kids];omega) ⟨n+1,by simp only [aF.kids];omega,rfl,rfl, ?_, ?_, ?_, ?_⟩
    ·rw [show (aF.mk kind names dn gap ms lo hi kids dk).kids=kids from rfl,List.take_succ_eq_append_getElem hlt]
     intro y hy
     rcases List.mem_append.1 hy with hy | hy
     ·exact ha y hy
     ·simp at hy;subst hy;exact hf
    all_goals (first | rfl | (simp (disch:=first|exact bk rfl|omega) only [go_sem,g4,g1,hg0,aV,aF.kind,aF.names,aF.dn,aF.gap,aF.most,aF.lo,aF.hi,aF.kids,aF.dk]<;>rfl))
  ·(try simp (disch:=first|exact bk rfl|omega) only [go_sem,g4,g1,hg0,aK hk dS,Int.ofNat_lt,hlt,aPL,lT]);repeat' ((with_reducible first | apply aD | apply aE | apply aC)<;>intro h<;>(try simp only [spl] at h)<;>try simp (disch:=first|exact bk rfl|omega) only [go_sem,g4,g1,hg0,aK hk dS,Int.ofNat_lt,hlt,aPL,lT,h])
   refine aG (.bool true) ?_
   congr 1;symm;rw [jV,hnode,Bool.true_and]
   rw [List.take_of_length_le (by omega)] at ha
   exact List.all_eq_true.2 ha
theorem adL (a b c d e f:Int) (k:AV->Bool):aH P .eql 263 false (.agg [.int .i64 a,.int .i64 b,.int .i64 c]) (.agg [.int .i64 d,.int .i64 e,.int .i64 f]) k=(match fL [.i,.i,.i] [.int .i64 a,.int .i64 b,.int .i64 c] [.int .i64 d,.int .i64 e,.int .i64 f] with | some r=>eT r fun r=>k (.bool r)| none=>false):=by kernel_rfl
theorem fQ (a b c d e f:Int) (k:AV->Bool):aH P .eql 263 false (.agg [.int .i64 a,.int .i64 b,.int .i64 c]) (.agg [.int .i64 d,.int .i64 e,.int .i64 f]) k=k (.bool (decide (a=d/\b=e/\c=f))):=by
 rw [adL]
 have h:fL [.i,.i,.i] [.int .i64 a,.int .i64 b,.int .i64 c] [.int .i64 d,.int .i64 e,.int .i64 f]=some (decide (a=d/\b=e/\c=f)):=by
  simp only [fL,yG,Nat.beq_refl,oR,Bool.and_true,Bool.decide_and]
 rw [h]
 exact cD _ _
theorem aVZ (x y z:Int) (k:AV->Bool):bO P 263 [(0,.int .i64 x),(1,.int .i64 y),(2,.int .i64 z)] k=k (.agg [.int .i64 x,.int .i64 y,.int .i64 z]):=by
 rw [qY (z:=[.int .i64 0,.int .i64 0,.int .i64 0]) (by kernel_rfl) agS in3,ce3]
 rfl
theorem eD (k:AV->Bool):bO P 263 [] k=k (.agg [.int .i64 0,.int .i64 0,.int .i64 0]):=by
 rw [qY (z:=[.int .i64 0,.int .i64 0,.int .i64 0]) (by kernel_rfl) agS in3,ce3]
 rfl
def dH (o:aF):Prop:=
 (o.kind=1/\o.names.length=1/\o.kids.length=0/\o.gap.lo=0/\o.gap.hi=0/\o.most=0/\o.lo=0/\o.hi=0)∨
 (o.kind=2/\2<=o.names.length/\o.names.length<=4/\o.kids.length=0/\o.gap.lo=0/\o.gap.hi=0/\o.most=0/\o.lo=0/\o.hi=0)∨
 (o.kind=3/\o.names.length=0/\o.kids.length=2/\0<=o.gap.lo/\o.gap.lo<=o.gap.hi/\o.gap.hi<=86400/\o.most=0/\o.lo=0/\o.hi=0)∨
 (o.kind=4/\o.names.length=0/\o.kids.length=2/\o.gap.lo=0/\o.gap.hi=0/\o.most=0/\o.lo=0/\o.hi=0)∨
 (o.kind=5/\o.names.length=0/\o.kids.length=1/\o.gap.lo=0/\o.gap.hi=0/\0<=o.most/\o.most<86400/\o.lo=0/\o.hi=0)∨
 (o.kind=6/\o.names.length=0/\o.kids.length=1/\0<=o.gap.lo/\o.gap.lo<=o.gap.hi/\o.gap.hi<=86400/\o.most=0/\1<=o.lo/\o.lo<=o.hi/\o.hi<=6)
instance (o:aF):Decidable (dH o):=by unfold dH;infer_instance
theorem agW (k:Int):((k=1)=True/\(k=2)=False/\(k=3)=False/\(k=4)=False/\(k=5)=False/\(k=6)=False)∨((k=1)=False/\(k=2)=True/\(k=3)=False/\(k=4)=False/\(k=5)=False/\(k=6)=False)∨
  ((k=1)=False/\(k=2)=False/\(k=3)=True/\(k=4)=False/\(k=5)=False/\(k=6)=False)∨((k=1)=False/\(k=2)=False/\(k=3)=False/\(k=4)=True/\(k=5)=False/\(k=6)=False)∨
  ((k=1)=False/\(k=2)=False/\(k=3)=False/\(k=4)=False/\(k=5)=True/\(k=6)=False)∨((k=1)=False/\(k=2)=False/\(k=3)=False/\(k=4)=False/\(k=5)=False/\(k=6)=True)∨
  ((k=1)=False/\(k=2)=False/\(k=3)=False/\(k=4)=False/\(k=5)=False/\(k=6)=False):=by
 simp only [eq_iff_iff,iff_true,iff_false]
 omega
theorem aAS (o:aF):nM o=(decide (dH o)&&pA [] o.names):=by
 rw [Bool.eq_iff_iff]
 simp only [nM,aQA,kJ,sB,aAD,aKQ,Bool.and_eq_true,decide_eq_true_eq]
 unfold dH
 generalize pA [] o.names=b
 rcases agW o.kind with⟨k1,k2,k3,k4,k5,k6⟩| ⟨k1,k2,k3,k4,k5,k6⟩| ⟨k1,k2,k3,k4,k5,k6⟩| ⟨k1,k2,k3,k4,k5,k6⟩| ⟨k1,k2,k3,k4,k5,k6⟩| ⟨k1,k2,k3,k4,k5,k6⟩| ⟨k1,k2,k3,k4,k5,k6⟩
 all_goals simp only [k1,k2,k3,k4,k5,k6,ne_eq,or_false,false_or,or_true,true_or,true_and,false_and,and_true,reduceIte,not_true_eq_false,not_false_eq_true,false_implies,true_implies,forall_const,if_true,if_false]
 all_goals simp only [decide_eq_true_eq]
 all_goals cases b<;>simp only [Bool.false_eq_true,and_false,false_and,and_true,true_and]<;>first | omega | (constructor<;>intro hx<;>first | omega | (exact hx.elim))
section
variable {o : aF} {t : E2} {H : Hp} {k : AEx -> En -> Hp -> Bool} {b : Nat}
theorem awR (g1:E2.get t 1= .ptr 0 0) (g7:E2.get t 7= .int .i64 (o.names.length:Int)) (g8:E2.get t 8= .int .i64 (o.kids.length:Int)) (g9:E2.get t 9= .bool (!(decide (o.gap.lo=0)&&decide (o.gap.hi=0)))) (g10:E2.get t 10= .ptr b 0)
  (hg0:H.get 0=some (.cells (some 40) false (bP o))) (hgb:H.get b=some (.cells (some 263) false [.int .i64 o.most,.int .i64 o.lo,.int .i64 o.hi]))
  (hk1:∀t' r,E2.get t' 2= .bool r->(r=true↔dH o)->k .ret ⟨t',[]⟩ H=true) (hk2:∀t',¬dH o->k .normal ⟨t',[]⟩ H=true):
  cd P G 193 201 (aJ 95 [1,1,1,1,1,1,0]) none ⟨t,[]⟩ H k=true:=by
 have hgc:=aVJ ⟨o.gap.lo,o.gap.hi⟩
 rcases agW o.kind with⟨k1,k2,k3,k4,k5,k6⟩| ⟨k1,k2,k3,k4,k5,k6⟩| ⟨k1,k2,k3,k4,k5,k6⟩| ⟨k1,k2,k3,k4,k5,k6⟩| ⟨k1,k2,k3,k4,k5,k6⟩| ⟨k1,k2,k3,k4,k5,k6⟩| ⟨k1,k2,k3,k4,k5,k6⟩
 ·(try simp (disch:=first|exact bk rfl|omega) only [go_sem,g1,g7,g8,g9,g10,hg0,hgb,k1,bP,iH,aLB,aOC,eD,fQ, *]);repeat' (first | ((with_reducible first | apply aD | apply aE | apply aC)<;>intro h<;>(try simp only [spl] at h)<;>try simp (disch:=first|exact bk rfl|omega) only [go_sem,g1,g7,g8,g9,g10,hg0,hgb,k1,bP,iH,aLB,aOC,eD,fQ, *])| ((with_reducible refine cR ?_;refine bE hG _ (hgc) rfl ?_)<;>try simp (disch:=first|exact bk rfl|omega) only [go_sem,g1,g7,g8,g9,g10,hg0,hgb,k1,bP,iH,aLB,aOC,eD,fQ, *]))
  all_goals first
   | (refine hk1 _ (true) ?_ ?_<;>first | (first | rfl | (simp (disch:=first|exact bk rfl|omega) only [go_sem, *]<;>rfl))| (simp only [dH,eQ,eq_iff_iff,iff_true,iff_false,Bool.and_eq_true,Bool.and_eq_false_iff,Bool.not_eq_true',decide_eq_true_eq,decide_eq_false_iff_not,true_iff,Bool.false_eq_true,false_iff] at *;omega))
   | (refine hk1 _ (false) ?_ ?_<;>first | (first | rfl | (simp (disch:=first|exact bk rfl|omega) only [go_sem, *]<;>rfl))| (simp only [dH,eQ,eq_iff_iff,iff_true,iff_false,Bool.and_eq_true,Bool.and_eq_false_iff,Bool.not_eq_true',decide_eq_true_eq,decide_eq_false_iff_not,true_iff,Bool.false_eq_true,false_iff] at *;omega))
   | (refine hk1 _ (decide (o.most=0/\o.lo=0/\o.hi=0)) ?_ ?_<;>first | (first | rfl | (simp (disch:=first|exact bk rfl|omega) only [go_sem, *]<;>rfl))| (simp only [dH,eQ,eq_iff_iff,iff_true,iff_false,Bool.and_eq_true,Bool.and_eq_false_iff,Bool.not_eq_true',decide_eq_true_eq,decide_eq_false_iff_not,true_iff,Bool.false_eq_true,false_iff] at *;omega))
   | (refine hk1 _ (decide (o.hi=0)) ?_ ?_<;>first | (first | rfl | (simp (disch:=first|exact bk rfl|omega) only [go_sem, *]<;>rfl))| (simp only [dH,eQ,eq_iff_iff,iff_true,iff_false,Bool.and_eq_true,Bool.and_eq_false_iff,Bool.not_eq_true',decide_eq_true_eq,decide_eq_false_iff_not,true_iff,Bool.false_eq_true,false_iff] at *;omega))
   | (refine hk1 _ (decide (o.hi<=6)) ?_ ?_<;>first | (first | rfl | (simp (disch:=first|exact bk rfl|omega) only [go_sem, *]<;>rfl))| (simp only [dH,eQ,eq_iff_iff,iff_true,iff_false,Bool.and_eq_true,Bool.and_eq_false_iff,Bool.not_eq_true',decide_eq_true_eq,decide_eq_false_iff_not,true_iff,Bool.false_eq_true,false_iff] at *;omega))
   | (refine hk2 _ ?_;simp only [dH,eq_iff_iff,iff_true,iff_false] at *;omega)
 ·(try simp (disch:=first|exact bk rfl|omega) only [go_sem,g1,g7,g8,g9,g10,hg0,hgb,k1,k2,bP,iH,aNT,aOB,eD,fQ, *]);repeat' (first | ((with_reducible first | apply aD | apply aE | apply aC)<;>intro h<;>(try simp only [spl] at h)<;>try simp (disch:=first|exact bk rfl|omega) only [go_sem,g1,g7,g8,g9,g10,hg0,hgb,k1,k2,bP,iH,aNT,aOB,eD,fQ, *])| ((with_reducible refine cR ?_;refine bE hG _ (hgc) rfl ?_)<;>try simp (disch:=first|exact bk rfl|omega) only [go_sem,g1,g7,g8,g9,g10,hg0,hgb,k1,k2,bP,iH,aNT,aOB,eD,fQ, *]))
  all_goals first
   | (refine hk1 _ (true) ?_ ?_<;>first | (first | rfl | (simp (disch:=first|exact bk rfl|omega) only [go_sem, *]<;>rfl))| (simp only [dH,eQ,eq_iff_iff,iff_true,iff_false,Bool.and_eq_true,Bool.and_eq_false_iff,Bool.not_eq_true',decide_eq_true_eq,decide_eq_false_iff_not,true_iff,Bool.false_eq_true,false_iff] at *;omega))
   | (refine hk1 _ (false) ?_ ?_<;>first | (first | rfl | (simp (disch:=first|exact bk rfl|omega) only [go_sem, *]<;>rfl))| (simp only [dH,eQ,eq_iff_iff,iff_true,iff_false,Bool.and_eq_true,Bool.and_eq_false_iff,Bool.not_eq_true',decide_eq_true_eq,decide_eq_false_iff_not,true_iff,Bool.false_eq_true,false_iff] at *;omega))
   | (refine hk1 _ (decide (o.most=0/\o.lo=0/\o.hi=0)) ?_ ?_<;>first | (first | rfl | (simp (disch:=first|exact bk rfl|omega) only [go_sem, *]<;>rfl))| (simp only [dH,eQ,eq_iff_iff,iff_true,iff_false,Bool.and_eq_true,Bool.and_eq_false_iff,Bool.not_eq_true',decide_eq_true_eq,decide_eq_false_iff_not,true_iff,Bool.false_eq_true,false_iff] at *;omega))
   | (refine hk1 _ (decide (o.hi=0)) ?_ ?_<;>first | (first | rfl | (simp (disch:=first|exact bk rfl|omega) only [go_sem, *]<;>rfl))| (simp only [dH,eQ,eq_iff_iff,iff_true,iff_false,Bool.and_eq_true,Bool.and_eq_false_iff,Bool.not_eq_true',decide_eq_true_eq,decide_eq_false_iff_not,true_iff,Bool.false_eq_true,false_iff] at *;omega))
   | (refine hk1 _ (decide (o.hi<=6)) ?_ ?_<;>first | (first | rfl | (simp (disch:=first|exact bk rfl|omega) only [go_sem, *]<;>rfl))| (simp only [dH,eQ,eq_iff_iff,iff_true,iff_false,Bool.and_eq_true,Bool.and_eq_false_iff,Bool.not_eq_true',decide_eq_true_eq,decide_eq_false_iff_not,true_iff,Bool.false_eq_true,false_iff] at *;omega))
   | (refine hk2 _ ?_;simp only [dH,eq_iff_iff,iff_true,iff_false] at *;omega)
 ·(try simp (disch:=first|exact bk rfl|omega) only [go_sem,g1,g7,g8,g9,g10,hg0,hgb,k1,k2,k3,bP,iH,aNE,aNR,eD,fQ, *]);repeat' (first | ((with_reducible first | apply aD | apply aE | apply aC)<;>intro h<;>(try simp only [spl] at h)<;>try simp (disch:=first|exact bk rfl|omega) only [go_sem,g1,g7,g8,g9,g10,hg0,hgb,k1,k2,k3,bP,iH,aNE,aNR,eD,fQ, *])| ((with_reducible refine cR ?_;refine bE hG _ (hgc) rfl ?_)<;>try simp (disch:=first|exact bk rfl|omega) only [go_sem,g1,g7,g8,g9,g10,hg0,hgb,k1,k2,k3,bP,iH,aNE,aNR,eD,fQ, *]))
  all_goals first
   | (refine hk1 _ (true) ?_ ?_<;>first | (first | rfl | (simp (disch:=first|exact bk rfl|omega) only [go_sem, *]<;>rfl))| (simp only [dH,eQ,eq_iff_iff,iff_true,iff_false,Bool.and_eq_true,Bool.and_eq_false_iff,Bool.not_eq_true',decide_eq_true_eq,decide_eq_false_iff_not,true_iff,Bool.false_eq_true,false_iff] at *;omega))
   | (refine hk1 _ (false) ?_ ?_<;>first | (first | rfl | (simp (disch:=first|exact bk rfl|omega) only [go_sem, *]<;>rfl))| (simp only [dH,eQ,eq_iff_iff,iff_true,iff_false,Bool.and_eq_true,Bool.and_eq_false_iff,Bool.not_eq_true',decide_eq_true_eq,decide_eq_false_iff_not,true_iff,Bool.false_eq_true,false_iff] at *;omega))
   | (refine hk1 _ (decide (o.most=0/\o.lo=0/\o.hi=0)) ?_ ?_<;>first | (first | rfl | (simp (disch:=first|exact bk rfl|omega) only [go_sem, *]<;>rfl))| (simp only [dH,eQ,eq_iff_iff,iff_true,iff_false,Bool.and_eq_true,Bool.and_eq_false_iff,Bool.not_eq_true',decide_eq_true_eq,decide_eq_false_iff_not,true_iff,Bool.false_eq_true,false_iff] at *;omega))
   | (refine hk1 _ (decide (o.hi=0)) ?_ ?_<;>first | (first | rfl | (simp (disch:=first|exact bk rfl|omega) only [go_sem, *]<;>rfl))| (simp only [dH,eQ,eq_iff_iff,iff_true,iff_false,Bool.and_eq_true,Bool.and_eq_false_iff,Bool.not_eq_true',decide_eq_true_eq,decide_eq_false_iff_not,true_iff,Bool.false_eq_true,false_iff] at *;omega))
   | (refine hk1 _ (decide (o.hi<=6)) ?_ ?_<;>first | (first | rfl | (simp (disch:=first|exact bk rfl|omega) only [go_sem, *]<;>rfl))| (simp only [dH,eQ,eq_iff_iff,iff_true,iff_false,Bool.and_eq_true,Bool.and_eq_false_iff,Bool.not_eq_true',decide_eq_true_eq,decide_eq_false_iff_not,true_iff,Bool.false_eq_true,false_iff] at *;omega))
   | (refine hk2 _ ?_;simp only [dH,eq_iff_iff,iff_true,iff_false] at *;omega)
 ·(try simp (disch:=first|exact bk rfl|omega) only [go_sem,g1,g7,g8,g9,g10,hg0,hgb,k1,k2,k3,k4,bP,iH,aNK,aNM,eD,fQ, *]);repeat' (first | ((with_reducible first | apply aD | apply aE | apply aC)<;>intro h<;>(try simp only [spl] at h)<;>try simp (disch:=first|exact bk rfl|omega) only [go_sem,g1,g7,g8,g9,g10,hg0,hgb,k1,k2,k3,k4,bP,iH,aNK,aNM,eD,fQ, *])| ((with_reducible refine cR ?_;refine bE hG _ (hgc) rfl ?_)<;>try simp (disch:=first|exact bk rfl|omega) only [go_sem,g1,g7,g8,g9,g10,hg0,hgb,k1,k2,k3,k4,bP,iH,aNK,aNM,eD,fQ, *]))
  all_goals first
   | (refine hk1 _ (true) ?_ ?_<;>first | (first | rfl | (simp (disch:=first|exact bk rfl|omega) only [go_sem, *]<;>rfl))| (simp only [dH,eQ,eq_iff_iff,iff_true,iff_false,Bool.and_eq_true,Bool.and_eq_false_iff,Bool.not_eq_true',decide_eq_true_eq,decide_eq_false_iff_not,true_iff,Bool.false_eq_true,false_iff] at *;omega))
   | (refine hk1 _ (false) ?_ ?_<;>first | (first | rfl | (simp (disch:=first|exact bk rfl|omega) only [go_sem, *]<;>rfl))| (simp only [dH,eQ,eq_iff_iff,iff_true,iff_false,Bool.and_eq_true,Bool.and_eq_false_iff,Bool.not_eq_true',decide_eq_true_eq,decide_eq_false_iff_not,true_iff,Bool.false_eq_true,false_iff] at *;omega))
   | (refine hk1 _ (decide (o.most=0/\o.lo=0/\o.hi=0)) ?_ ?_<;>first | (first | rfl | (simp (disch:=first|exact bk rfl|omega) only [go_sem, *]<;>rfl))| (simp only [dH,eQ,eq_iff_iff,iff_true,iff_false,Bool.and_eq_true,Bool.and_eq_false_iff,Bool.not_eq_true',decide_eq_true_eq,decide_eq_false_iff_not,true_iff,Bool.false_eq_true,false_iff] at *;omega))
   | (refine hk1 _ (decide (o.hi=0)) ?_ ?_<;>first | (first | rfl | (simp (disch:=first|exact bk rfl|omega) only [go_sem, *]<;>rfl))| (simp only [dH,eQ,eq_iff_iff,iff_true,iff_false,Bool.and_eq_true,Bool.and_eq_false_iff,Bool.not_eq_true',decide_eq_true_eq,decide_eq_false_iff_not,true_iff,Bool.false_eq_true,false_iff] at *;omega))
   | (refine hk1 _ (decide (o.hi<=6)) ?_ ?_<;>first | (first | rfl | (simp (disch:=first|exact bk rfl|omega) only [go_sem, *]<;>rfl))| (simp only [dH,eQ,eq_iff_iff,iff_true,iff_false,Bool.and_eq_true,Bool.and_eq_false_iff,Bool.not_eq_true',decide_eq_true_eq,decide_eq_false_iff_not,true_iff,Bool.false_eq_true,false_iff] at *;omega))
   | (refine hk2 _ ?_;simp only [dH,eq_iff_iff,iff_true,iff_false] at *;omega)
 ·(try simp (disch:=first|exact bk rfl|omega) only [go_sem,g1,g7,g8,g9,g10,hg0,hgb,k1,k2,k3,k4,k5,bP,iH,aMU,aNX,eD,fQ, *]);repeat' (first | ((with_reducible first | apply aD | apply aE | apply aC)<;>intro h<;>(try simp only [spl] at h)<;>try simp (disch:=first|exact bk rfl|omega) only [go_sem,g1,g7,g8,g9,g10,hg0,hgb,k1,k2,k3,k4,k5,bP,iH,aMU,aNX,eD,fQ, *])| ((with_reducible refine cR ?_;refine bE hG _ (hgc) rfl ?_)<;>try simp (disch:=first|exact bk rfl|omega) only [go_sem,g1,g7,g8,g9,g10,hg0,hgb,k1,k2,k3,k4,k5,bP,iH,aMU,aNX,eD,fQ, *]))
  all_goals first
   | (refine hk1 _ (true) ?_ ?_<;>first | (first | rfl | (simp (disch:=first|exact bk rfl|omega) only [go_sem, *]<;>rfl))| (simp only [dH,eQ,eq_iff_iff,iff_true,iff_false,Bool.and_eq_true,Bool.and_eq_false_iff,Bool.not_eq_true',decide_eq_true_eq,decide_eq_false_iff_not,true_iff,Bool.false_eq_true,false_iff] at *;omega))
   | (refine hk1 _ (false) ?_ ?_<;>first | (first | rfl | (simp (disch:=first|exact bk rfl|omega) only [go_sem, *]<;>rfl))| (simp only [dH,eQ,eq_iff_iff,iff_true,iff_false,Bool.and_eq_true,Bool.and_eq_false_iff,Bool.not_eq_true',decide_eq_true_eq,decide_eq_false_iff_not,true_iff,Bool.false_eq_true,false_iff] at *;omega))
   | (refine hk1 _ (decide (o.most=0/\o.lo=0/\o.hi=0)) ?_ ?_<;>first | (first | rfl | (simp (disch:=first|exact bk rfl|omega) only [go_sem, *]<;>rfl))| (simp only [dH,eQ,eq_iff_iff,iff_true,iff_false,Bool.and_eq_true,Bool.and_eq_false_iff,Bool.not_eq_true',decide_eq_true_eq,decide_eq_false_iff_not,true_iff,Bool.false_eq_true,false_iff] at *;omega))
   | (refine hk1 _ (decide (o.hi=0)) ?_ ?_<;>first | (first | rfl | (simp (disch:=first|exact bk rfl|omega) only [go_sem, *]<;>rfl))| (simp only [dH,eQ,eq_iff_iff,iff_true,iff_false,Bool.and_eq_true,Bool.and_eq_false_iff,Bool.not_eq_true',decide_eq_true_eq,decide_eq_false_iff_not,true_iff,Bool.false_eq_true,false_iff] at *;omega))
   | (refine hk1 _ (decide (o.hi<=6)) ?_ ?_<;>first | (first | rfl | (simp (disch:=first|exact bk rfl|omega) only [go_sem, *]<;>rfl))| (simp only [dH,eQ,eq_iff_iff,iff_true,iff_false,Bool.and_eq_true,Bool.and_eq_false_iff,Bool.not_eq_true',decide_eq_true_eq,decide_eq_false_iff_not,true_iff,Bool.false_eq_true,false_iff] at *;omega))
   | (refine hk2 _ ?_;simp only [dH,eq_iff_iff,iff_true,iff_false] at *;omega)
 ·(try simp (disch:=first|exact bk rfl|omega) only [go_sem,g1,g7,g8,g9,g10,hg0,hgb,k1,k2,k3,k4,k5,k6,bP,iH,aOO,aND,eD,fQ, *]);repeat' (first | ((with_reducible first | apply aD | apply aE | apply aC)<;>intro h<;>(try simp only [spl] at h)<;>try simp (disch:=first|exact bk rfl|omega) only [go_sem,g1,g7,g8,g9,g10,hg0,hgb,k1,k2,k3,k4,k5,k6,bP,iH,aOO,aND,eD,fQ, *])| ((with_reducible refine cR ?_;refine bE hG _ (hgc) rfl ?_)<;>try simp (disch:=first|exact bk rfl|omega) only [go_sem,g1,g7,g8,g9,g10,hg0,hgb,k1,k2,k3,k4,k5,k6,bP,iH,aOO,aND,eD,fQ, *]))
  all_goals first
   | (refine hk1 _ (true) ?_ ?_<;>first | (first | rfl | (simp (disch:=first|exact bk rfl|omega) only [go_sem, *]<;>rfl))| (simp only [dH,eQ,eq_iff_iff,iff_true,iff_false,Bool.and_eq_true,Bool.and_eq_false_iff,Bool.not_eq_true',decide_eq_true_eq,decide_eq_false_iff_not,true_iff,Bool.false_eq_true,false_iff] at *;omega))
   | (refine hk1 _ (false) ?_ ?_<;>first | (first | rfl | (simp (disch:=first|exact bk rfl|omega) only [go_sem, *]<;>rfl))| (simp only [dH,eQ,eq_iff_iff,iff_true,iff_false,Bool.and_eq_true,Bool.and_eq_false_iff,Bool.not_eq_true',decide_eq_true_eq,decide_eq_false_iff_not,true_iff,Bool.false_eq_true,false_iff] at *;omega))
   | (refine hk1 _ (decide (o.most=0/\o.lo=0/\o.hi=0)) ?_ ?_<;>first | (first | rfl | (simp (disch:=first|exact bk rfl|omega) only [go_sem, *]<;>rfl))| (simp only [dH,eQ,eq_iff_iff,iff_true,iff_false,Bool.and_eq_true,Bool.and_eq_false_iff,Bool.not_eq_true',decide_eq_true_eq,decide_eq_false_iff_not,true_iff,Bool.false_eq_true,false_iff] at *;omega))
   | (refine hk1 _ (decide (o.hi=0)) ?_ ?_<;>first | (first | rfl | (simp (disch:=first|exact bk rfl|omega) only [go_sem, *]<;>rfl))| (simp only [dH,eQ,eq_iff_iff,iff_true,iff_false,Bool.and_eq_true,Bool.and_eq_false_iff,Bool.not_eq_true',decide_eq_true_eq,decide_eq_false_iff_not,true_iff,Bool.false_eq_true,false_iff] at *;omega))
   | (refine hk1 _ (decide (o.hi<=6)) ?_ ?_<;>first | (first | rfl | (simp (disch:=first|exact bk rfl|omega) only [go_sem, *]<;>rfl))| (simp only [dH,eQ,eq_iff_iff,iff_true,iff_false,Bool.and_eq_true,Bool.and_eq_false_iff,Bool.not_eq_true',decide_eq_true_eq,decide_eq_false_iff_not,true_iff,Bool.false_eq_true,false_iff] at *;omega))
   | (refine hk2 _ ?_;simp only [dH,eq_iff_iff,iff_true,iff_false] at *;omega)
 ·(try simp (disch:=first|exact bk rfl|omega) only [go_sem,g1,g7,g8,g9,g10,hg0,hgb,k1,k2,k3,k4,k5,k6,bP,iH,eD,fQ, *]);repeat' (first | ((with_reducible first | apply aD | apply aE | apply aC)<;>intro h<;>(try simp only [spl] at h)<;>try simp (disch:=first|exact bk rfl|omega) only [go_sem,g1,g7,g8,g9,g10,hg0,hgb,k1,k2,k3,k4,k5,k6,bP,iH,eD,fQ, *])| ((with_reducible refine cR ?_;refine bE hG _ (hgc) rfl ?_)<;>try simp (disch:=first|exact bk rfl|omega) only [go_sem,g1,g7,g8,g9,g10,hg0,hgb,k1,k2,k3,k4,k5,k6,bP,iH,eD,fQ, *]))
  all_goals first
   | (refine hk1 _ (true) ?_ ?_<;>first | (first | rfl | (simp (disch:=first|exact bk rfl|omega) only [go_sem, *]<;>rfl))| (simp only [dH,eQ,eq_iff_iff,iff_true,iff_false,Bool.and_eq_true,Bool.and_eq_false_iff,Bool.not_eq_true',decide_eq_true_eq,decide_eq_false_iff_not,true_iff,Bool.false_eq_true,false_iff] at *;omega))
   | (refine hk1 _ (false) ?_ ?_<;>first | (first | rfl | (simp (disch:=first|exact bk rfl|omega) only [go_sem, *]<;>rfl))| (simp only [dH,eQ,eq_iff_iff,iff_true,iff_false,Bool.and_eq_true,Bool.and_eq_false_iff,Bool.not_eq_true',decide_eq_true_eq,decide_eq_false_iff_not,true_iff,Bool.false_eq_true,false_iff] at *;omega))
   | (refine hk1 _ (decide (o.most=0/\o.lo=0/\o.hi=0)) ?_ ?_<;>first | (first | rfl | (simp (disch:=first|exact bk rfl|omega) only [go_sem, *]<;>rfl))| (simp only [dH,eQ,eq_iff_iff,iff_true,iff_false,Bool.and_eq_true,Bool.and_eq_false_iff,Bool.not_eq_true',decide_eq_true_eq,decide_eq_false_iff_not,true_iff,Bool.false_eq_true,false_iff] at *;omega))
   | (refine hk1 _ (decide (o.hi=0)) ?_ ?_<;>first | (first | rfl | (simp (disch:=first|exact bk rfl|omega) only [go_sem, *]<;>rfl))| (simp only [dH,eQ,eq_iff_iff,iff_true,iff_false,Bool.and_eq_true,Bool.and_eq_false_iff,Bool.not_eq_true',decide_eq_true_eq,decide_eq_false_iff_not,true_iff,Bool.false_eq_true,false_iff] at *;omega))
   | (refine hk1 _ (decide (o.hi<=6)) ?_ ?_<;>first | (first | rfl | (simp (disch:=first|exact bk rfl|omega) only [go_sem, *]<;>rfl))| (simp only [dH,eQ,eq_iff_iff,iff_true,iff_false,Bool.and_eq_true,Bool.and_eq_false_iff,Bool.not_eq_true',decide_eq_true_eq,decide_eq_false_iff_not,true_iff,Bool.false_eq_true,false_iff] at *;omega))
   | (refine hk2 _ ?_;simp only [dH,eq_iff_iff,iff_true,iff_false] at *;omega)
end
def I95 (o:aF) (m:Nat) (e:En) (H:Hp):Prop:=∃n q:Nat,n<=o.kids.length/\m=o.kids.length - n/\e.dm=[]/\(∀y∈o.kids.take n,eB y=true)/\E2.get e.t 14= .int .i64 n/\E2.get e.t 13= .int .i64 (o.kids.length:Int)/\E2.get e.t 12=ofD o.dk/\E2.get e.t 1= .ptr 0 0/\H.get 0=some (.cells (some 40) false (bP o))/\H.nx=q+1
def a2O (o:aF) (m:Nat) (e:En) (H:Hp):Prop:=∃n q:Nat,n<=o.names.length/\m=o.names.length - n/\e.dm=[]/\pA [] o.names=pA (o.names.take n) (o.names.drop n)/\E2.get e.t 25= .int .i64 n/\E2.get e.t 24= .int .i64 (o.names.length:Int)/\E2.get e.t 23=ofD o.dn/\E2.get e.t 1= .ptr 0 0/\H.get 0=some (.cells (some 40) false (bP o))/\H.nx=q+1
theorem dC.n1 {o:aF} (h:dC o):one (ofD o.dn)=true:=bW h.sn
theorem dC.k1 {o:aF} (h:dC o):one (ofD o.dk)=true:=bW h.sk
theorem aEW {o:aF} (h:pA [] o.names=false):eB o=false:=by rw [jV,aAS,h];simp
theorem aTQ {o k:aF} (h:k∈o.kids) (hk:eB k=false):eB o=false:=by
 rw [jV,List.all_eq_false.2 ⟨k,h,by simp [hk]⟩];simp
theorem aMG {o:aF} (ho:dC o):CQ P G 95 [.agg (aV o)] (·= .bool (eB o)):=by
 induction ho with
 | mk kind names dn gap ms lo hi kids dk hn hnl hl hk hkl ho ih=>
  have hO:dC (.mk kind names dn gap ms lo hi kids dk):= .mk kind names dn gap ms lo hi kids dk hn hnl hl hk hkl ho
  generalize hoe:aF.mk kind names dn gap ms lo hi kids dk=o at hO
  have e1:kids=o.kids:=by rw [←hoe];rfl
  have e2:names=o.names:=by rw [←hoe];rfl
  subst e1;subst e2
  clear hoe hn hnl hl hk hkl
  have hn:=hO.sn
  have hnl:=hO.nl
  have hl:=hO.sl
  have hk:=hO.sk
  have hkl:=hO.kl
  refine CQ.enter hG ?_
  (try simp (disch:=first|exact bk rfl|omega) only [go_sem,aV,g95,lZ,aK hn dE,aK hk dS]);repeat' ((with_reducible first | apply aD | apply aE | apply aC)<;>intro h<;>(try simp only [spl] at h)<;>try simp (disch:=first|exact bk rfl|omega) only [go_sem,aV,g95,lZ,aK hn dE,aK hk dS,h])
  refine bA (I95 o) (fun m e H hi=> ?_) (m:=o.kids.length) ?_
  rotate_left
  ·refine⟨0,0,Nat.zero_le _,rfl,rfl,fun y hy=>by simp at hy, ?_, ?_, ?_, ?_, ?_, ?_⟩<;>(first | rfl | (simp (disch:=first|exact bk rfl|omega) only [go_sem,bP]<;>rfl))
  obtain⟨n,q,hn',rfl,hdm,ha,g14,g13,g12,g1,hg0,hnx⟩:=hi
  obtain⟨t,dm⟩:=e
  dsimp only at hdm g14 g13 g12 g1
  subst hdm
  refine bC 200 ?_
  rw [atC]
  by_cases hlt:n<o.kids.length
  ·have hm:=List.getElem_mem hlt
   have hih:=ih _ hm
   have h1:=(ho _ hm).n1
   have h2:=(ho _ hm).k1
   cases hf:eB o.kids[n]<;>rw [hf] at hih
   ·(try simp (disch:=first|exact bk rfl|omega) only [go_sem,g14,g13,g12,g1,hnx,hg0,h1,h2,aX hk dS mM kC hlt,aY cG hlt,aV,Int.ofNat_lt,hlt,lZ]);repeat' (first | ((with_reducible first | apply aD | apply aE | apply aC)<;>intro h<;>(try simp only [spl] at h)<;>try simp (disch:=first|exact bk rfl|omega) only [go_sem,g14,g13,g12,g1,hnx,hg0,h1,h2,aX hk dS mM kC hlt,aY cG hlt,aV,Int.ofNat_lt,hlt,lZ,h])| ((with_reducible refine cR ?_;refine bE hG _ (hih) rfl ?_)<;>try simp (disch:=first|exact bk rfl|omega) only [go_sem,g14,g13,g12,g1,hnx,hg0,h1,h2,aX hk dS mM kC hlt,aY cG hlt,aV,Int.ofNat_lt,hlt,lZ]))
    refine aG (.bool false) ?_
    rw [aTQ hm hf]
   ·(try simp (disch:=first|exact bk rfl|omega) only [go_sem,g14,g13,g12,g1,hnx,hg0,h1,h2,aX hk dS mM kC hlt,aY cG hlt,aV,Int.ofNat_lt,hlt,lZ]);repeat' (first | ((with_reducible first | apply aD | apply aE | apply aC)<;>intro h<;>(try simp only [spl] at h)<;>try simp (disch:=first|exact bk rfl|omega) only [go_sem,g14,g13,g12,g1,hnx,hg0,h1,h2,aX hk dS mM kC hlt,aY cG hlt,aV,Int.ofNat_lt,hlt,lZ,h])| ((with_reducible refine cR ?_;refine bE hG _ (hih) rfl ?_)<;>try simp (disch:=first|exact bk rfl|omega) only [go_sem,g14,g13,g12,g1,hnx,hg0,h1,h2,aX hk dS mM kC hlt,aY cG hlt,aV,Int.ofNat_lt,hlt,lZ]))
    refine aZ (m':=o.kids.length - (n+1)) (by omega) ⟨n+1,q+1,by omega,rfl,rfl, ?_, ?_, ?_, ?_, ?_, ?_, ?_⟩
    ·rw [List.take_succ_eq_append_getElem hlt]
     intro y hy
     rcases List.mem_append.1 hy with hy | hy
     ·exact ha y hy
     ·simp at hy;subst hy;exact hf
    all_goals (first | rfl | (simp (disch:=first|exact bk rfl|omega) only [go_sem,g14,g13,g12,g1,hg0,hnx]<;>rfl))
  have hall:o.kids.all eB=true:=by rw [List.take_of_length_le (by omega)] at ha;exact List.all_eq_true.2 ha
  (try simp (disch:=first|exact bk rfl|omega) only [go_sem,g14,g13,g12,g1,hg0,hnx,bP,aK hn dE,Int.ofNat_lt,hlt,agO,lZ]);repeat' ((with_reducible first | apply aD | apply aE | apply aC)<;>intro h<;>(try simp only [spl] at h)<;>try simp (disch:=first|exact bk rfl|omega) only [go_sem,g14,g13,g12,g1,hg0,hnx,bP,aK hn dE,Int.ofNat_lt,hlt,agO,lZ,h])
  refine bA (a2O o) (fun m e H hi=> ?_) (m:=o.names.length) ?_
  rotate_left
  ·refine⟨0,q,Nat.zero_le _,rfl,rfl,rfl, ?_, ?_, ?_, ?_, ?_, ?_⟩<;>(first | rfl | (simp (disch:=first|exact bk rfl|omega) only [go_sem,bP,g1,hg0,hnx]<;>rfl))
  clear g14 g13 g12 g1 hg0 hnx ha hlt hn'
  obtain⟨n,q,hn',rfl,hdm,hst,g25,g24,g23,g1,hg0,hnx⟩:=hi
  obtain⟨t,dm⟩:=e
  dsimp only at hdm g25 g24 g23 g1
  subst hdm
  refine bC 200 ?_
  rw [atY]
  by_cases hlt:n<o.names.length
  ·have hnm:=hl _ (List.getElem_mem hlt)
   have hc1:=aMP _ hnm
   have hc2:=aCG (o.names.take n) (slT o.dn n) (hn.take cC (by omega)) (by rw [List.length_take];omega) o.names[n]
   cases hb:iQ o.names[n]<;>rw [hb] at hc1
   ·(try simp (disch:=first|exact bk rfl|omega) only [go_sem,g25,g24,g23,g1,hg0,hnx,bP,aX hn dE in9 ce9 hlt,bL cC hlt (by decide:0<1),fH,Int.ofNat_lt,hlt,lZ,vE,uX,uW,vH]);repeat' (first | ((with_reducible first | apply aD | apply aE | apply aC)<;>intro h<;>(try simp only [spl] at h)<;>try simp (disch:=first|exact bk rfl|omega) only [go_sem,g25,g24,g23,g1,hg0,hnx,bP,aX hn dE in9 ce9 hlt,bL cC hlt (by decide:0<1),fH,Int.ofNat_lt,hlt,lZ,vE,uX,uW,vH,h])| ((with_reducible refine cR ?_;refine bE hG _ (hc1) rfl ?_)<;>try simp (disch:=first|exact bk rfl|omega) only [go_sem,g25,g24,g23,g1,hg0,hnx,bP,aX hn dE in9 ce9 hlt,bL cC hlt (by decide:0<1),fH,Int.ofNat_lt,hlt,lZ,vE,uX,uW,vH]))
    refine aG (.bool false) ?_
    rw [aEW (by rw [hst,aHO hlt hb])]
   ·cases hc:(o.names.take n).any fun y=>decide (o.names[n]=y)<;>rw [hc] at hc2
    ·have hc':((o.names.take n).any fun y=>decide (y=o.names[n]))=false:=by rw [←hc];congr 1;funext y;rw [Bool.eq_iff_iff];simp [eq_comm]
     have hst':=hst.trans (aPD hlt hb hc')
     (try simp (disch:=first|exact bk rfl|omega) only [go_sem,g25,g24,g23,g1,hg0,hnx,bP,jS hn aBZ ce9 (Nat.le_of_lt hlt),aX hn dE in9 ce9 hlt,bL cC hlt (by decide:0<1),fH,Int.ofNat_lt,hlt,lZ,vE,uX,uW,vH]);repeat' (first | ((with_reducible first | apply aD | apply aE | apply aC)<;>intro h<;>(try simp only [spl] at h)<;>try simp (disch:=first|exact bk rfl|omega) only [go_sem,g25,g24,g23,g1,hg0,hnx,bP,jS hn aBZ ce9 (Nat.le_of_lt hlt),aX hn dE in9 ce9 hlt,bL cC hlt (by decide:0<1),fH,Int.ofNat_lt,hlt,lZ,vE,uX,uW,vH,h])| ((with_reducible refine cR ?_;first | refine bE hG _ (hc1) rfl ?_ | refine bE hG _ (hc2) rfl ?_)<;>try simp (disch:=first|exact bk rfl|omega) only [go_sem,g25,g24,g23,g1,hg0,hnx,bP,jS hn aBZ ce9 (Nat.le_of_lt hlt),aX hn dE in9 ce9 hlt,bL cC hlt (by decide:0<1),fH,Int.ofNat_lt,hlt,lZ,vE,uX,uW,vH]))
     refine aZ (m':=o.names.length - (n+1)) (by omega) ⟨n+1,q,by omega,rfl,rfl,hst', ?_, ?_, ?_, ?_, ?_, ?_⟩<;>(first | rfl | (simp (disch:=first|exact bk rfl|omega) only [go_sem,g25,g24,g23,g1,hg0,hnx,bP]<;>rfl))
    ·have hc':((o.names.take n).any fun y=>decide (y=o.names[n]))=true:=by rw [←hc];congr 1;funext y;rw [Bool.eq_iff_iff];simp [eq_comm]
     (try simp (disch:=first|exact bk rfl|omega) only [go_sem,g25,g24,g23,g1,hg0,hnx,bP,jS hn aBZ ce9 (Nat.le_of_lt hlt),aX hn dE in9 ce9 hlt,bL cC hlt (by decide:0<1),fH,Int.ofNat_lt,hlt,lZ,vE,uX,uW,vH]);repeat' (first | ((with_reducible first | apply aD | apply aE | apply aC)<;>intro h<;>(try simp only [spl] at h)<;>try simp (disch:=first|exact bk rfl|omega) only [go_sem,g25,g24,g23,g1,hg0,hnx,bP,jS hn aBZ ce9 (Nat.le_of_lt hlt),aX hn dE in9 ce9 hlt,bL cC hlt (by decide:0<1),fH,Int.ofNat_lt,hlt,lZ,vE,uX,uW,vH,h])| ((with_reducible refine cR ?_;first | refine bE hG _ (hc1) rfl ?_ | refine bE hG _ (hc2) rfl ?_)<;>try simp (disch:=first|exact bk rfl|omega) only [go_sem,g25,g24,g23,g1,hg0,hnx,bP,jS hn aBZ ce9 (Nat.le_of_lt hlt),aX hn dE in9 ce9 hlt,bL cC hlt (by decide:0<1),fH,Int.ofNat_lt,hlt,lZ,vE,uX,uW,vH]))
     refine aG (.bool false) ?_
     rw [aEW (by rw [hst,aBF hlt hc'])]
  ·have hnm:pA [] o.names=true:=by rw [hst,List.drop_of_length_le (by omega)];rfl
   (try simp (disch:=first|exact bk rfl|omega) only [go_sem,g25,g24,g23,g1,hg0,hnx,bP,aK hn dE,aK hk dS,Int.ofNat_lt,hlt,lZ,afS,jX,aIJ,aVZ]);repeat' ((with_reducible first | apply aD | apply aE | apply aC)<;>intro h<;>(try simp only [spl] at h)<;>try simp (disch:=first|exact bk rfl|omega) only [go_sem,g25,g24,g23,g1,hg0,hnx,bP,aK hn dE,aK hk dS,Int.ofNat_lt,hlt,lZ,afS,jX,aIJ,aVZ,h])
   have hlast:eB o=decide (dH o):=by rw [jV,hall,aAS,hnm];simp
   generalize hH:(Hp.setb _ _ _:Hp)=H2
   have hg2:H2.get 0=some (.cells (some 40) false (bP o)):=by subst hH;first | rfl | (simp (disch:=first|exact bk rfl|omega) only [go_sem,hg0,hnx,bP]<;>rfl)
   have hg3:H2.get (q+1)=some (.cells (some 263) false [.int .i64 o.most,.int .i64 o.lo,.int .i64 o.hi]):=by subst hH;first | rfl | (simp (disch:=first|exact bk rfl|omega) only [go_sem,hg0,hnx,bP]<;>rfl)
   refine awR (o:=o) (b:=q+1) (eg rfl g1) (eg rfl rfl) (eg rfl rfl) (eg rfl rfl) (by first | rfl | (simp (disch:=first|exact bk rfl|omega) only [go_sem,hnx]<;>rfl)) hg2 hg3 (fun t r g2 hr=> ?_) (fun t hr=> ?_)
   ·simp (disch:=first|exact bk rfl|omega) only [go_sem,lZ,g2]
    refine aG (.bool r) ?_
    rw [hlast];congr 1;rw [Bool.eq_iff_iff,hr];simp
   ·simp (disch:=first|exact bk rfl|omega) only [go_sem,axM,lZ]
    refine aG (.bool false) ?_
    rw [hlast,decide_eq_false hr]
theorem afO (b off:Nat) (k:AV->Bool):kG (.ptr b off) k=k (.ptr b off):=Bool.eq_iff_iff.mpr Iff.rfl
theorem awT (o:aF):tO o=1+tOs o.kids:=by cases o;rw [tO];rfl
theorem awW (o:aF):hO o=1+hOs o.kids:=by cases o;rw [hO];rfl
def I94 (o:aF) (b:Nat) (v depth:Int) (H0:Hp) (m:Nat) (e:En) (H:Hp):Prop:=∃n:Nat,n<=o.kids.length/\m=o.kids.length - n/\e.dm=[]/\v+1+(tOs (o.kids.take n):Int)<=40/\(∀k∈o.kids.take n,depth+1+(hO k:Int)<=11)/\
 H.get b=some (.cells (some 3) false [.int .i64 (v+1+(tOs (o.kids.take n):Int))])/\H0.nx<=H.nx/\(∀c,c<H0.nx->c≠b->H.get c=H0.get c)/\
 E2.get e.t 25= .int .i64 n/\E2.get e.t 24= .int .i64 (o.kids.length:Int)/\E2.get e.t 23=ofD o.dk/\E2.get e.t 1= .int .i64 depth/\E2.get e.t 2= .ptr b 0
def aPR (o:aF):Prop:=∀(v depth:Int) (b:Nat) (H:Hp) (K:AV->Hp->Bool),0<=v->v<=40->1<=depth->depth<=11->H.get b=some (.cells (some 3) false [.int .i64 v])->b<H.nx->
 (∀(r:Bool) (v':Int) (H':Hp),H'.get b=some (.cells (some 3) false [.int .i64 v'])->H.nx<=H'.nx->(∀c,c<H.nx->c≠b->H'.get c=H.get c)->(r=true->v'=v+tO o/\v'<=40/\depth+hO o<=11)->(r=false->40<v+tO o∨11<depth+hO o)->K (.bool r) H'=true)->
 cl P G 94 [.agg (bD (aV o)),.int .i64 depth,.ptr b 0] H K=true
theorem aRL {o:aF} (ho:dC o):aPR o:=by
 induction ho with
 | mk kind names dn gap ms lo hi kids dk hn hnl hl hk hkl ho ih=>
  have hO:dC (.mk kind names dn gap ms lo hi kids dk):= .mk kind names dn gap ms lo hi kids dk hn hnl hl hk hkl ho
  generalize hoe:aF.mk kind names dn gap ms lo hi kids dk=o at hO
  have e1:kids=o.kids:=by rw [←hoe];rfl
  subst e1
  clear hoe hn hnl hl hk hkl
  have hk:=hO.sk
  have hkl:=hO.kl
  have n1:=hO.n1
  have k1:=hO.k1
  intro v depth b H K hv0 hv1 hd0 hd1 hb hlt0 hK
  have htp:=aUE o
  have hhp:=amW o
  have hte:=awT o
  have hhe:=awW o
  refine dA 200 ?_
  (try simp (disch:=first|exact bk rfl|omega) only [go_sem,aV,h94,r94,afO,hb,aK hk dS,aM,aI]);repeat' ((with_reducible first | apply aD | apply aE | apply aC)<;>intro h<;>(try simp only [spl] at h)<;>try simp (disch:=first|exact bk rfl|omega) only [go_sem,aV,h94,r94,afO,hb,aK hk dS,aM,aI,h])
  ·exact hK false (v+1) _ (by first | rfl | (simp (disch:=first|exact bk rfl|omega) only [go_sem]<;>rfl)) (by simp (disch:=first|exact bk rfl|omega) only [go_sem];omega) (fun c hc hcb=>by simp (disch:=first|exact bk rfl|omega) only [go_sem,aM]) (fun hx=>by cases hx) (fun _=>by omega)
  rotate_left
  ·exact hK false (v+1) _ (by first | rfl | (simp (disch:=first|exact bk rfl|omega) only [go_sem]<;>rfl)) (by simp (disch:=first|exact bk rfl|omega) only [go_sem];omega) (fun c hc hcb=>by simp (disch:=first|exact bk rfl|omega) only [go_sem,aM]) (fun hx=>by cases hx) (fun _=>by omega)
  refine bA (I94 o b v depth H) (fun m e H1 hi=> ?_) (m:=o.kids.length) ?_
  rotate_left
  ·refine⟨0,Nat.zero_le _,rfl,rfl,by simp [tOs];omega,fun y hy=>by simp at hy, ?_, ?_, ?_, ?_, ?_, ?_, ?_, ?_⟩
   ·simp (disch:=first|exact bk rfl|omega) only [go_sem,List.take_zero,tOs];simp
   ·simp (disch:=first|exact bk rfl|omega) only [go_sem];omega
   ·exact fun c hc hcb=>by simp (disch:=first|exact bk rfl|omega) only [go_sem,aM]
   all_goals (first | rfl | (simp (disch:=first|exact bk rfl|omega) only [go_sem]<;>rfl))
  obtain⟨n,hn',rfl,hdm,hv2,hh,hgb,hnx,hfr,g25,g24,g23,g1,g2⟩:=hi
  obtain⟨t,dm⟩:=e
  dsimp only at hdm g25 g24 g23 g1 g2
  subst hdm
  refine bC 200 ?_
  rw [asP]
  by_cases hlt:n<o.kids.length
  ·have hm:=List.getElem_mem hlt
   have hih:=ih _ hm
   have h1:=(ho _ hm).n1
   have h2:=(ho _ hm).k1
   have htk:=aKI hlt
   have htl:=aXM o.kids (n+1)
   have hog:=aWL hm
   simp (disch:=first|exact bk rfl|omega) only [go_sem,g25,g24,g23,g1,g2,h1,h2,aX hk dS mM kC hlt,aY cG hlt,aV,Int.ofNat_lt,hlt,r94]
   have hcall:=hih (v+1+(tOs (o.kids.take n):Int)) (depth+1)
   simp only [aV,nS,uY,yZ] at hcall
   refine hcall b _ _ (by omega) hv2 (by omega) (by omega) (by simp (disch:=first|exact bk rfl|omega) only [go_sem,hgb,aM]) (by simp (disch:=first|exact bk rfl|omega) only [go_sem];omega) ?_
   intro r v' H' hb' hn2 hf2 hr1 hr2
   simp only [go_sem] at hn2 hf2
   cases r
   ·simp (disch:=first|exact bk rfl|omega) only [go_sem,r94]
    have:=hr2 rfl
    exact hK false v' _ hb' (by omega) (fun c hc hcb=>by rw [hf2 c (by omega) hcb];simp (disch:=first|exact bk rfl|omega) only [go_sem,aM];exact hfr c hc hcb) (fun hx=>by cases hx) (fun _=>by omega)
   ·simp (disch:=first|exact bk rfl|omega) only [go_sem,r94,g25]
    obtain⟨hv',hv'',hd'⟩:=hr1 rfl
    subst hv'
    refine aZ (m':=o.kids.length - (n+1)) (by omega) ⟨n+1,by omega,rfl,rfl,by rw [htk];omega, ?_, ?_,by omega, ?_, ?_, ?_, ?_, ?_, ?_⟩
    ·rw [List.take_succ_eq_append_getElem hlt]
     intro y hy
     rcases List.mem_append.1 hy with hy | hy
     ·exact hh y hy
     ·simp at hy;subst hy;omega
    ·rw [hb',htk];simp only [Int.natCast_add,Int.add_assoc]
    ·exact fun c hc hcb=>by rw [hf2 c (by omega) hcb];simp (disch:=first|exact bk rfl|omega) only [go_sem,aM];exact hfr c hc hcb
    all_goals (first | rfl | (simp (disch:=first|exact bk rfl|omega) only [go_sem,g25,g24,g23,g1,g2]<;>rfl))
  ·simp (disch:=first|exact bk rfl|omega) only [go_sem,g25,g24,g23,g1,g2,Int.ofNat_lt,hlt,axW,r94]
   have hte2:o.kids.take n=o.kids:=List.take_of_length_le (by omega)
   rw [hte2] at hv2 hh hgb
   have hoo:(hOs o.kids:Int)<=10 - depth:=aZT (fun k hk=>by have:=hh k hk;omega) (by omega)
   exact hK true _ _ hgb (by omega) hfr (fun _=>⟨by omega,by omega,by omega⟩) (fun hx=>by cases hx)
end Go.S5
namespace Go.Ev
noncomputable section
section
variable {P : Program} {G : bK} {H : Hp}
theorem xS {v:AV}:∀(es:List (AV×AV×Nat)) (j:Nat),(∀p∈es,p.2.1=v)->setVal v es j=es
 | [],j,_=>by cases j<;>rfl
 | (y,w,s)::es,0,h=>by
  have:w=v:=h _ List.mem_cons_self
  subst this;rfl
 | e::es,i+1,h=>by
  show e::setVal v es i=e::es
  rw [xS es i fun p hp=>h p (List.mem_cons_of_mem _ hp)]
theorem aOU:∀(l:List (List Nat×AV)) (i:Nat),(∀p∈l,p.2= .bool true)->∀p∈sE l i,p.2.1= .bool true
 | [],i,_,p,hp=>by cases hp
 | (s,v)::l,i,h,p,hp=>by
  rcases List.mem_cons.1 hp with rfl | hp
  ·exact h _ List.mem_cons_self
  ·exact aOU l (i+1) (fun q hq=>h q (List.mem_cons_of_mem _ hq)) p hp
theorem abW {t el:TypeId} {b:Nat} (hm:iT P t=some ⟨el,⟨false,[.s]⟩⟩) {l:List (List Nat×AV)} (hv:∀p∈l,p.2= .bool true) {s:List Nat} (h:l.any (fun p=>decide (p.1=s))=true) (k:Hp->Bool):
  aAV P H b t (.str s) (.bool true) k (some (.map false (sE l 0) l.length))=k (H.setb b (some (.map false (sE l 0) l.length))):=by
 unfold aAV
 rw [hm]
 dsimp only
 have hk:rV ⟨el,⟨false,[.s]⟩⟩ (sE l 0) (.str s)=findKey ⟨false,[.s]⟩ (.str s) (sE l 0) 0:=rfl
 obtain⟨n,hn⟩:=(zZ s l 0 0 hv).2 h
 rw [hk,hn]
 dsimp only
 rw [xS _ _ (aOU l 0 hv)]
end
end
end Go.Ev
namespace Go.S5
open Go.Ev Go.Proofs
def mS (l:List Str):List (Str×AV):=l.map fun x=>(x,.bool true)
theorem aPM (l:List Str):∀p∈mS l,p.2= .bool true:=fun p hp=>by
 obtain⟨x,_,rfl⟩:=List.mem_map.1 hp;rfl
theorem aXZ (l:List Str) (s:Str):(mS l).any (fun p=>decide (p.1=s))=decide (s∈l):=by
 rw [Bool.eq_iff_iff];simp [mS,List.any_map]
theorem aWB (l:List Str):(mS l).length=l.length:=by simp [mS]
def vP (l:List Str) (s:Str):List Str:=if s∈l then l else l++[s]
mutual
def uE:List Str->aF->List Str
 | l,.mk _ names _ _ _ _ _ kids _=>jF (names.foldl vP l) kids
def jF:List Str->List aF->List Str
 | l,[]=>l
 | l,o::os=>jF (uE l o) os
end
theorem adY (l:List Str) (o:aF):uE l o=jF (o.names.foldl vP l) o.kids:=by cases o;rw [uE];rfl
theorem aEY:∀(a b:List aF) (l:List Str),jF l (a++b)=jF (jF l a) b
 | [],b,l=>by simp [jF]
 | o::a,b,l=>by
  show jF l (o::(a++b))=_
  rw [jF,jF,aEY a b]
theorem aMX {kids:List aF} {n:Nat} (h:n<kids.length) (l:List Str):jF l (kids.take (n+1))=uE (jF l (kids.take n)) kids[n]:=by
 rw [List.take_succ_eq_append_getElem h,aEY];simp [jF]
theorem aDN {α β:Type} (f:β->α->β) {l:List α} {n:Nat} (h:n<l.length) (b:β):(l.take (n+1)).foldl f b=f ((l.take n).foldl f b) l[n]:=by
 rw [List.take_succ_eq_append_getElem h,List.foldl_append];rfl
def mB (l:List Str):Blk:= .map false (sE (mS l) 0) (mS l).length
theorem aeG {H:Hp} {b:Nat} (l:List Str) (s:Str) (k:Hp->Bool):aAV P H b 155 (.str s) (.bool true) k (some (mB l))=k (H.setb b (some (mB (vP l s)))):=by
 unfold mB vP
 by_cases h:s∈l
 ·rw [if_pos h,abW aOZ (aPM l) (by rw [aXZ];exact decide_eq_true h)]
 ·rw [if_neg h,aPZ aOZ (aPM l) (by rw [aXZ];exact decide_eq_false h)]
  simp [mS]
theorem asQ (t:E2) (H:Hp) (k:fE->Hp->Bool) (i:Evs):aS P G Tryz.f169 i k .normal ⟨t,[]⟩ H=k (.ret (.tup [])) H:=by kernel_rfl
def a5O (o:aF) (b nb:Nat) (l:List Str) (H0:Hp) (m:Nat) (e:En) (H:Hp):Prop:=∃n:Nat,n<=o.names.length/\m=o.names.length - n/\e.dm=[]/\H.get b=some (mB ((o.names.take n).foldl vP l))/\H0.nx<H.nx/\(∀c,c<H0.nx->c≠b->H.get c=H0.get c)/\
 H.get nb=some (.cells (some 40) false (bP o))/\nb≠b/\H0.nx<=nb/\E2.get e.t 11= .int .i64 n/\E2.get e.t 10= .int .i64 (o.names.length:Int)/\E2.get e.t 9=ofD o.dn/\E2.get e.t 1= .map b/\E2.get e.t 2= .ptr nb 0
def aqI (o:aF) (b:Nat) (l:List Str) (H0:Hp) (m:Nat) (e:En) (H:Hp):Prop:=∃n:Nat,n<=o.kids.length/\m=o.kids.length - n/\e.dm=[]/\H.get b=some (mB (jF (o.names.foldl vP l) (o.kids.take n)))/\H0.nx<=H.nx/\(∀c,c<H0.nx->c≠b->H.get c=H0.get c)/\
 E2.get e.t 21= .int .i64 n/\E2.get e.t 20= .int .i64 (o.kids.length:Int)/\E2.get e.t 19=ofD o.dk/\E2.get e.t 1= .map b
def aMI (o:aF):Prop:=∀(l:List Str) (b:Nat) (H:Hp) (K:AV->Hp->Bool),H.get b=some (mB l)->b<H.nx->
 (∀(H':Hp),H'.get b=some (mB (uE l o))->H.nx<=H'.nx->(∀c,c<H.nx->c≠b->H'.get c=H.get c)->K (.tup []) H'=true)->
 cl P G 169 [.agg (bD (aV o)),.map b] H K=true
theorem aIQ {o:aF} (ho:dC o):aMI o:=by
 induction ho with
 | mk kind names dn gap ms lo hi kids dk hn hnl hl hk hkl ho ih=>
  have hO:dC (.mk kind names dn gap ms lo hi kids dk):= .mk kind names dn gap ms lo hi kids dk hn hnl hl hk hkl ho
  generalize hoe:aF.mk kind names dn gap ms lo hi kids dk=o at hO
  have e1:kids=o.kids:=by rw [←hoe];rfl
  subst e1
  clear hoe hn hnl hl hk hkl
  have hn:=hO.sn
  have hnl:=hO.nl
  have hl:=hO.sl
  have hk:=hO.sk
  have hkl:=hO.kl
  have n1:=hO.n1
  have k1:=hO.k1
  intro l b H K hb hlt0 hK
  refine dA 200 ?_
  (try simp (disch:=first|exact bk rfl|omega) only [go_sem,aV,avV,aSO,hb,aK hn dE,aM,aI]);repeat' ((with_reducible first | apply aD | apply aE | apply aC)<;>intro h<;>(try simp only [spl] at h)<;>try simp (disch:=first|exact bk rfl|omega) only [go_sem,aV,avV,aSO,hb,aK hn dE,aM,aI,h])
  refine bA (a5O o b H.nx l H) (fun m e H1 hi=> ?_) (m:=o.names.length) ?_
  rotate_left
  ·refine⟨0,Nat.zero_le _,rfl,rfl,by simp (disch:=first|exact bk rfl|omega) only [go_sem,hb,aM];rfl,by simp (disch:=first|exact bk rfl|omega) only [go_sem];omega,fun c hc hcb=>by simp (disch:=first|exact bk rfl|omega) only [go_sem,aM],by first | rfl | (simp (disch:=first|exact bk rfl|omega) only [go_sem,bP]<;>rfl),by omega,Nat.le_refl _, ?_, ?_, ?_, ?_, ?_⟩<;>(first | rfl | (simp (disch:=first|exact bk rfl|omega) only [go_sem]<;>rfl))
  obtain⟨n,hn',rfl,hdm,hgb,hnx,hfr,hnb,hne,hle,g11,g10,g9,g1,g2⟩:=hi
  obtain⟨t,dm⟩:=e
  dsimp only at hdm g11 g10 g9 g1 g2
  subst hdm
  refine bC 200 ?_
  rw [amO]
  by_cases hlt:n<o.names.length
  ·simp (disch:=first|exact bk rfl|omega) only [go_sem,g11,g10,g9,g1,g2,hgb,aeG,aX hn dE in9 ce9 hlt,bL cC hlt (by decide:0<1),fH,Int.ofNat_lt,hlt,aSO]
   refine aZ (m':=o.names.length - (n+1)) (by omega) ⟨n+1,by omega,rfl,rfl, ?_,by simp (disch:=first|exact bk rfl|omega) only [go_sem];omega,fun c hc hcb=> ?_, ?_,hne,hle, ?_, ?_, ?_, ?_, ?_⟩
   ·simp (disch:=first|exact bk rfl|omega) only [go_sem,aI,aDN vP hlt]
   ·simp (disch:=first|exact bk rfl|omega) only [go_sem,aM];exact hfr c hc hcb
   ·simp (disch:=first|exact bk rfl|omega) only [go_sem,aM];exact hnb
   all_goals (first | rfl | (simp (disch:=first|exact bk rfl|omega) only [go_sem,g11,g10,g9,g1,g2]<;>rfl))
  rw [List.take_of_length_le (by omega)] at hgb
  simp (disch:=first|exact bk rfl|omega) only [go_sem,g11,g10,g9,g1,g2,hnb,bP,aK hk dS,Int.ofNat_lt,hlt,aiD,aSO]
  refine bA (aqI o b l H) (fun m e H2 hi=> ?_) (m:=o.kids.length) ?_
  rotate_left
  ·refine⟨0,Nat.zero_le _,rfl,rfl,by rw [hgb];rfl,by omega,hfr, ?_, ?_, ?_, ?_⟩<;>(first | rfl | (simp (disch:=first|exact bk rfl|omega) only [go_sem,g1]<;>rfl))
  clear g11 g10 g9 g1 g2 hnx hfr hnb hlt hn' hgb
  obtain⟨n,hn',rfl,hdm,hgb,hnx,hfr,g21,g20,g19,g1⟩:=hi
  obtain⟨t,dm⟩:=e
  dsimp only at hdm g21 g20 g19 g1
  subst hdm
  refine bC 200 ?_
  rw [ajZ]
  by_cases hlt:n<o.kids.length
  ·have hm:=List.getElem_mem hlt
   have h1:=(ho _ hm).n1
   have h2:=(ho _ hm).k1
   simp (disch:=first|exact bk rfl|omega) only [go_sem,g21,g20,g19,g1,h1,h2,aX hk dS mM kC hlt,aY cG hlt,aV,Int.ofNat_lt,hlt,aSO]
   have hcall:=ih _ hm
   unfold aMI at hcall
   simp only [aV,nS,uY,yZ] at hcall
   refine hcall _ b _ _ (by simp (disch:=first|exact bk rfl|omega) only [go_sem,hgb,aM];rfl) (by simp (disch:=first|exact bk rfl|omega) only [go_sem];omega) ?_
   intro H' hb' hn2 hf2
   simp only [go_sem] at hn2 hf2
   simp (disch:=first|exact bk rfl|omega) only [go_sem,aSO,g21]
   refine aZ (m':=o.kids.length - (n+1)) (by omega) ⟨n+1,by omega,rfl,rfl,by rw [hb',aMX hlt],by omega,fun c hc hcb=>by rw [hf2 c (by omega) hcb];simp (disch:=first|exact bk rfl|omega) only [go_sem,aM];exact hfr c hc hcb, ?_, ?_, ?_, ?_⟩<;>(first | rfl | (simp (disch:=first|exact bk rfl|omega) only [go_sem,g21,g20,g19,g1]<;>rfl))
  ·simp (disch:=first|exact bk rfl|omega) only [go_sem,g21,g20,g19,g1,Int.ofNat_lt,hlt,asQ]
   rw [List.take_of_length_le (by omega)] at hgb
   exact hK _ (by rw [hgb,adY]) (by omega) hfr
end Go.S5
namespace Go.Ev
noncomputable section
section
variable {P : Program} {G : bK} {H : Hp}
theorem aQI {nt n:Nat} {ps:List Nat} {asg body:Code} {g:FuncId} {first cap:List AV} {t:E2} {dm:List Dm} {k:AEx->En->Hp->Bool} (he:iF P g=true)
  (h:cl P G g (first++[.yld (H.nx+1)]++cap) ((H.push (.dfr true)).push (.loop .ready none t nt ps asg body H.nx)) (fun _ H'=>mD (H.nx+1) ⟨t,.mark H.nx::dm⟩ H' k)=true):
  hY P nt ps asg body (.fn g first cap) ⟨cd P G n,dY P G⟩ none ⟨t,dm⟩ H k=true:=by
 unfold hY
 dsimp only
 rw [Hp.new_r]
 unfold uS
 rw [Hp.new_r,bY,he]
 dsimp only
 exact h
theorem aHJ {l d nt:Nat} {env:E2} {ps:List Nat} {asg body:Code} {e:En} {k:AEx->En->Hp->Bool} (hl:H.get l=some (.loop .ready none env nt ps asg body d)):
  mD l e H k=k .normal e (H.setb l (some (.loop .exhausted none env nt ps asg body d))):=by
 unfold mD
 rw [hl]
 dsimp only
 rw [Hp.put_r]
theorem yR {n l:Nat} {a5:List AV} {k:AV->Hp->Bool}:clv P G n (.yld l) a5 H k=qH ⟨cd P G n,dY P G⟩ l a5 H k (fun _ _=>false):=Bool.eq_iff_iff.mpr Iff.rfl
theorem sP {n l d nt p:Nat} {env env':E2} {asg body:Code} {v:AV} {k:AV->Hp->Bool} {kp:AV->Hp->Bool} {H1:Hp} (hl:H.get l=some (.loop .ready none env nt [p] asg body d)) (hp:p<nt) (hp2:p<256)
  (hasg:∀K,cd P G n nt asg (some l) ⟨E2.set env p v,[]⟩ H K=K .normal ⟨env',[]⟩ H1) (hl1:H1.get l=some (.loop .ready none env nt [p] asg body d))
  (hbody:∀K,(∀(e:E2) (H2:Hp),H2.get l=some (.loop .busy none env nt [p] asg body d)->k (.bool true) (H2.setb l (some (.loop .ready none env nt [p] asg body d)))=true->K .normal ⟨e,[]⟩ H2=true)->
   cd P G n nt body (some l) ⟨env',[]⟩ (H1.setb l (some (.loop .busy none env nt [p] asg body d))) K=true):
  qH ⟨cd P G n,dY P G⟩ l [v] H k kp=true:=by
 unfold qH
 rw [hl]
 dsimp only
 unfold lD
 rw [show Nat.blt p nt=true from by simpa [Nat.blt_eq] using hp,show Nat.blt p 256=true from by simpa [Nat.blt_eq] using hp2]
 dsimp only
 refine Eq.trans (E2.eputB_eq env p v _ hp2) ?_
 unfold lD
 dsimp only
 rw [hasg]
 dsimp only
 rw [hl1]
 dsimp only
 rw [Hp.put_r]
 refine hbody _ fun e H2 h2 hk=> ?_
 dsimp only
 rw [h2]
 dsimp only
 rw [Hp.put_r]
 exact hk
theorem uL (n:Nat):∀l:List Nat,tH n l=decide (n∈l)
 | []=>rfl
 | m::l=>by
  show (match Nat.beq n m with | true=>true | false=>tH n l)=_
  rw [uL n l]
  by_cases h:n=m
  ·subst h;rw [Nat.beq_refl];simp
  ·rw [show Nat.beq n m=false from by rw [←Bool.not_eq_true,Nat.beq_eq];exact h];simp [h]
theorem aJJ (seen:List Nat) (s:Nat):∀(l:List (List Nat×AV)) (i:Nat),s∉seen->i<=s->s<i+l.length->(eU (s::seen) (sE l i)).length+1=(eU seen (sE l i)).length
 | [],i,_,h1,h2=>by simp at h2;omega
 | (k,v)::l,i,h0,h1,h2=>by
  simp only [List.length_cons] at h2
  simp only [sE,eU,uL]
  by_cases hs:i=s
  ·subst hs
   have hno:∀(l:List (List Nat×AV)) (j:Nat),i<j->eU (i::seen) (sE l j)=eU seen (sE l j):=by
    intro l
    induction l with
    | nil=>intro j _;rfl
    | cons p l ih=>
     intro j hj
     obtain⟨k,v⟩:=p
     simp only [sE,eU,uL]
     rw [ih (j+1) (by omega),show decide (j∈i::seen)=decide (j∈seen) from by rw [Bool.eq_iff_iff];simp;omega]
   rw [hno l (i+1) (by omega),show decide (i∈i::seen)=true from by simp,show decide (i∈seen)=false from by simp [h0]]
   rfl
  ·have ih:=aJJ seen s l (i+1) h0 (by omega) (by omega)
   rw [show decide (i∈s::seen)=decide (i∈seen) from by rw [Bool.eq_iff_iff];simp [hs]]
   cases decide (i∈seen) with
   | true=>exact ih
   | false=>simp only [List.length_cons];omega
theorem aBJ (seen:List Nat):∀(l:List (List Nat×AV)) (i:Nat) (y:AV×AV×Nat),y∈eU seen (sE l i)->y.2.2∉seen/\∃j,∃h:j<l.length,y=(.str l[j].1,l[j].2,i+j)
 | [],i,y,h=>by cases h
 | (k,v)::l,i,y,h=>by
  simp only [sE,eU,uL] at h
  by_cases hm:i∈seen
  ·rw [show decide (i∈seen)=true from by simp [hm]] at h
   obtain⟨h1,j,hj,rfl⟩:=aBJ seen l (i+1) y h
   exact⟨h1,j+1,by simpa using hj,by simp;omega⟩
  ·rw [show decide (i∈seen)=false from by simp [hm]] at h
   rcases List.mem_cons.1 h with rfl | h
   ·exact⟨hm,0,by simp,by simp⟩
   ·obtain⟨h1,j,hj,rfl⟩:=aBJ seen l (i+1) y h
    exact⟨h1,j+1,by simpa using hj,by simp;omega⟩
theorem aJB (n:Nat):∀(l:List (List Nat×AV)) (i:Nat),i+l.length<=n->lI n (sE l i)=true
 | [],i,_=>rfl
 | (k,v)::l,i,h=>by
  simp only [List.length_cons] at h
  simp only [sE,lI]
  rw [show Nat.blt i n=true from by simp [Nat.blt_eq];omega]
  exact aJB n l (i+1) (by omega)
theorem aPF {α:Type} {k:α->Bool}:∀{l:List α},(∀x∈l,k x=true)->aRM l k=true
 | [],_=>rfl
 | x::l,h=>by
  show (match k x with | true=>aRM l k | false=>false)=true
  rw [h x List.mem_cons_self]
  exact aPF fun y hy=>h y (List.mem_cons_of_mem _ hy)
theorem aTN {b m:Nat} {l:List (List Nat×AV)} {seen:List Nat} {ro:Bool} {k:AV->Hp->Bool} (hb:H.get b=some (.miter (some m) l.length seen l.length)) (hm:H.get m=some (.map ro (sE l 0) l.length))
  (h0:eU seen (sE l 0)=[]->k (.tup [.bool false]) H=true)
  (h1:∀(j:Nat) (hj:j<l.length),j∉seen->k (.tup [.bool true,.str l[j].1,l[j].2]) (H.setb b (some (.miter (some m) l.length (j::seen) l.length)))=true):aED H (.ptr b 0) k=true:=by
 simp only [aED,hb,hm,Nat.beq_refl,aJB _ l 0 (show 0+l.length<=l.length by omega)]
 cases hl:eU seen (sE l 0) with
 | nil=>exact h0 hl
 | cons y ys=>
  dsimp only
  rw [←hl]
  refine aPF fun y hy=> ?_
  obtain⟨hs,j,hj,rfl⟩:=aBJ seen l 0 y hy
  dsimp only
  rw [Hp.put_r,Nat.zero_add]
  rw [Nat.zero_add] at hs
  exact h1 j hj hs
theorem aKK (s:Nat):∀(l:List (List Nat×AV)) (i j:Nat),i<=s->s<i+l.length->kF s (sE l i) j=some (s - i+j)
 | [],i,j,h1,h2=>by simp at h2;omega
 | (k,v)::l,i,j,h1,h2=>by
  simp only [List.length_cons] at h2
  show (match Nat.beq i s with | true=>some j | false=>kF s (sE l (i+1)) (j+1))=_
  by_cases hs:i=s
  ·subst hs;rw [Nat.beq_refl];simp
  ·rw [show Nat.beq i s=false from by rw [←Bool.not_eq_true,Nat.beq_eq];exact hs]
   dsimp only
   rw [aKK s l (i+1) (j+1) (by omega) (by omega)]
   congr 1;omega
theorem aYT:∀(l:List (List Nat×AV)) (i j:Nat) (h:j<l.length),(sE l i)[j]? =some (.str l[j].1,l[j].2,i+j)
 | (k,v)::l,i,0,h=>by simp [sE]
 | (k,v)::l,i,j+1,h=>by
  have:=aYT l (i+1) j (by simpa using h)
  simp only [sE,List.getElem?_cons_succ,this,List.getElem_cons_succ]
  congr 3;omega
theorem aLJ {b m n:Nat} {l:List (List Nat×AV)} {j:Nat} {seen:List Nat} {ro:Bool} {k:AV->Bool} (hb:H.get b=some (.miter (some m) n (j::seen) l.length)) (hm:H.get m=some (.map ro (sE l 0) l.length)) (hj:j<l.length):
  vV H (.ptr b 0) k=k (.tup [.str l[j].1,l[j].2]):=by
 simp only [vV,hb,hm,Nat.beq_refl,aKK j l 0 0 (show 0<=j by omega) (show j<0+l.length by omega),Nat.sub_zero,Nat.add_zero,aYT l 0 j hj]
theorem aLK {t m:Nat} {kt vt:TypeId} {ro:Bool} {es:List (AV×AV×Nat)} {cl:Nat} {k:AV->Hp->Bool} (hu:P.underlying t=some (.map kt vt)) (hm:H.get m=some (.map ro es cl)):
  tC P H t (.map m) k=k (.ptr H.nx 0) (H.push (.miter (some m) cl [] cl)):=by
 unfold tC
 rw [hu]
 dsimp only
 rw [hm]
 dsimp only
 rw [Hp.new_r]
end
end
end Go.Ev
