/- A part of the proof of TribunalQuestions. -/
import Derived.Test.YtmmghibnfjfnbaaGreatDoorRows
import Derived.SevenTiedAt
import Derived.KernelRfl
import Derived.LaidByTextLater
import Derived.Test.YtmmghibnfjfnbaaGreatDoorBBs
set_option linter.unusedVariables false
set_option linter.unusedSimpArgs false
namespace Go.Proofs.YtmmghibnfjfnbaaGreatDoor
open Go
set_option maxRecDepth 1000000
noncomputable def nmP (f:Nat):Bool:=(((Tryz.prog.funcs[f]?).any fun fn=>fn.name== "gosem.cut.vars")==(f==824))&&(((Tryz.prog.funcs[f]?).any fun fn=>fn.name== "patrol/patrollaw09.TribunalQuestions")==(f==3))&&(Tryz.prog.funcs[f]?).all fun fn=> !(fn.body.isNone&&fn.name==varsWordLater false)
end Go.Proofs.YtmmghibnfjfnbaaGreatDoor
namespace Go.Proofs.YtmmghibnfjfnbaaGreatDoor
open Go
set_option maxRecDepth 1000000
theorem nm0:(List.range 55).all (fun j=>nmP (55 * 0+j))=true:=by kernel_rfl
theorem nm1:(List.range 55).all (fun j=>nmP (55 * 1+j))=true:=by kernel_rfl
theorem nm2:(List.range 55).all (fun j=>nmP (55 * 2+j))=true:=by kernel_rfl
theorem nm3:(List.range 55).all (fun j=>nmP (55 * 3+j))=true:=by kernel_rfl
theorem nm4:(List.range 55).all (fun j=>nmP (55 * 4+j))=true:=by kernel_rfl
end Go.Proofs.YtmmghibnfjfnbaaGreatDoor
namespace Go.Proofs.YtmmghibnfjfnbaaGreatDoor
open Go
set_option maxRecDepth 1000000
theorem nm5:(List.range 55).all (fun j=>nmP (55 * 5+j))=true:=by kernel_rfl
theorem nm6:(List.range 55).all (fun j=>nmP (55 * 6+j))=true:=by kernel_rfl
theorem nm7:(List.range 55).all (fun j=>nmP (55 * 7+j))=true:=by kernel_rfl
theorem nm8:(List.range 55).all (fun j=>nmP (55 * 8+j))=true:=by kernel_rfl
theorem nm9:(List.range 55).all (fun j=>nmP (55 * 9+j))=true:=by kernel_rfl
end Go.Proofs.YtmmghibnfjfnbaaGreatDoor
namespace Go.Proofs.YtmmghibnfjfnbaaGreatDoor
open Go
set_option maxRecDepth 1000000
theorem nm10:(List.range 55).all (fun j=>nmP (55 * 10+j))=true:=by kernel_rfl
theorem nm11:(List.range 55).all (fun j=>nmP (55 * 11+j))=true:=by kernel_rfl
theorem nm12:(List.range 55).all (fun j=>nmP (55 * 12+j))=true:=by kernel_rfl
theorem nm13:(List.range 55).all (fun j=>nmP (55 * 13+j))=true:=by kernel_rfl
theorem nm14:(List.range 55).all (fun j=>nmP (55 * 14+j))=true:=by kernel_rfl
end Go.Proofs.YtmmghibnfjfnbaaGreatDoor
namespace Go.Proofs.YtmmghibnfjfnbaaGreatDoor
open Go
set_option maxRecDepth 1000000
theorem nmAll:∀i,i<15→(List.range 55).all (fun j=>nmP (55 * i+j))=true:=by
 intro i hi
 match i,hi with
 | 0,_=>exact nm0
 | 1,_=>exact nm1
 | 2,_=>exact nm2
 | 3,_=>exact nm3
 | 4,_=>exact nm4
 | 5,_=>exact nm5
 | 6,_=>exact nm6
 | 7,_=>exact nm7
 | 8,_=>exact nm8
 | 9,_=>exact nm9
 | 10,_=>exact nm10
 | 11,_=>exact nm11
 | 12,_=>exact nm12
 | 13,_=>exact nm13
 | 14,_=>exact nm14
 | n+15,h=>exact absurd h (by omega)
theorem nmT (f:Nat) (hf:f<825):nmP f=true:=by
 have h1:=List.all_eq_true.1 (nmAll (f/55) (by omega)) (f%55) (by rw [List.mem_range];omega)
 rwa [show 55 * (f/55)+f%55=f by omega] at h1
end Go.Proofs.YtmmghibnfjfnbaaGreatDoor
namespace Go.Proofs.YtmmghibnfjfnbaaGreatDoor
open Go
abbrev layT:List (String×DataW Unit):=[("unicode/utf8.acceptRanges",Rows.laid_unicode_utf8_acceptRanges),("strconv.ErrSyntax",Rows.laid_strconv_ErrSyntax),("strconv.ErrRange",Rows.laid_strconv_ErrRange),("internal/strconv.uint64pow10",Rows.laid_internal_strconv_uint64pow10),("math/bits.deBruijn32tab",Rows.laid_math_bits_deBruijn32tab),("math/bits.deBruijn64tab",Rows.laid_math_bits_deBruijn64tab)]
theorem a4:layT.map (fun x=>Tryz.prog.kindOfLater x.1)=[.data, .sentinel, .sentinel, .data, .data, .data].map some:=by kernel_rfl
theorem aa:(layT.all fun x=>x.2.handleName?.isNone)=true:=by kernel_rfl
theorem b7:∀os tape,varsDone Tryz.prog 400 824 os tape=true:=fun _ _=>by kernel_rfl
end Go.Proofs.YtmmghibnfjfnbaaGreatDoor
namespace Go.Proofs.YtmmghibnfjfnbaaGreatDoor
open Go
theorem b6:varsNamedLaterB Tryz.prog 824 layT=true:=by kernel_rfl
end Go.Proofs.YtmmghibnfjfnbaaGreatDoor
namespace Go.Proofs.YtmmghibnfjfnbaaGreatDoor
open Go
theorem b8:∀os tape,(DataW.laidRun Tryz.prog (varsWorld Tryz.prog 400 824 os tape).memory 8 (layT.map (·.1))).map (·.1)=some layT:=fun _ _=>by kernel_rfl
theorem b9:∀os tape,(DataW.laidRun Tryz.prog (varsWorld Tryz.prog 400 824 os tape).memory 8 (layT.map (·.1))).map (fun x=>decide x.2.Nodup&&laidRowsB Tryz.prog (varsWorld Tryz.prog 400 824 os tape).memory x.2)=some true:=fun _ _=>by kernel_rfl
end Go.Proofs.YtmmghibnfjfnbaaGreatDoor
namespace Go.Proofs.YtmmghibnfjfnbaaGreatDoor
open Go
set_option maxRecDepth 1000000
theorem filter_none:∀(n i0:Nat),n≤i0→(List.range n).filter (fun i=>i==i0)=[]:=by
 intro n i0 h
 rw [List.filter_eq_nil_iff]
 intro i hi
 rw [List.mem_range] at hi
 simp;omega
theorem filter_one:∀(n i0:Nat),i0<n→(List.range n).filter (fun i=>i==i0)=[i0]:=by
 intro n
 induction n with
 | zero=>intro i0 h;omega
 | succ n ih=>
  intro i0 h
  rw [List.range_succ,List.filter_append]
  by_cases e:i0<n
  ·rw [ih i0 e]
   have:(n==i0)=false:=by simp;omega
   simp [this]
  ·have e':i0=n:=by omega
   subst e'
   rw [filter_none _ _ (Nat.le_refl _)]
   simp
theorem named_of {P:Program} {n:String} {i0:Nat} (h:∀i,i<P.funcs.size→((P.funcs[i]?).any (·.name==n))=(i==i0)) (hi:i0<P.funcs.size):P.funcNamed n=some i0:=by
 unfold Program.funcNamed
 have:((List.range P.funcs.size).filter fun i=>(P.funcs[i]?).any (·.name==n))=[i0]:=by
  rw [←filter_one _ _ hi]
  exact List.filter_congr fun i hi=>h i (by simpa using hi)
 rw [this]
theorem nmAt {i:Nat} (h:i<Tryz.prog.funcs.size):((Tryz.prog.funcs[i]?).any fun fn=>fn.name== "gosem.cut.vars")=(i==824)∧((Tryz.prog.funcs[i]?).any fun fn=>fn.name== "patrol/patrollaw09.TribunalQuestions")=(i==3)∧((Tryz.prog.funcs[i]?).all fun fn=> !(fn.body.isNone&&fn.name==varsWordLater false))=true:=by
 have h1:=nmT i (by rw [funcs_size] at h;omega)
 unfold nmP at h1
 simp only [Bool.and_eq_true,beq_iff_eq] at h1
 exact⟨h1.1.1,h1.1.2,h1.2⟩
theorem vars_named:Tryz.prog.funcNamed "gosem.cut.vars" =some 824:=named_of (fun i hi=>(nmAt hi).1) (by rw [funcs_size];omega)
theorem named_five:Tryz.prog.funcNamed "patrol/patrollaw09.TribunalQuestions" =some 3:=named_of (fun i hi=>(nmAt hi).2.1) (by rw [funcs_size];omega)
theorem vars_id:varsId Tryz.prog=824:=by unfold varsId;rw [vars_named];rfl
theorem worded_of {P:Program} {w:String} (i:Nat) (h:((P.funcs[i]?).any fun fn=>fn.body.isNone&&fn.name==w)=true):P.worded w=true:=by
 unfold Program.worded
 rw [Array.any_eq_true]
 cases e:P.funcs[i]? with
 | none=>rw [e] at h;cases h
 | some fn=>
  obtain⟨hi,e'⟩:=Array.getElem?_eq_some_iff.1 e
  rw [e,Option.any_some] at h
  exact⟨i,hi,by rw [e'];exact h⟩
theorem word815:((Tryz.prog.funcs[815]?).any fun fn=>fn.body.isNone&&fn.name==varsWordLater true)=true:=by kernel_rfl
theorem word821:((Tryz.prog.funcs[821]?).any fun fn=>fn.body.isNone&&fn.name==rootWordLater)=true:=by kernel_rfl
theorem not_worded:Tryz.prog.worded (varsWordLater !true)=false:=by
 unfold Program.worded
 rw [Array.any_eq_false]
 intro i hi
 have:=(nmAt hi).2.2
 rw [Array.getElem?_eq_getElem hi] at this
 simp only [Option.all_some,Bool.not_eq_true'] at this
 rw [show varsWordLater (!true)=varsWordLater false from rfl,this]
 exact Bool.false_ne_true
theorem tied:Tryz.prog.laidByTextLater layT [.data, .sentinel, .sentinel, .data, .data, .data] true:=
 Program.laidByTextLater_by_run 400 8 (worded_of 815 word815) not_worded (worded_of 821 word821) a4 (by rw [vars_named];rfl)
  (by rw [vars_id];exact b6) (fun os tape=>by rw [vars_id];exact b7 os tape) (fun os tape=>by rw [vars_id];exact b8 os tape) (fun os tape=>by rw [vars_id];exact b9 os tape) aa
end Go.Proofs.YtmmghibnfjfnbaaGreatDoor
