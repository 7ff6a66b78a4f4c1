/- Parts of the proof, one behind the other. -/
import Derived.Test.YtihahfhagobnoaaGreatDoorG10
namespace Go.Proofs.YtihahfhagobnoaaGreatDoor.Lg
set_option maxRecDepth 100000
set_option linter.unusedVariables false
set_option linter.unusedSimpArgs false
open Go
open Nat renaming reduceEqDiff → Qa, reduceLT → Qb, reduceLeDiff → Qc, reduceAdd → Qd, reduceMul → Qe, reduceSub → Qf, reduceBEq → Qg
open String renaming reduceEq → Qh
open SpecC renaming seqW → Qi, regW → Qj, drawW → Qk, condW → Ql, block → Qm, skip → Qn, exit → Qp, ret → Qr, loopF → Qs
open NxK renaming out → Qw
open Nx renaming out → Qx
open condK renaming split → Qy
open gK renaming split_t → Qz, split_f → QA
open List renaming getElem_mem → QC
theorem Jhg(c:Bool)(xs:List Res)(hl:Jc xs.length):CallR Tryz.prog 140 [.slice c (Ja xs)] (.own 7 (Ja xs)):=by
 have hr:Vl xs.length 104:=ZV (by unfold Jc at hl;omega) (by decide)
 refine CallR.go1 (T:=T) Tryz.call140 Tryz.func140 rfl Tryz.ntmps140 (congrArg Array.toList Tryz.results140) (by decide) fun ts hn h0=>?_
 (repeat' (first
 | (with_reducible first|assumption|(refine Qw hK _ ?_;clear hK K)|refine Qw ‹_› _ ?_|refine Qx ‹_› ?_|refine Qi fun K hK=>?_|refine Qj T fun K hK=>?_|refine Ql fun A B hA hB=>?_|refine Qn ?_|refine Qr ?_)
 | ((with_reducible first|apply Qy|apply Qz|apply QA)<;>intro hb<;>try simp only[nr] at hb)
 |simp only[go_sem,↓reduceIte,reduceIte,Qa,Qh,Qb,Qc,Qd,Qe,Qf,Qg,reduceCtorEq, *]
 |with_reducible refine fun(bn:Bool) hbn=>?_))
theorem Ja6(fn:FuncId)(caps:List AV)(hc:Caps caps)(p:Res→Bool)(xs:List Res)(hp:∀x∈xs,CallR Tryz.prog fn (.agg [.int .i64 x.kind,.str x.name,.int .i64 x.ver,.int .i64 x.port,.str x.to',.slice false (Ja x.rules'),.slice false (Ja x.hosts)] :: caps) (.val (.bool (p x))))(hl:Jc xs.length):CallR Tryz.prog 142 [.slice false (Ja xs),.clo (.func fn) [] caps] (.val (.int .i64 (JF p xs 0))):=by
 have hca:=hc.args
 have hcp:=hc.pure
 have hcn:=hc.nrm
 refine CallR.go2 (T:=T) Tryz.call142 Tryz.func142 rfl Tryz.ntmps142 (congrArg Array.toList Tryz.results142) (by decide) fun ts hn h0 h1=>?_
 (repeat' (first
 | (with_reducible first|assumption|(refine Qw hK _ ?_;clear hK K)|refine Qw ‹_› _ ?_|refine Qx ‹_› ?_|refine Qi fun K hK=>?_|refine Qj T fun K hK=>?_|refine Ql fun A B hA hB=>?_|refine Qm ?_|refine Qn ?_|refine Qp ?_|refine Qr ?_)
 | ((with_reducible first|apply Qy|apply Qz|apply QA)<;>intro hb<;>try simp only[nr] at hb)
 |simp only[go_sem,↓reduceIte,reduceIte,Qa,Qh,Qb,Qc,Qd,Qe,Qf,Qg,reduceCtorEq, *,-hp]
 |with_reducible refine fun(bn:Bool) hbn=>?_))
 refine Qs [0,1,7] (fun m ts'=>∃(i:Nat),m=xs.length-i∧i≤xs.length∧JF p xs 0=JF p (xs.drop i) i∧ts'.tmp 8=.int .i64 i) xs.length ?_ ?_
 ·refine⟨0,?_⟩
  simp only[go_sem,↓reduceIte,reduceIte,Qa,Qh,Qb,Qc,Qd,Qe,Qf,Qg,reduceCtorEq, *,-hp]
 ·rintro m A hM ts' hk ⟨i,hm,f1,f2,s1⟩
  simp only[go_sem,↓reduceIte,reduceIte,Qa,Qh,Qb,Qc,Qd,Qe,Qf,Qg,reduceCtorEq, *] at hk
  by_cases hlt:i<xs.length
  ·rw[List.drop_eq_getElem_cons hlt,JF] at f2
   have hpi:=hp _ (QC hlt)
   (repeat' (first
 | (with_reducible first|refine callX.by (hpi) ?_|assumption|(refine Qw hK _ ?_;clear hK K)|refine Qw ‹_› _ ?_|refine Qx ‹_› ?_|refine Qi fun K hK=>?_|refine Qj T fun K hK=>?_|refine Ql fun A B hA hB=>?_|refine Qm ?_|refine Qn ?_|refine Qp ?_|refine Qr ?_)
 | ((with_reducible first|apply Qy|apply Qz|apply QA)<;>intro hb<;>try simp only[nr] at hb)
 |simp only[go_sem,↓reduceIte,reduceIte,Qa,Qh,Qb,Qc,Qd,Qe,Qf,Qg,reduceCtorEq, *,-hp,-hpi]
 |with_reducible refine fun(bn:Bool) hbn=>?_))
   all_goals ((repeat clear hK);(repeat clear hA);(repeat clear hB))
   rw[if_neg (by simp[hb])] at f2
   (refine hM.on (xs.length-(i+1)) (by omega) (by simp only[go_sem,↓reduceIte,reduceIte,Qa,Qh,Qb,Qc,Qd,Qe,Qf,Qg,reduceCtorEq, *,Jf hlt hl,-f2,-hp,-hpi]) ⟨i+1,rfl,by omega,f2,?_⟩;simp only[go_sem,↓reduceIte,reduceIte,Qa,Qh,Qb,Qc,Qd,Qe,Qf,Qg,reduceCtorEq, *,Jf hlt hl,-f2,-hp,-hpi];done)
  ·rw[List.drop_eq_nil_of_le (by omega),JF] at f2
   (repeat' (first
 | (with_reducible first|assumption|(refine Qw hK _ ?_;clear hK K)|refine Qw ‹_› _ ?_|refine Qx ‹_› ?_|refine Qi fun K hK=>?_|refine Qj T fun K hK=>?_|refine Ql fun A B hA hB=>?_|refine Qm ?_|refine Qn ?_|refine Qp ?_|refine Qr ?_)
 | ((with_reducible first|apply Qy|apply Qz|apply QA)<;>intro hb<;>try simp only[nr] at hb)
 |simp only[go_sem,↓reduceIte,reduceIte,Qa,Qh,Qb,Qc,Qd,Qe,Qf,Qg,reduceCtorEq, *,-hp]
 |with_reducible refine fun(bn:Bool) hbn=>?_))
theorem JbI(fn:FuncId)(caps:List AV)(hc:Caps caps)(p:Res→Bool)(xs:List Res)(hp:∀x∈xs,CallR Tryz.prog fn (.agg [.int .i64 x.kind,.str x.name,.int .i64 x.ver,.int .i64 x.port,.str x.to',.slice false (Ja x.rules'),.slice false (Ja x.hosts)] :: caps) (.val (.bool (p x))))(hl:Jc xs.length):CallR Tryz.prog 98 [.slice false (Ja xs),.clo (.func fn) [] caps] (.val (.bool (xs.any p))):=by
 have hca:=hc.args
 have hcp:=hc.pure
 have hcn:=hc.nrm
 have hi:=Ja6 fn caps hc p xs hp hl
 have ha:=Ja7 p xs
 refine CallR.go2 (T:=T) Tryz.call98 Tryz.func98 rfl Tryz.ntmps98 (congrArg Array.toList Tryz.results98) (by decide) fun ts hn h0 h1=>?_
 (repeat' (first
 | (with_reducible first|refine callX.by (hi) ?_|refine callX.by (Ja6 _ _ ?_ _ _ ?_ ?_) ?_|assumption|(refine Qw hK _ ?_;clear hK K)|refine Qw ‹_› _ ?_|refine Qx ‹_› ?_|refine Qi fun K hK=>?_|refine Qj T fun K hK=>?_|refine Ql fun A B hA hB=>?_|refine Qn ?_|refine Qr ?_)
 | ((with_reducible first|apply Qy|apply Qz|apply QA)<;>intro hb<;>try simp only[nr] at hb)
 |simp only[go_sem,↓reduceIte,reduceIte,Qa,Qh,Qb,Qc,Qd,Qe,Qf,Qg,reduceCtorEq, *,-hp,-hi]
 |with_reducible refine fun(bn:Bool) hbn=>?_))
theorem JdM(fn:FuncId)(caps:List AV)(hc:Caps caps)(p:Res→Bool)(xs:List Res)(hp:∀x∈xs,CallR Tryz.prog fn (.agg [.int .i64 x.kind,.str x.name,.int .i64 x.ver,.int .i64 x.port,.str x.to',.slice false (Ja x.rules'),.slice false (Ja x.hosts)] :: caps) (.val (.bool (p x))))(hl:Jc xs.length):CallM Tryz.prog 139 7 (Ja xs) [.clo (.func fn) [] caps] (.own 7 (Ja (xs.filter fun x=>!p x))):=by
 have hca:=hc.args
 have hcp:=hc.pure
 have hcn:=hc.nrm
 refine CallM.go1 (T:=T) Tryz.call139 Tryz.func139 rfl Tryz.ntmps139 (congrArg Array.toList Tryz.results139) (by decide) fun ts hn h0 hg0 ho0 h1=>?_
 have hi:=Ja6 fn caps hc p xs hp hl
 by_cases hneg:JF p xs 0=-1
 ·have hf:xs.filter (fun x=>!p x)=xs:=List.filter_eq_self.2 fun x hx=>by simp[JcM p xs 0 (Int.le_refl 0) hneg x hx]
  (repeat' (first
 | (with_reducible first|refine callX.by (hi) ?_|refine callX.by (Ja6 _ _ ?_ _ _ ?_ ?_) ?_|assumption|(refine Qw hK _ ?_;clear hK K)|refine Qw ‹_› _ ?_|refine Qx ‹_› ?_|refine Qi fun K hK=>?_|refine Qj T fun K hK=>?_|refine Ql fun A B hA hB=>?_|refine Qm ?_|refine Qn ?_|refine Qp ?_|refine Qr ?_)
 | ((with_reducible first|apply Qy|apply Qz|apply QA)<;>intro hb<;>try simp only[nr] at hb)
 |simp only[go_sem,↓reduceIte,reduceIte,Qa,Qh,Qb,Qc,Qd,Qe,Qf,Qg,reduceCtorEq, *,-hp,-hi]
 |with_reducible refine fun(bn:Bool) hbn=>?_))
 ·obtain⟨k,hk1,hk2,hk3,hk4⟩:=JcN p xs 0 (Int.le_refl 0) hneg
  rw[Int.zero_add] at hk1
  (repeat' (first
 | (with_reducible first|refine callX.by (hi) ?_|refine callX.by (Ja6 _ _ ?_ _ _ ?_ ?_) ?_|assumption|(refine Qw hK _ ?_;clear hK K)|refine Qw ‹_› _ ?_|refine Qx ‹_› ?_|refine Qi fun K hK=>?_|refine Qj T fun K hK=>?_|refine Ql fun A B hA hB=>?_|refine Qm ?_|refine Qn ?_|refine Qp ?_|refine Qr ?_)
 | ((with_reducible first|apply Qy|apply Qz|apply QA)<;>intro hb<;>try simp only[nr] at hb)
 |simp only[go_sem,↓reduceIte,reduceIte,Qa,Qh,Qb,Qc,Qd,Qe,Qf,Qg,reduceCtorEq, *,-hp,-hi,-hk3,-hk4]
 |with_reducible refine fun(bn:Bool) hbn=>?_))
  refine Qs [1] (fun m ts'=>∃(i:Nat),∃(j:Nat),∃(ys:List Res),m=xs.length-j∧i<j∧j≤xs.length∧ys.length=xs.length∧ys.take i=(xs.take j).filter (fun x=>!p x)∧ys.drop j=xs.drop j∧ts'.tmp 0=.os 0 0 xs.length∧ts'.gen 0=0∧ts'.obj 0=.arr 7 (Ja ys)∧ts'.tmp 5=.int .i64 i∧ts'.tmp 6=.int .i64 j) (xs.length-(k+1)) ?_ ?_
  ·refine⟨k,k+1,xs,rfl,by omega,by omega,rfl,?_,rfl,?_⟩
   ·rw[Z8 _ hk2,List.filter_eq_self.2 (fun x hx=>by simp[hk3 x hx]),hk4 hk2];simp
   ·simp only[go_sem,↓reduceIte,reduceIte,Qa,Qh,Qb,Qc,Qd,Qe,Qf,Qg,reduceCtorEq, *,Jf hk2 hl,-hp,-hi,-hk3,-hk4]
  ·rintro m A hM ts' hk ⟨i,j,ys,hm,f1,f2,f3,f4,f5,s1,s2,s3,s4,s5⟩
   simp only[go_sem,↓reduceIte,reduceIte,Qa,Qh,Qb,Qc,Qd,Qe,Qf,Qg,reduceCtorEq, *] at hk
   by_cases hlt:j<xs.length
   ·have hly:j<ys.length:=by omega
    have hj:ys[j]=xs[j]:=by
     have:=congrArg (fun l=>l[0]?) f5
     simpa[hly,hlt] using this
    have hix:i<xs.length:=by omega
    have hpj:=hp _ (QC hlt)
    clear hi hk3 hk4 hp
    (repeat' (first
 | (with_reducible first|refine callX.by (hpj) ?_|refine callX.by (Ja6 _ _ ?_ _ _ ?_ ?_) ?_|assumption|(refine Qw hK _ ?_;clear hK K)|refine Qw ‹_› _ ?_|refine Qx ‹_› ?_|refine Qi fun K hK=>?_|refine Qj T fun K hK=>?_|refine Ql fun A B hA hB=>?_|refine Qm ?_|refine Qn ?_|refine Qp ?_|refine Qr ?_)
 | ((with_reducible first|apply Qy|apply Qz|apply QA)<;>intro hb<;>try simp only[nr] at hb)
 |simp only[go_sem,↓reduceIte,reduceIte,Qa,Qh,Qb,Qc,Qd,Qe,Qf,Qg,reduceCtorEq, *,-hpj,-f4,-f5]
 |with_reducible refine fun(bn:Bool) hbn=>?_))
    all_goals ((repeat clear hK);(repeat clear hA);(repeat clear hB))
    ·(refine hM.on (xs.length-(j+1)) (by omega) (by simp only[go_sem,↓reduceIte,reduceIte,Qa,Qh,Qb,Qc,Qd,Qe,Qf,Qg,reduceCtorEq, *,Jf hlt hl,Jf hix hl,-hpj,-f4,-f5]) ⟨i+1,j+1,ys.set i xs[j],rfl,by omega,by omega,by simp[f3],by rw[Z8 _ hlt,←f4,hb,JeP _ (by omega)];simp,by rw[List.drop_set,if_pos (by omega)];simpa using congrArg (List.drop 1) f5,?_⟩;simp only[go_sem,↓reduceIte,reduceIte,Qa,Qh,Qb,Qc,Qd,Qe,Qf,Qg,reduceCtorEq, *,Jf hlt hl,Jf hix hl,-hpj,-f4,-f5];done)
    ·(refine hM.on (xs.length-(j+1)) (by omega) (by simp only[go_sem,↓reduceIte,reduceIte,Qa,Qh,Qb,Qc,Qd,Qe,Qf,Qg,reduceCtorEq, *,Jf hlt hl,-hpj,-f4,-f5]) ⟨i,j+1,ys,rfl,by omega,by omega,f3,by rw[Z8 _ hlt,←f4,hb];simp,by simpa using congrArg (List.drop 1) f5,?_⟩;simp only[go_sem,↓reduceIte,reduceIte,Qa,Qh,Qb,Qc,Qd,Qe,Qf,Qg,reduceCtorEq, *,Jf hlt hl,-hpj,-f4,-f5];done)
   ·have hi1:i≤xs.length:=by omega
    have hi2:i+(xs.length-i)=xs.length:=by omega
    have hj2:j=xs.length:=by omega
    subst hj2
    rw[List.take_length] at f4
    clear hi hk3 hk4 hp
    (repeat' (first
 | (with_reducible first|refine callX.by (Ja6 _ _ ?_ _ _ ?_ ?_) ?_|assumption|(refine Qw hK _ ?_;clear hK K)|refine Qw ‹_› _ ?_|refine Qx ‹_› ?_|refine Qi fun K hK=>?_|refine Qj T fun K hK=>?_|refine Ql fun A B hA hB=>?_|refine Qm ?_|refine Qn ?_|refine Qp ?_|refine Qr ?_)
 | ((with_reducible first|apply Qy|apply Qz|apply QA)<;>intro hb<;>try simp only[nr] at hb)
 |simp only[go_sem,↓reduceIte,reduceIte,Qa,Qh,Qb,Qc,Qd,Qe,Qf,Qg,reduceCtorEq, *]
 |with_reducible refine fun(bn:Bool) hbn=>?_))
    all_goals ((repeat clear hK);(repeat clear hA);(repeat clear hB))
theorem Ja5(fn:FuncId)(caps:List AV)(hc:Caps caps)(p:Key→Bool)(xs:List Key)(hp:∀x∈xs,CallR Tryz.prog fn (.agg [.int .i64 x.kind,.str x.name] :: caps) (.val (.bool (p x))))(hl:Jc xs.length):CallR Tryz.prog 107 [.slice false (Ja xs),.clo (.func fn) [] caps] (.val (.int .i64 (JF p xs 0))):=by
 have hca:=hc.args
 have hcp:=hc.pure
 have hcn:=hc.nrm
 refine CallR.go2 (T:=T) Tryz.call107 Tryz.func107 rfl Tryz.ntmps107 (congrArg Array.toList Tryz.results107) (by decide) fun ts hn h0 h1=>?_
 (repeat' (first
 | (with_reducible first|assumption|(refine Qw hK _ ?_;clear hK K)|refine Qw ‹_› _ ?_|refine Qx ‹_› ?_|refine Qi fun K hK=>?_|refine Qj T fun K hK=>?_|refine Ql fun A B hA hB=>?_|refine Qm ?_|refine Qn ?_|refine Qp ?_|refine Qr ?_)
 | ((with_reducible first|apply Qy|apply Qz|apply QA)<;>intro hb<;>try simp only[nr] at hb)
 |simp only[go_sem,↓reduceIte,reduceIte,Qa,Qh,Qb,Qc,Qd,Qe,Qf,Qg,reduceCtorEq, *,-hp]
 |with_reducible refine fun(bn:Bool) hbn=>?_))
 refine Qs [0,1,7] (fun m ts'=>∃(i:Nat),m=xs.length-i∧i≤xs.length∧JF p xs 0=JF p (xs.drop i) i∧ts'.tmp 8=.int .i64 i) xs.length ?_ ?_
 ·refine⟨0,?_⟩
  simp only[go_sem,↓reduceIte,reduceIte,Qa,Qh,Qb,Qc,Qd,Qe,Qf,Qg,reduceCtorEq, *,-hp]
 ·rintro m A hM ts' hk ⟨i,hm,f1,f2,s1⟩
  simp only[go_sem,↓reduceIte,reduceIte,Qa,Qh,Qb,Qc,Qd,Qe,Qf,Qg,reduceCtorEq, *] at hk
  by_cases hlt:i<xs.length
  ·rw[List.drop_eq_getElem_cons hlt,JF] at f2
   have hpi:=hp _ (QC hlt)
   (repeat' (first
 | (with_reducible first|refine callX.by (hpi) ?_|assumption|(refine Qw hK _ ?_;clear hK K)|refine Qw ‹_› _ ?_|refine Qx ‹_› ?_|refine Qi fun K hK=>?_|refine Qj T fun K hK=>?_|refine Ql fun A B hA hB=>?_|refine Qm ?_|refine Qn ?_|refine Qp ?_|refine Qr ?_)
 | ((with_reducible first|apply Qy|apply Qz|apply QA)<;>intro hb<;>try simp only[nr] at hb)
 |simp only[go_sem,↓reduceIte,reduceIte,Qa,Qh,Qb,Qc,Qd,Qe,Qf,Qg,reduceCtorEq, *,-hp,-hpi]
 |with_reducible refine fun(bn:Bool) hbn=>?_))
   all_goals ((repeat clear hK);(repeat clear hA);(repeat clear hB))
   rw[if_neg (by simp[hb])] at f2
   (refine hM.on (xs.length-(i+1)) (by omega) (by simp only[go_sem,↓reduceIte,reduceIte,Qa,Qh,Qb,Qc,Qd,Qe,Qf,Qg,reduceCtorEq, *,Jf hlt hl,-f2,-hp,-hpi]) ⟨i+1,rfl,by omega,f2,?_⟩;simp only[go_sem,↓reduceIte,reduceIte,Qa,Qh,Qb,Qc,Qd,Qe,Qf,Qg,reduceCtorEq, *,Jf hlt hl,-f2,-hp,-hpi];done)
  ·rw[List.drop_eq_nil_of_le (by omega),JF] at f2
   (repeat' (first
 | (with_reducible first|assumption|(refine Qw hK _ ?_;clear hK K)|refine Qw ‹_› _ ?_|refine Qx ‹_› ?_|refine Qi fun K hK=>?_|refine Qj T fun K hK=>?_|refine Ql fun A B hA hB=>?_|refine Qm ?_|refine Qn ?_|refine Qp ?_|refine Qr ?_)
 | ((with_reducible first|apply Qy|apply Qz|apply QA)<;>intro hb<;>try simp only[nr] at hb)
 |simp only[go_sem,↓reduceIte,reduceIte,Qa,Qh,Qb,Qc,Qd,Qe,Qf,Qg,reduceCtorEq, *,-hp]
 |with_reducible refine fun(bn:Bool) hbn=>?_))
theorem Z5(fn:FuncId)(caps:List AV)(hc:Caps caps)(p:Key→Bool)(xs:List Key)(hp:∀x∈xs,CallR Tryz.prog fn (.agg [.int .i64 x.kind,.str x.name] :: caps) (.val (.bool (p x))))(hl:Jc xs.length):CallR Tryz.prog 96 [.slice false (Ja xs),.clo (.func fn) [] caps] (.val (.bool (xs.any p))):=by
 have hca:=hc.args
 have hcp:=hc.pure
 have hcn:=hc.nrm
 have hi:=Ja5 fn caps hc p xs hp hl
 have ha:=Ja7 p xs
 refine CallR.go2 (T:=T) Tryz.call96 Tryz.func96 rfl Tryz.ntmps96 (congrArg Array.toList Tryz.results96) (by decide) fun ts hn h0 h1=>?_
 (repeat' (first
 | (with_reducible first|refine callX.by (hi) ?_|refine callX.by (Ja5 _ _ ?_ _ _ ?_ ?_) ?_|assumption|(refine Qw hK _ ?_;clear hK K)|refine Qw ‹_› _ ?_|refine Qx ‹_› ?_|refine Qi fun K hK=>?_|refine Qj T fun K hK=>?_|refine Ql fun A B hA hB=>?_|refine Qn ?_|refine Qr ?_)
 | ((with_reducible first|apply Qy|apply Qz|apply QA)<;>intro hb<;>try simp only[nr] at hb)
 |simp only[go_sem,↓reduceIte,reduceIte,Qa,Qh,Qb,Qc,Qd,Qe,Qf,Qg,reduceCtorEq, *,-hp,-hi]
 |with_reducible refine fun(bn:Bool) hbn=>?_))
theorem Jhq(fn:FuncId)(caps:List AV)(hc:Caps caps)(p:Key→Bool)(xs:List Key)(hp:∀x∈xs,CallR Tryz.prog fn (.agg [.int .i64 x.kind,.str x.name] :: caps) (.val (.bool (p x))))(hl:Jc xs.length):CallM Tryz.prog 70 2 (Ja xs) [.clo (.func fn) [] caps] (.own 2 (Ja (xs.filter fun x=>!p x))):=by
 have hca:=hc.args
 have hcp:=hc.pure
 have hcn:=hc.nrm
 refine CallM.go1 (T:=T) Tryz.call70 Tryz.func70 rfl Tryz.ntmps70 (congrArg Array.toList Tryz.results70) (by decide) fun ts hn h0 hg0 ho0 h1=>?_
 have hi:=Ja5 fn caps hc p xs hp hl
 by_cases hneg:JF p xs 0=-1
 ·have hf:xs.filter (fun x=>!p x)=xs:=List.filter_eq_self.2 fun x hx=>by simp[JcM p xs 0 (Int.le_refl 0) hneg x hx]
  (repeat' (first
 | (with_reducible first|refine callX.by (hi) ?_|refine callX.by (Ja5 _ _ ?_ _ _ ?_ ?_) ?_|assumption|(refine Qw hK _ ?_;clear hK K)|refine Qw ‹_› _ ?_|refine Qx ‹_› ?_|refine Qi fun K hK=>?_|refine Qj T fun K hK=>?_|refine Ql fun A B hA hB=>?_|refine Qm ?_|refine Qn ?_|refine Qp ?_|refine Qr ?_)
 | ((with_reducible first|apply Qy|apply Qz|apply QA)<;>intro hb<;>try simp only[nr] at hb)
 |simp only[go_sem,↓reduceIte,reduceIte,Qa,Qh,Qb,Qc,Qd,Qe,Qf,Qg,reduceCtorEq, *,-hp,-hi]
 |with_reducible refine fun(bn:Bool) hbn=>?_))
 ·obtain⟨k,hk1,hk2,hk3,hk4⟩:=JcN p xs 0 (Int.le_refl 0) hneg
  rw[Int.zero_add] at hk1
  (repeat' (first
 | (with_reducible first|refine callX.by (hi) ?_|refine callX.by (Ja5 _ _ ?_ _ _ ?_ ?_) ?_|assumption|(refine Qw hK _ ?_;clear hK K)|refine Qw ‹_› _ ?_|refine Qx ‹_› ?_|refine Qi fun K hK=>?_|refine Qj T fun K hK=>?_|refine Ql fun A B hA hB=>?_|refine Qm ?_|refine Qn ?_|refine Qp ?_|refine Qr ?_)
 | ((with_reducible first|apply Qy|apply Qz|apply QA)<;>intro hb<;>try simp only[nr] at hb)
 |simp only[go_sem,↓reduceIte,reduceIte,Qa,Qh,Qb,Qc,Qd,Qe,Qf,Qg,reduceCtorEq, *,-hp,-hi,-hk3,-hk4]
 |with_reducible refine fun(bn:Bool) hbn=>?_))
  refine Qs [1] (fun m ts'=>∃(i:Nat),∃(j:Nat),∃(ys:List Key),m=xs.length-j∧i<j∧j≤xs.length∧ys.length=xs.length∧ys.take i=(xs.take j).filter (fun x=>!p x)∧ys.drop j=xs.drop j∧ts'.tmp 0=.os 0 0 xs.length∧ts'.gen 0=0∧ts'.obj 0=.arr 2 (Ja ys)∧ts'.tmp 5=.int .i64 i∧ts'.tmp 6=.int .i64 j) (xs.length-(k+1)) ?_ ?_
  ·refine⟨k,k+1,xs,rfl,by omega,by omega,rfl,?_,rfl,?_⟩
   ·rw[Z8 _ hk2,List.filter_eq_self.2 (fun x hx=>by simp[hk3 x hx]),hk4 hk2];simp
   ·simp only[go_sem,↓reduceIte,reduceIte,Qa,Qh,Qb,Qc,Qd,Qe,Qf,Qg,reduceCtorEq, *,Jf hk2 hl,-hp,-hi,-hk3,-hk4]
  ·rintro m A hM ts' hk ⟨i,j,ys,hm,f1,f2,f3,f4,f5,s1,s2,s3,s4,s5⟩
   simp only[go_sem,↓reduceIte,reduceIte,Qa,Qh,Qb,Qc,Qd,Qe,Qf,Qg,reduceCtorEq, *] at hk
   by_cases hlt:j<xs.length
   ·have hly:j<ys.length:=by omega
    have hj:ys[j]=xs[j]:=by
     have:=congrArg (fun l=>l[0]?) f5
     simpa[hly,hlt] using this
    have hix:i<xs.length:=by omega
    have hpj:=hp _ (QC hlt)
    clear hi hk3 hk4 hp
    (repeat' (first
 | (with_reducible first|refine callX.by (hpj) ?_|refine callX.by (Ja5 _ _ ?_ _ _ ?_ ?_) ?_|assumption|(refine Qw hK _ ?_;clear hK K)|refine Qw ‹_› _ ?_|refine Qx ‹_› ?_|refine Qi fun K hK=>?_|refine Qj T fun K hK=>?_|refine Ql fun A B hA hB=>?_|refine Qm ?_|refine Qn ?_|refine Qp ?_|refine Qr ?_)
 | ((with_reducible first|apply Qy|apply Qz|apply QA)<;>intro hb<;>try simp only[nr] at hb)
 |simp only[go_sem,↓reduceIte,reduceIte,Qa,Qh,Qb,Qc,Qd,Qe,Qf,Qg,reduceCtorEq, *,-hpj,-f4,-f5]
 |with_reducible refine fun(bn:Bool) hbn=>?_))
    all_goals ((repeat clear hK);(repeat clear hA);(repeat clear hB))
    ·(refine hM.on (xs.length-(j+1)) (by omega) (by simp only[go_sem,↓reduceIte,reduceIte,Qa,Qh,Qb,Qc,Qd,Qe,Qf,Qg,reduceCtorEq, *,Jf hlt hl,Jf hix hl,-hpj,-f4,-f5]) ⟨i+1,j+1,ys.set i xs[j],rfl,by omega,by omega,by simp[f3],by rw[Z8 _ hlt,←f4,hb,JeP _ (by omega)];simp,by rw[List.drop_set,if_pos (by omega)];simpa using congrArg (List.drop 1) f5,?_⟩;simp only[go_sem,↓reduceIte,reduceIte,Qa,Qh,Qb,Qc,Qd,Qe,Qf,Qg,reduceCtorEq, *,Jf hlt hl,Jf hix hl,-hpj,-f4,-f5];done)
    ·(refine hM.on (xs.length-(j+1)) (by omega) (by simp only[go_sem,↓reduceIte,reduceIte,Qa,Qh,Qb,Qc,Qd,Qe,Qf,Qg,reduceCtorEq, *,Jf hlt hl,-hpj,-f4,-f5]) ⟨i,j+1,ys,rfl,by omega,by omega,f3,by rw[Z8 _ hlt,←f4,hb];simp,by simpa using congrArg (List.drop 1) f5,?_⟩;simp only[go_sem,↓reduceIte,reduceIte,Qa,Qh,Qb,Qc,Qd,Qe,Qf,Qg,reduceCtorEq, *,Jf hlt hl,-hpj,-f4,-f5];done)
   ·have hi1:i≤xs.length:=by omega
    have hi2:i+(xs.length-i)=xs.length:=by omega
    have hj2:j=xs.length:=by omega
    subst hj2
    rw[List.take_length] at f4
    clear hi hk3 hk4 hp
    (repeat' (first
 | (with_reducible first|refine callX.by (Ja5 _ _ ?_ _ _ ?_ ?_) ?_|assumption|(refine Qw hK _ ?_;clear hK K)|refine Qw ‹_› _ ?_|refine Qx ‹_› ?_|refine Qi fun K hK=>?_|refine Qj T fun K hK=>?_|refine Ql fun A B hA hB=>?_|refine Qm ?_|refine Qn ?_|refine Qp ?_|refine Qr ?_)
 | ((with_reducible first|apply Qy|apply Qz|apply QA)<;>intro hb<;>try simp only[nr] at hb)
 |simp only[go_sem,↓reduceIte,reduceIte,Qa,Qh,Qb,Qc,Qd,Qe,Qf,Qg,reduceCtorEq, *]
 |with_reducible refine fun(bn:Bool) hbn=>?_))
    all_goals ((repeat clear hK);(repeat clear hA);(repeat clear hB))
theorem JoC(r_kind:Int)(r_name:List UInt8)(r_ver:Int)(r_port:Int)(r_to:List UInt8)(r_rules:List Rule)(r_hosts:List Int)(k_kind:Int)(k_name:List UInt8):CallR Tryz.prog 206 [.agg [.int .i64 r_kind,.str r_name,.int .i64 r_ver,.int .i64 r_port,.str r_to,.slice false (Ja r_rules),.slice false (Ja r_hosts)],.ro [.int .i64 k_kind,.str k_name]] (.val (.bool (decide (Jg (⟨r_kind,r_name,r_ver,r_port,r_to,r_rules,r_hosts⟩:Res)=(⟨k_kind,k_name⟩:Key))))):=by
 refine CallR.go2 (T:=T) Tryz.call206 Tryz.func206 rfl Tryz.ntmps206 (congrArg Array.toList Tryz.results206) (by decide) fun ts hn h0 h1=>?_
 (repeat' (first
 | (with_reducible first|refine callX.by (J6 _ _ _ _ _ _ _) ?_|assumption|(refine Qw hK _ ?_;clear hK K)|refine Qw ‹_› _ ?_|refine Qx ‹_› ?_|refine Qi fun K hK=>?_|refine Qj T fun K hK=>?_|refine Qk (id:=1) T mixed [([4],[6]),([5],[6]),([6],[4,5])] (by kernel_rfl) fun K hK=>?_|refine Ql fun A B hA hB=>?_|refine Qn ?_|refine Qr ?_)
 | ((with_reducible first|apply Qy|apply Qz|apply QA)<;>intro hb<;>try simp only[nr] at hb)
 |simp only[go_sem,↓reduceIte,reduceIte,Qa,Qh,Qb,Qc,Qd,Qe,Qf,Qg,reduceCtorEq, *]
 |with_reducible refine fun(bn:Bool) hbn=>?_))
 all_goals (rw[Bool.eq_iff_iff];simp[Jg])
theorem JoD(k_kind:Int)(k_name:List UInt8):CallR Tryz.prog 199 [.agg [.int .i64 k_kind,.str k_name]] (.val (.clo (.func 206) [] [.ro [.int .i64 k_kind,.str k_name]])):=by
 refine CallR.go1 (T:=T) Tryz.call199 Tryz.func199 rfl Tryz.ntmps199 (congrArg Array.toList Tryz.results199) (by decide) fun ts hn h0=>?_
 (repeat' (first
 | (with_reducible first|assumption|(refine Qw hK _ ?_;clear hK K)|refine Qw ‹_› _ ?_|refine Qx ‹_› ?_|refine Qi fun K hK=>?_|refine Qj T fun K hK=>?_|refine Ql fun A B hA hB=>?_|refine Qn ?_|refine Qr ?_)
 | ((with_reducible first|apply Qy|apply Qz|apply QA)<;>intro hb<;>try simp only[nr] at hb)
 |simp only[go_sem,↓reduceIte,reduceIte,Qa,Qh,Qb,Qc,Qd,Qe,Qf,Qg,reduceCtorEq, *]
 |with_reducible refine fun(bn:Bool) hbn=>?_))
theorem Jk5(a:Int)(b:List UInt8):Caps [.ro [.int .i64 a,.str b]]:=⟨by simp only[go_sem,Bool.and_self],by simp only[go_sem]⟩
theorem JeQ(fn:FuncId)(caps:List AV)(hc:Caps caps)(p:Res→Bool)(xs:List Res)(hp:∀x∈xs,CallR Tryz.prog fn (.agg [.int .i64 x.kind,.str x.name,.int .i64 x.ver,.int .i64 x.port,.str x.to',.slice false (Ja x.rules'),.slice false (Ja x.hosts)] :: caps) (.val (.bool (p x))))(hl:Jc xs.length):CallR Tryz.prog 137 [.slice false (Ja xs),.clo (.func fn) [] caps] (.own 7 (Ja (xs.filter p))):=by
 have hca:=hc.args
 have hcp:=hc.pure
 have hcn:=hc.nrm
 refine CallR.go2 (T:=T) Tryz.call137 Tryz.func137 rfl Tryz.ntmps137 (congrArg Array.toList Tryz.results137) (by decide) fun ts hn h0 h1=>?_
 (repeat' (first
 | (with_reducible first|assumption|(refine Qw hK _ ?_;clear hK K)|refine Qw ‹_› _ ?_|refine Qx ‹_› ?_|refine Qi fun K hK=>?_|refine Qj T fun K hK=>?_|refine Ql fun A B hA hB=>?_|refine Qm ?_|refine Qn ?_|refine Qp ?_|refine Qr ?_)
 | ((with_reducible first|apply Qy|apply Qz|apply QA)<;>intro hb<;>try simp only[nr] at hb)
 |simp only[go_sem,↓reduceIte,reduceIte,Qa,Qh,Qb,Qc,Qd,Qe,Qf,Qg,reduceCtorEq, *,-hp]
 |with_reducible refine fun(bn:Bool) hbn=>?_))
 refine SpecC.virt 5 20 7 (by decide) (by simp only[go_sem,↓reduceIte,reduceIte,Qa,Qh,Qb,Qc,Qd,Qe,Qf,Qg,reduceCtorEq, *,-hp]) ?_
 refine Qs [1,8,9] (fun m ts'=>∃(i:Nat),∃(g:Nat),∃(ys:List Res),m=xs.length-i∧i≤xs.length∧ys.length≤i∧xs.filter p=ys++(xs.drop i).filter p∧ts'.tmp 5=.os 20 g ys.length∧ts'.gen 20=g∧ts'.obj 20=.arr 7 (Ja ys)∧ts'.tmp 10=.int .i64 i) xs.length ?_ ?_
 ·refine⟨0,ts.gen 20+1,[],rfl,Nat.zero_le _,Nat.le_refl _,rfl,?_⟩
  simp only[go_sem,↓reduceIte,reduceIte,Qa,Qh,Qb,Qc,Qd,Qe,Qf,Qg,reduceCtorEq, *,-hp,Yh]
 ·rintro m A hM ts' hk ⟨i,g,ys,hm,f1,f2,f3,s1,s2,s3,s4⟩
  simp only[go_sem,↓reduceIte,reduceIte,Qa,Qh,Qb,Qc,Qd,Qe,Qf,Qg,reduceCtorEq, *] at hk
  by_cases hlt:i<xs.length
  ·rw[List.drop_eq_getElem_cons hlt,List.filter_cons] at f3
   have hpi:=hp _ (QC hlt)
   have hr:Vl (ys.length+1) 104:=ZV (by unfold Jc at hl;omega) (by decide)
   (repeat' (first
 | (with_reducible first|refine callX.by (hpi) ?_|assumption|(refine Qw hK _ ?_;clear hK K)|refine Qw ‹_› _ ?_|refine Qx ‹_› ?_|refine Qi fun K hK=>?_|refine Qj T fun K hK=>?_|refine Ql fun A B hA hB=>?_|refine Qm ?_|refine Qn ?_|refine Qp ?_|refine Qr ?_)
 | ((with_reducible first|apply Qy|apply Qz|apply QA)<;>intro hb<;>try simp only[nr] at hb)
 |simp only[go_sem,↓reduceIte,reduceIte,Qa,Qh,Qb,Qc,Qd,Qe,Qf,Qg,reduceCtorEq, *,-hp,-hpi,-f3]
 |with_reducible refine fun(bn:Bool) hbn=>?_))
   all_goals ((repeat clear hK);(repeat clear hA);(repeat clear hB))
   ·rw[if_pos hb] at f3
    (refine hM.on (xs.length-(i+1)) (by omega) (by simp only[go_sem,↓reduceIte,reduceIte,Qa,Qh,Qb,Qc,Qd,Qe,Qf,Qg,reduceCtorEq, *,Jf hlt hl,List.length_append,-f3,-hp,-hpi]) ⟨i+1,g+1,ys++[xs[i]],rfl,by omega,by simp;omega,by rw[f3,List.append_assoc];rfl,?_⟩;simp only[go_sem,↓reduceIte,reduceIte,Qa,Qh,Qb,Qc,Qd,Qe,Qf,Qg,reduceCtorEq, *,Jf hlt hl,List.length_append,-f3,-hp,-hpi];done)
   ·rw[if_neg (by simp[hb])] at f3
    (refine hM.on (xs.length-(i+1)) (by omega) (by simp only[go_sem,↓reduceIte,reduceIte,Qa,Qh,Qb,Qc,Qd,Qe,Qf,Qg,reduceCtorEq, *,Jf hlt hl,-f3,-hp,-hpi]) ⟨i+1,g,ys,rfl,by omega,by omega,f3,?_⟩;simp only[go_sem,↓reduceIte,reduceIte,Qa,Qh,Qb,Qc,Qd,Qe,Qf,Qg,reduceCtorEq, *,Jf hlt hl,-f3,-hp,-hpi];done)
  ·rw[List.drop_eq_nil_of_le (by omega),List.filter_nil,List.append_nil] at f3
   (repeat' (first
 | (with_reducible first|assumption|(refine Qw hK _ ?_;clear hK K)|refine Qw ‹_› _ ?_|refine Qx ‹_› ?_|refine Qi fun K hK=>?_|refine Qj T fun K hK=>?_|refine Ql fun A B hA hB=>?_|refine Qm ?_|refine Qn ?_|refine Qp ?_|refine Qr ?_)
 | ((with_reducible first|apply Qy|apply Qz|apply QA)<;>intro hb<;>try simp only[nr] at hb)
 |simp only[go_sem,↓reduceIte,reduceIte,Qa,Qh,Qb,Qc,Qd,Qe,Qf,Qg,reduceCtorEq, *,-hp]
 |with_reducible refine fun(bn:Bool) hbn=>?_))
theorem JoF(r_kind:Int)(r_name:List UInt8)(r_ver:Int)(r_port:Int)(r_to:List UInt8)(r_rules:List Rule)(r_hosts:List Int)(k:Int):CallR Tryz.prog 138 [.agg [.int .i64 r_kind,.str r_name,.int .i64 r_ver,.int .i64 r_port,.str r_to,.slice false (Ja r_rules),.slice false (Ja r_hosts)],.ro [.int .i64 k]] (.val (.bool (decide (r_kind=k)))):=by
 refine CallR.go2 (T:=T) Tryz.call138 Tryz.func138 rfl Tryz.ntmps138 (congrArg Array.toList Tryz.results138) (by decide) fun ts hn h0 h1=>?_
 (repeat' (first
 | (with_reducible first|assumption|(refine Qw hK _ ?_;clear hK K)|refine Qw ‹_› _ ?_|refine Qx ‹_› ?_|refine Qi fun K hK=>?_|refine Qj T fun K hK=>?_|refine Ql fun A B hA hB=>?_|refine Qn ?_|refine Qr ?_)
 | ((with_reducible first|apply Qy|apply Qz|apply QA)<;>intro hb<;>try simp only[nr] at hb)
 |simp only[go_sem,↓reduceIte,reduceIte,Qa,Qh,Qb,Qc,Qd,Qe,Qf,Qg,reduceCtorEq, *]
 |with_reducible refine fun(bn:Bool) hbn=>?_))
theorem Jk4(a:Int):Caps [.ro [.int .i64 a]]:=⟨by simp only[go_sem,Bool.and_self],by simp only[go_sem]⟩
def V0(l:List Res)(k:Int):List Res:=l.filter fun r=>decide (r.kind=k)
theorem Jao(xs:List Res)(k:Int)(hl:Jc xs.length):CallR Tryz.prog 94 [.slice false (Ja xs),.int .i64 k] (.own 7 (Ja (V0 xs k))):=by
 have hf:=JeQ 138 [.ro [.int .i64 k]] (Jk4 k) (fun r=>decide (r.kind=k)) xs (fun x _=>JoF x.kind x.name x.ver x.port x.to' x.rules' x.hosts k) hl
 refine CallR.go2 (T:=T) Tryz.call94 Tryz.func94 rfl Tryz.ntmps94 (congrArg Array.toList Tryz.results94) (by decide) fun ts hn h0 h1=>?_
 (repeat' (first
 | (with_reducible first|refine callX.by (hf) ?_|refine callX.by (JeQ _ _ ?_ _ _ ?_ ?_) ?_|assumption|(refine Qw hK _ ?_;clear hK K)|refine Qw ‹_› _ ?_|refine Qx ‹_› ?_|refine Qi fun K hK=>?_|refine Qj T fun K hK=>?_|refine Ql fun A B hA hB=>?_|refine Qn ?_|refine Qr ?_)
 | ((with_reducible first|apply Qy|apply Qz|apply QA)<;>intro hb<;>try simp only[nr] at hb)
 |simp only[go_sem,↓reduceIte,reduceIte,Qa,Qh,Qb,Qc,Qd,Qe,Qf,Qg,reduceCtorEq, *,-hf]
 |with_reducible refine fun(bn:Bool) hbn=>?_))
 all_goals rfl
def YX(l:List Res)(k:Key):List Res:=l.filter fun r=>!decide (Jg r=k)
theorem Jcw(xs:List Res)(k_kind:Int)(k_name:List UInt8)(hl:Jc xs.length):CallR Tryz.prog 188 [.slice false (Ja xs),.agg [.int .i64 k_kind,.str k_name]] (.own 7 (Ja (YX xs (⟨k_kind,k_name⟩:Key)))):=by
 have hi:=JdM 206 [.ro [.int .i64 k_kind,.str k_name]] (Jk5 k_kind k_name) (fun r=>decide (Jg r=(⟨k_kind,k_name⟩:Key))) xs (fun x _=>JoC x.kind x.name x.ver x.port x.to' x.rules' x.hosts k_kind k_name) hl
 refine CallR.go2 (T:=T) Tryz.call188 Tryz.func188 rfl Tryz.ntmps188 (congrArg Array.toList Tryz.results188) (by decide) fun ts hn h0 h1=>?_
 (repeat' (first
 | (with_reducible refine callX.mv ?_ ?_ ?_ (hi);(focus(simp only[go_sem,↓reduceIte,reduceIte,Qa,Qh,Qb,Qc,Qd,Qe,Qf,Qg,reduceCtorEq, *,-hi];first|done|rfl));(focus(simp only[go_sem,↓reduceIte,reduceIte,Qa,Qh,Qb,Qc,Qd,Qe,Qf,Qg,reduceCtorEq, *,-hi];first|done|rfl)))
 | (with_reducible first|refine callX.by (Jhg _ _ ?_) ?_|refine callX.by (JoD _ _) ?_)
 | (with_reducible refine callX.mv ?_ ?_ ?_ (JdM ?_ ?_ ?_ ?_ ?_ ?_ ?_);(focus(simp only[go_sem,↓reduceIte,reduceIte,Qa,Qh,Qb,Qc,Qd,Qe,Qf,Qg,reduceCtorEq, *,-hi];first|done|rfl));(focus(simp only[go_sem,↓reduceIte,reduceIte,Qa,Qh,Qb,Qc,Qd,Qe,Qf,Qg,reduceCtorEq, *,-hi];first|done|rfl)))
 | (with_reducible first|assumption|(refine Qw hK _ ?_;clear hK K)|refine Qw ‹_› _ ?_|refine Qx ‹_› ?_|refine Qi fun K hK=>?_|refine Qj T fun K hK=>?_|refine Qk (id:=1) T mixed [([5],[7]),([6],[7]),([7],[5,6])] (by kernel_rfl) fun K hK=>?_|refine Ql fun A B hA hB=>?_|refine Qn ?_|refine Qr ?_)
 | ((with_reducible first|apply Qy|apply Qz|apply QA)<;>intro hb<;>try simp only[nr] at hb)
 |simp only[go_sem,↓reduceIte,reduceIte,Qa,Qh,Qb,Qc,Qd,Qe,Qf,Qg,reduceCtorEq, *,-hi]
 |with_reducible refine fun(bn:Bool) hbn=>?_))
 all_goals rfl
def Vj(l:List Res)(M:List (Key×Bool)):List (Key×Bool):=l.foldl (fun M r=>JV M (Jg r) true) M
theorem YS(xs:List Res)(hl:Jc xs.length):CallR Tryz.prog 64 [.slice false (Ja xs)] (.val (.mp (Js (Vj xs [])) (Jy (Vj xs [])))):=by
 refine CallR.go1 (T:=T) Tryz.call64 Tryz.func64 rfl Tryz.ntmps64 (congrArg Array.toList Tryz.results64) (by decide) fun ts hn h0=>?_
 (repeat' (first
 | (with_reducible first|refine callX.by (J6 _ _ _ _ _ _ _) ?_|assumption|(refine Qw hK _ ?_;clear hK K)|refine Qw ‹_› _ ?_|refine Qx ‹_› ?_|refine Qi fun K hK=>?_|refine Qj T fun K hK=>?_|refine Ql fun A B hA hB=>?_|refine Qm ?_|refine Qn ?_|refine Qp ?_|refine Qr ?_)
 | ((with_reducible first|apply Qy|apply Qz|apply QA)<;>intro hb<;>try simp only[nr] at hb)
 |simp only[go_sem,↓reduceIte,reduceIte,Qa,Qh,Qb,Qc,Qd,Qe,Qf,Qg,reduceCtorEq, *]
 |with_reducible refine fun(bn:Bool) hbn=>?_))
 refine Qs [7,8] (fun m ts'=>∃(i:Nat),∃(M:List (Key×Bool)),m=xs.length-i∧i≤xs.length∧Vj xs []=Vj (xs.drop i) M∧ts'.tmp 3=.mref 6 (ts.gen 6+1)∧ts'.gen 6=ts.gen 6+1∧ts'.obj 6=.mp (Js M) (Jy M)∧ts'.tmp 9=.int .i64 i) xs.length ?_ ?_
 ·refine⟨0,[],rfl,Nat.zero_le _,rfl,?_⟩
  simp only[go_sem,↓reduceIte,reduceIte,Qa,Qh,Qb,Qc,Qd,Qe,Qf,Qg,reduceCtorEq, *]
 ·rintro m A hM ts' hk ⟨i,M,hm,f1,f2,s1,s2,s3,s4⟩
  simp only[go_sem,↓reduceIte,reduceIte,Qa,Qh,Qb,Qc,Qd,Qe,Qf,Qg,reduceCtorEq, *] at hk
  by_cases hlt:i<xs.length
  ·rw[List.drop_eq_getElem_cons hlt] at f2
   (repeat' (first
 | (with_reducible first|refine callX.by (J6 _ _ _ _ _ _ _) ?_|assumption|(refine Qw hK _ ?_;clear hK K)|refine Qw ‹_› _ ?_|refine Qx ‹_› ?_|refine Qi fun K hK=>?_|refine Qj T fun K hK=>?_|refine Ql fun A B hA hB=>?_|refine Qm ?_|refine Qn ?_|refine Qp ?_|refine Qr ?_)
 | ((with_reducible first|apply Qy|apply Qz|apply QA)<;>intro hb<;>try simp only[nr] at hb)
 |simp only[go_sem,↓reduceIte,reduceIte,Qa,Qh,Qb,Qc,Qd,Qe,Qf,Qg,reduceCtorEq, *,-f2]
 |with_reducible refine fun(bn:Bool) hbn=>?_))
   all_goals ((repeat clear hK);(repeat clear hA);(repeat clear hB))
   (refine hM.on (xs.length-(i+1)) (by omega) (by simp only[go_sem,↓reduceIte,reduceIte,Qa,Qh,Qb,Qc,Qd,Qe,Qf,Qg,reduceCtorEq, *,Jf hlt hl,Jg,-f2]) ⟨i+1,JV M (Jg xs[i]) true,rfl,by omega,by rw[f2];rfl,?_⟩;simp only[go_sem,↓reduceIte,reduceIte,Qa,Qh,Qb,Qc,Qd,Qe,Qf,Qg,reduceCtorEq, *,Jf hlt hl,Jg,-f2];done)
  ·rw[List.drop_eq_nil_of_le (by omega)] at f2
   have e:Vj xs []=M:=f2
   rw[e]
   (repeat' (first
 | (with_reducible first|refine callX.by (J6 _ _ _ _ _ _ _) ?_|assumption|(refine Qw hK _ ?_;clear hK K)|refine Qw ‹_› _ ?_|refine Qx ‹_› ?_|refine Qi fun K hK=>?_|refine Qj T fun K hK=>?_|refine Ql fun A B hA hB=>?_|refine Qm ?_|refine Qn ?_|refine Qp ?_|refine Qr ?_)
 | ((with_reducible first|apply Qy|apply Qz|apply QA)<;>intro hb<;>try simp only[nr] at hb)
 |simp only[go_sem,↓reduceIte,reduceIte,Qa,Qh,Qb,Qc,Qd,Qe,Qf,Qg,reduceCtorEq, *,-f2]
 |with_reducible refine fun(bn:Bool) hbn=>?_))
   all_goals ((repeat clear hK);(repeat clear hA);(repeat clear hB))
   all_goals rfl
end Go.Proofs.YtihahfhagobnoaaGreatDoor.Lg
