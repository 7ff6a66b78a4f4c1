/- Parts of the proof, one behind the other. -/
import Derived.Test.YthjalhfmpffbjaaGreatDoorG11
set_option linter.unusedVariables false
set_option linter.unusedSimpArgs false
set_option maxRecDepth 100000
set_option maxHeartbeats 64000000
namespace Go.Proofs.YthjalhfmpffbjaaGreatDoor.Lg
open Go
open Tryz
open Nat renaming reduceEqDiff → Qa, reduceLT → Qb, reduceLeDiff → Qc, reduceAdd → Qd, reduceMul → Qe, reduceSub → Qf, reduceBEq → Qg
open String renaming reduceEq → Qh
open SpecC renaming seqW → Qi, regW → Qj, drawW → Qk, condW → Ql, block → Qm, skip → Qn, exit → Qp, ret → Qr, loopF → Qs
open NxK renaming out → Qw
open Nx renaming out → Qx
open condK renaming split → Qy
open gK renaming split_t → Qz, split_f → QA
open List renaming getElem_mem → QC
theorem JhN(c:Bool)(xs:List Res)(hl:Jc xs.length):CallR prog 147 [.slice c (Ja xs)] (.own 7 (Ja xs)):=by
 have hr:Vt xs.length 104:=JaO (by unfold Jc at hl;omega) (by decide)
 refine Jl call147 func147 rfl ntmps147 results147 fun ts hn h0=>?_
 (repeat' (first
 | (with_reducible first|assumption|(refine Qw hK _ ?_;clear hK K)|refine Qw ‹_› _ ?_|refine Qx ‹_› ?_|refine Qi fun K hK=>?_|refine Qj T fun K hK=>?_|refine Ql fun A B hA hB=>?_|refine Qn ?_|refine Qr ?_)
 |(with_reducible first|apply Qy|apply Qz|apply QA)<;>intro hb<;>try simp only[nr] at hb
 |simp only[go_sem,↓reduceIte,Qa,Qh,Qb,Qc,Qd,Qe,Qf,Qg,reduceCtorEq, *]
 |intro(bn:Bool) hbn))
theorem Jbg(fn:FuncId)(caps:List AV)(hc:Caps caps)(p:Res→Bool)(xs:List Res)(hp:∀x∈xs,CallR prog fn (.agg [.int .i64 x.kind,.str x.name,.int .i64 x.ver,.int .i64 x.port,.str x.to',.slice false (Ja x.rules'),.slice false (Ja x.hosts)] :: caps) (.val (.bool (p x))))(hl:Jc xs.length):CallR prog 88 [.slice false (Ja xs),.clo (.func fn) [] caps] (.val (.int .i64 (JC p xs 0))):=by
 have hca:=hc.args
 have hcp:=hc.pure
 have hcn:=hc.nrm
 refine Jn call88 func88 rfl ntmps88 results88 fun ts hn h0 h1=>?_
 (repeat' (first
 | (with_reducible first|assumption|(refine Qw hK _ ?_;clear hK K)|refine Qw ‹_› _ ?_|refine Qx ‹_› ?_|refine Qi fun K hK=>?_|refine Qj T fun K hK=>?_|refine Ql fun A B hA hB=>?_|refine Qm ?_|refine Qn ?_|refine Qp ?_|refine Qr ?_)
 |(with_reducible first|apply Qy|apply Qz|apply QA)<;>intro hb<;>try simp only[nr] at hb
 |simp only[go_sem,↓reduceIte,Qa,Qh,Qb,Qc,Qd,Qe,Qf,Qg,reduceCtorEq, *,-hp]
 |intro(bn:Bool) hbn))
 refine Qs [0,1,7] (fun m ts'=>∃(i:Nat),m=xs.length-i∧i≤xs.length∧JC p xs 0=JC p (xs.drop i) i∧ts'.tmp 8=.int .i64 i) xs.length ?_ ?_
 ·refine⟨0,?_⟩
  simp only[go_sem,↓reduceIte,Qa,Qh,Qb,Qc,Qd,Qe,Qf,Qg,reduceCtorEq, *,-hp]
 ·rintro m A hM ts' hk ⟨i,hm,f1,f2,s1⟩
  simp only[go_sem,↓reduceIte,Qa,Qh,Qb,Qc,Qd,Qe,Qf,Qg,reduceCtorEq, *] at hk
  by_cases hlt:i<xs.length
  ·rw[List.drop_eq_getElem_cons hlt,JC] at f2
   have hpi:=hp _ (QC hlt)
   (repeat' (first
 | (with_reducible first|refine callX.by (hpi) ?_|assumption|(refine Qw hK _ ?_;clear hK K)|refine Qw ‹_› _ ?_|refine Qx ‹_› ?_|refine Qi fun K hK=>?_|refine Qj T fun K hK=>?_|refine Ql fun A B hA hB=>?_|refine Qm ?_|refine Qn ?_|refine Qp ?_|refine Qr ?_)
 |(with_reducible first|apply Qy|apply Qz|apply QA)<;>intro hb<;>try simp only[nr] at hb
 |simp only[go_sem,↓reduceIte,Qa,Qh,Qb,Qc,Qd,Qe,Qf,Qg,reduceCtorEq, *,-hp,-hpi]
 |intro(bn:Bool) hbn))
   all_goals ((repeat clear hK);(repeat clear hA);(repeat clear hB))
   rw[if_neg (by simp[hb])] at f2
   (refine hM.on (xs.length-(i+1)) (by omega) (by simp only[go_sem,↓reduceIte,Qa,Qh,Qb,Qc,Qd,Qe,Qf,Qg,reduceCtorEq, *,Jg hlt hl,-f2,-hp,-hpi]) ⟨i+1,rfl,by omega,f2,?_⟩;simp only[go_sem,↓reduceIte,Qa,Qh,Qb,Qc,Qd,Qe,Qf,Qg,reduceCtorEq, *,Jg hlt hl,-f2,-hp,-hpi];done)
  ·rw[List.drop_eq_nil_of_le (by omega),JC] at f2
   (repeat' (first
 | (with_reducible first|assumption|(refine Qw hK _ ?_;clear hK K)|refine Qw ‹_› _ ?_|refine Qx ‹_› ?_|refine Qi fun K hK=>?_|refine Qj T fun K hK=>?_|refine Ql fun A B hA hB=>?_|refine Qm ?_|refine Qn ?_|refine Qp ?_|refine Qr ?_)
 |(with_reducible first|apply Qy|apply Qz|apply QA)<;>intro hb<;>try simp only[nr] at hb
 |simp only[go_sem,↓reduceIte,Qa,Qh,Qb,Qc,Qd,Qe,Qf,Qg,reduceCtorEq, *,-hp]
 |intro(bn:Bool) hbn))
theorem JcH(fn:FuncId)(caps:List AV)(hc:Caps caps)(p:Res→Bool)(xs:List Res)(hp:∀x∈xs,CallR prog fn (.agg [.int .i64 x.kind,.str x.name,.int .i64 x.ver,.int .i64 x.port,.str x.to',.slice false (Ja x.rules'),.slice false (Ja x.hosts)] :: caps) (.val (.bool (p x))))(hl:Jc xs.length):CallR prog 158 [.slice false (Ja xs),.clo (.func fn) [] caps] (.val (.bool (xs.any p))):=by
 have hca:=hc.args
 have hcp:=hc.pure
 have hcn:=hc.nrm
 have hi:=Jbg fn caps hc p xs hp hl
 have ha:=Jbh p xs
 refine Jn call158 func158 rfl ntmps158 results158 fun ts hn h0 h1=>?_
 (repeat' (first
 | (with_reducible first|refine callX.by (hi) ?_|assumption|(refine Qw hK _ ?_;clear hK K)|refine Qw ‹_› _ ?_|refine Qx ‹_› ?_|refine Qi fun K hK=>?_|refine Qj T fun K hK=>?_|refine Ql fun A B hA hB=>?_|refine Qn ?_|refine Qr ?_)
 |(with_reducible first|apply Qy|apply Qz|apply QA)<;>intro hb<;>try simp only[nr] at hb
 |simp only[go_sem,↓reduceIte,Qa,Qh,Qb,Qc,Qd,Qe,Qf,Qg,reduceCtorEq, *,-hp,-hi]
 |intro(bn:Bool) hbn))
theorem Jd1(fn:FuncId)(caps:List AV)(hc:Caps caps)(p:Res→Bool)(xs:List Res)(hp:∀x∈xs,CallR prog fn (.agg [.int .i64 x.kind,.str x.name,.int .i64 x.ver,.int .i64 x.port,.str x.to',.slice false (Ja x.rules'),.slice false (Ja x.hosts)] :: caps) (.val (.bool (p x))))(hl:Jc xs.length):CallM prog 146 7 (Ja xs) [.clo (.func fn) [] caps] (.own 7 (Ja (xs.filter fun x=>!p x))):=by
 have hca:=hc.args
 have hcp:=hc.pure
 have hcn:=hc.nrm
 refine CallM.go1 (T:=T) call146 func146 rfl ntmps146 (congrArg Array.toList results146) (by decide) fun ts hn h0 hg0 ho0 h1=>?_
 have hi:=Jbg fn caps hc p xs hp hl
 by_cases hneg:JC p xs 0=-1
 ·have hf:xs.filter (fun x=>!p x)=xs:=List.filter_eq_self.2 fun x hx=>by simp[JcS p xs 0 (Int.le_refl 0) hneg x hx]
  (repeat' (first
 | (with_reducible first|refine callX.by (hi) ?_|assumption|(refine Qw hK _ ?_;clear hK K)|refine Qw ‹_› _ ?_|refine Qx ‹_› ?_|refine Qi fun K hK=>?_|refine Qj T fun K hK=>?_|refine Ql fun A B hA hB=>?_|refine Qm ?_|refine Qn ?_|refine Qp ?_|refine Qr ?_)
 |(with_reducible first|apply Qy|apply Qz|apply QA)<;>intro hb<;>try simp only[nr] at hb
 |simp only[go_sem,↓reduceIte,Qa,Qh,Qb,Qc,Qd,Qe,Qf,Qg,reduceCtorEq, *,-hp,-hi]
 |intro(bn:Bool) hbn))
 ·obtain⟨k,hk1,hk2,hk3,hk4⟩:=JcT p xs 0 (Int.le_refl 0) hneg
  rw[Int.zero_add] at hk1
  (repeat' (first
 | (with_reducible first|refine callX.by (hi) ?_|assumption|(refine Qw hK _ ?_;clear hK K)|refine Qw ‹_› _ ?_|refine Qx ‹_› ?_|refine Qi fun K hK=>?_|refine Qj T fun K hK=>?_|refine Ql fun A B hA hB=>?_|refine Qm ?_|refine Qn ?_|refine Qp ?_|refine Qr ?_)
 |(with_reducible first|apply Qy|apply Qz|apply QA)<;>intro hb<;>try simp only[nr] at hb
 |simp only[go_sem,↓reduceIte,Qa,Qh,Qb,Qc,Qd,Qe,Qf,Qg,reduceCtorEq, *,-hp,-hi,-hk3,-hk4]
 |intro(bn:Bool) hbn))
  refine Qs [1] (fun m ts'=>∃(i:Nat),∃(j:Nat),∃(ys:List Res),m=xs.length-j∧i<j∧j≤xs.length∧ys.length=xs.length∧ys.take i=(xs.take j).filter (fun x=>!p x)∧ys.drop j=xs.drop j∧ts'.tmp 0=.os 0 0 xs.length∧ts'.gen 0=0∧ts'.obj 0=.arr 7 (Ja ys)∧ts'.tmp 5=.int .i64 i∧ts'.tmp 6=.int .i64 j) (xs.length-(k+1)) ?_ ?_
  ·refine⟨k,k+1,xs,rfl,by omega,by omega,rfl,?_,rfl,?_⟩
   ·rw[JbZ _ hk2,List.filter_eq_self.2 (fun x hx=>by simp[hk3 x hx]),hk4 hk2];simp
   ·simp only[go_sem,↓reduceIte,Qa,Qh,Qb,Qc,Qd,Qe,Qf,Qg,reduceCtorEq, *,Jg hk2 hl,-hp,-hi,-hk3,-hk4]
  ·rintro m A hM ts' hk ⟨i,j,ys,hm,f1,f2,f3,f4,f5,s1,s2,s3,s4,s5⟩
   simp only[go_sem,↓reduceIte,Qa,Qh,Qb,Qc,Qd,Qe,Qf,Qg,reduceCtorEq, *] at hk
   by_cases hlt:j<xs.length
   ·have hly:j<ys.length:=by omega
    have hj:ys[j]=xs[j]:=by
     have:=congrArg (fun l=>l[0]?) f5
     simpa[hly,hlt] using this
    have hix:i<xs.length:=by omega
    have hpj:=hp _ (QC hlt)
    clear hi hk3 hk4 hp
    (repeat' (first
 | (with_reducible first|refine callX.by (hpj) ?_|assumption|(refine Qw hK _ ?_;clear hK K)|refine Qw ‹_› _ ?_|refine Qx ‹_› ?_|refine Qi fun K hK=>?_|refine Qj T fun K hK=>?_|refine Ql fun A B hA hB=>?_|refine Qm ?_|refine Qn ?_|refine Qp ?_|refine Qr ?_)
 |(with_reducible first|apply Qy|apply Qz|apply QA)<;>intro hb<;>try simp only[nr] at hb
 |simp only[go_sem,↓reduceIte,Qa,Qh,Qb,Qc,Qd,Qe,Qf,Qg,reduceCtorEq, *,-hpj,-f4,-f5]
 |intro(bn:Bool) hbn))
    all_goals ((repeat clear hK);(repeat clear hA);(repeat clear hB))
    ·(refine hM.on (xs.length-(j+1)) (by omega) (by simp only[go_sem,↓reduceIte,Qa,Qh,Qb,Qc,Qd,Qe,Qf,Qg,reduceCtorEq, *,Jg hlt hl,Jg hix hl,-hpj,-f4,-f5]) ⟨i+1,j+1,ys.set i xs[j],rfl,by omega,by omega,by simp[f3],by rw[JbZ _ hlt,←f4,hb,JgS _ (by omega)];simp,by rw[List.drop_set,if_pos (by omega)];simpa using congrArg (List.drop 1) f5,?_⟩;simp only[go_sem,↓reduceIte,Qa,Qh,Qb,Qc,Qd,Qe,Qf,Qg,reduceCtorEq, *,Jg hlt hl,Jg hix hl,-hpj,-f4,-f5];done)
    ·(refine hM.on (xs.length-(j+1)) (by omega) (by simp only[go_sem,↓reduceIte,Qa,Qh,Qb,Qc,Qd,Qe,Qf,Qg,reduceCtorEq, *,Jg hlt hl,-hpj,-f4,-f5]) ⟨i,j+1,ys,rfl,by omega,by omega,f3,by rw[JbZ _ hlt,←f4,hb];simp,by simpa using congrArg (List.drop 1) f5,?_⟩;simp only[go_sem,↓reduceIte,Qa,Qh,Qb,Qc,Qd,Qe,Qf,Qg,reduceCtorEq, *,Jg hlt hl,-hpj,-f4,-f5];done)
   ·have hi1:i≤xs.length:=by omega
    have hi2:i+(xs.length-i)=xs.length:=by omega
    have hj2:j=xs.length:=by omega
    subst hj2
    rw[List.take_length] at f4
    clear hi hk3 hk4 hp
    (repeat' (first
 | (with_reducible first|refine callX.by (Jbg _ _ ?_ _ _ ?_ ?_) ?_|assumption|(refine Qw hK _ ?_;clear hK K)|refine Qw ‹_› _ ?_|refine Qx ‹_› ?_|refine Qi fun K hK=>?_|refine Qj T fun K hK=>?_|refine Ql fun A B hA hB=>?_|refine Qm ?_|refine Qn ?_|refine Qp ?_|refine Qr ?_)
 |(with_reducible first|apply Qy|apply Qz|apply QA)<;>intro hb<;>try simp only[nr] at hb
 |simp only[go_sem,↓reduceIte,Qa,Qh,Qb,Qc,Qd,Qe,Qf,Qg,reduceCtorEq, *]
 |intro(bn:Bool) hbn))
    all_goals ((repeat clear hK);(repeat clear hA);(repeat clear hB))
theorem Jog(fn:FuncId)(caps:List AV)(hc:Caps caps)(p:Key→Bool)(xs:List Key)(hp:∀x∈xs,CallR prog fn (.agg [.int .i64 x.kind,.str x.name] :: caps) (.val (.bool (p x))))(hl:Jc xs.length):CallR prog 190 [.slice false (Ja xs),.clo (.func fn) [] caps] (.val (.int .i64 (JC p xs 0))):=by
 have hca:=hc.args
 have hcp:=hc.pure
 have hcn:=hc.nrm
 refine Jn call190 func190 rfl ntmps190 results190 fun ts hn h0 h1=>?_
 (repeat' (first
 | (with_reducible first|assumption|(refine Qw hK _ ?_;clear hK K)|refine Qw ‹_› _ ?_|refine Qx ‹_› ?_|refine Qi fun K hK=>?_|refine Qj T fun K hK=>?_|refine Ql fun A B hA hB=>?_|refine Qm ?_|refine Qn ?_|refine Qp ?_|refine Qr ?_)
 |(with_reducible first|apply Qy|apply Qz|apply QA)<;>intro hb<;>try simp only[nr] at hb
 |simp only[go_sem,↓reduceIte,Qa,Qh,Qb,Qc,Qd,Qe,Qf,Qg,reduceCtorEq, *,-hp]
 |intro(bn:Bool) hbn))
 refine Qs [0,1,7] (fun m ts'=>∃(i:Nat),m=xs.length-i∧i≤xs.length∧JC p xs 0=JC p (xs.drop i) i∧ts'.tmp 8=.int .i64 i) xs.length ?_ ?_
 ·refine⟨0,?_⟩
  simp only[go_sem,↓reduceIte,Qa,Qh,Qb,Qc,Qd,Qe,Qf,Qg,reduceCtorEq, *,-hp]
 ·rintro m A hM ts' hk ⟨i,hm,f1,f2,s1⟩
  simp only[go_sem,↓reduceIte,Qa,Qh,Qb,Qc,Qd,Qe,Qf,Qg,reduceCtorEq, *] at hk
  by_cases hlt:i<xs.length
  ·rw[List.drop_eq_getElem_cons hlt,JC] at f2
   have hpi:=hp _ (QC hlt)
   (repeat' (first
 | (with_reducible first|refine callX.by (hpi) ?_|assumption|(refine Qw hK _ ?_;clear hK K)|refine Qw ‹_› _ ?_|refine Qx ‹_› ?_|refine Qi fun K hK=>?_|refine Qj T fun K hK=>?_|refine Ql fun A B hA hB=>?_|refine Qm ?_|refine Qn ?_|refine Qp ?_|refine Qr ?_)
 |(with_reducible first|apply Qy|apply Qz|apply QA)<;>intro hb<;>try simp only[nr] at hb
 |simp only[go_sem,↓reduceIte,Qa,Qh,Qb,Qc,Qd,Qe,Qf,Qg,reduceCtorEq, *,-hp,-hpi]
 |intro(bn:Bool) hbn))
   all_goals ((repeat clear hK);(repeat clear hA);(repeat clear hB))
   rw[if_neg (by simp[hb])] at f2
   (refine hM.on (xs.length-(i+1)) (by omega) (by simp only[go_sem,↓reduceIte,Qa,Qh,Qb,Qc,Qd,Qe,Qf,Qg,reduceCtorEq, *,Jg hlt hl,-f2,-hp,-hpi]) ⟨i+1,rfl,by omega,f2,?_⟩;simp only[go_sem,↓reduceIte,Qa,Qh,Qb,Qc,Qd,Qe,Qf,Qg,reduceCtorEq, *,Jg hlt hl,-f2,-hp,-hpi];done)
  ·rw[List.drop_eq_nil_of_le (by omega),JC] at f2
   (repeat' (first
 | (with_reducible first|assumption|(refine Qw hK _ ?_;clear hK K)|refine Qw ‹_› _ ?_|refine Qx ‹_› ?_|refine Qi fun K hK=>?_|refine Qj T fun K hK=>?_|refine Ql fun A B hA hB=>?_|refine Qm ?_|refine Qn ?_|refine Qp ?_|refine Qr ?_)
 |(with_reducible first|apply Qy|apply Qz|apply QA)<;>intro hb<;>try simp only[nr] at hb
 |simp only[go_sem,↓reduceIte,Qa,Qh,Qb,Qc,Qd,Qe,Qf,Qg,reduceCtorEq, *,-hp]
 |intro(bn:Bool) hbn))
theorem Jas(fn:FuncId)(caps:List AV)(hc:Caps caps)(p:Key→Bool)(xs:List Key)(hp:∀x∈xs,CallR prog fn (.agg [.int .i64 x.kind,.str x.name] :: caps) (.val (.bool (p x))))(hl:Jc xs.length):CallR prog 154 [.slice false (Ja xs),.clo (.func fn) [] caps] (.val (.bool (xs.any p))):=by
 have hca:=hc.args
 have hcp:=hc.pure
 have hcn:=hc.nrm
 have hi:=Jog fn caps hc p xs hp hl
 have ha:=Jbh p xs
 refine Jn call154 func154 rfl ntmps154 results154 fun ts hn h0 h1=>?_
 (repeat' (first
 | (with_reducible first|refine callX.by (hi) ?_|assumption|(refine Qw hK _ ?_;clear hK K)|refine Qw ‹_› _ ?_|refine Qx ‹_› ?_|refine Qi fun K hK=>?_|refine Qj T fun K hK=>?_|refine Ql fun A B hA hB=>?_|refine Qn ?_|refine Qr ?_)
 |(with_reducible first|apply Qy|apply Qz|apply QA)<;>intro hb<;>try simp only[nr] at hb
 |simp only[go_sem,↓reduceIte,Qa,Qh,Qb,Qc,Qd,Qe,Qf,Qg,reduceCtorEq, *,-hp,-hi]
 |intro(bn:Bool) hbn))
theorem Jkz(Ln:Int)(Lp:List UInt8)(Lx Lq:Int)(LA:List UInt8)(r_rules:List Rule)(r_hosts:List Int)(Lm:Int)(k_name:List UInt8):CallR prog 210 [.agg [.int .i64 Ln,.str Lp,.int .i64 Lx,.int .i64 Lq,.str LA,.slice false (Ja r_rules),.slice false (Ja r_hosts)],.ro [.int .i64 Lm,.str k_name]] (.val (.bool (decide (Jo (⟨Ln,Lp,Lx,Lq,LA,r_rules,r_hosts⟩:Res)=(⟨Lm,k_name⟩:Key))))):=by
 refine Jn call210 func210 rfl ntmps210 results210 fun ts hn h0 h1=>?_
 (repeat' (first
 | (with_reducible first|refine callX.by (Vf _ _ _ _ _ _ _) ?_|assumption|(refine Qw hK _ ?_;clear hK K)|refine Qw ‹_› _ ?_|refine Qx ‹_› ?_|refine Qi fun K hK=>?_|refine Qj T fun K hK=>?_|refine Qk (id:=1) T mixed [([4],[6]),([5],[6]),([6],[4,5])] (by kernel_rfl) fun K hK=>?_|refine Ql fun A B hA hB=>?_|refine Qn ?_|refine Qr ?_)
 |(with_reducible first|apply Qy|apply Qz|apply QA)<;>intro hb<;>try simp only[nr] at hb
 |simp only[go_sem,↓reduceIte,Qa,Qh,Qb,Qc,Qd,Qe,Qf,Qg,reduceCtorEq, *]
 |intro(bn:Bool) hbn))
 all_goals (rw[Bool.eq_iff_iff];simp[Jo])
theorem JgW(Lm:Int)(k_name:List UInt8):CallR prog 166 [.agg [.int .i64 Lm,.str k_name]] (.val (.clo (.func 210) [] [.ro [.int .i64 Lm,.str k_name]])):=by
 refine Jl call166 func166 rfl ntmps166 results166 fun ts hn h0=>?_
 (repeat' (first
 | (with_reducible first|assumption|(refine Qw hK _ ?_;clear hK K)|refine Qw ‹_› _ ?_|refine Qx ‹_› ?_|refine Qi fun K hK=>?_|refine Qj T fun K hK=>?_|refine Ql fun A B hA hB=>?_|refine Qn ?_|refine Qr ?_)
 |(with_reducible first|apply Qy|apply Qz|apply QA)<;>intro hb<;>try simp only[nr] at hb
 |simp only[go_sem,↓reduceIte,Qa,Qh,Qb,Qc,Qd,Qe,Qf,Qg,reduceCtorEq, *]
 |intro(bn:Bool) hbn))
theorem JhA(a:Int)(b:List UInt8):Caps [.ro [.int .i64 a,.str b]]:=⟨by simp only[go_sem,Bool.and_self],by simp only[go_sem]⟩
theorem JgT(fn:FuncId)(caps:List AV)(hc:Caps caps)(p:Res→Bool)(xs:List Res)(hp:∀x∈xs,CallR prog fn (.agg [.int .i64 x.kind,.str x.name,.int .i64 x.ver,.int .i64 x.port,.str x.to',.slice false (Ja x.rules'),.slice false (Ja x.hosts)] :: caps) (.val (.bool (p x))))(hl:Jc xs.length):CallR prog 220 [.slice false (Ja xs),.clo (.func fn) [] caps] (.own 7 (Ja (xs.filter p))):=by
 have hca:=hc.args
 have hcp:=hc.pure
 have hcn:=hc.nrm
 refine Jn call220 func220 rfl ntmps220 results220 fun ts hn h0 h1=>?_
 (repeat' (first
 | (with_reducible first|assumption|(refine Qw hK _ ?_;clear hK K)|refine Qw ‹_› _ ?_|refine Qx ‹_› ?_|refine Qi fun K hK=>?_|refine Qj T fun K hK=>?_|refine Ql fun A B hA hB=>?_|refine Qm ?_|refine Qn ?_|refine Qp ?_|refine Qr ?_)
 |(with_reducible first|apply Qy|apply Qz|apply QA)<;>intro hb<;>try simp only[nr] at hb
 |simp only[go_sem,↓reduceIte,Qa,Qh,Qb,Qc,Qd,Qe,Qf,Qg,reduceCtorEq, *,-hp]
 |intro(bn:Bool) hbn))
 refine SpecC.virt 5 20 7 (by decide) (by simp only[go_sem,↓reduceIte,Qa,Qh,Qb,Qc,Qd,Qe,Qf,Qg,reduceCtorEq, *,-hp]) ?_
 refine Qs [1,8,9] (fun m ts'=>∃(i:Nat),∃(g:Nat),∃(ys:List Res),m=xs.length-i∧i≤xs.length∧ys.length≤i∧xs.filter p=ys++(xs.drop i).filter p∧ts'.tmp 5=.os 20 g ys.length∧ts'.gen 20=g∧ts'.obj 20=.arr 7 (Ja ys)∧ts'.tmp 10=.int .i64 i) xs.length ?_ ?_
 ·refine⟨0,ts.gen 20+1,[],rfl,Nat.zero_le _,Nat.le_refl _,rfl,?_⟩
  simp only[go_sem,↓reduceIte,Qa,Qh,Qb,Qc,Qd,Qe,Qf,Qg,reduceCtorEq, *,-hp,Vp]
 ·rintro m A hM ts' hk ⟨i,g,ys,hm,f1,f2,f3,s1,s2,s3,s4⟩
  simp only[go_sem,↓reduceIte,Qa,Qh,Qb,Qc,Qd,Qe,Qf,Qg,reduceCtorEq, *] at hk
  by_cases hlt:i<xs.length
  ·rw[List.drop_eq_getElem_cons hlt,List.filter_cons] at f3
   have hpi:=hp _ (QC hlt)
   have hr:Vt (ys.length+1) 104:=JaO (by unfold Jc at hl;omega) (by decide)
   (repeat' (first
 | (with_reducible first|refine callX.by (hpi) ?_|assumption|(refine Qw hK _ ?_;clear hK K)|refine Qw ‹_› _ ?_|refine Qx ‹_› ?_|refine Qi fun K hK=>?_|refine Qj T fun K hK=>?_|refine Ql fun A B hA hB=>?_|refine Qm ?_|refine Qn ?_|refine Qp ?_|refine Qr ?_)
 |(with_reducible first|apply Qy|apply Qz|apply QA)<;>intro hb<;>try simp only[nr] at hb
 |simp only[go_sem,↓reduceIte,Qa,Qh,Qb,Qc,Qd,Qe,Qf,Qg,reduceCtorEq, *,-hp,-hpi,-f3]
 |intro(bn:Bool) hbn))
   all_goals ((repeat clear hK);(repeat clear hA);(repeat clear hB))
   ·rw[if_pos hb] at f3
    (refine hM.on (xs.length-(i+1)) (by omega) (by simp only[go_sem,↓reduceIte,Qa,Qh,Qb,Qc,Qd,Qe,Qf,Qg,reduceCtorEq, *,Jg hlt hl,List.length_append,-f3,-hp,-hpi]) ⟨i+1,g+1,ys++[xs[i]],rfl,by omega,by simp;omega,by rw[f3,List.append_assoc];rfl,?_⟩;simp only[go_sem,↓reduceIte,Qa,Qh,Qb,Qc,Qd,Qe,Qf,Qg,reduceCtorEq, *,Jg hlt hl,List.length_append,-f3,-hp,-hpi];done)
   ·rw[if_neg (by simp[hb])] at f3
    (refine hM.on (xs.length-(i+1)) (by omega) (by simp only[go_sem,↓reduceIte,Qa,Qh,Qb,Qc,Qd,Qe,Qf,Qg,reduceCtorEq, *,Jg hlt hl,-f3,-hp,-hpi]) ⟨i+1,g,ys,rfl,by omega,by omega,f3,?_⟩;simp only[go_sem,↓reduceIte,Qa,Qh,Qb,Qc,Qd,Qe,Qf,Qg,reduceCtorEq, *,Jg hlt hl,-f3,-hp,-hpi];done)
  ·rw[List.drop_eq_nil_of_le (by omega),List.filter_nil,List.append_nil] at f3
   (repeat' (first
 | (with_reducible first|assumption|(refine Qw hK _ ?_;clear hK K)|refine Qw ‹_› _ ?_|refine Qx ‹_› ?_|refine Qi fun K hK=>?_|refine Qj T fun K hK=>?_|refine Ql fun A B hA hB=>?_|refine Qm ?_|refine Qn ?_|refine Qp ?_|refine Qr ?_)
 |(with_reducible first|apply Qy|apply Qz|apply QA)<;>intro hb<;>try simp only[nr] at hb
 |simp only[go_sem,↓reduceIte,Qa,Qh,Qb,Qc,Qd,Qe,Qf,Qg,reduceCtorEq, *,-hp]
 |intro(bn:Bool) hbn))
theorem Jri(Ln:Int)(Lp:List UInt8)(Lx Lq:Int)(LA:List UInt8)(r_rules:List Rule)(r_hosts:List Int)(k:Int):CallR prog 221 [.agg [.int .i64 Ln,.str Lp,.int .i64 Lx,.int .i64 Lq,.str LA,.slice false (Ja r_rules),.slice false (Ja r_hosts)],.ro [.int .i64 k]] (.val (.bool (decide (Ln=k)))):=by
 refine Jn call221 func221 rfl ntmps221 results221 fun ts hn h0 h1=>?_
 (repeat' (first
 | (with_reducible first|assumption|(refine Qw hK _ ?_;clear hK K)|refine Qw ‹_› _ ?_|refine Qx ‹_› ?_|refine Qi fun K hK=>?_|refine Qj T fun K hK=>?_|refine Ql fun A B hA hB=>?_|refine Qn ?_|refine Qr ?_)
 |(with_reducible first|apply Qy|apply Qz|apply QA)<;>intro hb<;>try simp only[nr] at hb
 |simp only[go_sem,↓reduceIte,Qa,Qh,Qb,Qc,Qd,Qe,Qf,Qg,reduceCtorEq, *]
 |intro(bn:Bool) hbn))
theorem Jhz(a:Int):Caps [.ro [.int .i64 a]]:=⟨by simp only[go_sem,Bool.and_self],by simp only[go_sem]⟩
def YY(l:List Res)(k:Int):List Res:=l.filter fun r=>decide (r.kind=k)
theorem Jai(xs:List Res)(k:Int)(hl:Jc xs.length):CallR prog 177 [.slice false (Ja xs),.int .i64 k] (.own 7 (Ja (YY xs k))):=by
 have hf:=JgT 221 [.ro [.int .i64 k]] (Jhz k) (fun r=>decide (r.kind=k)) xs (fun x _=>Jri x.kind x.name x.ver x.port x.to' x.rules' x.hosts k) hl
 refine Jn call177 func177 rfl ntmps177 results177 fun ts hn h0 h1=>?_
 (repeat' (first
 | (with_reducible first|refine callX.by (hf) ?_|assumption|(refine Qw hK _ ?_;clear hK K)|refine Qw ‹_› _ ?_|refine Qx ‹_› ?_|refine Qi fun K hK=>?_|refine Qj T fun K hK=>?_|refine Ql fun A B hA hB=>?_|refine Qn ?_|refine Qr ?_)
 |(with_reducible first|apply Qy|apply Qz|apply QA)<;>intro hb<;>try simp only[nr] at hb
 |simp only[go_sem,↓reduceIte,Qa,Qh,Qb,Qc,Qd,Qe,Qf,Qg,reduceCtorEq, *,-hf]
 |intro(bn:Bool) hbn))
 all_goals rfl
def VH:Res:=⟨0,[],0,0,[],[],[]⟩
def JY(l:List Res)(k:Key):Option Res:=l.find? fun r=>decide (Jo r=k)
theorem JiF{α:Type}(p:α→Bool)(l:List α):(JC p l 0=-1∧l.find? p=none)∨∃(k:Nat) (h:k<l.length),JC p l 0=k∧l.find? p=some l[k]:=by
 by_cases h:JC p l 0=-1
 ·exact .inl ⟨h,List.find?_eq_none.2 fun x hx=>by simp[JcS p l 0 (Int.le_refl _) h x hx]⟩
 ·obtain⟨k,h1,h2,h3,h4⟩:=JcT p l 0 (Int.le_refl _) h
  refine .inr ⟨k,h2,by omega,?_⟩
  rw[List.find?_eq_some_iff_getElem]
  refine⟨h4 h2,k,h2,rfl,fun j hj=>?_⟩
  have:=h3 l[j] (by rw[List.mem_take_iff_getElem];exact⟨j,by omega,rfl⟩)
  simp[this]
theorem Jra(xs:List Res)(Lm:Int)(k_name:List UInt8)(hl:Jc xs.length):CallR prog 123 [.slice false (Ja xs),.agg [.int .i64 Lm,.str k_name]] (.val (.tup [Dat.av ((JY xs (⟨Lm,k_name⟩:Key)).getD VH),.bool (JY xs (⟨Lm,k_name⟩:Key)).isSome])):=by
 have hi:=Jbg 210 [.ro [.int .i64 Lm,.str k_name]] (JhA Lm k_name) (fun r=>decide (Jo r=(⟨Lm,k_name⟩:Key))) xs (fun x _=>Jkz x.kind x.name x.ver x.port x.to' x.rules' x.hosts Lm k_name) hl
 rcases JiF (fun r=>decide (Jo r=(⟨Lm,k_name⟩:Key))) xs with ⟨h1,h2⟩|⟨j,hj,h1,h2⟩
 ·rw[h1] at hi
  have e:JY xs (⟨Lm,k_name⟩:Key)=none:=h2
  rw[e]
  clear h1 h2 e
  have hn:¬(0:Int)≤-1:=by decide
  refine Jn call123 func123 rfl ntmps123 results123 fun ts hn h0 h1=>?_
  (repeat' (first
 | (with_reducible first|refine callX.by (hi) ?_|refine callX.by (JgW _ _) ?_|refine callX.by (Jbg _ _ ?_ _ _ ?_ ?_) ?_|assumption|(refine Qw hK _ ?_;clear hK K)|refine Qw ‹_› _ ?_|refine Qx ‹_› ?_|refine Qi fun K hK=>?_|refine Qj T fun K hK=>?_|refine Ql fun A B hA hB=>?_|refine Qn ?_|refine Qr ?_)
 |(with_reducible first|apply Qy|apply Qz|apply QA)<;>intro hb<;>try simp only[nr] at hb
 |simp only[go_sem,↓reduceIte,Qa,Qh,Qb,Qc,Qd,Qe,Qf,Qg,reduceCtorEq, *,-hi,VH]
 |intro(bn:Bool) hbn))
  all_goals simp[Ja]
 ·rw[h1] at hi
  have e:JY xs (⟨Lm,k_name⟩:Key)=some xs[j]:=h2
  rw[e]
  clear h1 h2 e
  refine Jn call123 func123 rfl ntmps123 results123 fun ts hn h0 h1=>?_
  (repeat' (first
 | (with_reducible first|refine callX.by (hi) ?_|refine callX.by (JgW _ _) ?_|refine callX.by (Jbg _ _ ?_ _ _ ?_ ?_) ?_|assumption|(refine Qw hK _ ?_;clear hK K)|refine Qw ‹_› _ ?_|refine Qx ‹_› ?_|refine Qi fun K hK=>?_|refine Qj T fun K hK=>?_|refine Ql fun A B hA hB=>?_|refine Qn ?_|refine Qr ?_)
 |(with_reducible first|apply Qy|apply Qz|apply QA)<;>intro hb<;>try simp only[nr] at hb
 |simp only[go_sem,↓reduceIte,Qa,Qh,Qb,Qc,Qd,Qe,Qf,Qg,reduceCtorEq, *,-hi]
 |intro(bn:Bool) hbn))
  all_goals simp
def YZ(l:List Res)(k:Key):List Res:=l.filter fun r=>!decide (Jo r=k)
theorem Jfc(xs:List Res)(Lm:Int)(k_name:List UInt8)(hl:Jc xs.length):CallR prog 218 [.slice false (Ja xs),.agg [.int .i64 Lm,.str k_name]] (.own 7 (Ja (YZ xs (⟨Lm,k_name⟩:Key)))):=by
 have hi:=Jd1 210 [.ro [.int .i64 Lm,.str k_name]] (JhA Lm k_name) (fun r=>decide (Jo r=(⟨Lm,k_name⟩:Key))) xs (fun x _=>Jkz x.kind x.name x.ver x.port x.to' x.rules' x.hosts Lm k_name) hl
 refine Jn call218 func218 rfl ntmps218 results218 fun ts hn h0 h1=>?_
 (repeat' (first
 | (with_reducible refine callX.mv ?_ ?_ ?_ (hi);(focus(simp only[go_sem,↓reduceIte,Qa,Qh,Qb,Qc,Qd,Qe,Qf,Qg,reduceCtorEq, *,-hi];first|done|rfl));(focus(simp only[go_sem,↓reduceIte,Qa,Qh,Qb,Qc,Qd,Qe,Qf,Qg,reduceCtorEq, *,-hi];first|done|rfl)))
 | (with_reducible first|refine callX.by (JhN _ _ ?_) ?_|refine callX.by (JgW _ _) ?_)
 | (with_reducible refine callX.mv ?_ ?_ ?_ (Jd1 ?_ ?_ ?_ ?_ ?_ ?_ ?_);(focus(simp only[go_sem,↓reduceIte,Qa,Qh,Qb,Qc,Qd,Qe,Qf,Qg,reduceCtorEq, *,-hi];first|done|rfl));(focus(simp only[go_sem,↓reduceIte,Qa,Qh,Qb,Qc,Qd,Qe,Qf,Qg,reduceCtorEq, *,-hi];first|done|rfl)))
 | (with_reducible first|assumption|(refine Qw hK _ ?_;clear hK K)|refine Qw ‹_› _ ?_|refine Qx ‹_› ?_|refine Qi fun K hK=>?_|refine Qj T fun K hK=>?_|refine Qk (id:=1) T mixed [([5],[7]),([6],[7]),([7],[5,6])] (by kernel_rfl) fun K hK=>?_|refine Ql fun A B hA hB=>?_|refine Qn ?_|refine Qr ?_)
 |(with_reducible first|apply Qy|apply Qz|apply QA)<;>intro hb<;>try simp only[nr] at hb
 |simp only[go_sem,↓reduceIte,Qa,Qh,Qb,Qc,Qd,Qe,Qf,Qg,reduceCtorEq, *,-hi]
 |intro(bn:Bool) hbn))
 all_goals rfl
def Y7(l:List Res)(M:List (Key×Bool)):List (Key×Bool):=l.foldl (fun M r=>JT M (Jo r) true) M
theorem Jbs(xs:List Res)(hl:Jc xs.length):CallR prog 178 [.slice false (Ja xs)] (.val (.mp (Ju (Y7 xs [])) (JA (Y7 xs [])))):=by
 refine Jl call178 func178 rfl ntmps178 results178 fun ts hn h0=>?_
 (repeat' (first
 | (with_reducible first|refine callX.by (Vf _ _ _ _ _ _ _) ?_|assumption|(refine Qw hK _ ?_;clear hK K)|refine Qw ‹_› _ ?_|refine Qx ‹_› ?_|refine Qi fun K hK=>?_|refine Qj T fun K hK=>?_|refine Ql fun A B hA hB=>?_|refine Qm ?_|refine Qn ?_|refine Qp ?_|refine Qr ?_)
 |(with_reducible first|apply Qy|apply Qz|apply QA)<;>intro hb<;>try simp only[nr] at hb
 |simp only[go_sem,↓reduceIte,Qa,Qh,Qb,Qc,Qd,Qe,Qf,Qg,reduceCtorEq, *]
 |intro(bn:Bool) hbn))
 refine Qs [7,8] (fun m ts'=>∃(i:Nat),∃(M:List (Key×Bool)),m=xs.length-i∧i≤xs.length∧Y7 xs []=Y7 (xs.drop i) M∧ts'.tmp 3=.mref 6 (ts.gen 6+1)∧ts'.gen 6=ts.gen 6+1∧ts'.obj 6=.mp (Ju M) (JA M)∧ts'.tmp 9=.int .i64 i) xs.length ?_ ?_
 ·refine⟨0,[],rfl,Nat.zero_le _,rfl,?_⟩
  simp only[go_sem,↓reduceIte,Qa,Qh,Qb,Qc,Qd,Qe,Qf,Qg,reduceCtorEq, *]
 ·rintro m A hM ts' hk ⟨i,M,hm,f1,f2,s1,s2,s3,s4⟩
  simp only[go_sem,↓reduceIte,Qa,Qh,Qb,Qc,Qd,Qe,Qf,Qg,reduceCtorEq, *] at hk
  by_cases hlt:i<xs.length
  ·rw[List.drop_eq_getElem_cons hlt] at f2
   (repeat' (first
 | (with_reducible first|refine callX.by (Vf _ _ _ _ _ _ _) ?_|assumption|(refine Qw hK _ ?_;clear hK K)|refine Qw ‹_› _ ?_|refine Qx ‹_› ?_|refine Qi fun K hK=>?_|refine Qj T fun K hK=>?_|refine Ql fun A B hA hB=>?_|refine Qm ?_|refine Qn ?_|refine Qp ?_|refine Qr ?_)
 |(with_reducible first|apply Qy|apply Qz|apply QA)<;>intro hb<;>try simp only[nr] at hb
 |simp only[go_sem,↓reduceIte,Qa,Qh,Qb,Qc,Qd,Qe,Qf,Qg,reduceCtorEq, *,-f2]
 |intro(bn:Bool) hbn))
   all_goals ((repeat clear hK);(repeat clear hA);(repeat clear hB))
   (refine hM.on (xs.length-(i+1)) (by omega) (by simp only[go_sem,↓reduceIte,Qa,Qh,Qb,Qc,Qd,Qe,Qf,Qg,reduceCtorEq, *,Jg hlt hl,Jo,-f2]) ⟨i+1,JT M (Jo xs[i]) true,rfl,by omega,by rw[f2];rfl,?_⟩;simp only[go_sem,↓reduceIte,Qa,Qh,Qb,Qc,Qd,Qe,Qf,Qg,reduceCtorEq, *,Jg hlt hl,Jo,-f2];done)
  ·rw[List.drop_eq_nil_of_le (by omega)] at f2
   have e:Y7 xs []=M:=f2
   rw[e]
   (repeat' (first
 | (with_reducible first|refine callX.by (Vf _ _ _ _ _ _ _) ?_|assumption|(refine Qw hK _ ?_;clear hK K)|refine Qw ‹_› _ ?_|refine Qx ‹_› ?_|refine Qi fun K hK=>?_|refine Qj T fun K hK=>?_|refine Ql fun A B hA hB=>?_|refine Qm ?_|refine Qn ?_|refine Qp ?_|refine Qr ?_)
 |(with_reducible first|apply Qy|apply Qz|apply QA)<;>intro hb<;>try simp only[nr] at hb
 |simp only[go_sem,↓reduceIte,Qa,Qh,Qb,Qc,Qd,Qe,Qf,Qg,reduceCtorEq, *,-f2]
 |intro(bn:Bool) hbn))
   all_goals ((repeat clear hK);(repeat clear hA);(repeat clear hB))
   all_goals rfl
end Go.Proofs.YthjalhfmpffbjaaGreatDoor.Lg
