/- Parts of the proof, one behind the other. -/
import Derived.Test.YtdolbhcmdkcpnaaGreatDoorG18
namespace Go.Proofs.YtdolbhcmdkcpnaaGreatDoor.Lg
set_option maxRecDepth 100000
set_option linter.unusedVariables false
set_option linter.unusedSimpArgs false
open Go
open Nat renaming reduceEqDiff → Qa, reduceLT → Qb, reduceLeDiff → Qc, reduceAdd → Qd, reduceMul → Qe, reduceSub → Qf, reduceBEq → Qg
open String renaming reduceEq → Qh
open SpecC renaming seqW → Qi, regW → Qj, condW → Ql, block → Qm, skip → Qn, exit → Qp, ret → Qr, loopF → Qs
open NxK renaming out → Qw
open Nx renaming out → Qx
open condK renaming split → Qy
open gK renaming split_t → Qz, split_f → QA
set_option maxHeartbeats 4000000 in
theorem names03_c (r_kind:Int) (r_name:List UInt8) (r_ver:Int) (r_port:Int) (r_to:List UInt8) (r_rules:List Rule) (r_hosts:List Int) (hl:Small r_rules.length) (hs:∀ x∈r_rules,SmRule x) (hk:wIn r_kind 3=true):CallR Tryz.prog 183 [.agg [.int .i64 r_kind,.str r_name,.int .i64 r_ver,.int .i64 r_port,.str r_to,.slice false (avs r_rules),.slice false (avs r_hosts)]] (.val (.bool (namedR (⟨r_kind,r_name,r_ver,r_port,r_to,r_rules,r_hosts⟩:Res)))):=by
 have hk4:r_kind=0∨r_kind=1∨r_kind=2∨r_kind=3:=by
  simp only [wIn,Bool.and_eq_true,decide_eq_true_eq] at hk; omega
 clear hk
 have htm:(r_kind.tmod 2=0∧(decide (r_kind=0) || decide (r_kind=2))=true)∨(¬ r_kind.tmod 2=0∧(decide (r_kind=0) || decide (r_kind=2))=false):=by
  rcases hk4 with rfl|rfl|rfl|rfl<;>decide
 clear hk4
 have e:namedR (⟨r_kind,r_name,r_ver,r_port,r_to,r_rules,r_hosts⟩:Res)=(!((decide (r_kind=0) || decide (r_kind=2)) && !nmOk r_to) && !(r_rules.any fun x=>!ruleOk x)):=rfl
 rw [e]
 clear e
 by_cases hto:r_kind.tmod 2=0∧nmOk r_to=false
 ·obtain ⟨t1,t2⟩:=hto
  rcases htm with ⟨q1,q2⟩|⟨q1,q2⟩
  ·rw [q2,t2]
   clear q2
   refine CallR.go1 (T:=T) Tryz.call183 Tryz.func183 rfl Tryz.ntmps183 (congrArg Array.toList Tryz.results183) (by decide) fun ts hn h0=>?_
   (repeat' (first
 | (with_reducible first|refine callX.by (sane01_c _) ?_|refine callX.by (host01_c _ ?_) ?_|refine callX.by (path01_c _) ?_|assumption|(refine Qw hK _ ?_; clear hK K)|refine Qw ‹_› _ ?_|refine Qx ‹_› ?_|refine Qi fun K hK=>?_|refine Qj T fun K hK=>?_|refine Ql fun A B hA hB=>?_|refine Qm ?_|refine Qn ?_|refine Qp ?_|refine Qr ?_)
 | ((with_reducible first|apply Qy|apply Qz|apply QA)<;>intro hb<;>try simp only [nr] at hb)
 | simp only [go_sem,↓reduceIte,reduceIte,Qa,Qh,Qb,Qc,Qd,Qe,Qf,Qg,reduceCtorEq, *,-hs,Int.reduceEq]
 | with_reducible refine fun (bn:Bool) hbn=>?_))
  ·exact absurd t1 q1
 have e:(!((decide (r_kind=0) || decide (r_kind=2)) && !nmOk r_to))=true:=by
  rcases htm with ⟨q1,q2⟩|⟨q1,q2⟩
  ·have:nmOk r_to=true:=by simpa using fun h=>hto ⟨q1,h⟩
   rw [this]; simp
  ·rw [q2]; rfl
 rw [e,Bool.true_and]
 clear e
 have htm2:(r_kind.tmod 2=0∧nmOk r_to=true)∨¬ r_kind.tmod 2=0:=by
  rcases htm with ⟨q1,q2⟩|⟨q1,q2⟩
  ·exact .inl ⟨q1,by simpa using fun h=>hto ⟨q1,h⟩⟩
  ·exact .inr q1
 clear htm hto
 refine CallR.go1 (T:=T) Tryz.call183 Tryz.func183 rfl Tryz.ntmps183 (congrArg Array.toList Tryz.results183) (by decide) fun ts hn h0=>?_
 rcases htm2 with ⟨q1,q2⟩|q1
 all_goals
  (repeat' (first
 | (with_reducible first|refine callX.by (sane01_c _) ?_|refine callX.by (host01_c _ ?_) ?_|refine callX.by (path01_c _) ?_|assumption|(refine Qw hK _ ?_; clear hK K)|refine Qw ‹_› _ ?_|refine Qx ‹_› ?_|refine Qi fun K hK=>?_|refine Qj T fun K hK=>?_|refine Ql fun A B hA hB=>?_|refine Qm ?_|refine Qn ?_|refine Qp ?_|refine Qr ?_)
 | ((with_reducible first|apply Qy|apply Qz|apply QA)<;>intro hb<;>try simp only [nr] at hb)
 | simp only [go_sem,↓reduceIte,reduceIte,Qa,Qh,Qb,Qc,Qd,Qe,Qf,Qg,reduceCtorEq, *,-hs,Int.reduceEq]
 | with_reducible refine fun (bn:Bool) hbn=>?_))
  refine Qs [1] (fun m ts'=>∃ (i:Nat),m=r_rules.length - i∧i≤r_rules.length∧(r_rules.any fun x=>!ruleOk x)=((r_rules.drop i).any fun x=>!ruleOk x)∧ts'.tmp 3=.int .i64 i) r_rules.length ?_ ?_
  ·refine ⟨0,rfl,Nat.zero_le _,rfl,?_⟩
   simp only [go_sem,↓reduceIte,reduceIte,Qa,Qh,Qb,Qc,Qd,Qe,Qf,Qg,reduceCtorEq, *,-hs]
  ·rintro m A hM ts' hk ⟨i,hm,f1,f2,s1⟩
   simp only [go_sem,↓reduceIte,reduceIte,Qa,Qh,Qb,Qc,Qd,Qe,Qf,Qg,reduceCtorEq, *] at hk
   by_cases hlt:i < r_rules.length
   ·rw [List.drop_eq_getElem_cons hlt,List.any_cons] at f2
    obtain ⟨p1,p2,p3,_⟩:=hs _ (List.getElem_mem hlt)
    cases hh:hostOk r_rules[i].host && pthOk r_rules[i].pfx with
    | false =>
     have hro:ruleOk r_rules[i]=false:=by unfold ruleOk; rw [← Bool.and_assoc,hh]; rfl
     rw [hro,Bool.not_false,Bool.true_or] at f2
     have hh2:hostOk r_rules[i].host=false∨(hostOk r_rules[i].host=true∧pthOk r_rules[i].pfx=false):=by
      cases hx:hostOk r_rules[i].host
      ·exact .inl rfl
      ·rw [hx,Bool.true_and] at hh; exact .inr ⟨rfl,hh⟩
     clear hh hro
     rcases hh2 with x1|⟨x1,x2⟩
     ·(repeat' (first
 | (with_reducible first|refine callX.by (sane01_c _) ?_|refine callX.by (host01_c _ ?_) ?_|refine callX.by (path01_c _) ?_|assumption|(refine Qw hK _ ?_; clear hK K)|refine Qw ‹_› _ ?_|refine Qx ‹_› ?_|refine Qi fun K hK=>?_|refine Qj T fun K hK=>?_|refine Ql fun A B hA hB=>?_|refine Qm ?_|refine Qn ?_|refine Qp ?_|refine Qr ?_)
 | ((with_reducible first|apply Qy|apply Qz|apply QA)<;>intro hb<;>try simp only [nr] at hb)
 | simp only [go_sem,↓reduceIte,reduceIte,Qa,Qh,Qb,Qc,Qd,Qe,Qf,Qg,reduceCtorEq, *,-hs,-f2]
 | with_reducible refine fun (bn:Bool) hbn=>?_))
      all_goals ((repeat clear hK); (repeat clear hA); (repeat clear hB))
      all_goals (rw [f2]; rfl)
     ·(repeat' (first
 | (with_reducible first|refine callX.by (sane01_c _) ?_|refine callX.by (host01_c _ ?_) ?_|refine callX.by (path01_c _) ?_|assumption|(refine Qw hK _ ?_; clear hK K)|refine Qw ‹_› _ ?_|refine Qx ‹_› ?_|refine Qi fun K hK=>?_|refine Qj T fun K hK=>?_|refine Ql fun A B hA hB=>?_|refine Qm ?_|refine Qn ?_|refine Qp ?_|refine Qr ?_)
 | ((with_reducible first|apply Qy|apply Qz|apply QA)<;>intro hb<;>try simp only [nr] at hb)
 | simp only [go_sem,↓reduceIte,reduceIte,Qa,Qh,Qb,Qc,Qd,Qe,Qf,Qg,reduceCtorEq, *,-hs,-f2]
 | with_reducible refine fun (bn:Bool) hbn=>?_))
      all_goals ((repeat clear hK); (repeat clear hA); (repeat clear hB))
      all_goals (rw [f2]; rfl)
    | true =>
     have hro:ruleOk r_rules[i]=!(r_rules[i].split.any fun w=>!nmOk w.cluster):=by unfold ruleOk; rw [← Bool.and_assoc,hh,Bool.true_and]
     rw [hro,Bool.not_not] at f2
     rw [Bool.and_eq_true] at hh
     obtain ⟨x1,x2⟩:=hh
     clear hro
     (repeat' (first
 | (with_reducible first|refine callX.by (sane01_c _) ?_|refine callX.by (host01_c _ ?_) ?_|refine callX.by (path01_c _) ?_|assumption|(refine Qw hK _ ?_; clear hK K)|refine Qw ‹_› _ ?_|refine Qx ‹_› ?_|refine Qi fun K hK=>?_|refine Qj T fun K hK=>?_|refine Ql fun A B hA hB=>?_|refine Qm ?_|refine Qn ?_|refine Qp ?_|refine Qr ?_)
 | ((with_reducible first|apply Qy|apply Qz|apply QA)<;>intro hb<;>try simp only [nr] at hb)
 | simp only [go_sem,↓reduceIte,reduceIte,Qa,Qh,Qb,Qc,Qd,Qe,Qf,Qg,reduceCtorEq, *,-hs,-f2]
 | with_reducible refine fun (bn:Bool) hbn=>?_))
     refine Qs [1,3] (fun m ts'=>∃ (j:Nat),m=r_rules[i].split.length - j∧j≤r_rules[i].split.length∧(r_rules[i].split.any fun w=>!nmOk w.cluster)=((r_rules[i].split.drop j).any fun w=>!nmOk w.cluster)∧ts'.tmp 4=.int .i64 j) r_rules[i].split.length ?_ ?_
     ·refine ⟨0,rfl,Nat.zero_le _,rfl,?_⟩
      simp only [go_sem,↓reduceIte,reduceIte,Qa,Qh,Qb,Qc,Qd,Qe,Qf,Qg,reduceCtorEq, *,-hs,-f2]
     ·revert hM f2
      intro hM1 f20
      rintro m A hM ts' hk ⟨j,hm,f1,f2,s1⟩
      simp only [go_sem,↓reduceIte,reduceIte,Qa,Qh,Qb,Qc,Qd,Qe,Qf,Qg,reduceCtorEq, *] at hk
      by_cases hjt:j < r_rules[i].split.length
      ·rw [List.drop_eq_getElem_cons hjt,List.any_cons] at f2
       cases hw:nmOk r_rules[i].split[j].cluster with
       | false =>
        rw [hw,Bool.not_false,Bool.true_or] at f2
        rw [f2,Bool.true_or] at f20
        (repeat' (first
 | (with_reducible first|refine callX.by (sane01_c _) ?_|refine callX.by (host01_c _ ?_) ?_|refine callX.by (path01_c _) ?_|assumption|(refine Qw hK _ ?_; clear hK K)|refine Qw ‹_› _ ?_|refine Qx ‹_› ?_|refine Qi fun K hK=>?_|refine Qj T fun K hK=>?_|refine Ql fun A B hA hB=>?_|refine Qm ?_|refine Qn ?_|refine Qp ?_|refine Qr ?_)
 | ((with_reducible first|apply Qy|apply Qz|apply QA)<;>intro hb<;>try simp only [nr] at hb)
 | simp only [go_sem,↓reduceIte,reduceIte,Qa,Qh,Qb,Qc,Qd,Qe,Qf,Qg,reduceCtorEq, *,-hs,-f2,-f20]
 | with_reducible refine fun (bn:Bool) hbn=>?_))
        all_goals ((repeat clear hK); (repeat clear hA); (repeat clear hB))
        all_goals (rw [f20]; rfl)
       | true =>
        rw [hw,Bool.not_true,Bool.false_or] at f2
        (repeat' (first
 | (with_reducible first|refine callX.by (sane01_c _) ?_|refine callX.by (host01_c _ ?_) ?_|refine callX.by (path01_c _) ?_|assumption|(refine Qw hK _ ?_; clear hK K)|refine Qw ‹_› _ ?_|refine Qx ‹_› ?_|refine Qi fun K hK=>?_|refine Qj T fun K hK=>?_|refine Ql fun A B hA hB=>?_|refine Qm ?_|refine Qn ?_|refine Qp ?_|refine Qr ?_)
 | ((with_reducible first|apply Qy|apply Qz|apply QA)<;>intro hb<;>try simp only [nr] at hb)
 | simp only [go_sem,↓reduceIte,reduceIte,Qa,Qh,Qb,Qc,Qd,Qe,Qf,Qg,reduceCtorEq, *,-hs,-f2,-f20]
 | with_reducible refine fun (bn:Bool) hbn=>?_))
        all_goals ((repeat clear hK); (repeat clear hA); (repeat clear hB))
        (refine hM.on (r_rules[i].split.length - (j+1)) (by omega) (by simp only [go_sem,↓reduceIte,reduceIte,Qa,Qh,Qb,Qc,Qd,Qe,Qf,Qg,reduceCtorEq, *,w64_nat hjt p3,-hs,-f2,-f20]) ⟨j+1,rfl,by omega,f2,?_⟩; simp only [go_sem,↓reduceIte,reduceIte,Qa,Qh,Qb,Qc,Qd,Qe,Qf,Qg,reduceCtorEq, *,w64_nat hjt p3,-hs,-f2,-f20]; done)
      ·rw [List.drop_eq_nil_of_le (by omega),List.any_nil] at f2
       rw [f2,Bool.false_or] at f20
       clear f2
       (repeat' (first
 | (with_reducible first|refine callX.by (sane01_c _) ?_|refine callX.by (host01_c _ ?_) ?_|refine callX.by (path01_c _) ?_|assumption|(refine Qw hK _ ?_; clear hK K)|refine Qw ‹_› _ ?_|refine Qx ‹_› ?_|refine Qi fun K hK=>?_|refine Qj T fun K hK=>?_|refine Ql fun A B hA hB=>?_|refine Qm ?_|refine Qn ?_|refine Qp ?_|refine Qr ?_)
 | ((with_reducible first|apply Qy|apply Qz|apply QA)<;>intro hb<;>try simp only [nr] at hb)
 | simp only [go_sem,↓reduceIte,reduceIte,Qa,Qh,Qb,Qc,Qd,Qe,Qf,Qg,reduceCtorEq, *,-hs,-f20]
 | with_reducible refine fun (bn:Bool) hbn=>?_))
       all_goals ((repeat clear hK); (repeat clear hA); (repeat clear hB))
       all_goals (clear hM; revert hM1; intro hM)
       (refine hM.on (r_rules.length - (i+1)) (by omega) (by simp only [go_sem,↓reduceIte,reduceIte,Qa,Qh,Qb,Qc,Qd,Qe,Qf,Qg,reduceCtorEq, *,w64_nat hlt hl,-hs,-f20]) ⟨i+1,rfl,by omega,f20,?_⟩; simp only [go_sem,↓reduceIte,reduceIte,Qa,Qh,Qb,Qc,Qd,Qe,Qf,Qg,reduceCtorEq, *,w64_nat hlt hl,-hs,-f20]; done)
   ·rw [List.drop_eq_nil_of_le (by omega),List.any_nil] at f2
    (repeat' (first
 | (with_reducible first|refine callX.by (sane01_c _) ?_|refine callX.by (host01_c _ ?_) ?_|refine callX.by (path01_c _) ?_|assumption|(refine Qw hK _ ?_; clear hK K)|refine Qw ‹_› _ ?_|refine Qx ‹_› ?_|refine Qi fun K hK=>?_|refine Qj T fun K hK=>?_|refine Ql fun A B hA hB=>?_|refine Qm ?_|refine Qn ?_|refine Qp ?_|refine Qr ?_)
 | ((with_reducible first|apply Qy|apply Qz|apply QA)<;>intro hb<;>try simp only [nr] at hb)
 | simp only [go_sem,↓reduceIte,reduceIte,Qa,Qh,Qb,Qc,Qd,Qe,Qf,Qg,reduceCtorEq, *,-hs,-f2]
 | with_reducible refine fun (bn:Bool) hbn=>?_))
    all_goals ((repeat clear hK); (repeat clear hA); (repeat clear hB))
    all_goals (rw [f2]; rfl)
end Go.Proofs.YtdolbhcmdkcpnaaGreatDoor.Lg
