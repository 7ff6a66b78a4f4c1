/- Parts of the proof, one behind the other. -/
import Derived.Test.YtmjkjmoeicnbnaaGreatDoorG18
namespace Go.Proofs.YtmjkjmoeicnbnaaGreatDoor.Lg
set_option maxRecDepth 100000
set_option linter.unusedVariables false
set_option linter.unusedSimpArgs false
open Go
open Nat renaming reduceEqDiff → Qa, reduceLT → Qb, reduceLeDiff → Qc, reduceAdd → Qd, reduceMul → Qe, reduceSub → Qf, reduceBEq → Qg
open String renaming reduceEq → Qh
open SpecC renaming seqW → Qi, regW → Qj, condW → Ql, block → Qm, skip → Qn, exit → Qp, ret → Qr, loopF → Qs
open NxK renaming out → Qw
open Nx renaming out → Qx
open condK renaming split → Qy
open gK renaming split_t → Qz, split_f → QA
theorem wIn_t {n m:Int} (h:wIn n m=true):¬ n < 0∧¬ m < n:=by
 simp only [wIn,Bool.and_eq_true,decide_eq_true_eq] at h; omega
theorem wIn_f {n m:Int} (h:wIn n m=false):n < 0∨(¬ n < 0∧m < n):=by
 simp only [wIn,Bool.and_eq_false_iff,decide_eq_false_iff_not] at h; omega
set_option maxHeartbeats 4000000 in
theorem big03_c (r_kind:Int) (r_name:List UInt8) (r_ver:Int) (r_port:Int) (r_to:List UInt8) (r_rules:List Rule) (r_hosts:List Int) (hl:Small r_rules.length) (hh:Small r_hosts.length) (hs:∀ x∈r_rules,SmRule x):CallR Tryz.prog 176 [.agg [.int .i64 r_kind,.str r_name,.int .i64 r_ver,.int .i64 r_port,.str r_to,.slice false (avs r_rules),.slice false (avs r_hosts)]] (.val (.bool (!smallR (⟨r_kind,r_name,r_ver,r_port,r_to,r_rules,r_hosts⟩:Res)))):=by
 by_cases h6:wIn r_ver 2147483647=true∧wIn r_port 65535=true∧r_rules.length≤8∧r_hosts.length≤8
 rotate_left
 ·have e:smallR (⟨r_kind,r_name,r_ver,r_port,r_to,r_rules,r_hosts⟩:Res)=false:=by
   simp only [smallR,Bool.and_eq_false_iff,decide_eq_false_iff_not]
   by_cases a1:wIn r_ver 2147483647=true
   ·by_cases a2:wIn r_port 65535=true
    ·by_cases a3:r_rules.length≤8
     ·have:¬ r_hosts.length≤8:=fun a4=>h6 ⟨a1,a2,a3,a4⟩
      simp [this]
     ·simp [a3]
    ·simp [a2]
   ·simp [a1]
  rw [e]
  have h6':¬ ((¬ r_ver < 0∧¬ 2147483647 < r_ver)∧(¬ r_port < 0∧¬ 65535 < r_port)∧r_rules.length≤8∧r_hosts.length≤8):=by
   intro ⟨a,b,c,d⟩
   exact h6 ⟨by simp [wIn]; omega,by simp [wIn]; omega,c,d⟩
  clear h6 e
  refine CallR.go1 (T:=T) Tryz.call176 Tryz.func176 rfl Tryz.ntmps176 (congrArg Array.toList Tryz.results176) (by decide) fun ts hn h0=>?_
  (repeat' (first
 | (with_reducible first|assumption|(refine Qw hK _ ?_; clear hK K)|refine Qw ‹_› _ ?_|refine Qx ‹_› ?_|refine Qi fun K hK=>?_|refine Qj T fun K hK=>?_|refine Ql fun A B hA hB=>?_|refine Qm ?_|refine Qn ?_|refine Qp ?_|refine Qr ?_)
 | ((with_reducible first|apply Qy|apply Qz|apply QA)<;>intro hb<;>try simp only [nr] at hb)
 | simp only [go_sem,↓reduceIte,reduceIte,Qa,Qh,Qb,Qc,Qd,Qe,Qf,Qg,reduceCtorEq, *,-hs,-h6']
 | with_reducible refine fun (bn:Bool) hbn=>?_))
  all_goals ((repeat clear hK); (repeat clear hA); (repeat clear hB))
  all_goals (exfalso; apply h6'; refine ⟨⟨?_,?_⟩,⟨?_,?_⟩,?_,?_⟩<;>omega)
 obtain ⟨a1,a2,a3,a4⟩:=h6
 have e:smallR (⟨r_kind,r_name,r_ver,r_port,r_to,r_rules,r_hosts⟩:Res)=(r_hosts.all (fun h=>wIn h 2147483647) && r_rules.all smallRule):=by
  simp only [smallR]
  rw [a1,a2,decide_eq_true a3,decide_eq_true a4]; simp
 obtain ⟨b1,b2⟩:=wIn_t a1
 obtain ⟨b3,b4⟩:=wIn_t a2
 have b5:¬ (8:Int) < (r_rules.length:Int):=by omega
 have b6:¬ (8:Int) < (r_hosts.length:Int):=by omega
 have b7:¬ 8 < r_rules.length:=by omega
 have b8:¬ 8 < r_hosts.length:=by omega
 rw [e]
 clear e a1 a2 a3 a4
 refine CallR.go1 (T:=T) Tryz.call176 Tryz.func176 rfl Tryz.ntmps176 (congrArg Array.toList Tryz.results176) (by decide) fun ts hn h0=>?_
 (repeat' (first
 | (with_reducible first|assumption|(refine Qw hK _ ?_; clear hK K)|refine Qw ‹_› _ ?_|refine Qx ‹_› ?_|refine Qi fun K hK=>?_|refine Qj T fun K hK=>?_|refine Ql fun A B hA hB=>?_|refine Qm ?_|refine Qn ?_|refine Qp ?_|refine Qr ?_)
 | ((with_reducible first|apply Qy|apply Qz|apply QA)<;>intro hb<;>try simp only [nr] at hb)
 | simp only [go_sem,↓reduceIte,reduceIte,Qa,Qh,Qb,Qc,Qd,Qe,Qf,Qg,reduceCtorEq, *,-hs]
 | with_reducible refine fun (bn:Bool) hbn=>?_))
 clear b1 b2 b3 b4 b5 b6 b7 b8
 refine Qs [1] (fun m ts'=>∃ (i:Nat),m=r_hosts.length - i∧i≤r_hosts.length∧r_hosts.all (fun h=>wIn h 2147483647)=(r_hosts.drop i).all (fun h=>wIn h 2147483647)∧ts'.tmp 3=.int .i64 i) r_hosts.length ?_ ?_
 ·refine ⟨0,rfl,Nat.zero_le _,rfl,?_⟩
  simp only [go_sem,↓reduceIte,reduceIte,Qa,Qh,Qb,Qc,Qd,Qe,Qf,Qg,reduceCtorEq, *,-hs]
 ·rintro m A hM ts' hk ⟨i,hm,f1,f2,s1⟩
  simp only [go_sem,↓reduceIte,reduceIte,Qa,Qh,Qb,Qc,Qd,Qe,Qf,Qg,reduceCtorEq, *] at hk
  by_cases hlt:i < r_hosts.length
  ·rw [List.drop_eq_getElem_cons hlt,List.all_cons] at f2
   cases hw:wIn r_hosts[i] 2147483647 with
   | false =>
    rw [hw,Bool.false_and] at f2
    rcases wIn_f hw with c1|⟨c1,c2⟩
    ·(repeat' (first
 | (with_reducible first|assumption|(refine Qw hK _ ?_; clear hK K)|refine Qw ‹_› _ ?_|refine Qx ‹_› ?_|refine Qi fun K hK=>?_|refine Qj T fun K hK=>?_|refine Ql fun A B hA hB=>?_|refine Qm ?_|refine Qn ?_|refine Qp ?_|refine Qr ?_)
 | ((with_reducible first|apply Qy|apply Qz|apply QA)<;>intro hb<;>try simp only [nr] at hb)
 | simp only [go_sem,↓reduceIte,reduceIte,Qa,Qh,Qb,Qc,Qd,Qe,Qf,Qg,reduceCtorEq, *,-hs,-f2]
 | with_reducible refine fun (bn:Bool) hbn=>?_))
     all_goals ((repeat clear hK); (repeat clear hA); (repeat clear hB))
     all_goals (rw [f2]; rfl)
    ·(repeat' (first
 | (with_reducible first|assumption|(refine Qw hK _ ?_; clear hK K)|refine Qw ‹_› _ ?_|refine Qx ‹_› ?_|refine Qi fun K hK=>?_|refine Qj T fun K hK=>?_|refine Ql fun A B hA hB=>?_|refine Qm ?_|refine Qn ?_|refine Qp ?_|refine Qr ?_)
 | ((with_reducible first|apply Qy|apply Qz|apply QA)<;>intro hb<;>try simp only [nr] at hb)
 | simp only [go_sem,↓reduceIte,reduceIte,Qa,Qh,Qb,Qc,Qd,Qe,Qf,Qg,reduceCtorEq, *,-hs,-f2]
 | with_reducible refine fun (bn:Bool) hbn=>?_))
     all_goals ((repeat clear hK); (repeat clear hA); (repeat clear hB))
     all_goals (rw [f2]; rfl)
   | true =>
    rw [hw,Bool.true_and] at f2
    obtain ⟨c1,c2⟩:=wIn_t hw
    (repeat' (first
 | (with_reducible first|assumption|(refine Qw hK _ ?_; clear hK K)|refine Qw ‹_› _ ?_|refine Qx ‹_› ?_|refine Qi fun K hK=>?_|refine Qj T fun K hK=>?_|refine Ql fun A B hA hB=>?_|refine Qm ?_|refine Qn ?_|refine Qp ?_|refine Qr ?_)
 | ((with_reducible first|apply Qy|apply Qz|apply QA)<;>intro hb<;>try simp only [nr] at hb)
 | simp only [go_sem,↓reduceIte,reduceIte,Qa,Qh,Qb,Qc,Qd,Qe,Qf,Qg,reduceCtorEq, *,-hs,-f2]
 | with_reducible refine fun (bn:Bool) hbn=>?_))
    all_goals ((repeat clear hK); (repeat clear hA); (repeat clear hB))
    (refine hM.on (r_hosts.length - (i+1)) (by omega) (by simp only [go_sem,↓reduceIte,reduceIte,Qa,Qh,Qb,Qc,Qd,Qe,Qf,Qg,reduceCtorEq, *,w64_nat hlt hh,-hs,-f2]) ⟨i+1,rfl,by omega,f2,?_⟩; simp only [go_sem,↓reduceIte,reduceIte,Qa,Qh,Qb,Qc,Qd,Qe,Qf,Qg,reduceCtorEq, *,w64_nat hlt hh,-hs,-f2]; done)
  ·rw [List.drop_eq_nil_of_le (by omega),List.all_nil] at f2
   have hho:=f2
   clear f2
   (repeat' (first
 | (with_reducible first|assumption|(refine Qw hK _ ?_; clear hK K)|refine Qw ‹_› _ ?_|refine Qx ‹_› ?_|refine Qi fun K hK=>?_|refine Qj T fun K hK=>?_|refine Ql fun A B hA hB=>?_|refine Qm ?_|refine Qn ?_|refine Qp ?_|refine Qr ?_)
 | ((with_reducible first|apply Qy|apply Qz|apply QA)<;>intro hb<;>try simp only [nr] at hb)
 | simp only [go_sem,↓reduceIte,reduceIte,Qa,Qh,Qb,Qc,Qd,Qe,Qf,Qg,reduceCtorEq, *,-hs,-hho]
 | with_reducible refine fun (bn:Bool) hbn=>?_))
   clear hM hlt
   refine Qs [1] (fun m ts'=>∃ (q:Nat),m=r_rules.length - q∧q≤r_rules.length∧r_rules.all smallRule=(r_rules.drop q).all smallRule∧ts'.tmp 4=.int .i64 q) r_rules.length ?_ ?_
   ·refine ⟨0,rfl,Nat.zero_le _,rfl,?_⟩
    simp only [go_sem,↓reduceIte,reduceIte,Qa,Qh,Qb,Qc,Qd,Qe,Qf,Qg,reduceCtorEq, *,-hs,-hho]
   ·rintro m A hM ts' hk ⟨q,hm,f1,f2,s1⟩
    simp only [go_sem,↓reduceIte,reduceIte,Qa,Qh,Qb,Qc,Qd,Qe,Qf,Qg,reduceCtorEq, *] at hk
    by_cases hqt:q < r_rules.length
    ·rw [List.drop_eq_getElem_cons hqt,List.all_cons] at f2
     have hsp:Small r_rules[q].split.length:=(hs _ (List.getElem_mem hqt)).2.2.1
     by_cases h4:4 < r_rules[q].split.length
     ·have hr:smallRule r_rules[q]=false:=by unfold smallRule; rw [decide_eq_false (by omega)]; rfl
      rw [hr,Bool.false_and] at f2
      have h4I:(4:Int) < (r_rules[q].split.length:Int):=by omega
      (repeat' (first
 | (with_reducible first|assumption|(refine Qw hK _ ?_; clear hK K)|refine Qw ‹_› _ ?_|refine Qx ‹_› ?_|refine Qi fun K hK=>?_|refine Qj T fun K hK=>?_|refine Ql fun A B hA hB=>?_|refine Qm ?_|refine Qn ?_|refine Qp ?_|refine Qr ?_)
 | ((with_reducible first|apply Qy|apply Qz|apply QA)<;>intro hb<;>try simp only [nr] at hb)
 | simp only [go_sem,↓reduceIte,reduceIte,Qa,Qh,Qb,Qc,Qd,Qe,Qf,Qg,reduceCtorEq, *,-hs,-hho,-f2,-hr]
 | with_reducible refine fun (bn:Bool) hbn=>?_))
      all_goals ((repeat clear hK); (repeat clear hA); (repeat clear hB))
      all_goals (rw [hho,f2]; rfl)
     ·have h4I:¬ (4:Int) < (r_rules[q].split.length:Int):=by omega
      have hr:smallRule r_rules[q]=!(r_rules[q].split.any fun w=>!wIn w.w 100):=by unfold smallRule; rw [decide_eq_true (by omega),Bool.true_and]
      rw [hr] at f2
      clear hr
      (repeat' (first
 | (with_reducible first|assumption|(refine Qw hK _ ?_; clear hK K)|refine Qw ‹_› _ ?_|refine Qx ‹_› ?_|refine Qi fun K hK=>?_|refine Qj T fun K hK=>?_|refine Ql fun A B hA hB=>?_|refine Qm ?_|refine Qn ?_|refine Qp ?_|refine Qr ?_)
 | ((with_reducible first|apply Qy|apply Qz|apply QA)<;>intro hb<;>try simp only [nr] at hb)
 | simp only [go_sem,↓reduceIte,reduceIte,Qa,Qh,Qb,Qc,Qd,Qe,Qf,Qg,reduceCtorEq, *,-hs,-hho,-f2]
 | with_reducible refine fun (bn:Bool) hbn=>?_))
      refine Qs [1,4] (fun m ts'=>∃ (j:Nat),m=r_rules[q].split.length - j∧j≤r_rules[q].split.length∧(r_rules[q].split.any fun w=>!wIn w.w 100)=((r_rules[q].split.drop j).any fun w=>!wIn w.w 100)∧ts'.tmp 5=.int .i64 j) r_rules[q].split.length ?_ ?_
      ·refine ⟨0,rfl,Nat.zero_le _,rfl,?_⟩
       simp only [go_sem,↓reduceIte,reduceIte,Qa,Qh,Qb,Qc,Qd,Qe,Qf,Qg,reduceCtorEq, *,-hs,-hho,-f2]
      ·revert hM f2
       intro hM1 f20
       rintro m A hM ts' hk ⟨j,hm,f1,f2,s1⟩
       simp only [go_sem,↓reduceIte,reduceIte,Qa,Qh,Qb,Qc,Qd,Qe,Qf,Qg,reduceCtorEq, *] at hk
       by_cases hjt:j < r_rules[q].split.length
       ·rw [List.drop_eq_getElem_cons hjt,List.any_cons] at f2
        cases hw:wIn r_rules[q].split[j].w 100 with
        | false =>
         rw [hw,Bool.not_false,Bool.true_or] at f2
         rw [f2,Bool.not_true,Bool.false_and] at f20
         rcases wIn_f hw with c1|⟨c1,c2⟩
         ·(repeat' (first
 | (with_reducible first|assumption|(refine Qw hK _ ?_; clear hK K)|refine Qw ‹_› _ ?_|refine Qx ‹_› ?_|refine Qi fun K hK=>?_|refine Qj T fun K hK=>?_|refine Ql fun A B hA hB=>?_|refine Qm ?_|refine Qn ?_|refine Qp ?_|refine Qr ?_)
 | ((with_reducible first|apply Qy|apply Qz|apply QA)<;>intro hb<;>try simp only [nr] at hb)
 | simp only [go_sem,↓reduceIte,reduceIte,Qa,Qh,Qb,Qc,Qd,Qe,Qf,Qg,reduceCtorEq, *,-hs,-hho,-f2,-f20]
 | with_reducible refine fun (bn:Bool) hbn=>?_))
          all_goals ((repeat clear hK); (repeat clear hA); (repeat clear hB))
          all_goals (rw [hho,f20]; rfl)
         ·(repeat' (first
 | (with_reducible first|assumption|(refine Qw hK _ ?_; clear hK K)|refine Qw ‹_› _ ?_|refine Qx ‹_› ?_|refine Qi fun K hK=>?_|refine Qj T fun K hK=>?_|refine Ql fun A B hA hB=>?_|refine Qm ?_|refine Qn ?_|refine Qp ?_|refine Qr ?_)
 | ((with_reducible first|apply Qy|apply Qz|apply QA)<;>intro hb<;>try simp only [nr] at hb)
 | simp only [go_sem,↓reduceIte,reduceIte,Qa,Qh,Qb,Qc,Qd,Qe,Qf,Qg,reduceCtorEq, *,-hs,-hho,-f2,-f20]
 | with_reducible refine fun (bn:Bool) hbn=>?_))
          all_goals ((repeat clear hK); (repeat clear hA); (repeat clear hB))
          all_goals (rw [hho,f20]; rfl)
        | true =>
         rw [hw,Bool.not_true,Bool.false_or] at f2
         obtain ⟨c1,c2⟩:=wIn_t hw
         (repeat' (first
 | (with_reducible first|assumption|(refine Qw hK _ ?_; clear hK K)|refine Qw ‹_› _ ?_|refine Qx ‹_› ?_|refine Qi fun K hK=>?_|refine Qj T fun K hK=>?_|refine Ql fun A B hA hB=>?_|refine Qm ?_|refine Qn ?_|refine Qp ?_|refine Qr ?_)
 | ((with_reducible first|apply Qy|apply Qz|apply QA)<;>intro hb<;>try simp only [nr] at hb)
 | simp only [go_sem,↓reduceIte,reduceIte,Qa,Qh,Qb,Qc,Qd,Qe,Qf,Qg,reduceCtorEq, *,-hs,-hho,-f2,-f20]
 | with_reducible refine fun (bn:Bool) hbn=>?_))
         all_goals ((repeat clear hK); (repeat clear hA); (repeat clear hB))
         (refine hM.on (r_rules[q].split.length - (j+1)) (by omega) (by simp only [go_sem,↓reduceIte,reduceIte,Qa,Qh,Qb,Qc,Qd,Qe,Qf,Qg,reduceCtorEq, *,w64_nat hjt hsp,-hs,-hho,-f2,-f20]) ⟨j+1,rfl,by omega,f2,?_⟩; simp only [go_sem,↓reduceIte,reduceIte,Qa,Qh,Qb,Qc,Qd,Qe,Qf,Qg,reduceCtorEq, *,w64_nat hjt hsp,-hs,-hho,-f2,-f20]; done)
       ·rw [List.drop_eq_nil_of_le (by omega),List.any_nil] at f2
        rw [f2,Bool.not_false,Bool.true_and] at f20
        clear f2
        (repeat' (first
 | (with_reducible first|assumption|(refine Qw hK _ ?_; clear hK K)|refine Qw ‹_› _ ?_|refine Qx ‹_› ?_|refine Qi fun K hK=>?_|refine Qj T fun K hK=>?_|refine Ql fun A B hA hB=>?_|refine Qm ?_|refine Qn ?_|refine Qp ?_|refine Qr ?_)
 | ((with_reducible first|apply Qy|apply Qz|apply QA)<;>intro hb<;>try simp only [nr] at hb)
 | simp only [go_sem,↓reduceIte,reduceIte,Qa,Qh,Qb,Qc,Qd,Qe,Qf,Qg,reduceCtorEq, *,-hs,-hho,-f20]
 | with_reducible refine fun (bn:Bool) hbn=>?_))
        all_goals ((repeat clear hK); (repeat clear hA); (repeat clear hB))
        all_goals (clear hM; revert hM1; intro hM)
        (refine hM.on (r_rules.length - (q+1)) (by omega) (by simp only [go_sem,↓reduceIte,reduceIte,Qa,Qh,Qb,Qc,Qd,Qe,Qf,Qg,reduceCtorEq, *,w64_nat hqt hl,-hs,-hho,-f20]) ⟨q+1,rfl,by omega,f20,?_⟩; simp only [go_sem,↓reduceIte,reduceIte,Qa,Qh,Qb,Qc,Qd,Qe,Qf,Qg,reduceCtorEq, *,w64_nat hqt hl,-hs,-hho,-f20]; done)
    ·rw [List.drop_eq_nil_of_le (by omega),List.all_nil] at f2
     (repeat' (first
 | (with_reducible first|assumption|(refine Qw hK _ ?_; clear hK K)|refine Qw ‹_› _ ?_|refine Qx ‹_› ?_|refine Qi fun K hK=>?_|refine Qj T fun K hK=>?_|refine Ql fun A B hA hB=>?_|refine Qm ?_|refine Qn ?_|refine Qp ?_|refine Qr ?_)
 | ((with_reducible first|apply Qy|apply Qz|apply QA)<;>intro hb<;>try simp only [nr] at hb)
 | simp only [go_sem,↓reduceIte,reduceIte,Qa,Qh,Qb,Qc,Qd,Qe,Qf,Qg,reduceCtorEq, *,-hs,-hho,-f2]
 | with_reducible refine fun (bn:Bool) hbn=>?_))
     all_goals ((repeat clear hK); (repeat clear hA); (repeat clear hB))
     all_goals (rw [hho,f2]; rfl)
set_option maxHeartbeats 4000000 in
theorem names03_c (r_kind:Int) (r_name:List UInt8) (r_ver:Int) (r_port:Int) (r_to:List UInt8) (r_rules:List Rule) (r_hosts:List Int) (hl:Small r_rules.length) (hs:∀ x∈r_rules,SmRule x) (hk:wIn r_kind 3=true):CallR Tryz.prog 177 [.agg [.int .i64 r_kind,.str r_name,.int .i64 r_ver,.int .i64 r_port,.str r_to,.slice false (avs r_rules),.slice false (avs r_hosts)]] (.val (.bool (namedR (⟨r_kind,r_name,r_ver,r_port,r_to,r_rules,r_hosts⟩:Res)))):=by
 have hk4:r_kind=0∨r_kind=1∨r_kind=2∨r_kind=3:=by
  simp only [wIn,Bool.and_eq_true,decide_eq_true_eq] at hk; omega
 clear hk
 have htm:(r_kind.tmod 2=0∧(decide (r_kind=0) || decide (r_kind=2))=true)∨(¬ r_kind.tmod 2=0∧(decide (r_kind=0) || decide (r_kind=2))=false):=by
  rcases hk4 with rfl|rfl|rfl|rfl<;>decide
 clear hk4
 have e:namedR (⟨r_kind,r_name,r_ver,r_port,r_to,r_rules,r_hosts⟩:Res)=(!((decide (r_kind=0) || decide (r_kind=2)) && !nmOk r_to) && !(r_rules.any fun x=>!ruleOk x)):=rfl
 rw [e]
 clear e
 by_cases hto:r_kind.tmod 2=0∧nmOk r_to=false
 ·obtain ⟨t1,t2⟩:=hto
  rcases htm with ⟨q1,q2⟩|⟨q1,q2⟩
  ·rw [q2,t2]
   clear q2
   refine CallR.go1 (T:=T) Tryz.call177 Tryz.func177 rfl Tryz.ntmps177 (congrArg Array.toList Tryz.results177) (by decide) fun ts hn h0=>?_
   (repeat' (first
 | (with_reducible first|refine callX.by (sane01_c _) ?_|refine callX.by (host01_c _ ?_) ?_|refine callX.by (path01_c _) ?_|assumption|(refine Qw hK _ ?_; clear hK K)|refine Qw ‹_› _ ?_|refine Qx ‹_› ?_|refine Qi fun K hK=>?_|refine Qj T fun K hK=>?_|refine Ql fun A B hA hB=>?_|refine Qm ?_|refine Qn ?_|refine Qp ?_|refine Qr ?_)
 | ((with_reducible first|apply Qy|apply Qz|apply QA)<;>intro hb<;>try simp only [nr] at hb)
 | simp only [go_sem,↓reduceIte,reduceIte,Qa,Qh,Qb,Qc,Qd,Qe,Qf,Qg,reduceCtorEq, *,-hs,Int.reduceEq]
 | with_reducible refine fun (bn:Bool) hbn=>?_))
  ·exact absurd t1 q1
 have e:(!((decide (r_kind=0) || decide (r_kind=2)) && !nmOk r_to))=true:=by
  rcases htm with ⟨q1,q2⟩|⟨q1,q2⟩
  ·have:nmOk r_to=true:=by simpa using fun h=>hto ⟨q1,h⟩
   rw [this]; simp
  ·rw [q2]; rfl
 rw [e,Bool.true_and]
 clear e
 have htm2:(r_kind.tmod 2=0∧nmOk r_to=true)∨¬ r_kind.tmod 2=0:=by
  rcases htm with ⟨q1,q2⟩|⟨q1,q2⟩
  ·exact .inl ⟨q1,by simpa using fun h=>hto ⟨q1,h⟩⟩
  ·exact .inr q1
 clear htm hto
 refine CallR.go1 (T:=T) Tryz.call177 Tryz.func177 rfl Tryz.ntmps177 (congrArg Array.toList Tryz.results177) (by decide) fun ts hn h0=>?_
 rcases htm2 with ⟨q1,q2⟩|q1
 all_goals
  (repeat' (first
 | (with_reducible first|refine callX.by (sane01_c _) ?_|refine callX.by (host01_c _ ?_) ?_|refine callX.by (path01_c _) ?_|assumption|(refine Qw hK _ ?_; clear hK K)|refine Qw ‹_› _ ?_|refine Qx ‹_› ?_|refine Qi fun K hK=>?_|refine Qj T fun K hK=>?_|refine Ql fun A B hA hB=>?_|refine Qm ?_|refine Qn ?_|refine Qp ?_|refine Qr ?_)
 | ((with_reducible first|apply Qy|apply Qz|apply QA)<;>intro hb<;>try simp only [nr] at hb)
 | simp only [go_sem,↓reduceIte,reduceIte,Qa,Qh,Qb,Qc,Qd,Qe,Qf,Qg,reduceCtorEq, *,-hs,Int.reduceEq]
 | with_reducible refine fun (bn:Bool) hbn=>?_))
  refine Qs [1] (fun m ts'=>∃ (i:Nat),m=r_rules.length - i∧i≤r_rules.length∧(r_rules.any fun x=>!ruleOk x)=((r_rules.drop i).any fun x=>!ruleOk x)∧ts'.tmp 3=.int .i64 i) r_rules.length ?_ ?_
  ·refine ⟨0,rfl,Nat.zero_le _,rfl,?_⟩
   simp only [go_sem,↓reduceIte,reduceIte,Qa,Qh,Qb,Qc,Qd,Qe,Qf,Qg,reduceCtorEq, *,-hs]
  ·rintro m A hM ts' hk ⟨i,hm,f1,f2,s1⟩
   simp only [go_sem,↓reduceIte,reduceIte,Qa,Qh,Qb,Qc,Qd,Qe,Qf,Qg,reduceCtorEq, *] at hk
   by_cases hlt:i < r_rules.length
   ·rw [List.drop_eq_getElem_cons hlt,List.any_cons] at f2
    obtain ⟨p1,p2,p3,_⟩:=hs _ (List.getElem_mem hlt)
    cases hh:hostOk r_rules[i].host && pthOk r_rules[i].pfx with
    | false =>
     have hro:ruleOk r_rules[i]=false:=by unfold ruleOk; rw [← Bool.and_assoc,hh]; rfl
     rw [hro,Bool.not_false,Bool.true_or] at f2
     have hh2:hostOk r_rules[i].host=false∨(hostOk r_rules[i].host=true∧pthOk r_rules[i].pfx=false):=by
      cases hx:hostOk r_rules[i].host
      ·exact .inl rfl
      ·rw [hx,Bool.true_and] at hh; exact .inr ⟨rfl,hh⟩
     clear hh hro
     rcases hh2 with x1|⟨x1,x2⟩
     ·(repeat' (first
 | (with_reducible first|refine callX.by (sane01_c _) ?_|refine callX.by (host01_c _ ?_) ?_|refine callX.by (path01_c _) ?_|assumption|(refine Qw hK _ ?_; clear hK K)|refine Qw ‹_› _ ?_|refine Qx ‹_› ?_|refine Qi fun K hK=>?_|refine Qj T fun K hK=>?_|refine Ql fun A B hA hB=>?_|refine Qm ?_|refine Qn ?_|refine Qp ?_|refine Qr ?_)
 | ((with_reducible first|apply Qy|apply Qz|apply QA)<;>intro hb<;>try simp only [nr] at hb)
 | simp only [go_sem,↓reduceIte,reduceIte,Qa,Qh,Qb,Qc,Qd,Qe,Qf,Qg,reduceCtorEq, *,-hs,-f2]
 | with_reducible refine fun (bn:Bool) hbn=>?_))
      all_goals ((repeat clear hK); (repeat clear hA); (repeat clear hB))
      all_goals (rw [f2]; rfl)
     ·(repeat' (first
 | (with_reducible first|refine callX.by (sane01_c _) ?_|refine callX.by (host01_c _ ?_) ?_|refine callX.by (path01_c _) ?_|assumption|(refine Qw hK _ ?_; clear hK K)|refine Qw ‹_› _ ?_|refine Qx ‹_› ?_|refine Qi fun K hK=>?_|refine Qj T fun K hK=>?_|refine Ql fun A B hA hB=>?_|refine Qm ?_|refine Qn ?_|refine Qp ?_|refine Qr ?_)
 | ((with_reducible first|apply Qy|apply Qz|apply QA)<;>intro hb<;>try simp only [nr] at hb)
 | simp only [go_sem,↓reduceIte,reduceIte,Qa,Qh,Qb,Qc,Qd,Qe,Qf,Qg,reduceCtorEq, *,-hs,-f2]
 | with_reducible refine fun (bn:Bool) hbn=>?_))
      all_goals ((repeat clear hK); (repeat clear hA); (repeat clear hB))
      all_goals (rw [f2]; rfl)
    | true =>
     have hro:ruleOk r_rules[i]=!(r_rules[i].split.any fun w=>!nmOk w.cluster):=by unfold ruleOk; rw [← Bool.and_assoc,hh,Bool.true_and]
     rw [hro,Bool.not_not] at f2
     rw [Bool.and_eq_true] at hh
     obtain ⟨x1,x2⟩:=hh
     clear hro
     (repeat' (first
 | (with_reducible first|refine callX.by (sane01_c _) ?_|refine callX.by (host01_c _ ?_) ?_|refine callX.by (path01_c _) ?_|assumption|(refine Qw hK _ ?_; clear hK K)|refine Qw ‹_› _ ?_|refine Qx ‹_› ?_|refine Qi fun K hK=>?_|refine Qj T fun K hK=>?_|refine Ql fun A B hA hB=>?_|refine Qm ?_|refine Qn ?_|refine Qp ?_|refine Qr ?_)
 | ((with_reducible first|apply Qy|apply Qz|apply QA)<;>intro hb<;>try simp only [nr] at hb)
 | simp only [go_sem,↓reduceIte,reduceIte,Qa,Qh,Qb,Qc,Qd,Qe,Qf,Qg,reduceCtorEq, *,-hs,-f2]
 | with_reducible refine fun (bn:Bool) hbn=>?_))
     refine Qs [1,3] (fun m ts'=>∃ (j:Nat),m=r_rules[i].split.length - j∧j≤r_rules[i].split.length∧(r_rules[i].split.any fun w=>!nmOk w.cluster)=((r_rules[i].split.drop j).any fun w=>!nmOk w.cluster)∧ts'.tmp 4=.int .i64 j) r_rules[i].split.length ?_ ?_
     ·refine ⟨0,rfl,Nat.zero_le _,rfl,?_⟩
      simp only [go_sem,↓reduceIte,reduceIte,Qa,Qh,Qb,Qc,Qd,Qe,Qf,Qg,reduceCtorEq, *,-hs,-f2]
     ·revert hM f2
      intro hM1 f20
      rintro m A hM ts' hk ⟨j,hm,f1,f2,s1⟩
      simp only [go_sem,↓reduceIte,reduceIte,Qa,Qh,Qb,Qc,Qd,Qe,Qf,Qg,reduceCtorEq, *] at hk
      by_cases hjt:j < r_rules[i].split.length
      ·rw [List.drop_eq_getElem_cons hjt,List.any_cons] at f2
       cases hw:nmOk r_rules[i].split[j].cluster with
       | false =>
        rw [hw,Bool.not_false,Bool.true_or] at f2
        rw [f2,Bool.true_or] at f20
        (repeat' (first
 | (with_reducible first|refine callX.by (sane01_c _) ?_|refine callX.by (host01_c _ ?_) ?_|refine callX.by (path01_c _) ?_|assumption|(refine Qw hK _ ?_; clear hK K)|refine Qw ‹_› _ ?_|refine Qx ‹_› ?_|refine Qi fun K hK=>?_|refine Qj T fun K hK=>?_|refine Ql fun A B hA hB=>?_|refine Qm ?_|refine Qn ?_|refine Qp ?_|refine Qr ?_)
 | ((with_reducible first|apply Qy|apply Qz|apply QA)<;>intro hb<;>try simp only [nr] at hb)
 | simp only [go_sem,↓reduceIte,reduceIte,Qa,Qh,Qb,Qc,Qd,Qe,Qf,Qg,reduceCtorEq, *,-hs,-f2,-f20]
 | with_reducible refine fun (bn:Bool) hbn=>?_))
        all_goals ((repeat clear hK); (repeat clear hA); (repeat clear hB))
        all_goals (rw [f20]; rfl)
       | true =>
        rw [hw,Bool.not_true,Bool.false_or] at f2
        (repeat' (first
 | (with_reducible first|refine callX.by (sane01_c _) ?_|refine callX.by (host01_c _ ?_) ?_|refine callX.by (path01_c _) ?_|assumption|(refine Qw hK _ ?_; clear hK K)|refine Qw ‹_› _ ?_|refine Qx ‹_› ?_|refine Qi fun K hK=>?_|refine Qj T fun K hK=>?_|refine Ql fun A B hA hB=>?_|refine Qm ?_|refine Qn ?_|refine Qp ?_|refine Qr ?_)
 | ((with_reducible first|apply Qy|apply Qz|apply QA)<;>intro hb<;>try simp only [nr] at hb)
 | simp only [go_sem,↓reduceIte,reduceIte,Qa,Qh,Qb,Qc,Qd,Qe,Qf,Qg,reduceCtorEq, *,-hs,-f2,-f20]
 | with_reducible refine fun (bn:Bool) hbn=>?_))
        all_goals ((repeat clear hK); (repeat clear hA); (repeat clear hB))
        (refine hM.on (r_rules[i].split.length - (j+1)) (by omega) (by simp only [go_sem,↓reduceIte,reduceIte,Qa,Qh,Qb,Qc,Qd,Qe,Qf,Qg,reduceCtorEq, *,w64_nat hjt p3,-hs,-f2,-f20]) ⟨j+1,rfl,by omega,f2,?_⟩; simp only [go_sem,↓reduceIte,reduceIte,Qa,Qh,Qb,Qc,Qd,Qe,Qf,Qg,reduceCtorEq, *,w64_nat hjt p3,-hs,-f2,-f20]; done)
      ·rw [List.drop_eq_nil_of_le (by omega),List.any_nil] at f2
       rw [f2,Bool.false_or] at f20
       clear f2
       (repeat' (first
 | (with_reducible first|refine callX.by (sane01_c _) ?_|refine callX.by (host01_c _ ?_) ?_|refine callX.by (path01_c _) ?_|assumption|(refine Qw hK _ ?_; clear hK K)|refine Qw ‹_› _ ?_|refine Qx ‹_› ?_|refine Qi fun K hK=>?_|refine Qj T fun K hK=>?_|refine Ql fun A B hA hB=>?_|refine Qm ?_|refine Qn ?_|refine Qp ?_|refine Qr ?_)
 | ((with_reducible first|apply Qy|apply Qz|apply QA)<;>intro hb<;>try simp only [nr] at hb)
 | simp only [go_sem,↓reduceIte,reduceIte,Qa,Qh,Qb,Qc,Qd,Qe,Qf,Qg,reduceCtorEq, *,-hs,-f20]
 | with_reducible refine fun (bn:Bool) hbn=>?_))
       all_goals ((repeat clear hK); (repeat clear hA); (repeat clear hB))
       all_goals (clear hM; revert hM1; intro hM)
       (refine hM.on (r_rules.length - (i+1)) (by omega) (by simp only [go_sem,↓reduceIte,reduceIte,Qa,Qh,Qb,Qc,Qd,Qe,Qf,Qg,reduceCtorEq, *,w64_nat hlt hl,-hs,-f20]) ⟨i+1,rfl,by omega,f20,?_⟩; simp only [go_sem,↓reduceIte,reduceIte,Qa,Qh,Qb,Qc,Qd,Qe,Qf,Qg,reduceCtorEq, *,w64_nat hlt hl,-hs,-f20]; done)
   ·rw [List.drop_eq_nil_of_le (by omega),List.any_nil] at f2
    (repeat' (first
 | (with_reducible first|refine callX.by (sane01_c _) ?_|refine callX.by (host01_c _ ?_) ?_|refine callX.by (path01_c _) ?_|assumption|(refine Qw hK _ ?_; clear hK K)|refine Qw ‹_› _ ?_|refine Qx ‹_› ?_|refine Qi fun K hK=>?_|refine Qj T fun K hK=>?_|refine Ql fun A B hA hB=>?_|refine Qm ?_|refine Qn ?_|refine Qp ?_|refine Qr ?_)
 | ((with_reducible first|apply Qy|apply Qz|apply QA)<;>intro hb<;>try simp only [nr] at hb)
 | simp only [go_sem,↓reduceIte,reduceIte,Qa,Qh,Qb,Qc,Qd,Qe,Qf,Qg,reduceCtorEq, *,-hs,-f2]
 | with_reducible refine fun (bn:Bool) hbn=>?_))
    all_goals ((repeat clear hK); (repeat clear hA); (repeat clear hB))
    all_goals (rw [f2]; rfl)
end Go.Proofs.YtmjkjmoeicnbnaaGreatDoor.Lg
