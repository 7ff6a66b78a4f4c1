/- Parts of the proof, one behind the other. -/
import Derived.Test.YtmjkjmoeicnbnaaGreatDoorG19
namespace Go.Proofs.YtmjkjmoeicnbnaaGreatDoor.Lg
set_option maxRecDepth 100000
set_option linter.unusedVariables false
set_option linter.unusedSimpArgs false
open Go
open Nat renaming reduceEqDiff → Qa, reduceLT → Qb, reduceLeDiff → Qc, reduceAdd → Qd, reduceMul → Qe, reduceSub → Qf, reduceBEq → Qg
open String renaming reduceEq → Qh
open SpecC renaming seqW → Qi, regW → Qj, drawW → Qk, condW → Ql, block → Qm, skip → Qn, exit → Qp, ret → Qr, loopF → Qs
open NxK renaming out → Qw
open Nx renaming out → Qx
open condK renaming split → Qy
open gK renaming split_t → Qz, split_f → QA
open CallR renaming go1 → QD
set_option maxHeartbeats 4000000 in
theorem ZA(r_kind:Int)(r_name:List UInt8)(r_ver:Int)(r_port:Int)(r_to:List UInt8)(r_rules:List Rule)(r_hosts:List Int)(hl:Jc r_rules.length)(hs:∀x∈r_rules,VB x)(hk:JH r_kind 3=true):CallR Tryz.prog 177 [.agg [.int .i64 r_kind,.str r_name,.int .i64 r_ver,.int .i64 r_port,.str r_to,.slice false (Ja r_rules),.slice false (Ja r_hosts)]] (.val (.bool (Zi (⟨r_kind,r_name,r_ver,r_port,r_to,r_rules,r_hosts⟩:Res)))):=by
 have hk4:r_kind=0∨r_kind=1∨r_kind=2∨r_kind=3:=by
  simp only[JH,Bool.and_eq_true,decide_eq_true_eq] at hk;omega
 clear hk
 have htm:(r_kind.tmod 2=0∧(decide (r_kind=0) || decide (r_kind=2))=true)∨(¬r_kind.tmod 2=0∧(decide (r_kind=0) || decide (r_kind=2))=false):=by
  rcases hk4 with rfl|rfl|rfl|rfl<;>decide
 clear hk4
 have e:Zi (⟨r_kind,r_name,r_ver,r_port,r_to,r_rules,r_hosts⟩:Res)=(!((decide (r_kind=0) || decide (r_kind=2)) && !JL r_to) && !(r_rules.any fun x=>!Yx x)):=rfl
 rw[e]
 clear e
 by_cases hto:r_kind.tmod 2=0∧JL r_to=false
 ·obtain⟨t1,t2⟩:=hto
  rcases htm with ⟨q1,q2⟩|⟨q1,q2⟩
  ·rw[q2,t2]
   clear q2
   refine QD (T:=T) Tryz.call177 Tryz.func177 rfl Tryz.ntmps177 (congrArg Array.toList Tryz.results177) (by decide) fun ts hn h0=>?_
   (repeat' (first
 | (with_reducible first|refine callX.by (Vd _) ?_|refine callX.by (ZV _ ?_) ?_|refine callX.by (Z4 _) ?_|assumption|(refine Qw hK _ ?_;clear hK K)|refine Qw ‹_› _ ?_|refine Qx ‹_› ?_|refine Qi fun K hK=>?_|refine Qj T fun K hK=>?_|refine Ql fun A B hA hB=>?_|refine Qm ?_|refine Qn ?_|refine Qp ?_|refine Qr ?_)
 | ((with_reducible first|apply Qy|apply Qz|apply QA)<;>intro hb<;>try simp only[nr] at hb)
 |simp only[go_sem,↓reduceIte,reduceIte,Qa,Qh,Qb,Qc,Qd,Qe,Qf,Qg,reduceCtorEq, *,-hs,Int.reduceEq]
 |with_reducible refine fun(bn:Bool) hbn=>?_))
  ·exact absurd t1 q1
 have e:(!((decide (r_kind=0) || decide (r_kind=2)) && !JL r_to))=true:=by
  rcases htm with ⟨q1,q2⟩|⟨q1,q2⟩
  ·have:JL r_to=true:=by simpa using fun h=>hto ⟨q1,h⟩
   rw[this];simp
  ·rw[q2];rfl
 rw[e,Bool.true_and]
 clear e
 have htm2:(r_kind.tmod 2=0∧JL r_to=true)∨¬r_kind.tmod 2=0:=by
  rcases htm with ⟨q1,q2⟩|⟨q1,q2⟩
  ·exact .inl ⟨q1,by simpa using fun h=>hto ⟨q1,h⟩⟩
  ·exact .inr q1
 clear htm hto
 refine QD (T:=T) Tryz.call177 Tryz.func177 rfl Tryz.ntmps177 (congrArg Array.toList Tryz.results177) (by decide) fun ts hn h0=>?_
 rcases htm2 with ⟨q1,q2⟩|q1
 all_goals
  (repeat' (first
 | (with_reducible first|refine callX.by (Vd _) ?_|refine callX.by (ZV _ ?_) ?_|refine callX.by (Z4 _) ?_|assumption|(refine Qw hK _ ?_;clear hK K)|refine Qw ‹_› _ ?_|refine Qx ‹_› ?_|refine Qi fun K hK=>?_|refine Qj T fun K hK=>?_|refine Ql fun A B hA hB=>?_|refine Qm ?_|refine Qn ?_|refine Qp ?_|refine Qr ?_)
 | ((with_reducible first|apply Qy|apply Qz|apply QA)<;>intro hb<;>try simp only[nr] at hb)
 |simp only[go_sem,↓reduceIte,reduceIte,Qa,Qh,Qb,Qc,Qd,Qe,Qf,Qg,reduceCtorEq, *,-hs,Int.reduceEq]
 |with_reducible refine fun(bn:Bool) hbn=>?_))
  refine Qs [1] (fun m ts'=>∃(i:Nat),m=r_rules.length-i∧i≤r_rules.length∧(r_rules.any fun x=>!Yx x)=((r_rules.drop i).any fun x=>!Yx x)∧ts'.tmp 3=.int .i64 i) r_rules.length ?_ ?_
  ·refine⟨0,rfl,Nat.zero_le _,rfl,?_⟩
   simp only[go_sem,↓reduceIte,reduceIte,Qa,Qh,Qb,Qc,Qd,Qe,Qf,Qg,reduceCtorEq, *,-hs]
  ·rintro m A hM ts' hk ⟨i,hm,f1,f2,s1⟩
   simp only[go_sem,↓reduceIte,reduceIte,Qa,Qh,Qb,Qc,Qd,Qe,Qf,Qg,reduceCtorEq, *] at hk
   by_cases hlt:i<r_rules.length
   ·rw[List.drop_eq_getElem_cons hlt,List.any_cons] at f2
    obtain⟨p1,p2,p3,_⟩:=hs _ (List.getElem_mem hlt)
    cases hh:YU r_rules[i].host && V6 r_rules[i].pfx with
    |false =>
     have hro:Yx r_rules[i]=false:=by unfold Yx;rw[←Bool.and_assoc,hh];rfl
     rw[hro,Bool.not_false,Bool.true_or] at f2
     have hh2:YU r_rules[i].host=false∨(YU r_rules[i].host=true∧V6 r_rules[i].pfx=false):=by
      cases hx:YU r_rules[i].host
      ·exact .inl rfl
      ·rw[hx,Bool.true_and] at hh;exact .inr ⟨rfl,hh⟩
     clear hh hro
     rcases hh2 with x1|⟨x1,x2⟩
     ·(repeat' (first
 | (with_reducible first|refine callX.by (Vd _) ?_|refine callX.by (ZV _ ?_) ?_|refine callX.by (Z4 _) ?_|assumption|(refine Qw hK _ ?_;clear hK K)|refine Qw ‹_› _ ?_|refine Qx ‹_› ?_|refine Qi fun K hK=>?_|refine Qj T fun K hK=>?_|refine Ql fun A B hA hB=>?_|refine Qm ?_|refine Qn ?_|refine Qp ?_|refine Qr ?_)
 | ((with_reducible first|apply Qy|apply Qz|apply QA)<;>intro hb<;>try simp only[nr] at hb)
 |simp only[go_sem,↓reduceIte,reduceIte,Qa,Qh,Qb,Qc,Qd,Qe,Qf,Qg,reduceCtorEq, *,-hs,-f2]
 |with_reducible refine fun(bn:Bool) hbn=>?_))
      all_goals ((repeat clear hK);(repeat clear hA);(repeat clear hB))
      all_goals (rw[f2];rfl)
     ·(repeat' (first
 | (with_reducible first|refine callX.by (Vd _) ?_|refine callX.by (ZV _ ?_) ?_|refine callX.by (Z4 _) ?_|assumption|(refine Qw hK _ ?_;clear hK K)|refine Qw ‹_› _ ?_|refine Qx ‹_› ?_|refine Qi fun K hK=>?_|refine Qj T fun K hK=>?_|refine Ql fun A B hA hB=>?_|refine Qm ?_|refine Qn ?_|refine Qp ?_|refine Qr ?_)
 | ((with_reducible first|apply Qy|apply Qz|apply QA)<;>intro hb<;>try simp only[nr] at hb)
 |simp only[go_sem,↓reduceIte,reduceIte,Qa,Qh,Qb,Qc,Qd,Qe,Qf,Qg,reduceCtorEq, *,-hs,-f2]
 |with_reducible refine fun(bn:Bool) hbn=>?_))
      all_goals ((repeat clear hK);(repeat clear hA);(repeat clear hB))
      all_goals (rw[f2];rfl)
    |true =>
     have hro:Yx r_rules[i]=!(r_rules[i].split.any fun w=>!JL w.cluster):=by unfold Yx;rw[←Bool.and_assoc,hh,Bool.true_and]
     rw[hro,Bool.not_not] at f2
     rw[Bool.and_eq_true] at hh
     obtain⟨x1,x2⟩:=hh
     clear hro
     (repeat' (first
 | (with_reducible first|refine callX.by (Vd _) ?_|refine callX.by (ZV _ ?_) ?_|refine callX.by (Z4 _) ?_|assumption|(refine Qw hK _ ?_;clear hK K)|refine Qw ‹_› _ ?_|refine Qx ‹_› ?_|refine Qi fun K hK=>?_|refine Qj T fun K hK=>?_|refine Ql fun A B hA hB=>?_|refine Qm ?_|refine Qn ?_|refine Qp ?_|refine Qr ?_)
 | ((with_reducible first|apply Qy|apply Qz|apply QA)<;>intro hb<;>try simp only[nr] at hb)
 |simp only[go_sem,↓reduceIte,reduceIte,Qa,Qh,Qb,Qc,Qd,Qe,Qf,Qg,reduceCtorEq, *,-hs,-f2]
 |with_reducible refine fun(bn:Bool) hbn=>?_))
     refine Qs [1,3] (fun m ts'=>∃(j:Nat),m=r_rules[i].split.length-j∧j≤r_rules[i].split.length∧(r_rules[i].split.any fun w=>!JL w.cluster)=((r_rules[i].split.drop j).any fun w=>!JL w.cluster)∧ts'.tmp 4=.int .i64 j) r_rules[i].split.length ?_ ?_
     ·refine⟨0,rfl,Nat.zero_le _,rfl,?_⟩
      simp only[go_sem,↓reduceIte,reduceIte,Qa,Qh,Qb,Qc,Qd,Qe,Qf,Qg,reduceCtorEq, *,-hs,-f2]
     ·revert hM f2
      intro hM1 f20
      rintro m A hM ts' hk ⟨j,hm,f1,f2,s1⟩
      simp only[go_sem,↓reduceIte,reduceIte,Qa,Qh,Qb,Qc,Qd,Qe,Qf,Qg,reduceCtorEq, *] at hk
      by_cases hjt:j<r_rules[i].split.length
      ·rw[List.drop_eq_getElem_cons hjt,List.any_cons] at f2
       cases hw:JL r_rules[i].split[j].cluster with
       |false =>
        rw[hw,Bool.not_false,Bool.true_or] at f2
        rw[f2,Bool.true_or] at f20
        (repeat' (first
 | (with_reducible first|refine callX.by (Vd _) ?_|refine callX.by (ZV _ ?_) ?_|refine callX.by (Z4 _) ?_|assumption|(refine Qw hK _ ?_;clear hK K)|refine Qw ‹_› _ ?_|refine Qx ‹_› ?_|refine Qi fun K hK=>?_|refine Qj T fun K hK=>?_|refine Ql fun A B hA hB=>?_|refine Qm ?_|refine Qn ?_|refine Qp ?_|refine Qr ?_)
 | ((with_reducible first|apply Qy|apply Qz|apply QA)<;>intro hb<;>try simp only[nr] at hb)
 |simp only[go_sem,↓reduceIte,reduceIte,Qa,Qh,Qb,Qc,Qd,Qe,Qf,Qg,reduceCtorEq, *,-hs,-f2,-f20]
 |with_reducible refine fun(bn:Bool) hbn=>?_))
        all_goals ((repeat clear hK);(repeat clear hA);(repeat clear hB))
        all_goals (rw[f20];rfl)
       |true =>
        rw[hw,Bool.not_true,Bool.false_or] at f2
        (repeat' (first
 | (with_reducible first|refine callX.by (Vd _) ?_|refine callX.by (ZV _ ?_) ?_|refine callX.by (Z4 _) ?_|assumption|(refine Qw hK _ ?_;clear hK K)|refine Qw ‹_› _ ?_|refine Qx ‹_› ?_|refine Qi fun K hK=>?_|refine Qj T fun K hK=>?_|refine Ql fun A B hA hB=>?_|refine Qm ?_|refine Qn ?_|refine Qp ?_|refine Qr ?_)
 | ((with_reducible first|apply Qy|apply Qz|apply QA)<;>intro hb<;>try simp only[nr] at hb)
 |simp only[go_sem,↓reduceIte,reduceIte,Qa,Qh,Qb,Qc,Qd,Qe,Qf,Qg,reduceCtorEq, *,-hs,-f2,-f20]
 |with_reducible refine fun(bn:Bool) hbn=>?_))
        all_goals ((repeat clear hK);(repeat clear hA);(repeat clear hB))
        (refine hM.on (r_rules[i].split.length-(j+1)) (by omega) (by simp only[go_sem,↓reduceIte,reduceIte,Qa,Qh,Qb,Qc,Qd,Qe,Qf,Qg,reduceCtorEq, *,Jd hjt p3,-hs,-f2,-f20]) ⟨j+1,rfl,by omega,f2,?_⟩;simp only[go_sem,↓reduceIte,reduceIte,Qa,Qh,Qb,Qc,Qd,Qe,Qf,Qg,reduceCtorEq, *,Jd hjt p3,-hs,-f2,-f20];done)
      ·rw[List.drop_eq_nil_of_le (by omega),List.any_nil] at f2
       rw[f2,Bool.false_or] at f20
       clear f2
       (repeat' (first
 | (with_reducible first|refine callX.by (Vd _) ?_|refine callX.by (ZV _ ?_) ?_|refine callX.by (Z4 _) ?_|assumption|(refine Qw hK _ ?_;clear hK K)|refine Qw ‹_› _ ?_|refine Qx ‹_› ?_|refine Qi fun K hK=>?_|refine Qj T fun K hK=>?_|refine Ql fun A B hA hB=>?_|refine Qm ?_|refine Qn ?_|refine Qp ?_|refine Qr ?_)
 | ((with_reducible first|apply Qy|apply Qz|apply QA)<;>intro hb<;>try simp only[nr] at hb)
 |simp only[go_sem,↓reduceIte,reduceIte,Qa,Qh,Qb,Qc,Qd,Qe,Qf,Qg,reduceCtorEq, *,-hs,-f20]
 |with_reducible refine fun(bn:Bool) hbn=>?_))
       all_goals ((repeat clear hK);(repeat clear hA);(repeat clear hB))
       all_goals (clear hM;revert hM1;intro hM)
       (refine hM.on (r_rules.length-(i+1)) (by omega) (by simp only[go_sem,↓reduceIte,reduceIte,Qa,Qh,Qb,Qc,Qd,Qe,Qf,Qg,reduceCtorEq, *,Jd hlt hl,-hs,-f20]) ⟨i+1,rfl,by omega,f20,?_⟩;simp only[go_sem,↓reduceIte,reduceIte,Qa,Qh,Qb,Qc,Qd,Qe,Qf,Qg,reduceCtorEq, *,Jd hlt hl,-hs,-f20];done)
   ·rw[List.drop_eq_nil_of_le (by omega),List.any_nil] at f2
    (repeat' (first
 | (with_reducible first|refine callX.by (Vd _) ?_|refine callX.by (ZV _ ?_) ?_|refine callX.by (Z4 _) ?_|assumption|(refine Qw hK _ ?_;clear hK K)|refine Qw ‹_› _ ?_|refine Qx ‹_› ?_|refine Qi fun K hK=>?_|refine Qj T fun K hK=>?_|refine Ql fun A B hA hB=>?_|refine Qm ?_|refine Qn ?_|refine Qp ?_|refine Qr ?_)
 | ((with_reducible first|apply Qy|apply Qz|apply QA)<;>intro hb<;>try simp only[nr] at hb)
 |simp only[go_sem,↓reduceIte,reduceIte,Qa,Qh,Qb,Qc,Qd,Qe,Qf,Qg,reduceCtorEq, *,-hs,-f2]
 |with_reducible refine fun(bn:Bool) hbn=>?_))
    all_goals ((repeat clear hK);(repeat clear hA);(repeat clear hB))
    all_goals (rw[f2];rfl)
@[go_sem] def V9:List (List Nat×List Nat):=[([46],[48,50,51,52,53,54,55,56,57,58,59,60,61,62,63,64,65,66,67,68,69,70,71,72,73]),([47],[48,51,52,53,54,55,56,57,58,59,60,61,62,63,64,65,66,67,68,69,70,71,72,73]),([48],[46,47,51,52,53,54,55,56,57,58,59,60,61,62,63,64,65,66,67,68,69,70,71,72,73]),([49],[52,53,54,55,56,57,58,59,60,61,62,63,64,65,66,67,68,69,70,71,72,73]),([50],[46,52,53,54,55,56,57,59,60,61,62,63,64,65,66,67,68,69,70,71,72,73]),([51],[46,47,48,52,53,54,55,56,57,60,61,62,63,64,65,66,67,68,69,70,71,72,73]),([52],[46,47,48,49,50,51,54,56,57,58,59,60,61,62,63,64,65,66,67,68,69,70,71,72,73]),([53],[46,47,48,49,50,51,54,57,58,59,60,61,62,63,64,65,66,67,68,69,70,71,72,73]),([54],[46,47,48,49,50,51,52,53,57,58,59,60,61,62,63,64,65,66,67,68,69,70,71,72,73]),([55],[46,47,48,49,50,51,58,59,60,61,62,63,64,65,66,67,68,69,70,71,72,73]),([56],[46,47,48,49,50,51,52,59,60,61,62,63,64,65,66,67,68,69,70,71,72,73]),([57],[46,47,48,49,50,51,52,53,54,60,61,62,63,64,65,66,67,68,69,70,71,72,73]),([58],[46,47,48,49,52,53,54,55]),([59],[46,47,48,49,50,52,53,54,55,56]),([60],[46,47,48,49,50,51,52,53,54,55,56,57,62,64,65,66,67,68,69,70,71,72,73]),([61],[46,47,48,49,50,51,52,53,54,55,56,57,62,65,66,67,68,69,70,71,72,73]),([62],[46,47,48,49,50,51,52,53,54,55,56,57,60,61,65,66,67,68,69,70,71,72,73]),([63],[46,47,48,49,50,51,52,53,54,55,56,57,66,67,68,69,70,71,72,73]),([64],[46,47,48,49,50,51,52,53,54,55,56,57,60,66,67,68,69,70,71,73]),([65],[46,47,48,49,50,51,52,53,54,55,56,57,60,61,62,66,67,68,69,70,71]),([66],[46,47,48,49,50,51,52,53,54,55,56,57,60,61,62,63,64,65,68,70,71,72,73]),([67],[46,47,48,49,50,51,52,53,54,55,56,57,60,61,62,63,64,65,68,71,72,73]),([68],[46,47,48,49,50,51,52,53,54,55,56,57,60,61,62,63,64,65,66,67,71,72,73]),([69],[46,47,48,49,50,51,52,53,54,55,56,57,60,61,62,63,64,65,72,73]),([70],[46,47,48,49,50,51,52,53,54,55,56,57,60,61,62,63,64,65,66,73]),([71],[46,47,48,49,50,51,52,53,54,55,56,57,60,61,62,63,64,65,66,67,68]),([72],[46,47,48,49,50,51,52,53,54,55,56,57,60,61,62,63,66,67,68,69]),([73],[46,47,48,49,50,51,52,53,54,55,56,57,60,61,62,63,64,66,67,68,69,70])]
@[go_sem] def Ya:List (List Nat×List Nat):=[([86],[88,90,91,92,93,94,95]),([87],[88,91,92,93,94,95]),([88],[86,87,91,92,93,94,95]),([89],[91,92,93,94,95]),([90],[86,91,92,93,94,95]),([91],[86,87,88,89,90,93,95]),([92],[86,87,88,89,90,93]),([93],[86,87,88,89,90,91,92]),([94],[86,87,88,89,90]),([95],[86,87,88,89,90,91])]
def sW(l:List Weight):Int:=(l.map (·.w)).sum
theorem Jie(y:Weight)(l:List Weight):sW (y :: l)=y.w+sW l:=by simp[sW]
theorem Jfd:∀l:List Weight,(l.any fun w=>!JH w.w 100)=false→(0≤sW l∧sW l≤100*l.length)∧(decide (sW l=0)=!(l.any fun w=>decide (0<w.w)))
 | [],_=>by simp[sW]
 |y :: l,h=>by
  rw[List.any_cons,Bool.or_eq_false_iff] at h
  obtain⟨h1,h2⟩:=h
  have hy:=Ja9 (show JH y.w 100=true by simpa using h1)
  obtain⟨⟨a1,a2⟩,a3⟩:=Jfd l h2
  rw[Jie,List.any_cons,List.length_cons]
  refine⟨by omega,?_⟩
  by_cases hp:0<y.w
  ·rw[decide_eq_true hp,decide_eq_false (by omega)];rfl
  ·have:y.w=0:=by omega
   rw[decide_eq_false hp,Bool.false_or,←a3,this,Int.zero_add]
theorem Jik{r:Res}(h:Vj r=true){x:Rule}(hx:x∈r.rules'):x.split.length≤4∧(x.split.any fun w=>!JH w.w 100)=false:=by
 simp only[Vj,Bool.and_eq_true] at h
 have:=List.all_eq_true.1 h.2.2.2.2.2 x hx
 simp only[Ym,Bool.and_eq_true,decide_eq_true_eq] at this
 exact⟨this.1,by simpa using this.2⟩
theorem Jio{α:Type}{l:List α}{i k:Nat}(hk:k<(l.take i).length)(hi:i≤l.length):∃h:k<l.length,(l.take i)[k]=l[k]:=by
 have:k<l.length:=by rw[List.length_take] at hk;omega
 exact⟨this,by simp⟩
set_option maxHeartbeats 8000000 in
theorem ZJ(r_kind:Int)(r_name:List UInt8)(r_ver:Int)(r_port:Int)(r_to:List UInt8)(r_rules:List Rule)(r_hosts:List Int)(hl:Jc r_rules.length)(hh:Jc r_hosts.length)(hsm:Vj (⟨r_kind,r_name,r_ver,r_port,r_to,r_rules,r_hosts⟩:Res)=true):CallR Tryz.prog 178 [.agg [.int .i64 r_kind,.str r_name,.int .i64 r_ver,.int .i64 r_port,.str r_to,.slice false (Ja r_rules),.slice false (Ja r_hosts)]] (.val (.bool (!Zr (⟨r_kind,r_name,r_ver,r_port,r_to,r_rules,r_hosts⟩:Res)))):=by
 have hrs:∀x∈r_rules,x.split.length≤4∧(x.split.any fun w=>!JH w.w 100)=false:=fun x hx=>Jik hsm hx
 clear hsm
 rw[show Zr (⟨r_kind,r_name,r_ver,r_port,r_to,r_rules,r_hosts⟩:Res)=(Zt [] r_rules && Zs [] r_hosts) from rfl]
 refine QD (T:=T) Tryz.call178 Tryz.func178 rfl Tryz.ntmps178 (congrArg Array.toList Tryz.results178) (by decide) fun ts hn h0=>?_
 (repeat' (first
 | (with_reducible first|assumption|(refine Qw hK _ ?_;clear hK K)|refine Qw ‹_› _ ?_|refine Qx ‹_› ?_|refine Qi fun K hK=>?_|refine Qj T fun K hK=>?_|refine Qk (id:=14) T mixed V9 (by kernel_rfl) fun K hK=>?_|refine Qk (id:=22) T mixed Ya (by kernel_rfl) fun K hK=>?_|refine Ql fun A B hA hB=>?_|refine Qm ?_|refine Qn ?_|refine Qp ?_|refine Qr ?_)
 | ((with_reducible first|apply Qy|apply Qz|apply QA)<;>intro hb<;>try simp only[nr] at hb)
 |simp only[go_sem,↓reduceIte,reduceIte,Qa,Qh,Qb,Qc,Qd,Qe,Qf,Qg,reduceCtorEq, *,-hrs]
 |with_reducible refine fun(bn:Bool) hbn=>?_))
 refine Qs [1] (fun m ts'=>∃(i:Nat),m=r_rules.length-i∧i≤r_rules.length∧Zt [] r_rules=Zt (r_rules.take i) (r_rules.drop i)∧ts'.tmp 3=.int .i64 i) r_rules.length ?_ ?_
 ·refine⟨0,rfl,Nat.zero_le _,rfl,?_⟩
  simp only[go_sem,↓reduceIte,reduceIte,Qa,Qh,Qb,Qc,Qd,Qe,Qf,Qg,reduceCtorEq, *,-hrs]
 ·rintro m A hM ts' hk ⟨i,hm,f1,f2,s1⟩
  simp only[go_sem,↓reduceIte,reduceIte,Qa,Qh,Qb,Qc,Qd,Qe,Qf,Qg,reduceCtorEq, *] at hk
  by_cases hlt:i<r_rules.length
  ·have f1o:=f1
   rw[List.drop_eq_getElem_cons hlt,Zt] at f2
   obtain⟨z1,z2⟩:=hrs _ (List.getElem_mem hlt)
   obtain⟨⟨a1,a2⟩,a3⟩:=Jfd _ z2
   have hsp:Jc r_rules[i].split.length:=by unfold Jc;omega
   rw[JdO hlt] at f2
   (repeat' (first
 | (with_reducible first|assumption|(refine Qw hK _ ?_;clear hK K)|refine Qw ‹_› _ ?_|refine Qx ‹_› ?_|refine Qi fun K hK=>?_|refine Qj T fun K hK=>?_|refine Qk (id:=14) T mixed V9 (by kernel_rfl) fun K hK=>?_|refine Qk (id:=22) T mixed Ya (by kernel_rfl) fun K hK=>?_|refine Ql fun A B hA hB=>?_|refine Qm ?_|refine Qn ?_|refine Qp ?_|refine Qr ?_)
 | ((with_reducible first|apply Qy|apply Qz|apply QA)<;>intro hb<;>try simp only[nr] at hb)
 |simp only[go_sem,↓reduceIte,reduceIte,Qa,Qh,Qb,Qc,Qd,Qe,Qf,Qg,reduceCtorEq, *,-hrs,-f2,-z2,-a3,-a2,-a1]
 |with_reducible refine fun(bn:Bool) hbn=>?_))
   refine Qs [1,3] (fun m ts'=>∃(j:Nat),∃(n:Int),m=r_rules[i].split.length-j∧j≤r_rules[i].split.length∧sW r_rules[i].split=n+sW (r_rules[i].split.drop j)∧0≤n∧((r_rules[i].split.drop j).any fun w=>!JH w.w 100)=false∧ts'.tmp 4=.int .i64 n∧ts'.tmp 5=.int .i64 j) r_rules[i].split.length ?_ ?_
   ·refine⟨0,0,rfl,Nat.zero_le _,by simp,by omega,z2,?_⟩
    simp only[go_sem,↓reduceIte,reduceIte,Qa,Qh,Qb,Qc,Qd,Qe,Qf,Qg,reduceCtorEq, *,-hrs,-f2,-z2,-a3,-a2,-a1]
   ·revert hM f2
    intro hM1 f20
    rintro m A hM ts' hk ⟨j,n,hm,f1,f2,f3,f4,s1,s2⟩
    simp only[go_sem,↓reduceIte,reduceIte,Qa,Qh,Qb,Qc,Qd,Qe,Qf,Qg,reduceCtorEq, *] at hk
    by_cases hjt:j<r_rules[i].split.length
    ·rw[List.drop_eq_getElem_cons hjt,Jie] at f2
     rw[List.drop_eq_getElem_cons hjt,List.any_cons,Bool.or_eq_false_iff] at f4
     obtain⟨u1,u2⟩:=f4
     have hy:=Ja9 (show JH r_rules[i].split[j].w 100=true by simpa using u1)
     obtain⟨⟨v1,v2⟩,_⟩:=Jfd _ u2
     have hw:IntKind.i64.wrap (n+r_rules[i].split[j].w)=n+r_rules[i].split[j].w:=IntWalk.i64_in _ (by omega)
     obtain⟨y1,y2⟩:=hy
     clear u1
     (repeat' (first
 | (with_reducible first|assumption|(refine Qw hK _ ?_;clear hK K)|refine Qw ‹_› _ ?_|refine Qx ‹_› ?_|refine Qi fun K hK=>?_|refine Qj T fun K hK=>?_|refine Qk (id:=14) T mixed V9 (by kernel_rfl) fun K hK=>?_|refine Qk (id:=22) T mixed Ya (by kernel_rfl) fun K hK=>?_|refine Ql fun A B hA hB=>?_|refine Qm ?_|refine Qn ?_|refine Qp ?_|refine Qr ?_)
 | ((with_reducible first|apply Qy|apply Qz|apply QA)<;>intro hb<;>try simp only[nr] at hb)
 |simp only[go_sem,↓reduceIte,reduceIte,Qa,Qh,Qb,Qc,Qd,Qe,Qf,Qg,reduceCtorEq, *,-hrs,-f20,-f2,-z2,-a3,-a2,-a1,-u2,-v1,-v2,-y1,-y2]
 |with_reducible refine fun(bn:Bool) hbn=>?_))
     all_goals ((repeat clear hK);(repeat clear hA);(repeat clear hB))
     (refine hM.on (r_rules[i].split.length-(j+1)) (by omega) (by simp only[go_sem,↓reduceIte,reduceIte,Qa,Qh,Qb,Qc,Qd,Qe,Qf,Qg,reduceCtorEq, *,Jd hjt hsp,-hrs,-f20,-f2,-z2,-a3,-a2,-a1,-u2,-v1,-v2,-y1,-y2]) ⟨j+1,n+r_rules[i].split[j].w,rfl,by omega,by omega,by omega,u2,?_⟩;simp only[go_sem,↓reduceIte,reduceIte,Qa,Qh,Qb,Qc,Qd,Qe,Qf,Qg,reduceCtorEq, *,Jd hjt hsp,-hrs,-f20,-f2,-z2,-a3,-a2,-a1,-u2,-v1,-v2,-y1,-y2];done)
    ·rw[List.drop_eq_nil_of_le (by omega)] at f2
     have hn:n=sW r_rules[i].split:=by rw[f2];simp[sW]
     subst hn
     clear f2 f3 f4
     cases hwe:Jfq r_rules[i] with
     |false =>
      rw[hwe,Bool.false_and] at f20
      have h0:sW r_rules[i].split=0:=by
       have:(r_rules[i].split.any fun w=>decide (0<w.w))=false:=hwe
       rw[this] at a3
       exact of_decide_eq_true a3
      (repeat' (first
 | (with_reducible first|assumption|(refine Qw hK _ ?_;clear hK K)|refine Qw ‹_› _ ?_|refine Qx ‹_› ?_|refine Qi fun K hK=>?_|refine Qj T fun K hK=>?_|refine Qk (id:=14) T mixed V9 (by kernel_rfl) fun K hK=>?_|refine Qk (id:=22) T mixed Ya (by kernel_rfl) fun K hK=>?_|refine Ql fun A B hA hB=>?_|refine Qm ?_|refine Qn ?_|refine Qp ?_|refine Qr ?_)
 | ((with_reducible first|apply Qy|apply Qz|apply QA)<;>intro hb<;>try simp only[nr] at hb)
 |simp only[go_sem,↓reduceIte,reduceIte,Qa,Qh,Qb,Qc,Qd,Qe,Qf,Qg,reduceCtorEq, *,-hrs,-f20,-z2,-a3,-a2,-a1]
 |with_reducible refine fun(bn:Bool) hbn=>?_))
      all_goals ((repeat clear hK);(repeat clear hA);(repeat clear hB))
      all_goals (rw[f20];rfl)
     |true =>
      rw[hwe,Bool.true_and] at f20
      have h0:¬sW r_rules[i].split=0:=by
       have:(r_rules[i].split.any fun w=>decide (0<w.w))=true:=hwe
       rw[this] at a3
       exact of_decide_eq_false a3
      (repeat' (first
 | (with_reducible first|assumption|(refine Qw hK _ ?_;clear hK K)|refine Qw ‹_› _ ?_|refine Qx ‹_› ?_|refine Qi fun K hK=>?_|refine Qj T fun K hK=>?_|refine Qk (id:=14) T mixed V9 (by kernel_rfl) fun K hK=>?_|refine Qk (id:=22) T mixed Ya (by kernel_rfl) fun K hK=>?_|refine Ql fun A B hA hB=>?_|refine Qm ?_|refine Qn ?_|refine Qp ?_|refine Qr ?_)
 | ((with_reducible first|apply Qy|apply Qz|apply QA)<;>intro hb<;>try simp only[nr] at hb)
 |simp only[go_sem,↓reduceIte,reduceIte,Qa,Qh,Qb,Qc,Qd,Qe,Qf,Qg,reduceCtorEq, *,-hrs,-f20,-z2,-a3,-a2,-a1]
 |with_reducible refine fun(bn:Bool) hbn=>?_))
      clear a1 a2 a3 z2 h0 hjt
      have hpl:(r_rules.take i).length=i:=by rw[List.length_take];omega
      refine Qs [1,3] (fun m ts'=>∃(k:Nat),m=i-k∧k≤i∧(r_rules.take i).any (Jao r_rules[i])=((r_rules.take i).drop k).any (Jao r_rules[i])∧ts'.tmp 6=.int .i64 k) i ?_ ?_
      ·refine⟨0,rfl,Nat.zero_le _,rfl,?_⟩
       simp only[go_sem,↓reduceIte,reduceIte,Qa,Qh,Qb,Qc,Qd,Qe,Qf,Qg,reduceCtorEq, *,-hrs,-f20,-hpl]
      ·clear hM
       rintro m A hM ts' hk ⟨k,hm,f1,f2,s1⟩
       simp only[go_sem,↓reduceIte,reduceIte,Qa,Qh,Qb,Qc,Qd,Qe,Qf,Qg,reduceCtorEq, *] at hk
       by_cases hkt:k<i
       ·have hkp:k<(r_rules.take i).length:=by omega
        obtain⟨hkr,hke⟩:=Jio hkp f1o
        rw[List.drop_eq_getElem_cons hkp,List.any_cons,hke] at f2
        clear hke
        by_cases e12:r_rules[i].host=r_rules[k].host∧r_rules[i].pfx=r_rules[k].pfx
        ·obtain⟨e1,e2⟩:=e12
         have hdu:Jao r_rules[i] r_rules[k]=true:=by unfold Jao;rw[decide_eq_true e1,decide_eq_true e2];rfl
         rw[hdu,Bool.true_or] at f2
         rw[f2,Bool.not_true,Bool.false_and] at f20
         clear hdu
         (repeat' (first
 | (with_reducible first|assumption|(refine Qw hK _ ?_;clear hK K)|refine Qw ‹_› _ ?_|refine Qx ‹_› ?_|refine Qi fun K hK=>?_|refine Qj T fun K hK=>?_|refine Qk (id:=14) T mixed V9 (by kernel_rfl) fun K hK=>?_|refine Qk (id:=22) T mixed Ya (by kernel_rfl) fun K hK=>?_|refine Ql fun A B hA hB=>?_|refine Qm ?_|refine Qn ?_|refine Qp ?_|refine Qr ?_)
 | ((with_reducible first|apply Qy|apply Qz|apply QA)<;>intro hb<;>try simp only[nr] at hb)
 |simp only[go_sem,↓reduceIte,reduceIte,Qa,Qh,Qb,Qc,Qd,Qe,Qf,Qg,reduceCtorEq, *,-hrs,-f20,-f2,-hpl]
 |with_reducible refine fun(bn:Bool) hbn=>?_))
         all_goals ((repeat clear hK);(repeat clear hA);(repeat clear hB))
         all_goals (rw[f20];rfl)
        ·have hdu:Jao r_rules[i] r_rules[k]=false:=by
          unfold Jao
          by_cases e1:r_rules[i].host=r_rules[k].host
          ·rw[decide_eq_true e1,decide_eq_false fun e2=>e12 ⟨e1,e2⟩];rfl
          ·rw[decide_eq_false e1];rfl
         rw[hdu,Bool.false_or] at f2
         clear hdu
         have e3:¬r_rules[i].host=r_rules[k].host∨(r_rules[i].host=r_rules[k].host∧¬r_rules[i].pfx=r_rules[k].pfx):=by
          by_cases e1:r_rules[i].host=r_rules[k].host
          ·exact .inr ⟨e1,fun e2=>e12 ⟨e1,e2⟩⟩
          ·exact .inl e1
         clear e12
         have hkw:=Jd hkr hl
         rcases e3 with e1|⟨e1,e2⟩
         ·(repeat' (first
 | (with_reducible first|assumption|(refine Qw hK _ ?_;clear hK K)|refine Qw ‹_› _ ?_|refine Qx ‹_› ?_|refine Qi fun K hK=>?_|refine Qj T fun K hK=>?_|refine Qk (id:=14) T mixed V9 (by kernel_rfl) fun K hK=>?_|refine Qk (id:=22) T mixed Ya (by kernel_rfl) fun K hK=>?_|refine Ql fun A B hA hB=>?_|refine Qm ?_|refine Qn ?_|refine Qp ?_|refine Qr ?_)
 | ((with_reducible first|apply Qy|apply Qz|apply QA)<;>intro hb<;>try simp only[nr] at hb)
 |simp only[go_sem,↓reduceIte,reduceIte,Qa,Qh,Qb,Qc,Qd,Qe,Qf,Qg,reduceCtorEq, *,-hrs,-f20,-f2,-hpl]
 |with_reducible refine fun(bn:Bool) hbn=>?_))
          all_goals ((repeat clear hK);(repeat clear hA);(repeat clear hB))
          (refine hM.on (i-(k+1)) (by omega) (by simp only[go_sem,↓reduceIte,reduceIte,Qa,Qh,Qb,Qc,Qd,Qe,Qf,Qg,reduceCtorEq, *,-hrs,-f20,-f2,-hpl]) ⟨k+1,rfl,by omega,f2,?_⟩;simp only[go_sem,↓reduceIte,reduceIte,Qa,Qh,Qb,Qc,Qd,Qe,Qf,Qg,reduceCtorEq, *,-hrs,-f20,-f2,-hpl];done)
         ·(repeat' (first
 | (with_reducible first|assumption|(refine Qw hK _ ?_;clear hK K)|refine Qw ‹_› _ ?_|refine Qx ‹_› ?_|refine Qi fun K hK=>?_|refine Qj T fun K hK=>?_|refine Qk (id:=14) T mixed V9 (by kernel_rfl) fun K hK=>?_|refine Qk (id:=22) T mixed Ya (by kernel_rfl) fun K hK=>?_|refine Ql fun A B hA hB=>?_|refine Qm ?_|refine Qn ?_|refine Qp ?_|refine Qr ?_)
 | ((with_reducible first|apply Qy|apply Qz|apply QA)<;>intro hb<;>try simp only[nr] at hb)
 |simp only[go_sem,↓reduceIte,reduceIte,Qa,Qh,Qb,Qc,Qd,Qe,Qf,Qg,reduceCtorEq, *,-hrs,-f20,-f2,-hpl]
 |with_reducible refine fun(bn:Bool) hbn=>?_))
          all_goals ((repeat clear hK);(repeat clear hA);(repeat clear hB))
          (refine hM.on (i-(k+1)) (by omega) (by simp only[go_sem,↓reduceIte,reduceIte,Qa,Qh,Qb,Qc,Qd,Qe,Qf,Qg,reduceCtorEq, *,-hrs,-f20,-f2,-hpl]) ⟨k+1,rfl,by omega,f2,?_⟩;simp only[go_sem,↓reduceIte,reduceIte,Qa,Qh,Qb,Qc,Qd,Qe,Qf,Qg,reduceCtorEq, *,-hrs,-f20,-f2,-hpl];done)
       ·rw[List.drop_eq_nil_of_le (by omega),List.any_nil] at f2
        rw[f2,Bool.not_false,Bool.true_and] at f20
        clear f2
        (repeat' (first
 | (with_reducible first|assumption|(refine Qw hK _ ?_;clear hK K)|refine Qw ‹_› _ ?_|refine Qx ‹_› ?_|refine Qi fun K hK=>?_|refine Qj T fun K hK=>?_|refine Qk (id:=14) T mixed V9 (by kernel_rfl) fun K hK=>?_|refine Qk (id:=22) T mixed Ya (by kernel_rfl) fun K hK=>?_|refine Ql fun A B hA hB=>?_|refine Qm ?_|refine Qn ?_|refine Qp ?_|refine Qr ?_)
 | ((with_reducible first|apply Qy|apply Qz|apply QA)<;>intro hb<;>try simp only[nr] at hb)
 |simp only[go_sem,↓reduceIte,reduceIte,Qa,Qh,Qb,Qc,Qd,Qe,Qf,Qg,reduceCtorEq, *,-hrs,-f20,-hpl]
 |with_reducible refine fun(bn:Bool) hbn=>?_))
        all_goals ((repeat clear hK);(repeat clear hA);(repeat clear hB))
        all_goals (clear hM;revert hM1;intro hM)
        (refine hM.on (r_rules.length-(i+1)) (by omega) (by simp only[go_sem,↓reduceIte,reduceIte,Qa,Qh,Qb,Qc,Qd,Qe,Qf,Qg,reduceCtorEq, *,Jd hlt hl,-hrs,-f20,-hpl]) ⟨i+1,rfl,by omega,f20,?_⟩;simp only[go_sem,↓reduceIte,reduceIte,Qa,Qh,Qb,Qc,Qd,Qe,Qf,Qg,reduceCtorEq, *,Jd hlt hl,-hrs,-f20,-hpl];done)
  ·rw[List.drop_eq_nil_of_le (by omega),Zt] at f2
   have hru:=f2
   clear f2
   (repeat' (first
 | (with_reducible first|assumption|(refine Qw hK _ ?_;clear hK K)|refine Qw ‹_› _ ?_|refine Qx ‹_› ?_|refine Qi fun K hK=>?_|refine Qj T fun K hK=>?_|refine Qk (id:=14) T mixed V9 (by kernel_rfl) fun K hK=>?_|refine Qk (id:=22) T mixed Ya (by kernel_rfl) fun K hK=>?_|refine Ql fun A B hA hB=>?_|refine Qm ?_|refine Qn ?_|refine Qp ?_|refine Qr ?_)
 | ((with_reducible first|apply Qy|apply Qz|apply QA)<;>intro hb<;>try simp only[nr] at hb)
 |simp only[go_sem,↓reduceIte,reduceIte,Qa,Qh,Qb,Qc,Qd,Qe,Qf,Qg,reduceCtorEq, *,-hrs,-hru]
 |with_reducible refine fun(bn:Bool) hbn=>?_))
   clear hM hlt hrs
   refine Qs [1] (fun m ts'=>∃(q:Nat),m=r_hosts.length-q∧q≤r_hosts.length∧Zs [] r_hosts=Zs (r_hosts.take q) (r_hosts.drop q)∧ts'.tmp 7=.int .i64 q) r_hosts.length ?_ ?_
   ·refine⟨0,rfl,Nat.zero_le _,rfl,?_⟩
    simp only[go_sem,↓reduceIte,reduceIte,Qa,Qh,Qb,Qc,Qd,Qe,Qf,Qg,reduceCtorEq, *,-hru]
   ·rintro m A hM ts' hk ⟨q,hm,f1,f2,s1⟩
    simp only[go_sem,↓reduceIte,reduceIte,Qa,Qh,Qb,Qc,Qd,Qe,Qf,Qg,reduceCtorEq, *] at hk
    by_cases hqt:q<r_hosts.length
    ·have f1o:=f1
     rw[List.drop_eq_getElem_cons hqt,Zs] at f2
     rw[JdO hqt] at f2
     (repeat' (first
 | (with_reducible first|assumption|(refine Qw hK _ ?_;clear hK K)|refine Qw ‹_› _ ?_|refine Qx ‹_› ?_|refine Qi fun K hK=>?_|refine Qj T fun K hK=>?_|refine Qk (id:=14) T mixed V9 (by kernel_rfl) fun K hK=>?_|refine Qk (id:=22) T mixed Ya (by kernel_rfl) fun K hK=>?_|refine Ql fun A B hA hB=>?_|refine Qm ?_|refine Qn ?_|refine Qp ?_|refine Qr ?_)
 | ((with_reducible first|apply Qy|apply Qz|apply QA)<;>intro hb<;>try simp only[nr] at hb)
 |simp only[go_sem,↓reduceIte,reduceIte,Qa,Qh,Qb,Qc,Qd,Qe,Qf,Qg,reduceCtorEq, *,-hru,-f2]
 |with_reducible refine fun(bn:Bool) hbn=>?_))
     have hpl:(r_hosts.take q).length=q:=by rw[List.length_take];omega
     refine Qs [1,7] (fun m ts'=>∃(k:Nat),m=q-k∧k≤q∧((r_hosts.take q).any fun y=>decide (r_hosts[q]=y))=(((r_hosts.take q).drop k).any fun y=>decide (r_hosts[q]=y))∧ts'.tmp 8=.int .i64 k) q ?_ ?_
     ·refine⟨0,rfl,Nat.zero_le _,rfl,?_⟩
      simp only[go_sem,↓reduceIte,reduceIte,Qa,Qh,Qb,Qc,Qd,Qe,Qf,Qg,reduceCtorEq, *,-hru,-f2,-hpl]
     ·revert hM f2
      intro hM1 f20
      rintro m A hM ts' hk ⟨k,hm,f1,f2,s1⟩
      simp only[go_sem,↓reduceIte,reduceIte,Qa,Qh,Qb,Qc,Qd,Qe,Qf,Qg,reduceCtorEq, *] at hk
      by_cases hkt:k<q
      ·have hkp:k<(r_hosts.take q).length:=by omega
       obtain⟨hkr,hke⟩:=Jio hkp f1o
       rw[List.drop_eq_getElem_cons hkp,List.any_cons,hke] at f2
       clear hke
       have hkw:=Jd hkr hh
       by_cases e1:r_hosts[q]=r_hosts[k]
       ·rw[decide_eq_true e1,Bool.true_or] at f2
        rw[f2,Bool.not_true,Bool.false_and] at f20
        (repeat' (first
 | (with_reducible first|assumption|(refine Qw hK _ ?_;clear hK K)|refine Qw ‹_› _ ?_|refine Qx ‹_› ?_|refine Qi fun K hK=>?_|refine Qj T fun K hK=>?_|refine Qk (id:=14) T mixed V9 (by kernel_rfl) fun K hK=>?_|refine Qk (id:=22) T mixed Ya (by kernel_rfl) fun K hK=>?_|refine Ql fun A B hA hB=>?_|refine Qm ?_|refine Qn ?_|refine Qp ?_|refine Qr ?_)
 | ((with_reducible first|apply Qy|apply Qz|apply QA)<;>intro hb<;>try simp only[nr] at hb)
 |simp only[go_sem,↓reduceIte,reduceIte,Qa,Qh,Qb,Qc,Qd,Qe,Qf,Qg,reduceCtorEq, *,-hru,-f20,-f2,-hpl]
 |with_reducible refine fun(bn:Bool) hbn=>?_))
        all_goals ((repeat clear hK);(repeat clear hA);(repeat clear hB))
        all_goals (rw[f20,Bool.and_false];rfl)
       ·rw[decide_eq_false e1,Bool.false_or] at f2
        (repeat' (first
 | (with_reducible first|assumption|(refine Qw hK _ ?_;clear hK K)|refine Qw ‹_› _ ?_|refine Qx ‹_› ?_|refine Qi fun K hK=>?_|refine Qj T fun K hK=>?_|refine Qk (id:=14) T mixed V9 (by kernel_rfl) fun K hK=>?_|refine Qk (id:=22) T mixed Ya (by kernel_rfl) fun K hK=>?_|refine Ql fun A B hA hB=>?_|refine Qm ?_|refine Qn ?_|refine Qp ?_|refine Qr ?_)
 | ((with_reducible first|apply Qy|apply Qz|apply QA)<;>intro hb<;>try simp only[nr] at hb)
 |simp only[go_sem,↓reduceIte,reduceIte,Qa,Qh,Qb,Qc,Qd,Qe,Qf,Qg,reduceCtorEq, *,-hru,-f20,-f2,-hpl]
 |with_reducible refine fun(bn:Bool) hbn=>?_))
        all_goals ((repeat clear hK);(repeat clear hA);(repeat clear hB))
        (refine hM.on (q-(k+1)) (by omega) (by simp only[go_sem,↓reduceIte,reduceIte,Qa,Qh,Qb,Qc,Qd,Qe,Qf,Qg,reduceCtorEq, *,-hru,-f20,-f2,-hpl]) ⟨k+1,rfl,by omega,f2,?_⟩;simp only[go_sem,↓reduceIte,reduceIte,Qa,Qh,Qb,Qc,Qd,Qe,Qf,Qg,reduceCtorEq, *,-hru,-f20,-f2,-hpl];done)
      ·rw[List.drop_eq_nil_of_le (by omega),List.any_nil] at f2
       rw[f2,Bool.not_false,Bool.true_and] at f20
       clear f2
       (repeat' (first
 | (with_reducible first|assumption|(refine Qw hK _ ?_;clear hK K)|refine Qw ‹_› _ ?_|refine Qx ‹_› ?_|refine Qi fun K hK=>?_|refine Qj T fun K hK=>?_|refine Qk (id:=14) T mixed V9 (by kernel_rfl) fun K hK=>?_|refine Qk (id:=22) T mixed Ya (by kernel_rfl) fun K hK=>?_|refine Ql fun A B hA hB=>?_|refine Qm ?_|refine Qn ?_|refine Qp ?_|refine Qr ?_)
 | ((with_reducible first|apply Qy|apply Qz|apply QA)<;>intro hb<;>try simp only[nr] at hb)
 |simp only[go_sem,↓reduceIte,reduceIte,Qa,Qh,Qb,Qc,Qd,Qe,Qf,Qg,reduceCtorEq, *,-hru,-f20,-hpl]
 |with_reducible refine fun(bn:Bool) hbn=>?_))
       all_goals ((repeat clear hK);(repeat clear hA);(repeat clear hB))
       all_goals (clear hM;revert hM1;intro hM)
       (refine hM.on (r_hosts.length-(q+1)) (by omega) (by simp only[go_sem,↓reduceIte,reduceIte,Qa,Qh,Qb,Qc,Qd,Qe,Qf,Qg,reduceCtorEq, *,Jd hqt hh,-hru,-f20,-hpl]) ⟨q+1,rfl,by omega,f20,?_⟩;simp only[go_sem,↓reduceIte,reduceIte,Qa,Qh,Qb,Qc,Qd,Qe,Qf,Qg,reduceCtorEq, *,Jd hqt hh,-hru,-f20,-hpl];done)
    ·rw[List.drop_eq_nil_of_le (by omega),Zs] at f2
     (repeat' (first
 | (with_reducible first|assumption|(refine Qw hK _ ?_;clear hK K)|refine Qw ‹_› _ ?_|refine Qx ‹_› ?_|refine Qi fun K hK=>?_|refine Qj T fun K hK=>?_|refine Qk (id:=14) T mixed V9 (by kernel_rfl) fun K hK=>?_|refine Qk (id:=22) T mixed Ya (by kernel_rfl) fun K hK=>?_|refine Ql fun A B hA hB=>?_|refine Qm ?_|refine Qn ?_|refine Qp ?_|refine Qr ?_)
 | ((with_reducible first|apply Qy|apply Qz|apply QA)<;>intro hb<;>try simp only[nr] at hb)
 |simp only[go_sem,↓reduceIte,reduceIte,Qa,Qh,Qb,Qc,Qd,Qe,Qf,Qg,reduceCtorEq, *,-hru,-f2]
 |with_reducible refine fun(bn:Bool) hbn=>?_))
     all_goals ((repeat clear hK);(repeat clear hA);(repeat clear hB))
     all_goals (rw[hru,f2];rfl)
set_option maxHeartbeats 8000000 in
theorem Yy(r_kind:Int)(r_name:List UInt8)(r_ver:Int)(r_port:Int)(r_to:List UInt8)(r_rules:List Rule)(r_hosts:List Int)(hl:Jc r_rules.length)(hh:Jc r_hosts.length)(hs:∀x∈r_rules,VB x):CallR Tryz.prog 133 [.agg [.int .i64 r_kind,.str r_name,.int .i64 r_ver,.int .i64 r_port,.str r_to,.slice false (Ja r_rules),.slice false (Ja r_hosts)]] (.val (.int .i64 (JW (⟨r_kind,r_name,r_ver,r_port,r_to,r_rules,r_hosts⟩:Res)))):=by
 cases hk:JH r_kind 3 with
 |false =>
  have e:JW (⟨r_kind,r_name,r_ver,r_port,r_to,r_rules,r_hosts⟩:Res)=4:=by unfold JW;rw[if_pos hk]
  rw[e]
  rcases Jfp hk with c1|⟨c1,c2⟩
  ·refine QD (T:=T) Tryz.call133 Tryz.func133 rfl Tryz.ntmps133 (congrArg Array.toList Tryz.results133) (by decide) fun ts hn h0=>?_
   (repeat' (first
 | (with_reducible first|refine callX.by (Vd _) ?_|refine callX.by (ZO _ _ _ _ _ _ _ ?_ ?_ ?_) ?_|refine callX.by (ZA _ _ _ _ _ _ _ ?_ ?_ ?_) ?_|refine callX.by (ZJ _ _ _ _ _ _ _ ?_ ?_ ?_) ?_|assumption|(refine Qw hK _ ?_;clear hK K)|refine Qw ‹_› _ ?_|refine Qx ‹_› ?_|refine Qi fun K hK=>?_|refine Qj T fun K hK=>?_|refine Ql fun A B hA hB=>?_|refine Qn ?_|refine Qr ?_)
 | ((with_reducible first|apply Qy|apply Qz|apply QA)<;>intro hb<;>try simp only[nr] at hb)
 |simp only[go_sem,↓reduceIte,reduceIte,Qa,Qh,Qb,Qc,Qd,Qe,Qf,Qg,reduceCtorEq, *,-hs]
 |with_reducible refine fun(bn:Bool) hbn=>?_))
  ·refine QD (T:=T) Tryz.call133 Tryz.func133 rfl Tryz.ntmps133 (congrArg Array.toList Tryz.results133) (by decide) fun ts hn h0=>?_
   (repeat' (first
 | (with_reducible first|refine callX.by (Vd _) ?_|refine callX.by (ZO _ _ _ _ _ _ _ ?_ ?_ ?_) ?_|refine callX.by (ZA _ _ _ _ _ _ _ ?_ ?_ ?_) ?_|refine callX.by (ZJ _ _ _ _ _ _ _ ?_ ?_ ?_) ?_|assumption|(refine Qw hK _ ?_;clear hK K)|refine Qw ‹_› _ ?_|refine Qx ‹_› ?_|refine Qi fun K hK=>?_|refine Qj T fun K hK=>?_|refine Ql fun A B hA hB=>?_|refine Qn ?_|refine Qr ?_)
 | ((with_reducible first|apply Qy|apply Qz|apply QA)<;>intro hb<;>try simp only[nr] at hb)
 |simp only[go_sem,↓reduceIte,reduceIte,Qa,Qh,Qb,Qc,Qd,Qe,Qf,Qg,reduceCtorEq, *,-hs]
 |with_reducible refine fun(bn:Bool) hbn=>?_))
 |true =>
  obtain⟨c1,c2⟩:=Ja9 hk
  cases hn:JL r_name with
  |false =>
   have e:JW (⟨r_kind,r_name,r_ver,r_port,r_to,r_rules,r_hosts⟩:Res)=5:=by unfold JW;rw[if_neg (by rw[hk];decide),if_pos hn]
   rw[e]
   refine QD (T:=T) Tryz.call133 Tryz.func133 rfl Tryz.ntmps133 (congrArg Array.toList Tryz.results133) (by decide) fun ts hn h0=>?_
   (repeat' (first
 | (with_reducible first|refine callX.by (Vd _) ?_|refine callX.by (ZO _ _ _ _ _ _ _ ?_ ?_ ?_) ?_|refine callX.by (ZA _ _ _ _ _ _ _ ?_ ?_ ?_) ?_|refine callX.by (ZJ _ _ _ _ _ _ _ ?_ ?_ ?_) ?_|assumption|(refine Qw hK _ ?_;clear hK K)|refine Qw ‹_› _ ?_|refine Qx ‹_› ?_|refine Qi fun K hK=>?_|refine Qj T fun K hK=>?_|refine Ql fun A B hA hB=>?_|refine Qn ?_|refine Qr ?_)
 | ((with_reducible first|apply Qy|apply Qz|apply QA)<;>intro hb<;>try simp only[nr] at hb)
 |simp only[go_sem,↓reduceIte,reduceIte,Qa,Qh,Qb,Qc,Qd,Qe,Qf,Qg,reduceCtorEq, *,-hs]
 |with_reducible refine fun(bn:Bool) hbn=>?_))
  |true =>
   cases hsm:Vj (⟨r_kind,r_name,r_ver,r_port,r_to,r_rules,r_hosts⟩:Res) with
   |false =>
    have e:JW (⟨r_kind,r_name,r_ver,r_port,r_to,r_rules,r_hosts⟩:Res)=3:=by unfold JW;rw[if_neg (by rw[hk];decide),if_neg (by rw[hn];decide),if_pos hsm]
    rw[e]
    refine QD (T:=T) Tryz.call133 Tryz.func133 rfl Tryz.ntmps133 (congrArg Array.toList Tryz.results133) (by decide) fun ts hn h0=>?_
    (repeat' (first
 | (with_reducible first|refine callX.by (Vd _) ?_|refine callX.by (ZO _ _ _ _ _ _ _ ?_ ?_ ?_) ?_|refine callX.by (ZA _ _ _ _ _ _ _ ?_ ?_ ?_) ?_|refine callX.by (ZJ _ _ _ _ _ _ _ ?_ ?_ ?_) ?_|assumption|(refine Qw hK _ ?_;clear hK K)|refine Qw ‹_› _ ?_|refine Qx ‹_› ?_|refine Qi fun K hK=>?_|refine Qj T fun K hK=>?_|refine Ql fun A B hA hB=>?_|refine Qn ?_|refine Qr ?_)
 | ((with_reducible first|apply Qy|apply Qz|apply QA)<;>intro hb<;>try simp only[nr] at hb)
 |simp only[go_sem,↓reduceIte,reduceIte,Qa,Qh,Qb,Qc,Qd,Qe,Qf,Qg,reduceCtorEq, *,-hs]
 |with_reducible refine fun(bn:Bool) hbn=>?_))
   |true =>
    have e:JW (⟨r_kind,r_name,r_ver,r_port,r_to,r_rules,r_hosts⟩:Res)=if Zq (⟨r_kind,r_name,r_ver,r_port,r_to,r_rules,r_hosts⟩:Res)=false then 2 else if Zi (⟨r_kind,r_name,r_ver,r_port,r_to,r_rules,r_hosts⟩:Res)=false then 5 else if Zr (⟨r_kind,r_name,r_ver,r_port,r_to,r_rules,r_hosts⟩:Res)=false then 2 else 0:=by
     conv=>lhs;unfold JW
     rw[if_neg (by rw[hk];decide),if_neg (by rw[hn];decide),if_neg (by rw[hsm];decide)]
    rw[e]
    clear e
    have t0:(0:Int).tmod 2=0:=by decide
    have t1:(1:Int).tmod 2=1:=by decide
    have t2:(2:Int).tmod 2=0:=by decide
    have t3:(3:Int).tmod 2=1:=by decide
    have hnc:=ZA r_kind r_name r_ver r_port r_to r_rules r_hosts hl hs hk
    have htc:=ZJ r_kind r_name r_ver r_port r_to r_rules r_hosts hl hh hsm
    cases hsh:Zq (⟨r_kind,r_name,r_ver,r_port,r_to,r_rules,r_hosts⟩:Res) with
    |false =>
     rw[if_pos rfl]
     clear hnc htc
     have hk4:r_kind=0∨r_kind=1∨r_kind=2∨r_kind=3:=by omega
     rcases hk4 with rfl|rfl|rfl|rfl
     all_goals
      refine QD (T:=T) Tryz.call133 Tryz.func133 rfl Tryz.ntmps133 (congrArg Array.toList Tryz.results133) (by decide) fun ts hn h0=>?_
      (repeat' (first
 | (with_reducible first|refine callX.by (Vd _) ?_|refine callX.by (ZO _ _ _ _ _ _ _ ?_ ?_ ?_) ?_|refine callX.by (ZA _ _ _ _ _ _ _ ?_ ?_ ?_) ?_|refine callX.by (ZJ _ _ _ _ _ _ _ ?_ ?_ ?_) ?_|assumption|(refine Qw hK _ ?_;clear hK K)|refine Qw ‹_› _ ?_|refine Qx ‹_› ?_|refine Qi fun K hK=>?_|refine Qj T fun K hK=>?_|refine Ql fun A B hA hB=>?_|refine Qn ?_|refine Qr ?_)
 | ((with_reducible first|apply Qy|apply Qz|apply QA)<;>intro hb<;>try simp only[nr] at hb)
 |simp only[go_sem,↓reduceIte,reduceIte,Qa,Qh,Qb,Qc,Qd,Qe,Qf,Qg,reduceCtorEq, *,-hs,-hsh,Int.reduceEq]
 |with_reducible refine fun(bn:Bool) hbn=>?_))
      all_goals ((repeat clear hK);(repeat clear hA);(repeat clear hB))
      all_goals (exfalso;clear hs hsm;simp_all[Zq];done)
    |true =>
     rw[if_neg (by decide)]
     have hp:(¬r_kind=0→r_port=0)∧(r_kind.tmod 2=1→r_to=[])∧(¬r_kind=1→r_rules.length=0)∧(¬r_kind=3→r_hosts.length=0):=by
      have hk4:r_kind=0∨r_kind=1∨r_kind=2∨r_kind=3:=by omega
      simp only[Zq,Bool.and_eq_true,Bool.or_eq_true,decide_eq_true_eq] at hsh
      refine⟨fun h=>by omega,fun h=>?_,fun h=>by omega,fun h=>by omega⟩
      rcases hk4 with rfl|rfl|rfl|rfl
      ·rw[t0] at h;exact absurd h (by decide)
      ·have:=hsh.2.1;simpa using this
      ·rw[t2] at h;exact absurd h (by decide)
      ·have:=hsh.2.1;simpa using this
     clear hsh
     obtain⟨p1,p2,p3,p4⟩:=hp
     generalize Zi (⟨r_kind,r_name,r_ver,r_port,r_to,r_rules,r_hosts⟩:Res)=bN at *
     generalize Zr (⟨r_kind,r_name,r_ver,r_port,r_to,r_rules,r_hosts⟩:Res)=bS at *
     have hk4:r_kind=0∨r_kind=1∨r_kind=2∨r_kind=3:=by omega
     clear hk
     rcases hk4 with rfl|rfl|rfl|rfl
     ·have w3:=p3 (by decide)
      have w4:=p4 (by decide)
      clear p1 p2 p3 p4
      have hz0:¬(0:Int)<0:=by decide
      cases bN<;>cases bS<;>simp only[if_true,if_false,Bool.true_eq_false,reduceIte]
      all_goals
       refine QD (T:=T) Tryz.call133 Tryz.func133 rfl Tryz.ntmps133 (congrArg Array.toList Tryz.results133) (by decide) fun ts hn h0=>?_
       (repeat' (first
 | (with_reducible first|refine callX.by (hnc) ?_|refine callX.by (htc) ?_|refine callX.by (Vd _) ?_|refine callX.by (ZO _ _ _ _ _ _ _ ?_ ?_ ?_) ?_|refine callX.by (ZA _ _ _ _ _ _ _ ?_ ?_ ?_) ?_|refine callX.by (ZJ _ _ _ _ _ _ _ ?_ ?_ ?_) ?_|assumption|(refine Qw hK _ ?_;clear hK K)|refine Qw ‹_› _ ?_|refine Qx ‹_› ?_|refine Qi fun K hK=>?_|refine Qj T fun K hK=>?_|refine Ql fun A B hA hB=>?_|refine Qn ?_|refine Qr ?_)
 | ((with_reducible first|apply Qy|apply Qz|apply QA)<;>intro hb<;>try simp only[nr] at hb)
 |simp only[go_sem,↓reduceIte,reduceIte,Qa,Qh,Qb,Qc,Qd,Qe,Qf,Qg,reduceCtorEq, *,-hs,-hnc,-htc,Int.reduceEq]
 |with_reducible refine fun(bn:Bool) hbn=>?_))
     ·have w1:=p1 (by decide)
      have w2:=p2 t1
      have w4:=p4 (by decide)
      clear p1 p2 p3 p4
      subst w1 w2
      have hz0:¬(0:Int)<0:=by decide
      cases bN<;>cases bS<;>simp only[if_true,if_false,Bool.true_eq_false,reduceIte]
      all_goals
       refine QD (T:=T) Tryz.call133 Tryz.func133 rfl Tryz.ntmps133 (congrArg Array.toList Tryz.results133) (by decide) fun ts hn h0=>?_
       (repeat' (first
 | (with_reducible first|refine callX.by (hnc) ?_|refine callX.by (htc) ?_|refine callX.by (Vd _) ?_|refine callX.by (ZO _ _ _ _ _ _ _ ?_ ?_ ?_) ?_|refine callX.by (ZA _ _ _ _ _ _ _ ?_ ?_ ?_) ?_|refine callX.by (ZJ _ _ _ _ _ _ _ ?_ ?_ ?_) ?_|assumption|(refine Qw hK _ ?_;clear hK K)|refine Qw ‹_› _ ?_|refine Qx ‹_› ?_|refine Qi fun K hK=>?_|refine Qj T fun K hK=>?_|refine Ql fun A B hA hB=>?_|refine Qn ?_|refine Qr ?_)
 | ((with_reducible first|apply Qy|apply Qz|apply QA)<;>intro hb<;>try simp only[nr] at hb)
 |simp only[go_sem,↓reduceIte,reduceIte,Qa,Qh,Qb,Qc,Qd,Qe,Qf,Qg,reduceCtorEq, *,-hs,-hnc,-htc,Int.reduceEq]
 |with_reducible refine fun(bn:Bool) hbn=>?_))
     ·have w1:=p1 (by decide)
      have w3:=p3 (by decide)
      have w4:=p4 (by decide)
      clear p1 p2 p3 p4
      subst w1
      have hz0:¬(0:Int)<0:=by decide
      cases bN<;>cases bS<;>simp only[if_true,if_false,Bool.true_eq_false,reduceIte]
      all_goals
       refine QD (T:=T) Tryz.call133 Tryz.func133 rfl Tryz.ntmps133 (congrArg Array.toList Tryz.results133) (by decide) fun ts hn h0=>?_
       (repeat' (first
 | (with_reducible first|refine callX.by (hnc) ?_|refine callX.by (htc) ?_|refine callX.by (Vd _) ?_|refine callX.by (ZO _ _ _ _ _ _ _ ?_ ?_ ?_) ?_|refine callX.by (ZA _ _ _ _ _ _ _ ?_ ?_ ?_) ?_|refine callX.by (ZJ _ _ _ _ _ _ _ ?_ ?_ ?_) ?_|assumption|(refine Qw hK _ ?_;clear hK K)|refine Qw ‹_› _ ?_|refine Qx ‹_› ?_|refine Qi fun K hK=>?_|refine Qj T fun K hK=>?_|refine Ql fun A B hA hB=>?_|refine Qn ?_|refine Qr ?_)
 | ((with_reducible first|apply Qy|apply Qz|apply QA)<;>intro hb<;>try simp only[nr] at hb)
 |simp only[go_sem,↓reduceIte,reduceIte,Qa,Qh,Qb,Qc,Qd,Qe,Qf,Qg,reduceCtorEq, *,-hs,-hnc,-htc,Int.reduceEq]
 |with_reducible refine fun(bn:Bool) hbn=>?_))
     ·have w1:=p1 (by decide)
      have w2:=p2 t3
      have w3:=p3 (by decide)
      clear p1 p2 p3 p4
      subst w1 w2
      have hz0:¬(0:Int)<0:=by decide
      cases bN<;>cases bS<;>simp only[if_true,if_false,Bool.true_eq_false,reduceIte]
      all_goals
       refine QD (T:=T) Tryz.call133 Tryz.func133 rfl Tryz.ntmps133 (congrArg Array.toList Tryz.results133) (by decide) fun ts hn h0=>?_
       (repeat' (first
 | (with_reducible first|refine callX.by (hnc) ?_|refine callX.by (htc) ?_|refine callX.by (Vd _) ?_|refine callX.by (ZO _ _ _ _ _ _ _ ?_ ?_ ?_) ?_|refine callX.by (ZA _ _ _ _ _ _ _ ?_ ?_ ?_) ?_|refine callX.by (ZJ _ _ _ _ _ _ _ ?_ ?_ ?_) ?_|assumption|(refine Qw hK _ ?_;clear hK K)|refine Qw ‹_› _ ?_|refine Qx ‹_› ?_|refine Qi fun K hK=>?_|refine Qj T fun K hK=>?_|refine Ql fun A B hA hB=>?_|refine Qn ?_|refine Qr ?_)
 | ((with_reducible first|apply Qy|apply Qz|apply QA)<;>intro hb<;>try simp only[nr] at hb)
 |simp only[go_sem,↓reduceIte,reduceIte,Qa,Qh,Qb,Qc,Qd,Qe,Qf,Qg,reduceCtorEq, *,-hs,-hnc,-htc,Int.reduceEq]
 |with_reducible refine fun(bn:Bool) hbn=>?_))
end Go.Proofs.YtmjkjmoeicnbnaaGreatDoor.Lg
