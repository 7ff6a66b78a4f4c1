/- Parts of the proof, one behind the other. -/
import Derived.Test.YtmjkjmoeicnbnaaGreatDoorG28
namespace Go.Proofs.YtmjkjmoeicnbnaaGreatDoor.Lg
set_option maxRecDepth 100000
set_option linter.unusedVariables false
set_option linter.unusedSimpArgs false
open Go
open Nat renaming reduceEqDiff → Qa, reduceLT → Qb, reduceLeDiff → Qc, reduceAdd → Qd, reduceMul → Qe, reduceSub → Qf, reduceBEq → Qg
open String renaming reduceEq → Qh
open SpecC renaming seqW → Qi, regW → Qj, drawW → Qk, condW → Ql, block → Qm, skip → Qn, exit → Qp, ret → Qr, loopF → Qs
open NxK renaming out → Qw
open Nx renaming out → Qx
open condK renaming split → Qy
open gK renaming split_t → Qz, split_f → QA
@[go_sem] def Jbe:List (List Nat×List Nat):=[([54],[56,57,59,60,61,62,63,64,65,66,67,68]),([55],[56,57,60,61,62,63,64,65,66,67,68]),([56],[54,55,59,60,61,62,63,64,65,66,67,68]),([57],[54,55,60,61,62,63,64,65,66,67,68]),([58],[66,67,68]),([59],[54,56,67,68]),([60],[54,55,56,57,62,64,65,66,67,68]),([61],[54,55,56,57,62,65,67,68]),([62],[54,55,56,57,60,61,65,67,68]),([63],[54,55,56,57]),([64],[54,55,56,57,60,67,68]),([65],[54,55,56,57,60,61,62]),([66],[54,55,56,57,58,60]),([67],[54,55,56,57,58,59,60,61,62,64,68]),([68],[54,55,56,57,58,59,60,61,62,64,67])]
@[go_sem] def Jbf:List (List Nat×List Nat):=[([77],[78,81,82,83,84,85]),([78],[77,81,82,83,84,85]),([79],[82,83,84,85]),([80],[82,83,84,85]),([81],[77,78,82,83,84,85]),([82],[77,78,79,80,81,83]),([83],[77,78,79,80,81,82]),([84],[77,78,79,80,81]),([85],[77,78,79,80,81])]
@[go_sem] def Jbg:List (List Nat×List Nat):=[([88],[100,101,102,103,104,105]),([89],[101,102,103,104,105]),([90],[91,92,94,95,96,99,100,101,102,103,104,105]),([91],[90,92,94,95,96,99,100,101,102,103,104,105]),([92],[90,91,94,95,96,99,100,101,102,103,104,105]),([93],[94,95,96,101,102,103,104,105]),([94],[90,91,92,93,95,96,99,100,101,102,103,104,105]),([95],[90,91,92,93,94,96,99,100,101,102,103,104,105]),([96],[90,91,92,93,94,95,99,100,101,102,103,104,105]),([97],[101,102,103,104,105]),([98],[]),([99],[90,91,92,94,95,96]),([100],[88,90,91,92,94,95,96]),([101],[88,89,90,91,92,93,94,95,96,97,102,104,105]),([102],[88,89,90,91,92,93,94,95,96,97,101,104,105]),([103],[88,89,90,91,92,93,94,95,96,97,104,105]),([104],[88,89,90,91,92,93,94,95,96,97,101,102,103,105]),([105],[88,89,90,91,92,93,94,95,96,97,101,102,103,104])]
theorem YS(l:List Res)(s_kind:Int)(s_adds:List Res)(s_gone:List Key)(hx:Jc l.length)(ha:Jc s_adds.length)(hg:Jc s_gone.length)(hl:Jc (l.length+s_adds.length))(hs:∀r∈l,Jw r)(hs2:∀r∈s_adds,Jw r):CallR Tryz.prog 41 [.slice false (Ja l),.agg [.int .i64 s_kind,.slice false (Ja s_adds),.slice false (Ja s_gone)]] (.val (.slice false (Ja (Vf l (⟨s_kind,s_adds,s_gone⟩:Step))))):=by
 have w1:=Jlr l s_adds s_gone hx ha hg hl hs hs2
 refine CallR.go2 (T:=T) Tryz.call41 Tryz.func41 rfl Tryz.ntmps41 (congrArg Array.toList Tryz.results41) (by decide) fun ts hn h0 h1=>?_
 (repeat' (first
 | (with_reducible first|refine callX.by (w1) ?_|assumption|(refine Qw hK _ ?_;clear hK K)|refine Qw ‹_› _ ?_|refine Qx ‹_› ?_|refine Qi fun K hK=>?_|refine Qj T fun K hK=>?_|refine Ql fun A B hA hB=>?_|refine Qn ?_|refine Qr ?_)
 | ((with_reducible first|apply Qy|apply Qz|apply QA)<;>intro hb<;>try simp only[nr] at hb)
 |simp only[go_sem,↓reduceIte,reduceIte,Qa,Qh,Qb,Qc,Qd,Qe,Qf,Qg,reduceCtorEq, *,-w1,-hs,-hs2]
 |with_reducible refine fun(bn:Bool) hbn=>?_))
 all_goals rfl
theorem Jba(a b:List Res)(H:List Key)(hl:a.length≤65536)(hl2:b.length≤65536)(hs:∀r∈a,Jw r)(hs2:∀r∈b,Jw r)(hH:Jc H.length):CallR Tryz.prog 39 [.slice false (Ja a),.slice false (Ja b),.slice false (Ja H)] (.val (.slice false (Ja (Zu a b H)))):=by
 have w1:=Yj a b H hl hl2 hs hs2 hH
 have w2:=Yb a b hl hl2 hs
 unfold Zu
 clear hs hs2
 generalize JD a b=G at *
 generalize JA a b=D at *
 generalize Jz a b H=o at *
 cases o with
 |none =>
  refine CallR.go3 (T:=T) Tryz.call39 Tryz.func39 rfl Tryz.ntmps39 (congrArg Array.toList Tryz.results39) (by decide) fun ts hn h0 h1 h2=>?_
  (repeat' (first
 | (with_reducible first|refine callX.by (w1) ?_|refine callX.by (w2) ?_|refine callX.by (Yj _ _ _ ?_ ?_ ?_ ?_ ?_) ?_|refine callX.by (Yb _ _ ?_ ?_ ?_) ?_|assumption|(refine Qw hK _ ?_;clear hK K)|refine Qw ‹_› _ ?_|refine Qx ‹_› ?_|refine Qi fun K hK=>?_|refine Qj T fun K hK=>?_|refine Ql fun A B hA hB=>?_|refine Qn ?_|refine Qr ?_)
 | ((with_reducible first|apply Qy|apply Qz|apply QA)<;>intro hb<;>try simp only[nr] at hb)
 |simp only[go_sem,↓reduceIte,reduceIte,Qa,Qh,Qb,Qc,Qd,Qe,Qf,Qg,reduceCtorEq, *,-w1,-w2,Option.isSome_none,Option.getD_none,Bool.false_eq_true]
 |with_reducible refine fun(bn:Bool) hbn=>?_))
  all_goals trace_state
 |some s =>
  refine CallR.go3 (T:=T) Tryz.call39 Tryz.func39 rfl Tryz.ntmps39 (congrArg Array.toList Tryz.results39) (by decide) fun ts hn h0 h1 h2=>?_
  (repeat' (first
 | (with_reducible first|refine callX.by (w1) ?_|refine callX.by (w2) ?_|refine callX.by (Yj _ _ _ ?_ ?_ ?_ ?_ ?_) ?_|refine callX.by (Yb _ _ ?_ ?_ ?_) ?_|assumption|(refine Qw hK _ ?_;clear hK K)|refine Qw ‹_› _ ?_|refine Qx ‹_› ?_|refine Qi fun K hK=>?_|refine Qj T fun K hK=>?_|refine Ql fun A B hA hB=>?_|refine Qn ?_|refine Qr ?_)
 | ((with_reducible first|apply Qy|apply Qz|apply QA)<;>intro hb<;>try simp only[nr] at hb)
 |simp only[go_sem,↓reduceIte,reduceIte,Qa,Qh,Qb,Qc,Qd,Qe,Qf,Qg,reduceCtorEq, *,-w1,-w2,Option.isSome_some,Option.getD_some]
 |with_reducible refine fun(bn:Bool) hbn=>?_))
  all_goals rfl
theorem JaF(s_kind:Int)(s_adds:List Res)(s_gone:List Key)(hl:Jc s_adds.length)(hs:∀r∈s_adds,Jw r)(hg:Jc s_gone.length):CallR Tryz.prog 36 [.agg [.int .i64 s_kind,.slice false (Ja s_adds),.slice false (Ja s_gone)],.agg [.int .i64 s_kind,.slice false (Ja s_adds),.slice false (Ja s_gone)]] (.val (.bool true)):=by
 have w1:=ZL s_adds s_adds hl hs
 have w2:=ZZ s_gone s_gone hg
 rw[decide_eq_true rfl] at w1 w2
 refine CallR.go2 (T:=T) Tryz.call36 Tryz.func36 rfl Tryz.ntmps36 (congrArg Array.toList Tryz.results36) (by decide) fun ts hn h0 h1=>?_
 (repeat' (first
 | (with_reducible first|refine callX.by (w1) ?_|refine callX.by (w2) ?_|refine callX.by (ZL _ _ ?_ ?_) ?_|refine callX.by (ZZ _ _ ?_) ?_|refine callX.by (keys17_c _ ?_) ?_|assumption|(refine Qw hK _ ?_;clear hK K)|refine Qw ‹_› _ ?_|refine Qx ‹_› ?_|refine Qi fun K hK=>?_|refine Qj T fun K hK=>?_|refine Ql fun A B hA hB=>?_|refine Qn ?_|refine Qr ?_)
 | ((with_reducible first|apply Qy|apply Qz|apply QA)<;>intro hb<;>try simp only[nr] at hb)
 |simp only[go_sem,↓reduceIte,reduceIte,Qa,Qh,Qb,Qc,Qd,Qe,Qf,Qg,reduceCtorEq, *,-w1,-w2,-hs]
 |with_reducible refine fun(bn:Bool) hbn=>?_))
 all_goals trace_state
theorem JaL(s_kind:Int)(s_adds:List Res)(s_gone:List Key):CallR Tryz.prog 37 [.agg [.int .i64 s_kind,.slice false (Ja s_adds),.slice false (Ja s_gone)]] (.val (.agg [.int .i64 s_kind,.slice false (Ja s_adds),.slice false (Ja s_gone)])):=by
 refine CallR.go1 (T:=T) Tryz.call37 Tryz.func37 rfl Tryz.ntmps37 (congrArg Array.toList Tryz.results37) (by decide) fun ts hn h0=>?_
 (repeat' (first
 | (with_reducible first|assumption|(refine Qw hK _ ?_;clear hK K)|refine Qw ‹_› _ ?_|refine Qx ‹_› ?_|refine Qi fun K hK=>?_|refine Qj T fun K hK=>?_|refine Ql fun A B hA hB=>?_|refine Qn ?_|refine Qr ?_)
 | ((with_reducible first|apply Qy|apply Qz|apply QA)<;>intro hb<;>try simp only[nr] at hb)
 |simp only[go_sem,↓reduceIte,reduceIte,Qa,Qh,Qb,Qc,Qd,Qe,Qf,Qg,reduceCtorEq, *]
 |with_reducible refine fun(bn:Bool) hbn=>?_))
set_option maxHeartbeats 4000000 in
theorem JaM(a b:List Res)(H:List Key)(hl:a.length≤80)(hl2:b.length≤80)(hs:∀r∈a,Jw r)(hs2:∀r∈b,Jw r)(hH:Jc H.length):CallR Tryz.prog 35 [.slice false (Ja a),.slice false (Ja b),.slice false (Ja H)] (.own 3 (Ja (Vu b H 400 a))):=by
 generalize hR:Vu b H 400 a=R
 refine CallR.go3 (T:=T) Tryz.call35 Tryz.func35 rfl Tryz.ntmps35 (congrArg Array.toList Tryz.results35) (by decide) fun ts hn h0 h1 h2=>?_
 (repeat' (first
 | (with_reducible first|refine callX.by (Yj _ _ _ ?_ ?_ ?_ ?_ ?_) ?_|refine callX.by (YS _ _ _ _ ?_ ?_ ?_ ?_ ?_ ?_) ?_|assumption|(refine Qw hK _ ?_;clear hK K)|refine Qw ‹_› _ ?_|refine Qx ‹_› ?_|refine Qi fun K hK=>?_|refine Qj T fun K hK=>?_|refine Ql fun A B hA hB=>?_|refine Qm ?_|refine Qn ?_|refine Qp ?_|refine Qr ?_)
 | ((with_reducible first|apply Qy|apply Qz|apply QA)<;>intro hb<;>try simp only[nr] at hb)
 |simp only[go_sem,↓reduceIte,reduceIte,Qa,Qh,Qb,Qc,Qd,Qe,Qf,Qg,reduceCtorEq, *,-hs,-hs2,-hR]
 |with_reducible refine fun(bn:Bool) hbn=>?_))
 refine SpecC.ent (Ent.virt 7 3 (by simp only[go_sem,↓reduceIte,reduceIte,Qa,Qh,Qb,Qc,Qd,Qe,Qf,Qg,reduceCtorEq, *,-hs,-hs2,-hR]) (by decide)) ?_
 refine Qs [1,2] (fun m ts'=>∃(x:List Res),∃(ys:List Step),∃(g:Nat),m=400-ys.length∧ys.length≤400∧ys++Vu b H (400-ys.length) x=R∧x.length≤a.length+ys.length*80∧(∀r∈x,Jw r)∧ts'.tmp 0=.slice false (Ja x)∧ts'.tmp 7=.os 7 g ys.length∧ts'.gen 7=g∧ts'.obj 7=.arr 3 (Ja ys)) 400 ?_ ?_
 ·refine⟨a,[],ts.gen 7+1,rfl,by simp,hR,by simp,hs,?_⟩
  simp only[go_sem,↓reduceIte,reduceIte,Qa,Qh,Qb,Qc,Qd,Qe,Qf,Qg,reduceCtorEq, *,-hs,-hs2,-hR,Vo]
 ·rintro m A hM ts' hk ⟨x,ys,g,hm,f1,f2,f3,f4,s1,s2,s3,s4⟩
  simp only[go_sem,↓reduceIte,reduceIte,Qa,Qh,Qb,Qc,Qd,Qe,Qf,Qg,reduceCtorEq, *] at hk
  have hxl:x.length≤32080:=by omega
  have w1:=Yj x b H (by omega) (by omega) f4 hs2 hH
  by_cases hlt:ys.length<400
  ·have hys:(ys.length:Int)<400:=by omega
   cases hn:Jz x b H with
   |none =>
    rw[Jcw hn,List.append_nil] at f2
    subst f2
    rw[hn] at w1
    (repeat' (first
 | (with_reducible first|refine callX.by (w1) ?_|refine callX.by (Yj _ _ _ ?_ ?_ ?_ ?_ ?_) ?_|refine callX.by (YS _ _ _ _ ?_ ?_ ?_ ?_ ?_ ?_) ?_|assumption|(refine Qw hK _ ?_;clear hK K)|refine Qw ‹_› _ ?_|refine Qx ‹_› ?_|refine Qi fun K hK=>?_|refine Qj T fun K hK=>?_|refine Ql fun A B hA hB=>?_|refine Qm ?_|refine Qn ?_|refine Qp ?_|refine Qr ?_)
 | ((with_reducible first|apply Qy|apply Qz|apply QA)<;>intro hb<;>try simp only[nr] at hb)
 |simp only[go_sem,↓reduceIte,reduceIte,Qa,Qh,Qb,Qc,Qd,Qe,Qf,Qg,reduceCtorEq, *,-hs,-hs2,-hR,-f4,-hn,-w1,Option.isSome_none,Option.getD_none]
 |with_reducible refine fun(bn:Bool) hbn=>?_))
    all_goals ((repeat clear hK);(repeat clear hA);(repeat clear hB))
    all_goals first|rw[List.take_of_length_le (by omega)]|rw[List.take_of_length_le (by simp[Ja])]
   |some s =>
    rw[hn] at w1
    obtain⟨q1,q2,q3⟩:=Jdj hn
    have w2:=YS x s.kind s.adds s.gone (by unfold Jc;omega) (by unfold Jc;omega) (by unfold Jc;omega) (by unfold Jc;omega) f4 (fun r hr=>hs2 r (q1.subset hr))
    rw[show(⟨s.kind,s.adds,s.gone⟩:Step)=s from rfl] at w2
    have hX:(Vf x s).length≤x.length+s.adds.length:=Jdo _ _ _
    have hXs:∀r∈Vf x s,Jw r:=fun r hr=>(JeT hr).elim (f4 r) fun h=>hs2 r (q1.subset h)
    rw[show 400-ys.length=(400-(ys.length+1))+1 by omega,JaD hn] at f2
    generalize Vf x s=X at *
    have hr:JT (ys.length+1) 56:=Vt (by omega) (by decide)
    (repeat' (first
 | (with_reducible first|refine callX.by (w1) ?_|refine callX.by (w2) ?_|refine callX.by (Yj _ _ _ ?_ ?_ ?_ ?_ ?_) ?_|refine callX.by (YS _ _ _ _ ?_ ?_ ?_ ?_ ?_ ?_) ?_|assumption|(refine Qw hK _ ?_;clear hK K)|refine Qw ‹_› _ ?_|refine Qx ‹_› ?_|refine Qi fun K hK=>?_|refine Qj T fun K hK=>?_|refine Ql fun A B hA hB=>?_|refine Qm ?_|refine Qn ?_|refine Qp ?_|refine Qr ?_)
 | ((with_reducible first|apply Qy|apply Qz|apply QA)<;>intro hb<;>try simp only[nr] at hb)
 |simp only[go_sem,↓reduceIte,reduceIte,Qa,Qh,Qb,Qc,Qd,Qe,Qf,Qg,reduceCtorEq, *,-hs,-hs2,-hR,-f4,-hXs,-hn,-f2,-w1,-w2,-q1,Option.isSome_some,Option.getD_some]
 |with_reducible refine fun(bn:Bool) hbn=>?_))
    all_goals ((repeat clear hK);(repeat clear hA);(repeat clear hB))
    have hl1:(ys++[s]).length=ys.length+1:=by simp
    all_goals (refine hM.onE (400-(ys++[s]).length) (Ent.ren 7 26 ?_ ?_) ?_ ?_ ?_;(focus(simp only[go_sem,↓reduceIte,reduceIte,Qa,Qh,Qb,Qc,Qd,Qe,Qf,Qg,reduceCtorEq, *,List.length_append,List.length_singleton,-hs,-hs2,-hR,-f4,-hXs,-hn,-f2,-w1,-w2,-q1,-hl1];first|done|rfl));(focus(simp only[go_sem,↓reduceIte,reduceIte,Qa,Qh,Qb,Qc,Qd,Qe,Qf,Qg,reduceCtorEq, *,List.length_append,List.length_singleton,-hs,-hs2,-hR,-f4,-hXs,-hn,-f2,-w1,-w2,-q1,-hl1];first|done|rfl));omega;(focus(simp only[go_sem,↓reduceIte,reduceIte,Qa,Qh,Qb,Qc,Qd,Qe,Qf,Qg,reduceCtorEq, *,List.length_append,List.length_singleton,-hs,-hs2,-hR,-f4,-hXs,-hn,-f2,-w1,-w2,-q1,-hl1];done));refine⟨X,ys++[s],ts'.gen 7+1,rfl,by omega,by rw[←f2,hl1];simp,by omega,hXs,?_⟩;simp only[go_sem,↓reduceIte,reduceIte,Qa,Qh,Qb,Qc,Qd,Qe,Qf,Qg,reduceCtorEq, *,List.length_append,List.length_singleton,-hs,-hs2,-hR,-f4,-hXs,-hn,-f2,-w1,-w2,-q1,-hl1];done)
  ·have e4:ys.length=400:=by omega
   rw[e4] at f2
   have e5:ys=R:=by rw[←f2];simp[Vu]
   subst e5
   have hys:¬(ys.length:Int)<400:=by omega
   (repeat' (first
 | (with_reducible first|refine callX.by (Yj _ _ _ ?_ ?_ ?_ ?_ ?_) ?_|refine callX.by (YS _ _ _ _ ?_ ?_ ?_ ?_ ?_ ?_) ?_|assumption|(refine Qw hK _ ?_;clear hK K)|refine Qw ‹_› _ ?_|refine Qx ‹_› ?_|refine Qi fun K hK=>?_|refine Qj T fun K hK=>?_|refine Ql fun A B hA hB=>?_|refine Qm ?_|refine Qn ?_|refine Qp ?_|refine Qr ?_)
 | ((with_reducible first|apply Qy|apply Qz|apply QA)<;>intro hb<;>try simp only[nr] at hb)
 |simp only[go_sem,↓reduceIte,reduceIte,Qa,Qh,Qb,Qc,Qd,Qe,Qf,Qg,reduceCtorEq, *,-hs,-hs2,-hR,-f4,-f2,-w1]
 |with_reducible refine fun(bn:Bool) hbn=>?_))
   all_goals ((repeat clear hK);(repeat clear hA);(repeat clear hB))
   all_goals first|rw[List.take_of_length_le (by omega)]|rw[List.take_of_length_le (by simp[Ja])]
theorem Jh9{b:List Res}{H:List Key}:∀(n:Nat) (a:List Res) {s:Step},s∈Vu b H n a→s.adds.length≤b.length∧(∀r∈s.adds,r∈b)∧s.gone.length≤a.length+n*b.length
 |0,_,s,h=>by simp[Vu] at h
 |n+1,a,s,h=>by
  cases hn:Jz a b H with
  |none=>rw[Jcw hn] at h;simp at h
  |some t =>
   rw[JaD hn] at h
   obtain⟨q1,q2,q3⟩:=Jdj hn
   have hm:(n+1)*b.length=n*b.length+b.length:=by rw[Nat.add_mul,Nat.one_mul]
   rcases List.mem_cons.1 h with rfl|h
   ·exact⟨q2,fun r hr=>q1.subset hr,by omega⟩
   ·obtain⟨p1,p2,p3⟩:=Jh9 n _ h
    have hX:(Vf a t).length≤a.length+t.adds.length:=Jdo _ _ _
    exact⟨p1,p2,by omega⟩
theorem Jh7{b:List Res}{H:List Key}:∀(n:Nat) (a:List Res),(Vu b H n a).length≤n
 |0,_=>by simp[Vu]
 |n+1,a=>by
  cases hn:Jz a b H with
  |none=>rw[Jcw hn];simp
  |some s =>
   have:=Jh7 (b:=b) (H:=H) n (Vf a s)
   rw[JaD hn,List.length_cons];omega
set_option maxHeartbeats 8000000 in
theorem Jlw(a b:List Res)(H:List Key)(hl:Jc a.length)(hs:∀r∈a,Jw r)(hl2:Jc b.length)(hs2:∀r∈b,Jw r)(hH:Jc H.length):CallR Tryz.prog 4 [.slice false (Ja a),.slice false (Ja b),.slice false (Ja H)] (.val (.bool true)):=by
 have w0:=JaO
 have v1:=JaW a b H hl hs hl2 hs2
 by_cases hf:Jc1 a b H=true
 rotate_left
 ·have hf:Jc1 a b H=false:=by simpa using hf
  rw[hf] at v1
  refine CallR.go3 (T:=T) Tryz.call4 Tryz.func4 rfl Tryz.ntmps4 (congrArg Array.toList Tryz.results4) (by decide) fun ts hn h0 h1 h2=>?_
  (repeat' (first
 | (with_reducible first|refine callX.by (w0) ?_|refine callX.by (v1) ?_|refine callX.by JaO ?_|refine callX.by (JaW _ _ _ ?_ ?_ ?_ ?_) ?_|refine callX.by (VQ _ _ _ ?_ ?_ ?_ ?_ ?_) ?_|refine callX.by (Yj _ _ _ ?_ ?_ ?_ ?_ ?_) ?_|refine callX.by (ZM _ _ _ ?_ ?_ ?_ ?_ ?_ ?_) ?_|refine callX.by (JaM _ _ _ ?_ ?_ ?_ ?_ ?_) ?_|refine callX.by (JaL _ _ _) ?_|refine callX.by (JaF _ _ _ ?_ ?_ ?_) ?_|refine callX.by (Jad _ _ _ ?_ ?_ ?_ ?_ ?_) ?_|refine callX.by (Jba _ _ _ ?_ ?_ ?_ ?_ ?_) ?_|refine callX.by (ZZ _ _ ?_) ?_|refine callX.by (keys17_c _ ?_) ?_|refine callX.by (Yo _ _ _ _ ?_ ?_ ?_ ?_) ?_|refine callX.by (YS _ _ _ _ ?_ ?_ ?_ ?_ ?_ ?_) ?_|refine callX.by (ZL _ _ ?_ ?_) ?_|assumption|(refine Qw hK _ ?_;clear hK K)|refine Qw ‹_› _ ?_|refine Qx ‹_› ?_|refine Qi fun K hK=>?_|refine Qj T fun K hK=>?_|refine Qk (id:=8) T mixed Jbe (by kernel_rfl) fun K hK=>?_|refine Qk (id:=13) T mixed Jbf (by kernel_rfl) fun K hK=>?_|refine Qk (id:=15) T mixed Jbg (by kernel_rfl) fun K hK=>?_|refine Ql fun A B hA hB=>?_|refine Qm ?_|refine Qn ?_|refine Qp ?_|refine Qr ?_)
 | ((with_reducible first|apply Qy|apply Qz|apply QA)<;>intro hb<;>try simp only[nr] at hb)
 |simp only[go_sem,↓reduceIte,reduceIte,Qa,Qh,Qb,Qc,Qd,Qe,Qf,Qg,reduceCtorEq, *,-hs,-hs2,-w0,-v1]
 |with_reducible refine fun(bn:Bool) hbn=>?_))
 rw[hf] at v1
 by_cases ha20:20<a.length
 ·have ha20':(20:Int)<(a.length:Int):=by omega
  refine CallR.go3 (T:=T) Tryz.call4 Tryz.func4 rfl Tryz.ntmps4 (congrArg Array.toList Tryz.results4) (by decide) fun ts hn h0 h1 h2=>?_
  (repeat' (first
 | (with_reducible first|refine callX.by (w0) ?_|refine callX.by (v1) ?_|refine callX.by JaO ?_|refine callX.by (JaW _ _ _ ?_ ?_ ?_ ?_) ?_|refine callX.by (VQ _ _ _ ?_ ?_ ?_ ?_ ?_) ?_|refine callX.by (Yj _ _ _ ?_ ?_ ?_ ?_ ?_) ?_|refine callX.by (ZM _ _ _ ?_ ?_ ?_ ?_ ?_ ?_) ?_|refine callX.by (JaM _ _ _ ?_ ?_ ?_ ?_ ?_) ?_|refine callX.by (JaL _ _ _) ?_|refine callX.by (JaF _ _ _ ?_ ?_ ?_) ?_|refine callX.by (Jad _ _ _ ?_ ?_ ?_ ?_ ?_) ?_|refine callX.by (Jba _ _ _ ?_ ?_ ?_ ?_ ?_) ?_|refine callX.by (ZZ _ _ ?_) ?_|refine callX.by (keys17_c _ ?_) ?_|refine callX.by (Yo _ _ _ _ ?_ ?_ ?_ ?_) ?_|refine callX.by (YS _ _ _ _ ?_ ?_ ?_ ?_ ?_ ?_) ?_|refine callX.by (ZL _ _ ?_ ?_) ?_|assumption|(refine Qw hK _ ?_;clear hK K)|refine Qw ‹_› _ ?_|refine Qx ‹_› ?_|refine Qi fun K hK=>?_|refine Qj T fun K hK=>?_|refine Qk (id:=8) T mixed Jbe (by kernel_rfl) fun K hK=>?_|refine Qk (id:=13) T mixed Jbf (by kernel_rfl) fun K hK=>?_|refine Qk (id:=15) T mixed Jbg (by kernel_rfl) fun K hK=>?_|refine Ql fun A B hA hB=>?_|refine Qm ?_|refine Qn ?_|refine Qp ?_|refine Qr ?_)
 | ((with_reducible first|apply Qy|apply Qz|apply QA)<;>intro hb<;>try simp only[nr] at hb)
 |simp only[go_sem,↓reduceIte,reduceIte,Qa,Qh,Qb,Qc,Qd,Qe,Qf,Qg,reduceCtorEq, *,-hs,-hs2,-w0,-v1]
 |with_reducible refine fun(bn:Bool) hbn=>?_))
 have ha20':¬(20:Int)<(a.length:Int):=by omega
 by_cases hb20:20<b.length
 ·have hb20':(20:Int)<(b.length:Int):=by omega
  refine CallR.go3 (T:=T) Tryz.call4 Tryz.func4 rfl Tryz.ntmps4 (congrArg Array.toList Tryz.results4) (by decide) fun ts hn h0 h1 h2=>?_
  (repeat' (first
 | (with_reducible first|refine callX.by (w0) ?_|refine callX.by (v1) ?_|refine callX.by JaO ?_|refine callX.by (JaW _ _ _ ?_ ?_ ?_ ?_) ?_|refine callX.by (VQ _ _ _ ?_ ?_ ?_ ?_ ?_) ?_|refine callX.by (Yj _ _ _ ?_ ?_ ?_ ?_ ?_) ?_|refine callX.by (ZM _ _ _ ?_ ?_ ?_ ?_ ?_ ?_) ?_|refine callX.by (JaM _ _ _ ?_ ?_ ?_ ?_ ?_) ?_|refine callX.by (JaL _ _ _) ?_|refine callX.by (JaF _ _ _ ?_ ?_ ?_) ?_|refine callX.by (Jad _ _ _ ?_ ?_ ?_ ?_ ?_) ?_|refine callX.by (Jba _ _ _ ?_ ?_ ?_ ?_ ?_) ?_|refine callX.by (ZZ _ _ ?_) ?_|refine callX.by (keys17_c _ ?_) ?_|refine callX.by (Yo _ _ _ _ ?_ ?_ ?_ ?_) ?_|refine callX.by (YS _ _ _ _ ?_ ?_ ?_ ?_ ?_ ?_) ?_|refine callX.by (ZL _ _ ?_ ?_) ?_|assumption|(refine Qw hK _ ?_;clear hK K)|refine Qw ‹_› _ ?_|refine Qx ‹_› ?_|refine Qi fun K hK=>?_|refine Qj T fun K hK=>?_|refine Qk (id:=8) T mixed Jbe (by kernel_rfl) fun K hK=>?_|refine Qk (id:=13) T mixed Jbf (by kernel_rfl) fun K hK=>?_|refine Qk (id:=15) T mixed Jbg (by kernel_rfl) fun K hK=>?_|refine Ql fun A B hA hB=>?_|refine Qm ?_|refine Qn ?_|refine Qp ?_|refine Qr ?_)
 | ((with_reducible first|apply Qy|apply Qz|apply QA)<;>intro hb<;>try simp only[nr] at hb)
 |simp only[go_sem,↓reduceIte,reduceIte,Qa,Qh,Qb,Qc,Qd,Qe,Qf,Qg,reduceCtorEq, *,-hs,-hs2,-w0,-v1]
 |with_reducible refine fun(bn:Bool) hbn=>?_))
 have hb20':¬(20:Int)<(b.length:Int):=by omega
 have hre:Jbc b:=Jcq b (by omega) hs2
 have w1:=VQ a b H (by omega) hl2 hs hH hre
 have w2:=Yj a b H (by omega) (by omega) hs hs2 hH
 have w3:=(ZM a b H (by omega) (by omega) hs hs2 hH hre).frz
 have w4:=(JaM a b H (by omega) (by omega) hs hs2 hH).frz
 have w5:=Jad a b H (by omega) hl2 hs hH hre
 have w6:=Jba a b H (by omega) (by omega) hs hs2 hH
 have hwl:(Zu a b H).length≤a.length:=by
  unfold Zu
  split
  ·simp
  ·simpa using(JcX a b).length_le
 have w7:=ZZ (Zu a b H) (Zu a b H) (by unfold Jc;omega)
 rw[decide_eq_true rfl] at w7
 have hst:((Jz a b H).getD YB).adds.length≤b.length∧((Jz a b H).getD YB).gone.length≤a.length∧∀r∈((Jz a b H).getD YB).adds,Jw r:=by
  cases hn:Jz a b H with
  |none=>exact⟨Nat.zero_le _,Nat.zero_le _,by simp[YB]⟩
  |some s =>
   obtain⟨q1,q2,q3⟩:=Jdj hn
   exact⟨q2,q3,fun r hr=>hs2 r (q1.subset hr)⟩
 have hrun:∀s∈Vu b H 400 a,s.adds.length≤20∧(∀r∈s.adds,Jw r)∧s.gone.length≤9000:=fun s h=>by
  obtain⟨p1,p2,p3⟩:=Jh9 400 a h
  exact⟨by omega,fun r hr=>hs2 r (p2 r hr),by omega⟩
 have hXl:=Jh7 (b:=b) (H:=H) 400 a
 generalize Vu b H 400 a=X at *
 generalize (Jz a b H).isSome=ok at *
 generalize (Jz a b H).getD YB=s at *
 generalize Zu a b H=Wt at *
 obtain⟨hs1,hs3,hs4⟩:=hst
 have w8:=JaL s.kind s.adds s.gone
 have w9:=JaF s.kind s.adds s.gone (by unfold Jc;omega) hs4 (by unfold Jc;omega)
 have w10:=Yo a s.kind s.adds s.gone hl (by unfold Jc;omega) (by unfold Jc;omega) (by unfold Jc;omega)
 have w11:=YS a s.kind s.adds s.gone hl (by unfold Jc;omega) (by unfold Jc;omega) (by unfold Jc;omega) hs hs4
 have hX2:(Vf a ⟨s.kind,s.adds,s.gone⟩).length≤a.length+s.adds.length:=Jdo _ _ _
 have w12:=ZL (Vf a ⟨s.kind,s.adds,s.gone⟩) (Vf a ⟨s.kind,s.adds,s.gone⟩) (by unfold Jc;omega) (fun r hr=>(JeT hr).elim (hs r) (hs4 r))
 rw[decide_eq_true rfl] at w12
 generalize Vf a ⟨s.kind,s.adds,s.gone⟩=Y at *
 have hXs:Jc X.length:=by unfold Jc;omega
 clear hf hs hs2 hs4 hre
 refine CallR.go3 (T:=T) Tryz.call4 Tryz.func4 rfl Tryz.ntmps4 (congrArg Array.toList Tryz.results4) (by decide) fun ts hn h0 h1 h2=>?_
 (repeat' (first
 | (with_reducible first|refine callX.by (w0) ?_|refine callX.by (v1) ?_|refine callX.by (w1) ?_|refine callX.by (w2) ?_|refine callX.by (w3) ?_|refine callX.by (w4) ?_|refine callX.by (w8) ?_|refine callX.by (w9) ?_|refine callX.by JaO ?_|refine callX.by (JaW _ _ _ ?_ ?_ ?_ ?_) ?_|refine callX.by (VQ _ _ _ ?_ ?_ ?_ ?_ ?_) ?_|refine callX.by (Yj _ _ _ ?_ ?_ ?_ ?_ ?_) ?_|refine callX.by (ZM _ _ _ ?_ ?_ ?_ ?_ ?_ ?_) ?_|refine callX.by (JaM _ _ _ ?_ ?_ ?_ ?_ ?_) ?_|refine callX.by (JaL _ _ _) ?_|refine callX.by (JaF _ _ _ ?_ ?_ ?_) ?_|refine callX.by (Jad _ _ _ ?_ ?_ ?_ ?_ ?_) ?_|refine callX.by (Jba _ _ _ ?_ ?_ ?_ ?_ ?_) ?_|refine callX.by (ZZ _ _ ?_) ?_|refine callX.by (keys17_c _ ?_) ?_|refine callX.by (Yo _ _ _ _ ?_ ?_ ?_ ?_) ?_|refine callX.by (YS _ _ _ _ ?_ ?_ ?_ ?_ ?_ ?_) ?_|refine callX.by (ZL _ _ ?_ ?_) ?_|assumption|(refine Qw hK _ ?_;clear hK K)|refine Qw ‹_› _ ?_|refine Qx ‹_› ?_|refine Qi fun K hK=>?_|refine Qj T fun K hK=>?_|refine Qk (id:=8) T mixed Jbe (by kernel_rfl) fun K hK=>?_|refine Qk (id:=13) T mixed Jbf (by kernel_rfl) fun K hK=>?_|refine Qk (id:=15) T mixed Jbg (by kernel_rfl) fun K hK=>?_|refine Ql fun A B hA hB=>?_|refine Qm ?_|refine Qn ?_|refine Qp ?_|refine Qr ?_)
 | ((with_reducible first|apply Qy|apply Qz|apply QA)<;>intro hb<;>try simp only[nr] at hb)
 |simp only[go_sem,↓reduceIte,reduceIte,Qa,Qh,Qb,Qc,Qd,Qe,Qf,Qg,reduceCtorEq, *,-hrun,-w0,-v1,-w1,-w2,-w3,-w4,-w5,-w6,-w7,-w8,-w9,-w10,-w11,-w12]
 |with_reducible refine fun(bn:Bool) hbn=>?_))
 refine Qs [0,1,2,7,8,10,12,13] (fun m ts'=>∃(i:Nat),m=X.length-i∧i≤X.length∧ts'.tmp 14=.int .i64 i) X.length ?_ ?_
 ·refine⟨0,rfl,Nat.zero_le _,?_⟩
  simp only[go_sem,↓reduceIte,reduceIte,Qa,Qh,Qb,Qc,Qd,Qe,Qf,Qg,reduceCtorEq, *,-hrun,-w0,-v1,-w1,-w2,-w3,-w4,-w5,-w6,-w7,-w8,-w9,-w10,-w11,-w12]
 ·rintro m A hM ts' hk ⟨i,hm,f1,s1⟩
  simp only[go_sem,↓reduceIte,reduceIte,Qa,Qh,Qb,Qc,Qd,Qe,Qf,Qg,reduceCtorEq, *] at hk
  by_cases hlt:i<X.length
  ·obtain⟨r1,r2,r3⟩:=hrun _ (List.getElem_mem hlt)
   have w13:=JaL X[i].kind X[i].adds X[i].gone
   have w14:=JaF X[i].kind X[i].adds X[i].gone (by unfold Jc;omega) r2 (by unfold Jc;omega)
   (repeat' (first
 | (with_reducible first|refine callX.by (w13) ?_|refine callX.by (w14) ?_|refine callX.by JaO ?_|refine callX.by (JaW _ _ _ ?_ ?_ ?_ ?_) ?_|refine callX.by (VQ _ _ _ ?_ ?_ ?_ ?_ ?_) ?_|refine callX.by (Yj _ _ _ ?_ ?_ ?_ ?_ ?_) ?_|refine callX.by (ZM _ _ _ ?_ ?_ ?_ ?_ ?_ ?_) ?_|refine callX.by (JaM _ _ _ ?_ ?_ ?_ ?_ ?_) ?_|refine callX.by (JaL _ _ _) ?_|refine callX.by (JaF _ _ _ ?_ ?_ ?_) ?_|refine callX.by (Jad _ _ _ ?_ ?_ ?_ ?_ ?_) ?_|refine callX.by (Jba _ _ _ ?_ ?_ ?_ ?_ ?_) ?_|refine callX.by (ZZ _ _ ?_) ?_|refine callX.by (keys17_c _ ?_) ?_|refine callX.by (Yo _ _ _ _ ?_ ?_ ?_ ?_) ?_|refine callX.by (YS _ _ _ _ ?_ ?_ ?_ ?_ ?_ ?_) ?_|refine callX.by (ZL _ _ ?_ ?_) ?_|assumption|(refine Qw hK _ ?_;clear hK K)|refine Qw ‹_› _ ?_|refine Qx ‹_› ?_|refine Qi fun K hK=>?_|refine Qj T fun K hK=>?_|refine Qk (id:=8) T mixed Jbe (by kernel_rfl) fun K hK=>?_|refine Qk (id:=13) T mixed Jbf (by kernel_rfl) fun K hK=>?_|refine Qk (id:=15) T mixed Jbg (by kernel_rfl) fun K hK=>?_|refine Ql fun A B hA hB=>?_|refine Qm ?_|refine Qn ?_|refine Qp ?_|refine Qr ?_)
 | ((with_reducible first|apply Qy|apply Qz|apply QA)<;>intro hb<;>try simp only[nr] at hb)
 |simp only[go_sem,↓reduceIte,reduceIte,Qa,Qh,Qb,Qc,Qd,Qe,Qf,Qg,reduceCtorEq, *,-hrun,-r2,-w0,-v1,-w1,-w2,-w3,-w4,-w5,-w6,-w7,-w8,-w9,-w10,-w11,-w12,-w13,-w14]
 |with_reducible refine fun(bn:Bool) hbn=>?_))
   all_goals ((repeat clear hK);(repeat clear hA);(repeat clear hB))
   all_goals (refine hM.on (X.length-(i+1)) (by omega) (by simp only[go_sem,↓reduceIte,reduceIte,Qa,Qh,Qb,Qc,Qd,Qe,Qf,Qg,reduceCtorEq, *,Jd hlt hXs,-hrun,-r2,-w0,-v1,-w1,-w2,-w3,-w4,-w5,-w6,-w7,-w8,-w9,-w10,-w11,-w12,-w13,-w14]) ⟨i+1,rfl,by omega,?_⟩;simp only[go_sem,↓reduceIte,reduceIte,Qa,Qh,Qb,Qc,Qd,Qe,Qf,Qg,reduceCtorEq, *,Jd hlt hXs,-hrun,-r2,-w0,-v1,-w1,-w2,-w3,-w4,-w5,-w6,-w7,-w8,-w9,-w10,-w11,-w12,-w13,-w14];done)
  ·(repeat' (first
 | (with_reducible first|refine callX.by (w5) ?_|refine callX.by (w6) ?_|refine callX.by (w7) ?_|refine callX.by (w10) ?_|refine callX.by (w11) ?_|refine callX.by (w12) ?_|refine callX.by JaO ?_|refine callX.by (JaW _ _ _ ?_ ?_ ?_ ?_) ?_|refine callX.by (VQ _ _ _ ?_ ?_ ?_ ?_ ?_) ?_|refine callX.by (Yj _ _ _ ?_ ?_ ?_ ?_ ?_) ?_|refine callX.by (ZM _ _ _ ?_ ?_ ?_ ?_ ?_ ?_) ?_|refine callX.by (JaM _ _ _ ?_ ?_ ?_ ?_ ?_) ?_|refine callX.by (JaL _ _ _) ?_|refine callX.by (JaF _ _ _ ?_ ?_ ?_) ?_|refine callX.by (Jad _ _ _ ?_ ?_ ?_ ?_ ?_) ?_|refine callX.by (Jba _ _ _ ?_ ?_ ?_ ?_ ?_) ?_|refine callX.by (ZZ _ _ ?_) ?_|refine callX.by (keys17_c _ ?_) ?_|refine callX.by (Yo _ _ _ _ ?_ ?_ ?_ ?_) ?_|refine callX.by (YS _ _ _ _ ?_ ?_ ?_ ?_ ?_ ?_) ?_|refine callX.by (ZL _ _ ?_ ?_) ?_|assumption|(refine Qw hK _ ?_;clear hK K)|refine Qw ‹_› _ ?_|refine Qx ‹_› ?_|refine Qi fun K hK=>?_|refine Qj T fun K hK=>?_|refine Qk (id:=8) T mixed Jbe (by kernel_rfl) fun K hK=>?_|refine Qk (id:=13) T mixed Jbf (by kernel_rfl) fun K hK=>?_|refine Qk (id:=15) T mixed Jbg (by kernel_rfl) fun K hK=>?_|refine Ql fun A B hA hB=>?_|refine Qm ?_|refine Qn ?_|refine Qp ?_|refine Qr ?_)
 | ((with_reducible first|apply Qy|apply Qz|apply QA)<;>intro hb<;>try simp only[nr] at hb)
 |simp only[go_sem,↓reduceIte,reduceIte,Qa,Qh,Qb,Qc,Qd,Qe,Qf,Qg,reduceCtorEq, *,-hrun,-w0,-v1,-w1,-w2,-w3,-w4,-w5,-w6,-w7,-w8,-w9,-w10,-w11,-w12]
 |with_reducible refine fun(bn:Bool) hbn=>?_))
   all_goals ((repeat clear hK);(repeat clear hA);(repeat clear hB))
   all_goals trace_state
end Go.Proofs.YtmjkjmoeicnbnaaGreatDoor.Lg
